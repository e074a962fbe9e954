/- What the document makes of a TSB's words: Lock, PutTag, PutData. -/
import Derived.Test.YtjnffegjpkbjmaaTsList
import Derived.Test.YtjnffegjpkbjmaaTsP4
namespace Go.Proofs.Ytjnffegjpkbjmaa.Mem
open Go.RowKit Go.Maps Go.Proofs.YtjnffegjpkbjmaaW.PrintWords Go.Proofs.YtjnffegjpkbjmaaW.PrintLast Go.Proofs.YtjnffegjpkbjmaaW.PrintMore Go.Proofs.Ytjnffegjpkbjmaa.QTsbPlays Go.Proofs.Ytjnffegjpkbjmaa.Pure
set_option linter.unusedSimpArgs false
set_option linter.unusedVariables false
section
set_option maxHeartbeats 2000000
set_option maxRecDepth 100000
noncomputable def rlock1_T : Bool × List (List Nat × List Nat) := rtab .any (opsOf Try.f69 1)
theorem rlock1_tab : rtab .any (opsOf Try.f69 1) = rlock1_T := rfl
theorem rlock_calls {s N : Nat} (hs : s < 4) (h1 : 1 ≤ N) (hN : N ≤ 4096) {A : Option Addr} {c : Nat} {l : List WS} (va : Nat) (hva : va < 18446744073709551616) {W : World} (hC : Kd.C k122 W A l.length l) (hc : l.length ≤ c) (hl : l.length ≤ 1000000) :
  Calls Try.prog 69 #[.agg #[.int .i64 (s : Int), .int .i64 (N : Int), .slice A l.length c], .int .u64 (va : Int)] W fun e W' => ∃ v, e = .returned (.agg #[.int .i64 (s : Int), .int .i64 (N : Int), v]) ∧ Kd.R k122 122 W' W.heap.size (fun _ => True) v (pW l (plcOf N (s : Int) va : Int) 9223372036854775807 (gW l (plcOf N (s : Int) va : Int)).2) ∧ W.grownBy W' none := by
 have hu := Try.underlying44
 have hu2 := Try.underlying122
 have HC0 := Aside0.mk hC
 have HCC := Aside0.mk hc
 obtain ⟨i, hi⟩ : ∃ i, i = plcOf N (s : Int) va := ⟨_, rfl⟩
 have HPL := Aside0.mk (show lookasideref10_place.f (s : Int) (N : Int) l (va : Int) = some (i : Int) from by rw [hi]; exact plc_f va hva s N hs h1 (by omega) l)
 obtain ⟨t0, ht0⟩ : ∃ t, t = (gW l (i : Int)).1 := ⟨_, rfl⟩
 obtain ⟨d0, hd0⟩ : ∃ d, d = (gW l (i : Int)).2 := ⟨_, rfl⟩
 have HGT := Aside0.mk (show lookasideref10_Get.f (l.length + 1) (s : Int) (N : Int) l (i : Int) = some ((i : Int), t0, d0) by rw [ht0, hd0]; exact gW_f _ _ _ l (by omega) (Nat.le_refl _))
 rw [← hi]
 have HPT := Aside0.mk (show lookasideref10_put.f (l.length + 1) (s : Int) (N : Int) l (i : Int) 9223372036854775807 d0 = some ((s : Int), (N : Int), pW l (i : Int) 9223372036854775807 (gW l (i : Int)).2) from by rw [← hd0]; exact pW_f _ _ _ _ _ l (by omega) (Nat.le_refl _))
 have hgb0 := World.grownBy_alloc (W) (.cells #[.int .i64 (s : Int), .int .i64 (N : Int), .slice A l.length c] 44) none
 have hb2 := heap_alloc_new (W) (.cells #[.int .i64 (s : Int), .int .i64 (N : Int), .slice A l.length c] 44)
 have hgb1 := World.grownBy_alloc ((W).alloc (.cells #[.int .i64 (s : Int), .int .i64 (N : Int), .slice A l.length c] 44)) (.cells #[.int .i64 0, .int .i64 0, .slice none 0 0] 44) none
 have hb4 := heap_alloc_new ((W).alloc (.cells #[.int .i64 (s : Int), .int .i64 (N : Int), .slice A l.length c] 44)) (.cells #[.int .i64 0, .int .i64 0, .slice none 0 0] 44)
 have hz1 : ((W).alloc (.cells #[.int .i64 (s : Int), .int .i64 (N : Int), .slice A l.length c] 44)).heap.size = W.heap.size + 1 := by simp only [World.size_alloc]
 rw [hz1] at hb4
 have HG := Aside0.mk (grown_two hgb0 hgb1)
 have HB2 := Aside0.mk (blk_grown (hb2) hgb1)
 have HB4 := Aside0.mk (hb4)
 clear hgb0 hgb1 hb2 hb4 hz1 hC hc
 go_enter Try.func69, Try.ntmps69
 go_wp2_with fail
 obtain ⟨h2, hh0⟩ : ∃ z, z = W.heap.size := ⟨_, rfl⟩
 obtain ⟨h4, hh1⟩ : ∃ z, z = W.heap.size + 1 := ⟨_, rfl⟩
 rw [← hh0] at HB2
 rw [← hh1] at HB4
 rw [← hh1, ← hh0]
 have HH := Aside0.mk (And.intro hh0 hh1)
 clear hh0 hh1 ht0 hd0 hi
 have hg := grown_drew (((W).alloc (.cells #[.int .i64 (s : Int), .int .i64 (N : Int), .slice A l.length c] 44)).alloc (.cells #[.int .i64 0, .int .i64 0, .slice none 0 0] 44)) none
 replace HB2 := Aside0.mk (blk_grown HB2.out hg)
 replace HB4 := Aside0.mk (blk_grown HB4.out hg)
 replace HG := Aside0.mk (grown_two HG.out hg)
 clear hg
 refine start_ (n := 7) (S := fun w' => w'.heap[h2]? = some (.cells #[.int .i64 (s : Int), .int .i64 (N : Int), .slice A l.length c] 44 (0, 0))) (ds := []) #[false, false, false, false, false, false, false] (by kernel_rfl) rfl rfl HB2.out (fun hHeld => ?_)
 refine with_tab rlock1_tab (fun HT_ => ?_)
 refine pure_ (i := 2) (N := some 8) (v := ?_) (a' := ?_) #[false, false, true, false, false, false, false] rfl rfl (any_of HT_.out (by kernel_rfl)) (fun _ _ _ h => h) (Or.inl ⟨by rfl, ?_⟩) ?_ ?_
 rotate_left
 ·intro w'
  go_simp
  with_reducible rfl
 rotate_left
 ·simp only [ap_]
  rfl
 refine take_ (i := 0) (N := some 6) (v := .agg #[.int .i64 (s : Int), .int .i64 (N : Int), .slice A l.length c]) (a' := ?_) #[true, false, true, false, false, false, false] rfl rfl (take_of HT_.out (by kernel_rfl)) (fun _ _ _ h => h) (Or.inl ⟨by rfl, ?_⟩) hHeld ?_ ?_
 ·rintro w' s1
  obtain ⟨q0, q1, q2⟩ := cz3q s1
  go_simp
 rotate_left
 ·simp only [ap_]
  rfl
 refine take_ (i := 1) (N := some 7) (v := .agg #[.int .i64 (s : Int), .int .i64 (N : Int), .slice A l.length c]) (a' := ?_) #[true, true, true, false, false, false, false] rfl rfl (take_of HT_.out (by kernel_rfl)) (fun _ _ _ h => h) (Or.inl ⟨by rfl, ?_⟩) hHeld ?_ ?_
 ·rintro w' s1
  obtain ⟨q0, q1, q2⟩ := cz3q s1
  go_simp
 rotate_left
 ·simp only [ap_]
  rfl
 refine two_ (i := 3) (j := 5) (Ni := some 9) (Nj := some 5) #[true, true, true, true, false, false, false] #[true, true, true, false, false, true, false] rfl rfl rfl rfl (two_of HT_.out (by kernel_rfl)) (by decide) (by decide) (fun K hK => ?_) (fun K hK => ?_)
 focus
  refine goes_ Try.func100 (by kernel_rfl) rfl #[.agg #[.int .i64 (s : Int), .int .i64 (N : Int), .slice A l.length c], .int .u64 (va : Int)] (by rfl) rfl rfl (by (try simp only [List.map_toArray, List.map_cons, List.map_nil]); first | done | rfl) ?_
  refine (lookasideref10_place.calls _ _ A c l _ _ _ (Kd.C_below HC0.out (below_of_grown HG.out)) HCC.out HPL.out).mono ?_
  rintro x0 wn ⟨rfl, hb⟩
  have hg := below_grown hb
  replace HG := Aside0.mk (grown_two HG.out hg)
  replace HB2 := Aside0.mk (blk_grown HB2.out hg)
  replace HB4 := Aside0.mk (blk_grown HB4.out hg)
  have hs : wn.heap[h2]? = some (.cells #[.int .i64 (s : Int), .int .i64 (N : Int), .slice A l.length c] 44 (0, 0)) := blk_grown hHeld hg
  clear hg hb
  refine ⟨_, rfl, ?_⟩
  refine hK.out _ _ hs (fun hHeld => ?_)
  clear hK K
  refine norm_ (a' := ?_) ?_ ?_
  rotate_left
  ·show Act.put _ (some 9) _ = _
   simp only [ap_]
   rfl
  refine two_ (i := 4) (j := 5) (Ni := some 10) (Nj := some 5) #[true, true, true, true, true, false, false] #[true, true, true, true, false, true, false] rfl rfl rfl rfl (two_of HT_.out (by kernel_rfl)) (by decide) (by decide) (fun K hK => ?_) (fun K hK => ?_)
  focus
   refine goes_ Try.func99 (by kernel_rfl) rfl #[.agg #[.int .i64 (s : Int), .int .i64 (N : Int), .slice A l.length c], .int .i64 (i : Int)] (by rfl) rfl rfl (by (try simp only [List.map_toArray, List.map_cons, List.map_nil]); first | done | rfl) ?_
   refine (lookasideref10_Get.calls (l.length + 1) _ _ A c l _ _ _ _ _ (Kd.C_below HC0.out (below_of_grown HG.out)) HCC.out HGT.out).mono ?_
   rintro x0 wn ⟨rfl, hb⟩
   have hg := below_grown hb
   replace HG := Aside0.mk (grown_two HG.out hg)
   replace HB2 := Aside0.mk (blk_grown HB2.out hg)
   replace HB4 := Aside0.mk (blk_grown HB4.out hg)
   have hs : wn.heap[h2]? = some (.cells #[.int .i64 (s : Int), .int .i64 (N : Int), .slice A l.length c] 44 (0, 0)) := blk_grown hHeld hg
   clear hg hb
   refine ⟨_, rfl, ?_⟩
   refine hK.out _ _ hs (fun hHeld => ?_)
   clear hK K
   refine norm_ (a' := ?_) ?_ ?_
   rotate_left
   ·show Act.put _ (some 10) _ = _
    simp only [ap_]
    rfl
   refine one_ (i := 5) (N := some 5) #[true, true, true, true, true, true, false] rfl rfl (one_of HT_.out (by kernel_rfl)) (by decide) (fun K hK => ?_)
   refine box_step ?hg (N := 5) ?hd (cs := #[.int .i64 0, .int .u64 0, .int .u64 0]) (t := 122) ?hr ?_; (case hd => rfl); (case hg => rfl); (case hr => first | (go_simp; done) | (go_simp; rfl))
   intro h5 hg5 wn hbox hb
   have HB5 := Aside0.mk hbox
   have HN5 := Aside0.mk (show W.heap.size ≤ h5 ∧ h2 ≠ h5 ∧ h4 ≠ h5 from ⟨by rw [hg5]; exact HG.out.size, fun e => by have := blk_lt HB2.out; omega, fun e => by have := blk_lt HB4.out; omega⟩)
   have hg := below_grown hb
   replace HG := Aside0.mk (grown_two HG.out hg)
   replace HB2 := Aside0.mk (blk_grown HB2.out hg)
   replace HB4 := Aside0.mk (blk_grown HB4.out hg)
   have hs : wn.heap[h2]? = some (.cells #[.int .i64 (s : Int), .int .i64 (N : Int), .slice A l.length c] 44 (0, 0)) := blk_grown hHeld hg
   clear hg hg5 hbox hb
   refine hK.out _ _ hs (fun hHeld => ?_)
   clear hK K
   refine norm_ (a' := ?_) ?_ ?_
   rotate_left
   ·show Act.put _ (some 5) _ = _
    simp only [ap_]
    rfl
   refine one_ (i := 6) (N := none) #[true, true, true, true, true, true, true] rfl rfl (one_of HT_.out (by kernel_rfl)) (by decide) (fun K hK => ?_)
   rw [if_pos (by rfl)]
   refine wp_store_row 122 (.tmp 5) (.tmp 10) rfl h5 #[.int .i64 (i : Int), .int .u64 t0, .int .u64 d0] rfl rfl 122 #[.int .i64 0, .int .u64 0, .int .u64 0] HB5.out (by kernel_rfl) rfl (by kernel_rfl) ?_
   have hb2 := setRow_heap wn h5 _ #[.int .i64 (i : Int), .int .u64 t0, .int .u64 d0] _ _ HB5.out
   have hgr := grown_row wn h5 #[.int .i64 (i : Int), .int .u64 t0, .int .u64 d0]
   replace HG := Aside0.mk (grown_loc HG.out hgr HN5.out.1)
   replace HB2 := Aside0.mk ((hgr.block h2 (blk_lt HB2.out) (fun e => HN5.out.2.1 (Option.some.inj e))).trans HB2.out)
   replace HB4 := Aside0.mk ((hgr.block h4 (blk_lt HB4.out) (fun e => HN5.out.2.2 (Option.some.inj e))).trans HB4.out)
   have hs : (World.setRow wn h5 #[.int .i64 (i : Int), .int .u64 t0, .int .u64 d0]).heap[h2]? = some (.cells #[.int .i64 (s : Int), .int .i64 (N : Int), .slice A l.length c] 44 (0, 0)) := HB2.out
   generalize World.setRow wn h5 #[.int .i64 (i : Int), .int .u64 t0, .int .u64 d0] = wb at hb2 hs HG HB2 HB4 ⊢
   replace HB5 := Aside0.mk hb2
   clear hgr hb2
   refine hK.out _ _ hs (fun hHeld => ?_)
   clear hK K
   refine norm_ (a' := ?_) ?_ ?_
   rotate_left
   ·show Act.put _ none _ = _
    rfl
   refine done_ (done_of HT_.out (by kernel_rfl)) ?_
  rotate_left
  focus
   refine box_step ?hg (N := 5) ?hd (cs := #[.int .i64 0, .int .u64 0, .int .u64 0]) (t := 122) ?hr ?_; (case hd => rfl); (case hg => rfl); (case hr => first | (go_simp; done) | (go_simp; rfl))
   intro h5 hg5 wn hbox hb
   have HB5 := Aside0.mk hbox
   have HN5 := Aside0.mk (show W.heap.size ≤ h5 ∧ h2 ≠ h5 ∧ h4 ≠ h5 from ⟨by rw [hg5]; exact HG.out.size, fun e => by have := blk_lt HB2.out; omega, fun e => by have := blk_lt HB4.out; omega⟩)
   have hg := below_grown hb
   replace HG := Aside0.mk (grown_two HG.out hg)
   replace HB2 := Aside0.mk (blk_grown HB2.out hg)
   replace HB4 := Aside0.mk (blk_grown HB4.out hg)
   have hs : wn.heap[h2]? = some (.cells #[.int .i64 (s : Int), .int .i64 (N : Int), .slice A l.length c] 44 (0, 0)) := blk_grown hHeld hg
   clear hg hg5 hbox hb
   refine hK.out _ _ hs (fun hHeld => ?_)
   clear hK K
   refine norm_ (a' := ?_) ?_ ?_
   rotate_left
   ·show Act.put _ (some 5) _ = _
    simp only [ap_]
    rfl
   refine one_ (i := 4) (N := some 10) #[true, true, true, true, true, true, false] rfl rfl (one_of HT_.out (by kernel_rfl)) (by decide) (fun K hK => ?_)
   refine goes_ Try.func99 (by kernel_rfl) rfl #[.agg #[.int .i64 (s : Int), .int .i64 (N : Int), .slice A l.length c], .int .i64 (i : Int)] (by rfl) rfl rfl (by (try simp only [List.map_toArray, List.map_cons, List.map_nil]); first | done | rfl) ?_
   refine (lookasideref10_Get.calls (l.length + 1) _ _ A c l _ _ _ _ _ (Kd.C_below HC0.out (below_of_grown HG.out)) HCC.out HGT.out).mono ?_
   rintro x0 wn ⟨rfl, hb⟩
   have hg := below_grown hb
   replace HG := Aside0.mk (grown_two HG.out hg)
   replace HB2 := Aside0.mk (blk_grown HB2.out hg)
   replace HB4 := Aside0.mk (blk_grown HB4.out hg)
   have hs : wn.heap[h2]? = some (.cells #[.int .i64 (s : Int), .int .i64 (N : Int), .slice A l.length c] 44 (0, 0)) := blk_grown hHeld hg
   replace HB5 := Aside0.mk (blk_grown HB5.out hg)
   clear hg hb
   refine ⟨_, rfl, ?_⟩
   refine hK.out _ _ hs (fun hHeld => ?_)
   clear hK K
   refine norm_ (a' := ?_) ?_ ?_
   rotate_left
   ·show Act.put _ (some 10) _ = _
    simp only [ap_]
    rfl
   refine one_ (i := 6) (N := none) #[true, true, true, true, true, true, true] rfl rfl (one_of HT_.out (by kernel_rfl)) (by decide) (fun K hK => ?_)
   rw [if_pos (by rfl)]
   refine wp_store_row 122 (.tmp 5) (.tmp 10) rfl h5 #[.int .i64 (i : Int), .int .u64 t0, .int .u64 d0] rfl rfl 122 #[.int .i64 0, .int .u64 0, .int .u64 0] HB5.out (by kernel_rfl) rfl (by kernel_rfl) ?_
   have hb2 := setRow_heap wn h5 _ #[.int .i64 (i : Int), .int .u64 t0, .int .u64 d0] _ _ HB5.out
   have hgr := grown_row wn h5 #[.int .i64 (i : Int), .int .u64 t0, .int .u64 d0]
   replace HG := Aside0.mk (grown_loc HG.out hgr HN5.out.1)
   replace HB2 := Aside0.mk ((hgr.block h2 (blk_lt HB2.out) (fun e => HN5.out.2.1 (Option.some.inj e))).trans HB2.out)
   replace HB4 := Aside0.mk ((hgr.block h4 (blk_lt HB4.out) (fun e => HN5.out.2.2 (Option.some.inj e))).trans HB4.out)
   have hs : (World.setRow wn h5 #[.int .i64 (i : Int), .int .u64 t0, .int .u64 d0]).heap[h2]? = some (.cells #[.int .i64 (s : Int), .int .i64 (N : Int), .slice A l.length c] 44 (0, 0)) := HB2.out
   generalize World.setRow wn h5 #[.int .i64 (i : Int), .int .u64 t0, .int .u64 d0] = wb at hb2 hs HG HB2 HB4 ⊢
   replace HB5 := Aside0.mk hb2
   clear hgr hb2
   refine hK.out _ _ hs (fun hHeld => ?_)
   clear hK K
   refine norm_ (a' := ?_) ?_ ?_
   rotate_left
   ·show Act.put _ none _ = _
    rfl
   refine done_ (done_of HT_.out (by kernel_rfl)) ?_
 rotate_left 2
 focus
  refine box_step ?hg (N := 5) ?hd (cs := #[.int .i64 0, .int .u64 0, .int .u64 0]) (t := 122) ?hr ?_; (case hd => rfl); (case hg => rfl); (case hr => first | (go_simp; done) | (go_simp; rfl))
  intro h5 hg5 wn hbox hb
  have HB5 := Aside0.mk hbox
  have HN5 := Aside0.mk (show W.heap.size ≤ h5 ∧ h2 ≠ h5 ∧ h4 ≠ h5 from ⟨by rw [hg5]; exact HG.out.size, fun e => by have := blk_lt HB2.out; omega, fun e => by have := blk_lt HB4.out; omega⟩)
  have hg := below_grown hb
  replace HG := Aside0.mk (grown_two HG.out hg)
  replace HB2 := Aside0.mk (blk_grown HB2.out hg)
  replace HB4 := Aside0.mk (blk_grown HB4.out hg)
  have hs : wn.heap[h2]? = some (.cells #[.int .i64 (s : Int), .int .i64 (N : Int), .slice A l.length c] 44 (0, 0)) := blk_grown hHeld hg
  clear hg hg5 hbox hb
  refine hK.out _ _ hs (fun hHeld => ?_)
  clear hK K
  refine norm_ (a' := ?_) ?_ ?_
  rotate_left
  ·show Act.put _ (some 5) _ = _
   simp only [ap_]
   rfl
  refine one_ (i := 3) (N := some 9) #[true, true, true, true, false, true, false] rfl rfl (one_of HT_.out (by kernel_rfl)) (by decide) (fun K hK => ?_)
  refine goes_ Try.func100 (by kernel_rfl) rfl #[.agg #[.int .i64 (s : Int), .int .i64 (N : Int), .slice A l.length c], .int .u64 (va : Int)] (by rfl) rfl rfl (by (try simp only [List.map_toArray, List.map_cons, List.map_nil]); first | done | rfl) ?_
  refine (lookasideref10_place.calls _ _ A c l _ _ _ (Kd.C_below HC0.out (below_of_grown HG.out)) HCC.out HPL.out).mono ?_
  rintro x0 wn ⟨rfl, hb⟩
  have hg := below_grown hb
  replace HG := Aside0.mk (grown_two HG.out hg)
  replace HB2 := Aside0.mk (blk_grown HB2.out hg)
  replace HB4 := Aside0.mk (blk_grown HB4.out hg)
  have hs : wn.heap[h2]? = some (.cells #[.int .i64 (s : Int), .int .i64 (N : Int), .slice A l.length c] 44 (0, 0)) := blk_grown hHeld hg
  replace HB5 := Aside0.mk (blk_grown HB5.out hg)
  clear hg hb
  refine ⟨_, rfl, ?_⟩
  refine hK.out _ _ hs (fun hHeld => ?_)
  clear hK K
  refine norm_ (a' := ?_) ?_ ?_
  rotate_left
  ·show Act.put _ (some 9) _ = _
   simp only [ap_]
   rfl
  refine one_ (i := 4) (N := some 10) #[true, true, true, true, true, true, false] rfl rfl (one_of HT_.out (by kernel_rfl)) (by decide) (fun K hK => ?_)
  refine goes_ Try.func99 (by kernel_rfl) rfl #[.agg #[.int .i64 (s : Int), .int .i64 (N : Int), .slice A l.length c], .int .i64 (i : Int)] (by rfl) rfl rfl (by (try simp only [List.map_toArray, List.map_cons, List.map_nil]); first | done | rfl) ?_
  refine (lookasideref10_Get.calls (l.length + 1) _ _ A c l _ _ _ _ _ (Kd.C_below HC0.out (below_of_grown HG.out)) HCC.out HGT.out).mono ?_
  rintro x0 wn ⟨rfl, hb⟩
  have hg := below_grown hb
  replace HG := Aside0.mk (grown_two HG.out hg)
  replace HB2 := Aside0.mk (blk_grown HB2.out hg)
  replace HB4 := Aside0.mk (blk_grown HB4.out hg)
  have hs : wn.heap[h2]? = some (.cells #[.int .i64 (s : Int), .int .i64 (N : Int), .slice A l.length c] 44 (0, 0)) := blk_grown hHeld hg
  replace HB5 := Aside0.mk (blk_grown HB5.out hg)
  clear hg hb
  refine ⟨_, rfl, ?_⟩
  refine hK.out _ _ hs (fun hHeld => ?_)
  clear hK K
  refine norm_ (a' := ?_) ?_ ?_
  rotate_left
  ·show Act.put _ (some 10) _ = _
   simp only [ap_]
   rfl
  refine one_ (i := 6) (N := none) #[true, true, true, true, true, true, true] rfl rfl (one_of HT_.out (by kernel_rfl)) (by decide) (fun K hK => ?_)
  rw [if_pos (by rfl)]
  refine wp_store_row 122 (.tmp 5) (.tmp 10) rfl h5 #[.int .i64 (i : Int), .int .u64 t0, .int .u64 d0] rfl rfl 122 #[.int .i64 0, .int .u64 0, .int .u64 0] HB5.out (by kernel_rfl) rfl (by kernel_rfl) ?_
  have hb2 := setRow_heap wn h5 _ #[.int .i64 (i : Int), .int .u64 t0, .int .u64 d0] _ _ HB5.out
  have hgr := grown_row wn h5 #[.int .i64 (i : Int), .int .u64 t0, .int .u64 d0]
  replace HG := Aside0.mk (grown_loc HG.out hgr HN5.out.1)
  replace HB2 := Aside0.mk ((hgr.block h2 (blk_lt HB2.out) (fun e => HN5.out.2.1 (Option.some.inj e))).trans HB2.out)
  replace HB4 := Aside0.mk ((hgr.block h4 (blk_lt HB4.out) (fun e => HN5.out.2.2 (Option.some.inj e))).trans HB4.out)
  have hs : (World.setRow wn h5 #[.int .i64 (i : Int), .int .u64 t0, .int .u64 d0]).heap[h2]? = some (.cells #[.int .i64 (s : Int), .int .i64 (N : Int), .slice A l.length c] 44 (0, 0)) := HB2.out
  generalize World.setRow wn h5 #[.int .i64 (i : Int), .int .u64 t0, .int .u64 d0] = wb at hb2 hs HG HB2 HB4 ⊢
  replace HB5 := Aside0.mk hb2
  clear hgr hb2
  refine hK.out _ _ hs (fun hHeld => ?_)
  clear hK K
  refine norm_ (a' := ?_) ?_ ?_
  rotate_left
  ·show Act.put _ none _ = _
   rfl
  refine done_ (done_of HT_.out (by kernel_rfl)) ?_
 all_goals
  clear hHeld
  go_upto_region 3 with (go_at_call 83; refine (lookasideref10_Bad.calls _ _ badf).mono ?_; rintro e wm ⟨rfl, hd⟩; have hg := drawn_grown hd; replace HG := Aside0.mk (grown_two HG.out hg); replace HB2 := Aside0.mk (blk_grown HB2.out hg); replace HB4 := Aside0.mk (blk_grown HB4.out hg); replace HB5 := Aside0.mk (blk_grown HB5.out hg); have zf := blk_frozen HB5.out 1; obtain ⟨u0, u1, u2⟩ := cz3q HB5.out; clear hg hd)
  clear zf u0 u1 u2
  have hgc := grown_cellq wm ⟨h5, 1, none⟩ (.int .u64 9223372036854775807)
  have hk5 : ∀ k, some h5 = some k → ∃ cs, wm.heap[k]? = some (.cells cs 122 (0, 0)) := fun k e => by cases e; exact ⟨_, HB5.out⟩
  have hb5 : (wm.setCell ⟨h5, 1, none⟩ (.int .u64 9223372036854775807)).heap[h5]? = some (.cells #[.int .i64 (i : Int), .int .u64 9223372036854775807, .int .u64 d0] 122 (0, 0)) := blk_put HB5.out 1 (.int .u64 9223372036854775807) rfl
  replace HB2 := Aside0.mk (blk_keptR HB2.out hgc hk5 (by decide))
  replace HB4 := Aside0.mk (blk_keptR HB4.out hgc hk5 (by decide))
  replace HG := Aside0.mk (below_grownW HG.out hgc (fun k e => by obtain rfl : h5 = k := Option.some.inj e; exact HN5.out.1))
  generalize wm.setCell ⟨h5, 1, none⟩ (.int .u64 9223372036854775807) = wq at hb5 HB2 HB4 HG ⊢
  replace HB5 := Aside0.mk hb5
  clear hgc hk5 hb5
  obtain ⟨q0, q1, q2⟩ := cz3q HB2.out
  obtain ⟨u0, u1, u2⟩ := cz3q HB5.out
  go_wp2_with fail
  refine (lookasideref10_put.calls (l.length + 1) _ _ A c l _ _ _ _ _ _ _ (Kd.C_below HC0.out (below_of_grown HG.out)) HCC.out HPT.out).mono ?_
  rintro x0 wr ⟨v2, rfl, hR, hb⟩
  obtain ⟨A2, c2, rfl⟩ := Kd.R_slice hR
  have hg := below_grown hb
  have HR := Aside0.mk (Kd.R_lower hR HG.out.size)
  replace HG := Aside0.mk (grown_two HG.out hg)
  replace HB4 := Aside0.mk (blk_grown HB4.out hg)
  have HLN := Aside0.mk (show True from trivial)
  clear hR hb hg q0 q1 q2 u0 u1 u2
  go_wp2_with (((with_reducible refine gate_store (t := 44) (p := 4) rfl ?_); refine wpList_store_row rfl 44 (.tmp 4) (.tmp 15) rfl h4 #[.int .i64 (s : Int), .int .i64 (N : Int), .slice A2 (pW l (i : Int) 9223372036854775807 (gW l (i : Int)).2).length c2] rfl rfl 44 _ HB4.out (by kernel_rfl) rfl (by kernel_rfl) ?_; have SHB4 := Aside0.mk (setRow_heap _ h4 _ #[.int .i64 (s : Int), .int .i64 (N : Int), .slice A2 (pW l (i : Int) 9223372036854775807 (gW l (i : Int)).2).length c2] _ _ HB4.out); have THB4 := Aside0.mk (grown_row wr h4 #[.int .i64 (s : Int), .int .i64 (N : Int), .slice A2 (pW l (i : Int) 9223372036854775807 (gW l (i : Int)).2).length c2])))
  replace HR := Aside0.mk (Kd.R_mono (ok' := fun _ => True) (Kd.R_grown (Kd.R_types HR.out HB4.out (by decide)) THB4.out (fun k hk e => hk.2 (Option.some.inj e))) (fun _ _ => trivial))
  replace HG := Aside0.mk (grown_loc HG.out THB4.out (by have := HH.out; omega))
  obtain ⟨q0, q1, q2⟩ := cz3q SHB4.out
  exact bodyPost_ret (v := .agg #[.int .i64 (s : Int), .int .i64 (N : Int), .slice A2 (pW l (i : Int) 9223372036854775807 (gW l (i : Int)).2).length c2]) (by simp [results, Try.f69, go_sem, q0, q1, q2]) rfl ⟨_, rfl, HR.out, HG.out⟩
noncomputable def rputtag1_T : Bool × List (List Nat × List Nat) := rtab .any (opsOf Try.f67 1)
theorem rputtag1_tab : rtab .any (opsOf Try.f67 1) = rputtag1_T := rfl
theorem rputtag_calls {s N : Nat} (hs : s < 4) (h1 : 1 ≤ N) (hN : N ≤ 4096) {A : Option Addr} {c : Nat} {l : List WS} (g : GE) (hgo : g.ok) (hgs : g.s = s) {W : World} (hC : Kd.C k122 W A l.length l) (hc : l.length ≤ c) (hl : l.length ≤ 1000000) :
  Calls Try.prog 67 #[.agg #[.int .i64 (s : Int), .int .i64 (N : Int), .slice A l.length c], .agg (geA g)] W fun e W' => ∃ v, e = .returned (.agg #[.int .i64 (s : Int), .int .i64 (N : Int), v]) ∧ Kd.R k122 122 W' W.heap.size (fun _ => True) v (pW l (plcOf N (s : Int) g.v : Int) (g.tag : Int) (gW l (plcOf N (s : Int) g.v : Int)).2) ∧ W.grownBy W' none := by
 have hu := Try.underlying44
 have hu2 := Try.underlying122
 have hu3 := Try.underlying50
 have HC0 := Aside0.mk hC
 have HCC := Aside0.mk hc
 obtain ⟨i, hi⟩ : ∃ i, i = plcOf N (s : Int) g.v := ⟨_, rfl⟩
 have HPL := Aside0.mk (show lookasideref10_place.f (s : Int) (N : Int) l (g.v : Int) = some (i : Int) from by rw [hi]; exact plc_f g.v hgo.hv s N hs h1 (by omega) l)
 obtain ⟨t0, ht0⟩ : ∃ t, t = (gW l (i : Int)).1 := ⟨_, rfl⟩
 obtain ⟨d0, hd0⟩ : ∃ d, d = (gW l (i : Int)).2 := ⟨_, rfl⟩
 have HGT := Aside0.mk (show lookasideref10_Get.f (l.length + 1) (s : Int) (N : Int) l (i : Int) = some ((i : Int), t0, d0) by rw [ht0, hd0]; exact gW_f _ _ _ l (by omega) (Nat.le_refl _))
 rw [← hi]
 have HEF := Aside0.mk (show lookasideref03_Tag.f 500 (g.s : Int) (g.c : Int) (g.v : Int) (g.p : Int) g.w g.pr g.x g.l g.g g.q true = some (g.tag : Int) from hgo.rtagF)
 have HGS := Aside0.mk (And.intro hgo hgs)
 clear hgo hgs
 have HPT := Aside0.mk (show lookasideref10_put.f (l.length + 1) (s : Int) (N : Int) l (i : Int) (g.tag : Int) d0 = some ((s : Int), (N : Int), pW l (i : Int) (g.tag : Int) (gW l (i : Int)).2) from by rw [← hd0]; exact pW_f _ _ _ _ _ l (by omega) (Nat.le_refl _))
 have hgb0 := World.grownBy_alloc (W) (.cells #[.int .i64 (s : Int), .int .i64 (N : Int), .slice A l.length c] 44) none
 have hb2 := heap_alloc_new (W) (.cells #[.int .i64 (s : Int), .int .i64 (N : Int), .slice A l.length c] 44)
 have hgb1 := World.grownBy_alloc ((W).alloc (.cells #[.int .i64 (s : Int), .int .i64 (N : Int), .slice A l.length c] 44)) (.cells (geA g) 50) none
 have hb3 := heap_alloc_new ((W).alloc (.cells #[.int .i64 (s : Int), .int .i64 (N : Int), .slice A l.length c] 44)) (.cells (geA g) 50)
 have hz1 : ((W).alloc (.cells #[.int .i64 (s : Int), .int .i64 (N : Int), .slice A l.length c] 44)).heap.size = W.heap.size + 1 := by simp only [World.size_alloc]
 rw [hz1] at hb3
 have hgb2 := World.grownBy_alloc (((W).alloc (.cells #[.int .i64 (s : Int), .int .i64 (N : Int), .slice A l.length c] 44)).alloc (.cells (geA g) 50)) (.cells #[.int .i64 0, .int .i64 0, .slice none 0 0] 44) none
 have hb4 := heap_alloc_new (((W).alloc (.cells #[.int .i64 (s : Int), .int .i64 (N : Int), .slice A l.length c] 44)).alloc (.cells (geA g) 50)) (.cells #[.int .i64 0, .int .i64 0, .slice none 0 0] 44)
 have hz2 : (((W).alloc (.cells #[.int .i64 (s : Int), .int .i64 (N : Int), .slice A l.length c] 44)).alloc (.cells (geA g) 50)).heap.size = W.heap.size + 2 := by simp only [World.size_alloc]
 rw [hz2] at hb4
 have HG := Aside0.mk (grown_two (grown_two hgb0 hgb1) hgb2)
 have HB2 := Aside0.mk (blk_grown (blk_grown (hb2) hgb1) hgb2)
 have HB3 := Aside0.mk (blk_grown (hb3) hgb2)
 have HB4 := Aside0.mk (hb4)
 clear hgb0 hgb1 hgb2 hb2 hb3 hb4 hz1 hz2 hC hc
 go_enter Try.func67, Try.ntmps67
 go_wp2_with fail
 obtain ⟨h2, hh0⟩ : ∃ z, z = W.heap.size := ⟨_, rfl⟩
 obtain ⟨h3, hh1⟩ : ∃ z, z = W.heap.size + 1 := ⟨_, rfl⟩
 obtain ⟨h4, hh2⟩ : ∃ z, z = W.heap.size + 2 := ⟨_, rfl⟩
 rw [← hh0] at HB2
 rw [← hh1] at HB3
 rw [← hh2] at HB4
 rw [← hh2, ← hh1, ← hh0]
 have HH := Aside0.mk (And.intro hh0 (And.intro hh1 hh2))
 clear hh0 hh1 hh2 ht0 hd0 hi
 have hg := grown_drew ((((W).alloc (.cells #[.int .i64 (s : Int), .int .i64 (N : Int), .slice A l.length c] 44)).alloc (.cells (geA g) 50)).alloc (.cells #[.int .i64 0, .int .i64 0, .slice none 0 0] 44)) none
 replace HB2 := Aside0.mk (blk_grown HB2.out hg)
 replace HB3 := Aside0.mk (blk_grown HB3.out hg)
 replace HB4 := Aside0.mk (blk_grown HB4.out hg)
 replace HG := Aside0.mk (grown_two HG.out hg)
 clear hg
 refine start_ (n := 8) (S := fun w' => w'.heap[h2]? = some (.cells #[.int .i64 (s : Int), .int .i64 (N : Int), .slice A l.length c] 44 (0, 0)) ∧ w'.heap[h3]? = some (.cells (geA g) 50 (0, 0))) (ds := []) #[false, false, false, false, false, false, false, false] (by kernel_rfl) rfl rfl ⟨HB2.out, HB3.out⟩ (fun hHeld => ?_)
 refine with_tab rputtag1_tab (fun HT_ => ?_)
 refine pure_ (i := 2) (N := some 8) (v := ?_) (a' := ?_) #[false, false, true, false, false, false, false, false] rfl rfl (any_of HT_.out (by kernel_rfl)) (fun _ _ _ h => h) (Or.inl ⟨by rfl, ?_⟩) ?_ ?_
 rotate_left
 ·intro w'
  go_simp
  with_reducible rfl
 rotate_left
 ·simp only [ap_]
  rfl
 refine take_ (i := 0) (N := some 6) (v := .agg #[.int .i64 (s : Int), .int .i64 (N : Int), .slice A l.length c]) (a' := ?_) #[true, false, true, false, false, false, false, false] rfl rfl (take_of HT_.out (by kernel_rfl)) (fun _ _ _ h => h) (Or.inl ⟨by rfl, ?_⟩) hHeld ?_ ?_
 ·rintro w' ⟨s1, s2⟩
  obtain ⟨q0, q1, q2⟩ := cz3q s1
  go_simp
 rotate_left
 ·simp only [ap_]
  rfl
 refine take_ (i := 1) (N := some 7) (v := .agg #[.int .i64 (s : Int), .int .i64 (N : Int), .slice A l.length c]) (a' := ?_) #[true, true, true, false, false, false, false, false] rfl rfl (take_of HT_.out (by kernel_rfl)) (fun _ _ _ h => h) (Or.inl ⟨by rfl, ?_⟩) hHeld ?_ ?_
 ·rintro w' ⟨s1, s2⟩
  obtain ⟨q0, q1, q2⟩ := cz3q s1
  go_simp
 rotate_left
 ·simp only [ap_]
  rfl
 refine take_ (i := 3) (N := some 9) (v := .int .u64 (g.v : Int)) (a' := ?_) #[true, true, true, true, false, false, false, false] rfl rfl (take_of HT_.out (by kernel_rfl)) (fun _ _ _ h => h) (Or.inl ⟨by rfl, ?_⟩) hHeld ?_ ?_
 ·rintro w' ⟨s1, s2⟩
  obtain ⟨z0, z1, z2, z3, z4, z5, z6, z7, z8, z9, z10⟩ := tte_Read.cz11 s2
  go_simp
 rotate_left
 ·simp only [ap_]
  rfl
 refine two_ (i := 4) (j := 6) (Ni := some 10) (Nj := some 5) #[true, true, true, true, true, false, false, false] #[true, true, true, true, false, false, true, false] rfl rfl rfl rfl (two_of HT_.out (by kernel_rfl)) (by decide) (by decide) (fun K hK => ?_) (fun K hK => ?_)
 focus
  refine goes_ Try.func100 (by kernel_rfl) rfl #[.agg #[.int .i64 (s : Int), .int .i64 (N : Int), .slice A l.length c], .int .u64 (g.v : Int)] (by rfl) rfl rfl (by (try simp only [List.map_toArray, List.map_cons, List.map_nil]); first | done | rfl) ?_
  refine (lookasideref10_place.calls _ _ A c l _ _ _ (Kd.C_below HC0.out (below_of_grown HG.out)) HCC.out HPL.out).mono ?_
  rintro x0 wn ⟨rfl, hb⟩
  have hg := below_grown hb
  replace HG := Aside0.mk (grown_two HG.out hg)
  replace HB2 := Aside0.mk (blk_grown HB2.out hg)
  replace HB4 := Aside0.mk (blk_grown HB4.out hg)
  replace HB3 := Aside0.mk (blk_grown HB3.out hg)
  have hs : wn.heap[h2]? = some (.cells #[.int .i64 (s : Int), .int .i64 (N : Int), .slice A l.length c] 44 (0, 0)) ∧ wn.heap[h3]? = some (.cells (geA g) 50 (0, 0)) := ⟨blk_grown hHeld.1 hg, blk_grown hHeld.2 hg⟩
  clear hg hb
  refine ⟨_, rfl, ?_⟩
  refine hK.out _ _ hs (fun hHeld => ?_)
  clear hK K
  refine norm_ (a' := ?_) ?_ ?_
  rotate_left
  ·show Act.put _ (some 10) _ = _
   simp only [ap_]
   rfl
  refine two_ (i := 5) (j := 6) (Ni := some 11) (Nj := some 5) #[true, true, true, true, true, true, false, false] #[true, true, true, true, true, false, true, false] rfl rfl rfl rfl (two_of HT_.out (by kernel_rfl)) (by decide) (by decide) (fun K hK => ?_) (fun K hK => ?_)
  focus
   refine goes_ Try.func99 (by kernel_rfl) rfl #[.agg #[.int .i64 (s : Int), .int .i64 (N : Int), .slice A l.length c], .int .i64 (i : Int)] (by rfl) rfl rfl (by (try simp only [List.map_toArray, List.map_cons, List.map_nil]); first | done | rfl) ?_
   refine (lookasideref10_Get.calls (l.length + 1) _ _ A c l _ _ _ _ _ (Kd.C_below HC0.out (below_of_grown HG.out)) HCC.out HGT.out).mono ?_
   rintro x0 wn ⟨rfl, hb⟩
   have hg := below_grown hb
   replace HG := Aside0.mk (grown_two HG.out hg)
   replace HB2 := Aside0.mk (blk_grown HB2.out hg)
   replace HB4 := Aside0.mk (blk_grown HB4.out hg)
   replace HB3 := Aside0.mk (blk_grown HB3.out hg)
   have hs : wn.heap[h2]? = some (.cells #[.int .i64 (s : Int), .int .i64 (N : Int), .slice A l.length c] 44 (0, 0)) ∧ wn.heap[h3]? = some (.cells (geA g) 50 (0, 0)) := ⟨blk_grown hHeld.1 hg, blk_grown hHeld.2 hg⟩
   clear hg hb
   refine ⟨_, rfl, ?_⟩
   refine hK.out _ _ hs (fun hHeld => ?_)
   clear hK K
   refine norm_ (a' := ?_) ?_ ?_
   rotate_left
   ·show Act.put _ (some 11) _ = _
    simp only [ap_]
    rfl
   refine one_ (i := 6) (N := some 5) #[true, true, true, true, true, true, true, false] rfl rfl (one_of HT_.out (by kernel_rfl)) (by decide) (fun K hK => ?_)
   refine box_step ?hg (N := 5) ?hd (cs := #[.int .i64 0, .int .u64 0, .int .u64 0]) (t := 122) ?hr ?_; (case hd => rfl); (case hg => rfl); (case hr => first | (go_simp; done) | (go_simp; rfl))
   intro h5 hg5 wn hbox hb
   have HB5 := Aside0.mk hbox
   have HN5 := Aside0.mk (show W.heap.size ≤ h5 ∧ h2 ≠ h5 ∧ h4 ≠ h5 ∧ h3 ≠ h5 from ⟨by rw [hg5]; exact HG.out.size, fun e => by have := blk_lt HB2.out; omega, fun e => by have := blk_lt HB4.out; omega, fun e => by have := blk_lt HB3.out; omega⟩)
   have hg := below_grown hb
   replace HG := Aside0.mk (grown_two HG.out hg)
   replace HB2 := Aside0.mk (blk_grown HB2.out hg)
   replace HB4 := Aside0.mk (blk_grown HB4.out hg)
   replace HB3 := Aside0.mk (blk_grown HB3.out hg)
   have hs : wn.heap[h2]? = some (.cells #[.int .i64 (s : Int), .int .i64 (N : Int), .slice A l.length c] 44 (0, 0)) ∧ wn.heap[h3]? = some (.cells (geA g) 50 (0, 0)) := ⟨blk_grown hHeld.1 hg, blk_grown hHeld.2 hg⟩
   clear hg hg5 hbox hb
   refine hK.out _ _ hs (fun hHeld => ?_)
   clear hK K
   refine norm_ (a' := ?_) ?_ ?_
   rotate_left
   ·show Act.put _ (some 5) _ = _
    simp only [ap_]
    rfl
   refine one_ (i := 7) (N := none) #[true, true, true, true, true, true, true, true] rfl rfl (one_of HT_.out (by kernel_rfl)) (by decide) (fun K hK => ?_)
   rw [if_pos (by rfl)]
   refine wp_store_row 122 (.tmp 5) (.tmp 11) rfl h5 #[.int .i64 (i : Int), .int .u64 t0, .int .u64 d0] rfl rfl 122 #[.int .i64 0, .int .u64 0, .int .u64 0] HB5.out (by kernel_rfl) rfl (by kernel_rfl) ?_
   have hb2 := setRow_heap wn h5 _ #[.int .i64 (i : Int), .int .u64 t0, .int .u64 d0] _ _ HB5.out
   have hgr := grown_row wn h5 #[.int .i64 (i : Int), .int .u64 t0, .int .u64 d0]
   replace HG := Aside0.mk (grown_loc HG.out hgr HN5.out.1)
   replace HB2 := Aside0.mk ((hgr.block h2 (blk_lt HB2.out) (fun e => HN5.out.2.1 (Option.some.inj e))).trans HB2.out)
   replace HB4 := Aside0.mk ((hgr.block h4 (blk_lt HB4.out) (fun e => HN5.out.2.2.1 (Option.some.inj e))).trans HB4.out)
   replace HB3 := Aside0.mk ((hgr.block h3 (blk_lt HB3.out) (fun e => HN5.out.2.2.2 (Option.some.inj e))).trans HB3.out)
   have hs : (World.setRow wn h5 #[.int .i64 (i : Int), .int .u64 t0, .int .u64 d0]).heap[h2]? = some (.cells #[.int .i64 (s : Int), .int .i64 (N : Int), .slice A l.length c] 44 (0, 0)) ∧ (World.setRow wn h5 #[.int .i64 (i : Int), .int .u64 t0, .int .u64 d0]).heap[h3]? = some (.cells (geA g) 50 (0, 0)) := ⟨HB2.out, HB3.out⟩
   generalize World.setRow wn h5 #[.int .i64 (i : Int), .int .u64 t0, .int .u64 d0] = wb at hb2 hs HG HB2 HB4 HB3 ⊢
   replace HB5 := Aside0.mk hb2
   clear hgr hb2
   refine hK.out _ _ hs (fun hHeld => ?_)
   clear hK K
   refine norm_ (a' := ?_) ?_ ?_
   rotate_left
   ·show Act.put _ none _ = _
    rfl
   refine done_ (done_of HT_.out (by kernel_rfl)) ?_
  rotate_left
  focus
   refine box_step ?hg (N := 5) ?hd (cs := #[.int .i64 0, .int .u64 0, .int .u64 0]) (t := 122) ?hr ?_; (case hd => rfl); (case hg => rfl); (case hr => first | (go_simp; done) | (go_simp; rfl))
   intro h5 hg5 wn hbox hb
   have HB5 := Aside0.mk hbox
   have HN5 := Aside0.mk (show W.heap.size ≤ h5 ∧ h2 ≠ h5 ∧ h4 ≠ h5 ∧ h3 ≠ h5 from ⟨by rw [hg5]; exact HG.out.size, fun e => by have := blk_lt HB2.out; omega, fun e => by have := blk_lt HB4.out; omega, fun e => by have := blk_lt HB3.out; omega⟩)
   have hg := below_grown hb
   replace HG := Aside0.mk (grown_two HG.out hg)
   replace HB2 := Aside0.mk (blk_grown HB2.out hg)
   replace HB4 := Aside0.mk (blk_grown HB4.out hg)
   replace HB3 := Aside0.mk (blk_grown HB3.out hg)
   have hs : wn.heap[h2]? = some (.cells #[.int .i64 (s : Int), .int .i64 (N : Int), .slice A l.length c] 44 (0, 0)) ∧ wn.heap[h3]? = some (.cells (geA g) 50 (0, 0)) := ⟨blk_grown hHeld.1 hg, blk_grown hHeld.2 hg⟩
   clear hg hg5 hbox hb
   refine hK.out _ _ hs (fun hHeld => ?_)
   clear hK K
   refine norm_ (a' := ?_) ?_ ?_
   rotate_left
   ·show Act.put _ (some 5) _ = _
    simp only [ap_]
    rfl
   refine one_ (i := 5) (N := some 11) #[true, true, true, true, true, true, true, false] rfl rfl (one_of HT_.out (by kernel_rfl)) (by decide) (fun K hK => ?_)
   refine goes_ Try.func99 (by kernel_rfl) rfl #[.agg #[.int .i64 (s : Int), .int .i64 (N : Int), .slice A l.length c], .int .i64 (i : Int)] (by rfl) rfl rfl (by (try simp only [List.map_toArray, List.map_cons, List.map_nil]); first | done | rfl) ?_
   refine (lookasideref10_Get.calls (l.length + 1) _ _ A c l _ _ _ _ _ (Kd.C_below HC0.out (below_of_grown HG.out)) HCC.out HGT.out).mono ?_
   rintro x0 wn ⟨rfl, hb⟩
   have hg := below_grown hb
   replace HG := Aside0.mk (grown_two HG.out hg)
   replace HB2 := Aside0.mk (blk_grown HB2.out hg)
   replace HB4 := Aside0.mk (blk_grown HB4.out hg)
   replace HB3 := Aside0.mk (blk_grown HB3.out hg)
   have hs : wn.heap[h2]? = some (.cells #[.int .i64 (s : Int), .int .i64 (N : Int), .slice A l.length c] 44 (0, 0)) ∧ wn.heap[h3]? = some (.cells (geA g) 50 (0, 0)) := ⟨blk_grown hHeld.1 hg, blk_grown hHeld.2 hg⟩
   replace HB5 := Aside0.mk (blk_grown HB5.out hg)
   clear hg hb
   refine ⟨_, rfl, ?_⟩
   refine hK.out _ _ hs (fun hHeld => ?_)
   clear hK K
   refine norm_ (a' := ?_) ?_ ?_
   rotate_left
   ·show Act.put _ (some 11) _ = _
    simp only [ap_]
    rfl
   refine one_ (i := 7) (N := none) #[true, true, true, true, true, true, true, true] rfl rfl (one_of HT_.out (by kernel_rfl)) (by decide) (fun K hK => ?_)
   rw [if_pos (by rfl)]
   refine wp_store_row 122 (.tmp 5) (.tmp 11) rfl h5 #[.int .i64 (i : Int), .int .u64 t0, .int .u64 d0] rfl rfl 122 #[.int .i64 0, .int .u64 0, .int .u64 0] HB5.out (by kernel_rfl) rfl (by kernel_rfl) ?_
   have hb2 := setRow_heap wn h5 _ #[.int .i64 (i : Int), .int .u64 t0, .int .u64 d0] _ _ HB5.out
   have hgr := grown_row wn h5 #[.int .i64 (i : Int), .int .u64 t0, .int .u64 d0]
   replace HG := Aside0.mk (grown_loc HG.out hgr HN5.out.1)
   replace HB2 := Aside0.mk ((hgr.block h2 (blk_lt HB2.out) (fun e => HN5.out.2.1 (Option.some.inj e))).trans HB2.out)
   replace HB4 := Aside0.mk ((hgr.block h4 (blk_lt HB4.out) (fun e => HN5.out.2.2.1 (Option.some.inj e))).trans HB4.out)
   replace HB3 := Aside0.mk ((hgr.block h3 (blk_lt HB3.out) (fun e => HN5.out.2.2.2 (Option.some.inj e))).trans HB3.out)
   have hs : (World.setRow wn h5 #[.int .i64 (i : Int), .int .u64 t0, .int .u64 d0]).heap[h2]? = some (.cells #[.int .i64 (s : Int), .int .i64 (N : Int), .slice A l.length c] 44 (0, 0)) ∧ (World.setRow wn h5 #[.int .i64 (i : Int), .int .u64 t0, .int .u64 d0]).heap[h3]? = some (.cells (geA g) 50 (0, 0)) := ⟨HB2.out, HB3.out⟩
   generalize World.setRow wn h5 #[.int .i64 (i : Int), .int .u64 t0, .int .u64 d0] = wb at hb2 hs HG HB2 HB4 HB3 ⊢
   replace HB5 := Aside0.mk hb2
   clear hgr hb2
   refine hK.out _ _ hs (fun hHeld => ?_)
   clear hK K
   refine norm_ (a' := ?_) ?_ ?_
   rotate_left
   ·show Act.put _ none _ = _
    rfl
   refine done_ (done_of HT_.out (by kernel_rfl)) ?_
 rotate_left 2
 focus
  refine box_step ?hg (N := 5) ?hd (cs := #[.int .i64 0, .int .u64 0, .int .u64 0]) (t := 122) ?hr ?_; (case hd => rfl); (case hg => rfl); (case hr => first | (go_simp; done) | (go_simp; rfl))
  intro h5 hg5 wn hbox hb
  have HB5 := Aside0.mk hbox
  have HN5 := Aside0.mk (show W.heap.size ≤ h5 ∧ h2 ≠ h5 ∧ h4 ≠ h5 ∧ h3 ≠ h5 from ⟨by rw [hg5]; exact HG.out.size, fun e => by have := blk_lt HB2.out; omega, fun e => by have := blk_lt HB4.out; omega, fun e => by have := blk_lt HB3.out; omega⟩)
  have hg := below_grown hb
  replace HG := Aside0.mk (grown_two HG.out hg)
  replace HB2 := Aside0.mk (blk_grown HB2.out hg)
  replace HB4 := Aside0.mk (blk_grown HB4.out hg)
  replace HB3 := Aside0.mk (blk_grown HB3.out hg)
  have hs : wn.heap[h2]? = some (.cells #[.int .i64 (s : Int), .int .i64 (N : Int), .slice A l.length c] 44 (0, 0)) ∧ wn.heap[h3]? = some (.cells (geA g) 50 (0, 0)) := ⟨blk_grown hHeld.1 hg, blk_grown hHeld.2 hg⟩
  clear hg hg5 hbox hb
  refine hK.out _ _ hs (fun hHeld => ?_)
  clear hK K
  refine norm_ (a' := ?_) ?_ ?_
  rotate_left
  ·show Act.put _ (some 5) _ = _
   simp only [ap_]
   rfl
  refine one_ (i := 4) (N := some 10) #[true, true, true, true, true, false, true, false] rfl rfl (one_of HT_.out (by kernel_rfl)) (by decide) (fun K hK => ?_)
  refine goes_ Try.func100 (by kernel_rfl) rfl #[.agg #[.int .i64 (s : Int), .int .i64 (N : Int), .slice A l.length c], .int .u64 (g.v : Int)] (by rfl) rfl rfl (by (try simp only [List.map_toArray, List.map_cons, List.map_nil]); first | done | rfl) ?_
  refine (lookasideref10_place.calls _ _ A c l _ _ _ (Kd.C_below HC0.out (below_of_grown HG.out)) HCC.out HPL.out).mono ?_
  rintro x0 wn ⟨rfl, hb⟩
  have hg := below_grown hb
  replace HG := Aside0.mk (grown_two HG.out hg)
  replace HB2 := Aside0.mk (blk_grown HB2.out hg)
  replace HB4 := Aside0.mk (blk_grown HB4.out hg)
  replace HB3 := Aside0.mk (blk_grown HB3.out hg)
  have hs : wn.heap[h2]? = some (.cells #[.int .i64 (s : Int), .int .i64 (N : Int), .slice A l.length c] 44 (0, 0)) ∧ wn.heap[h3]? = some (.cells (geA g) 50 (0, 0)) := ⟨blk_grown hHeld.1 hg, blk_grown hHeld.2 hg⟩
  replace HB5 := Aside0.mk (blk_grown HB5.out hg)
  clear hg hb
  refine ⟨_, rfl, ?_⟩
  refine hK.out _ _ hs (fun hHeld => ?_)
  clear hK K
  refine norm_ (a' := ?_) ?_ ?_
  rotate_left
  ·show Act.put _ (some 10) _ = _
   simp only [ap_]
   rfl
  refine one_ (i := 5) (N := some 11) #[true, true, true, true, true, true, true, false] rfl rfl (one_of HT_.out (by kernel_rfl)) (by decide) (fun K hK => ?_)
  refine goes_ Try.func99 (by kernel_rfl) rfl #[.agg #[.int .i64 (s : Int), .int .i64 (N : Int), .slice A l.length c], .int .i64 (i : Int)] (by rfl) rfl rfl (by (try simp only [List.map_toArray, List.map_cons, List.map_nil]); first | done | rfl) ?_
  refine (lookasideref10_Get.calls (l.length + 1) _ _ A c l _ _ _ _ _ (Kd.C_below HC0.out (below_of_grown HG.out)) HCC.out HGT.out).mono ?_
  rintro x0 wn ⟨rfl, hb⟩
  have hg := below_grown hb
  replace HG := Aside0.mk (grown_two HG.out hg)
  replace HB2 := Aside0.mk (blk_grown HB2.out hg)
  replace HB4 := Aside0.mk (blk_grown HB4.out hg)
  replace HB3 := Aside0.mk (blk_grown HB3.out hg)
  have hs : wn.heap[h2]? = some (.cells #[.int .i64 (s : Int), .int .i64 (N : Int), .slice A l.length c] 44 (0, 0)) ∧ wn.heap[h3]? = some (.cells (geA g) 50 (0, 0)) := ⟨blk_grown hHeld.1 hg, blk_grown hHeld.2 hg⟩
  replace HB5 := Aside0.mk (blk_grown HB5.out hg)
  clear hg hb
  refine ⟨_, rfl, ?_⟩
  refine hK.out _ _ hs (fun hHeld => ?_)
  clear hK K
  refine norm_ (a' := ?_) ?_ ?_
  rotate_left
  ·show Act.put _ (some 11) _ = _
   simp only [ap_]
   rfl
  refine one_ (i := 7) (N := none) #[true, true, true, true, true, true, true, true] rfl rfl (one_of HT_.out (by kernel_rfl)) (by decide) (fun K hK => ?_)
  rw [if_pos (by rfl)]
  refine wp_store_row 122 (.tmp 5) (.tmp 11) rfl h5 #[.int .i64 (i : Int), .int .u64 t0, .int .u64 d0] rfl rfl 122 #[.int .i64 0, .int .u64 0, .int .u64 0] HB5.out (by kernel_rfl) rfl (by kernel_rfl) ?_
  have hb2 := setRow_heap wn h5 _ #[.int .i64 (i : Int), .int .u64 t0, .int .u64 d0] _ _ HB5.out
  have hgr := grown_row wn h5 #[.int .i64 (i : Int), .int .u64 t0, .int .u64 d0]
  replace HG := Aside0.mk (grown_loc HG.out hgr HN5.out.1)
  replace HB2 := Aside0.mk ((hgr.block h2 (blk_lt HB2.out) (fun e => HN5.out.2.1 (Option.some.inj e))).trans HB2.out)
  replace HB4 := Aside0.mk ((hgr.block h4 (blk_lt HB4.out) (fun e => HN5.out.2.2.1 (Option.some.inj e))).trans HB4.out)
  replace HB3 := Aside0.mk ((hgr.block h3 (blk_lt HB3.out) (fun e => HN5.out.2.2.2 (Option.some.inj e))).trans HB3.out)
  have hs : (World.setRow wn h5 #[.int .i64 (i : Int), .int .u64 t0, .int .u64 d0]).heap[h2]? = some (.cells #[.int .i64 (s : Int), .int .i64 (N : Int), .slice A l.length c] 44 (0, 0)) ∧ (World.setRow wn h5 #[.int .i64 (i : Int), .int .u64 t0, .int .u64 d0]).heap[h3]? = some (.cells (geA g) 50 (0, 0)) := ⟨HB2.out, HB3.out⟩
  generalize World.setRow wn h5 #[.int .i64 (i : Int), .int .u64 t0, .int .u64 d0] = wb at hb2 hs HG HB2 HB4 HB3 ⊢
  replace HB5 := Aside0.mk hb2
  clear hgr hb2
  refine hK.out _ _ hs (fun hHeld => ?_)
  clear hK K
  refine norm_ (a' := ?_) ?_ ?_
  rotate_left
  ·show Act.put _ none _ = _
   rfl
  refine done_ (done_of HT_.out (by kernel_rfl)) ?_
 all_goals
  have hz3 := tte_Read.cz11 HB3.out
  obtain ⟨z0, z1, z2, z3, z4, z5, z6, z7, z8, z9, z10⟩ := hz3
  clear hHeld
  go_upto_region 3 with (go_at_call 101; refine (lookasideref03_Tag.calls 500 _ _ _ _ _ _ _ _ _ _ _ _ _ HEF.out).mono ?_; rintro e wm ⟨rfl, hb⟩; have hg := below_grown hb; replace HG := Aside0.mk (grown_two HG.out hg); replace HB2 := Aside0.mk (blk_grown HB2.out hg); replace HB4 := Aside0.mk (blk_grown HB4.out hg); replace HB5 := Aside0.mk (blk_grown HB5.out hg); obtain ⟨u0, u1, u2⟩ := cz3q HB5.out; have zf := blk_frozen HB5.out 1; clear hg hb)
  clear zf u0 u1 u2 z0 z1 z2 z3 z4 z5 z6 z7 z8 z9 z10
  have hgc := grown_cellq wm ⟨h5, 1, none⟩ (.int .u64 (g.tag : Int))
  have hk5 : ∀ k, some h5 = some k → ∃ cs, wm.heap[k]? = some (.cells cs 122 (0, 0)) := fun k e => by cases e; exact ⟨_, HB5.out⟩
  have hb5 : (wm.setCell ⟨h5, 1, none⟩ (.int .u64 (g.tag : Int))).heap[h5]? = some (.cells #[.int .i64 (i : Int), .int .u64 (g.tag : Int), .int .u64 d0] 122 (0, 0)) := blk_put HB5.out 1 (.int .u64 (g.tag : Int)) rfl
  replace HB2 := Aside0.mk (blk_keptR HB2.out hgc hk5 (by decide))
  replace HB4 := Aside0.mk (blk_keptR HB4.out hgc hk5 (by decide))
  replace HG := Aside0.mk (below_grownW HG.out hgc (fun k e => by obtain rfl : h5 = k := Option.some.inj e; exact HN5.out.1))
  generalize wm.setCell ⟨h5, 1, none⟩ (.int .u64 (g.tag : Int)) = wq at hb5 HB2 HB4 HG ⊢
  replace HB5 := Aside0.mk hb5
  clear hgc hk5 hb5
  obtain ⟨q0, q1, q2⟩ := cz3q HB2.out
  obtain ⟨u0, u1, u2⟩ := cz3q HB5.out
  go_wp2_with fail
  refine (lookasideref10_put.calls (l.length + 1) _ _ A c l _ _ _ _ _ _ _ (Kd.C_below HC0.out (below_of_grown HG.out)) HCC.out HPT.out).mono ?_
  rintro x0 wr ⟨v2, rfl, hR, hb⟩
  obtain ⟨A2, c2, rfl⟩ := Kd.R_slice hR
  have hg := below_grown hb
  have HR := Aside0.mk (Kd.R_lower hR HG.out.size)
  replace HG := Aside0.mk (grown_two HG.out hg)
  replace HB4 := Aside0.mk (blk_grown HB4.out hg)
  have HLN := Aside0.mk (show True from trivial)
  clear hR hb hg q0 q1 q2 u0 u1 u2
  go_wp2_with (((with_reducible refine gate_store (t := 44) (p := 4) rfl ?_); refine wpList_store_row rfl 44 (.tmp 4) (.tmp 17) rfl h4 #[.int .i64 (s : Int), .int .i64 (N : Int), .slice A2 (pW l (i : Int) (g.tag : Int) (gW l (i : Int)).2).length c2] rfl rfl 44 _ HB4.out (by kernel_rfl) rfl (by kernel_rfl) ?_; have SHB4 := Aside0.mk (setRow_heap _ h4 _ #[.int .i64 (s : Int), .int .i64 (N : Int), .slice A2 (pW l (i : Int) (g.tag : Int) (gW l (i : Int)).2).length c2] _ _ HB4.out); have THB4 := Aside0.mk (grown_row wr h4 #[.int .i64 (s : Int), .int .i64 (N : Int), .slice A2 (pW l (i : Int) (g.tag : Int) (gW l (i : Int)).2).length c2])))
  replace HR := Aside0.mk (Kd.R_mono (ok' := fun _ => True) (Kd.R_grown (Kd.R_types HR.out HB4.out (by decide)) THB4.out (fun k hk e => hk.2 (Option.some.inj e))) (fun _ _ => trivial))
  replace HG := Aside0.mk (grown_loc HG.out THB4.out (by have := HH.out; omega))
  obtain ⟨q0, q1, q2⟩ := cz3q SHB4.out
  exact bodyPost_ret (v := .agg #[.int .i64 (s : Int), .int .i64 (N : Int), .slice A2 (pW l (i : Int) (g.tag : Int) (gW l (i : Int)).2).length c2]) (by simp [results, Try.f67, go_sem, q0, q1, q2]) rfl ⟨_, rfl, HR.out, HG.out⟩
noncomputable def rputdata1_T : Bool × List (List Nat × List Nat) := rtab .any (opsOf Try.f68 1)
theorem rputdata1_tab : rtab .any (opsOf Try.f68 1) = rputdata1_T := rfl
theorem rputdata_calls {s N : Nat} (hs : s < 4) (h1 : 1 ≤ N) (hN : N ≤ 4096) {A : Option Addr} {c : Nat} {l : List WS} (g : GE) (hgo : g.ok) (hgs : g.s = s) {W : World} (hC : Kd.C k122 W A l.length l) (hc : l.length ≤ c) (hl : l.length ≤ 1000000) :
  Calls Try.prog 68 #[.agg #[.int .i64 (s : Int), .int .i64 (N : Int), .slice A l.length c], .agg (geA g)] W fun e W' => ∃ v, e = .returned (.agg #[.int .i64 (s : Int), .int .i64 (N : Int), v]) ∧ Kd.R k122 122 W' W.heap.size (fun _ => True) v (pW l (plcOf N (s : Int) g.v : Int) (gW l (plcOf N (s : Int) g.v : Int)).1 (g.data : Int)) ∧ W.grownBy W' none := by
 have hu := Try.underlying44
 have hu2 := Try.underlying122
 have hu3 := Try.underlying50
 have HC0 := Aside0.mk hC
 have HCC := Aside0.mk hc
 obtain ⟨i, hi⟩ : ∃ i, i = plcOf N (s : Int) g.v := ⟨_, rfl⟩
 have HPL := Aside0.mk (show lookasideref10_place.f (s : Int) (N : Int) l (g.v : Int) = some (i : Int) from by rw [hi]; exact plc_f g.v hgo.hv s N hs h1 (by omega) l)
 obtain ⟨t0, ht0⟩ : ∃ t, t = (gW l (i : Int)).1 := ⟨_, rfl⟩
 obtain ⟨d0, hd0⟩ : ∃ d, d = (gW l (i : Int)).2 := ⟨_, rfl⟩
 have HGT := Aside0.mk (show lookasideref10_Get.f (l.length + 1) (s : Int) (N : Int) l (i : Int) = some ((i : Int), t0, d0) by rw [ht0, hd0]; exact gW_f _ _ _ l (by omega) (Nat.le_refl _))
 rw [← hi]
 have HEF := Aside0.mk (show lookasideref03_Data.f 500 (g.s : Int) (g.c : Int) (g.v : Int) (g.p : Int) g.w g.pr g.x g.l g.g g.q true = some (g.data : Int) from hgo.rdataF)
 have HGS := Aside0.mk (And.intro hgo hgs)
 clear hgo hgs
 have HPT := Aside0.mk (show lookasideref10_put.f (l.length + 1) (s : Int) (N : Int) l (i : Int) t0 (g.data : Int) = some ((s : Int), (N : Int), pW l (i : Int) (gW l (i : Int)).1 (g.data : Int)) from by rw [← ht0]; exact pW_f _ _ _ _ _ l (by omega) (Nat.le_refl _))
 have hgb0 := World.grownBy_alloc (W) (.cells #[.int .i64 (s : Int), .int .i64 (N : Int), .slice A l.length c] 44) none
 have hb2 := heap_alloc_new (W) (.cells #[.int .i64 (s : Int), .int .i64 (N : Int), .slice A l.length c] 44)
 have hgb1 := World.grownBy_alloc ((W).alloc (.cells #[.int .i64 (s : Int), .int .i64 (N : Int), .slice A l.length c] 44)) (.cells (geA g) 50) none
 have hb3 := heap_alloc_new ((W).alloc (.cells #[.int .i64 (s : Int), .int .i64 (N : Int), .slice A l.length c] 44)) (.cells (geA g) 50)
 have hz1 : ((W).alloc (.cells #[.int .i64 (s : Int), .int .i64 (N : Int), .slice A l.length c] 44)).heap.size = W.heap.size + 1 := by simp only [World.size_alloc]
 rw [hz1] at hb3
 have hgb2 := World.grownBy_alloc (((W).alloc (.cells #[.int .i64 (s : Int), .int .i64 (N : Int), .slice A l.length c] 44)).alloc (.cells (geA g) 50)) (.cells #[.int .i64 0, .int .i64 0, .slice none 0 0] 44) none
 have hb4 := heap_alloc_new (((W).alloc (.cells #[.int .i64 (s : Int), .int .i64 (N : Int), .slice A l.length c] 44)).alloc (.cells (geA g) 50)) (.cells #[.int .i64 0, .int .i64 0, .slice none 0 0] 44)
 have hz2 : (((W).alloc (.cells #[.int .i64 (s : Int), .int .i64 (N : Int), .slice A l.length c] 44)).alloc (.cells (geA g) 50)).heap.size = W.heap.size + 2 := by simp only [World.size_alloc]
 rw [hz2] at hb4
 have HG := Aside0.mk (grown_two (grown_two hgb0 hgb1) hgb2)
 have HB2 := Aside0.mk (blk_grown (blk_grown (hb2) hgb1) hgb2)
 have HB3 := Aside0.mk (blk_grown (hb3) hgb2)
 have HB4 := Aside0.mk (hb4)
 clear hgb0 hgb1 hgb2 hb2 hb3 hb4 hz1 hz2 hC hc
 go_enter Try.func68, Try.ntmps68
 go_wp2_with fail
 obtain ⟨h2, hh0⟩ : ∃ z, z = W.heap.size := ⟨_, rfl⟩
 obtain ⟨h3, hh1⟩ : ∃ z, z = W.heap.size + 1 := ⟨_, rfl⟩
 obtain ⟨h4, hh2⟩ : ∃ z, z = W.heap.size + 2 := ⟨_, rfl⟩
 rw [← hh0] at HB2
 rw [← hh1] at HB3
 rw [← hh2] at HB4
 rw [← hh2, ← hh1, ← hh0]
 have HH := Aside0.mk (And.intro hh0 (And.intro hh1 hh2))
 clear hh0 hh1 hh2 ht0 hd0 hi
 have hg := grown_drew ((((W).alloc (.cells #[.int .i64 (s : Int), .int .i64 (N : Int), .slice A l.length c] 44)).alloc (.cells (geA g) 50)).alloc (.cells #[.int .i64 0, .int .i64 0, .slice none 0 0] 44)) none
 replace HB2 := Aside0.mk (blk_grown HB2.out hg)
 replace HB3 := Aside0.mk (blk_grown HB3.out hg)
 replace HB4 := Aside0.mk (blk_grown HB4.out hg)
 replace HG := Aside0.mk (grown_two HG.out hg)
 clear hg
 refine start_ (n := 8) (S := fun w' => w'.heap[h2]? = some (.cells #[.int .i64 (s : Int), .int .i64 (N : Int), .slice A l.length c] 44 (0, 0)) ∧ w'.heap[h3]? = some (.cells (geA g) 50 (0, 0))) (ds := []) #[false, false, false, false, false, false, false, false] (by kernel_rfl) rfl rfl ⟨HB2.out, HB3.out⟩ (fun hHeld => ?_)
 refine with_tab rputdata1_tab (fun HT_ => ?_)
 refine pure_ (i := 2) (N := some 8) (v := ?_) (a' := ?_) #[false, false, true, false, false, false, false, false] rfl rfl (any_of HT_.out (by kernel_rfl)) (fun _ _ _ h => h) (Or.inl ⟨by rfl, ?_⟩) ?_ ?_
 rotate_left
 ·intro w'
  go_simp
  with_reducible rfl
 rotate_left
 ·simp only [ap_]
  rfl
 refine take_ (i := 0) (N := some 6) (v := .agg #[.int .i64 (s : Int), .int .i64 (N : Int), .slice A l.length c]) (a' := ?_) #[true, false, true, false, false, false, false, false] rfl rfl (take_of HT_.out (by kernel_rfl)) (fun _ _ _ h => h) (Or.inl ⟨by rfl, ?_⟩) hHeld ?_ ?_
 ·rintro w' ⟨s1, s2⟩
  obtain ⟨q0, q1, q2⟩ := cz3q s1
  go_simp
 rotate_left
 ·simp only [ap_]
  rfl
 refine take_ (i := 1) (N := some 7) (v := .agg #[.int .i64 (s : Int), .int .i64 (N : Int), .slice A l.length c]) (a' := ?_) #[true, true, true, false, false, false, false, false] rfl rfl (take_of HT_.out (by kernel_rfl)) (fun _ _ _ h => h) (Or.inl ⟨by rfl, ?_⟩) hHeld ?_ ?_
 ·rintro w' ⟨s1, s2⟩
  obtain ⟨q0, q1, q2⟩ := cz3q s1
  go_simp
 rotate_left
 ·simp only [ap_]
  rfl
 refine take_ (i := 3) (N := some 9) (v := .int .u64 (g.v : Int)) (a' := ?_) #[true, true, true, true, false, false, false, false] rfl rfl (take_of HT_.out (by kernel_rfl)) (fun _ _ _ h => h) (Or.inl ⟨by rfl, ?_⟩) hHeld ?_ ?_
 ·rintro w' ⟨s1, s2⟩
  obtain ⟨z0, z1, z2, z3, z4, z5, z6, z7, z8, z9, z10⟩ := tte_Read.cz11 s2
  go_simp
 rotate_left
 ·simp only [ap_]
  rfl
 refine two_ (i := 4) (j := 6) (Ni := some 10) (Nj := some 5) #[true, true, true, true, true, false, false, false] #[true, true, true, true, false, false, true, false] rfl rfl rfl rfl (two_of HT_.out (by kernel_rfl)) (by decide) (by decide) (fun K hK => ?_) (fun K hK => ?_)
 focus
  refine goes_ Try.func100 (by kernel_rfl) rfl #[.agg #[.int .i64 (s : Int), .int .i64 (N : Int), .slice A l.length c], .int .u64 (g.v : Int)] (by rfl) rfl rfl (by (try simp only [List.map_toArray, List.map_cons, List.map_nil]); first | done | rfl) ?_
  refine (lookasideref10_place.calls _ _ A c l _ _ _ (Kd.C_below HC0.out (below_of_grown HG.out)) HCC.out HPL.out).mono ?_
  rintro x0 wn ⟨rfl, hb⟩
  have hg := below_grown hb
  replace HG := Aside0.mk (grown_two HG.out hg)
  replace HB2 := Aside0.mk (blk_grown HB2.out hg)
  replace HB4 := Aside0.mk (blk_grown HB4.out hg)
  replace HB3 := Aside0.mk (blk_grown HB3.out hg)
  have hs : wn.heap[h2]? = some (.cells #[.int .i64 (s : Int), .int .i64 (N : Int), .slice A l.length c] 44 (0, 0)) ∧ wn.heap[h3]? = some (.cells (geA g) 50 (0, 0)) := ⟨blk_grown hHeld.1 hg, blk_grown hHeld.2 hg⟩
  clear hg hb
  refine ⟨_, rfl, ?_⟩
  refine hK.out _ _ hs (fun hHeld => ?_)
  clear hK K
  refine norm_ (a' := ?_) ?_ ?_
  rotate_left
  ·show Act.put _ (some 10) _ = _
   simp only [ap_]
   rfl
  refine two_ (i := 5) (j := 6) (Ni := some 11) (Nj := some 5) #[true, true, true, true, true, true, false, false] #[true, true, true, true, true, false, true, false] rfl rfl rfl rfl (two_of HT_.out (by kernel_rfl)) (by decide) (by decide) (fun K hK => ?_) (fun K hK => ?_)
  focus
   refine goes_ Try.func99 (by kernel_rfl) rfl #[.agg #[.int .i64 (s : Int), .int .i64 (N : Int), .slice A l.length c], .int .i64 (i : Int)] (by rfl) rfl rfl (by (try simp only [List.map_toArray, List.map_cons, List.map_nil]); first | done | rfl) ?_
   refine (lookasideref10_Get.calls (l.length + 1) _ _ A c l _ _ _ _ _ (Kd.C_below HC0.out (below_of_grown HG.out)) HCC.out HGT.out).mono ?_
   rintro x0 wn ⟨rfl, hb⟩
   have hg := below_grown hb
   replace HG := Aside0.mk (grown_two HG.out hg)
   replace HB2 := Aside0.mk (blk_grown HB2.out hg)
   replace HB4 := Aside0.mk (blk_grown HB4.out hg)
   replace HB3 := Aside0.mk (blk_grown HB3.out hg)
   have hs : wn.heap[h2]? = some (.cells #[.int .i64 (s : Int), .int .i64 (N : Int), .slice A l.length c] 44 (0, 0)) ∧ wn.heap[h3]? = some (.cells (geA g) 50 (0, 0)) := ⟨blk_grown hHeld.1 hg, blk_grown hHeld.2 hg⟩
   clear hg hb
   refine ⟨_, rfl, ?_⟩
   refine hK.out _ _ hs (fun hHeld => ?_)
   clear hK K
   refine norm_ (a' := ?_) ?_ ?_
   rotate_left
   ·show Act.put _ (some 11) _ = _
    simp only [ap_]
    rfl
   refine one_ (i := 6) (N := some 5) #[true, true, true, true, true, true, true, false] rfl rfl (one_of HT_.out (by kernel_rfl)) (by decide) (fun K hK => ?_)
   refine box_step ?hg (N := 5) ?hd (cs := #[.int .i64 0, .int .u64 0, .int .u64 0]) (t := 122) ?hr ?_; (case hd => rfl); (case hg => rfl); (case hr => first | (go_simp; done) | (go_simp; rfl))
   intro h5 hg5 wn hbox hb
   have HB5 := Aside0.mk hbox
   have HN5 := Aside0.mk (show W.heap.size ≤ h5 ∧ h2 ≠ h5 ∧ h4 ≠ h5 ∧ h3 ≠ h5 from ⟨by rw [hg5]; exact HG.out.size, fun e => by have := blk_lt HB2.out; omega, fun e => by have := blk_lt HB4.out; omega, fun e => by have := blk_lt HB3.out; omega⟩)
   have hg := below_grown hb
   replace HG := Aside0.mk (grown_two HG.out hg)
   replace HB2 := Aside0.mk (blk_grown HB2.out hg)
   replace HB4 := Aside0.mk (blk_grown HB4.out hg)
   replace HB3 := Aside0.mk (blk_grown HB3.out hg)
   have hs : wn.heap[h2]? = some (.cells #[.int .i64 (s : Int), .int .i64 (N : Int), .slice A l.length c] 44 (0, 0)) ∧ wn.heap[h3]? = some (.cells (geA g) 50 (0, 0)) := ⟨blk_grown hHeld.1 hg, blk_grown hHeld.2 hg⟩
   clear hg hg5 hbox hb
   refine hK.out _ _ hs (fun hHeld => ?_)
   clear hK K
   refine norm_ (a' := ?_) ?_ ?_
   rotate_left
   ·show Act.put _ (some 5) _ = _
    simp only [ap_]
    rfl
   refine one_ (i := 7) (N := none) #[true, true, true, true, true, true, true, true] rfl rfl (one_of HT_.out (by kernel_rfl)) (by decide) (fun K hK => ?_)
   rw [if_pos (by rfl)]
   refine wp_store_row 122 (.tmp 5) (.tmp 11) rfl h5 #[.int .i64 (i : Int), .int .u64 t0, .int .u64 d0] rfl rfl 122 #[.int .i64 0, .int .u64 0, .int .u64 0] HB5.out (by kernel_rfl) rfl (by kernel_rfl) ?_
   have hb2 := setRow_heap wn h5 _ #[.int .i64 (i : Int), .int .u64 t0, .int .u64 d0] _ _ HB5.out
   have hgr := grown_row wn h5 #[.int .i64 (i : Int), .int .u64 t0, .int .u64 d0]
   replace HG := Aside0.mk (grown_loc HG.out hgr HN5.out.1)
   replace HB2 := Aside0.mk ((hgr.block h2 (blk_lt HB2.out) (fun e => HN5.out.2.1 (Option.some.inj e))).trans HB2.out)
   replace HB4 := Aside0.mk ((hgr.block h4 (blk_lt HB4.out) (fun e => HN5.out.2.2.1 (Option.some.inj e))).trans HB4.out)
   replace HB3 := Aside0.mk ((hgr.block h3 (blk_lt HB3.out) (fun e => HN5.out.2.2.2 (Option.some.inj e))).trans HB3.out)
   have hs : (World.setRow wn h5 #[.int .i64 (i : Int), .int .u64 t0, .int .u64 d0]).heap[h2]? = some (.cells #[.int .i64 (s : Int), .int .i64 (N : Int), .slice A l.length c] 44 (0, 0)) ∧ (World.setRow wn h5 #[.int .i64 (i : Int), .int .u64 t0, .int .u64 d0]).heap[h3]? = some (.cells (geA g) 50 (0, 0)) := ⟨HB2.out, HB3.out⟩
   generalize World.setRow wn h5 #[.int .i64 (i : Int), .int .u64 t0, .int .u64 d0] = wb at hb2 hs HG HB2 HB4 HB3 ⊢
   replace HB5 := Aside0.mk hb2
   clear hgr hb2
   refine hK.out _ _ hs (fun hHeld => ?_)
   clear hK K
   refine norm_ (a' := ?_) ?_ ?_
   rotate_left
   ·show Act.put _ none _ = _
    rfl
   refine done_ (done_of HT_.out (by kernel_rfl)) ?_
  rotate_left
  focus
   refine box_step ?hg (N := 5) ?hd (cs := #[.int .i64 0, .int .u64 0, .int .u64 0]) (t := 122) ?hr ?_; (case hd => rfl); (case hg => rfl); (case hr => first | (go_simp; done) | (go_simp; rfl))
   intro h5 hg5 wn hbox hb
   have HB5 := Aside0.mk hbox
   have HN5 := Aside0.mk (show W.heap.size ≤ h5 ∧ h2 ≠ h5 ∧ h4 ≠ h5 ∧ h3 ≠ h5 from ⟨by rw [hg5]; exact HG.out.size, fun e => by have := blk_lt HB2.out; omega, fun e => by have := blk_lt HB4.out; omega, fun e => by have := blk_lt HB3.out; omega⟩)
   have hg := below_grown hb
   replace HG := Aside0.mk (grown_two HG.out hg)
   replace HB2 := Aside0.mk (blk_grown HB2.out hg)
   replace HB4 := Aside0.mk (blk_grown HB4.out hg)
   replace HB3 := Aside0.mk (blk_grown HB3.out hg)
   have hs : wn.heap[h2]? = some (.cells #[.int .i64 (s : Int), .int .i64 (N : Int), .slice A l.length c] 44 (0, 0)) ∧ wn.heap[h3]? = some (.cells (geA g) 50 (0, 0)) := ⟨blk_grown hHeld.1 hg, blk_grown hHeld.2 hg⟩
   clear hg hg5 hbox hb
   refine hK.out _ _ hs (fun hHeld => ?_)
   clear hK K
   refine norm_ (a' := ?_) ?_ ?_
   rotate_left
   ·show Act.put _ (some 5) _ = _
    simp only [ap_]
    rfl
   refine one_ (i := 5) (N := some 11) #[true, true, true, true, true, true, true, false] rfl rfl (one_of HT_.out (by kernel_rfl)) (by decide) (fun K hK => ?_)
   refine goes_ Try.func99 (by kernel_rfl) rfl #[.agg #[.int .i64 (s : Int), .int .i64 (N : Int), .slice A l.length c], .int .i64 (i : Int)] (by rfl) rfl rfl (by (try simp only [List.map_toArray, List.map_cons, List.map_nil]); first | done | rfl) ?_
   refine (lookasideref10_Get.calls (l.length + 1) _ _ A c l _ _ _ _ _ (Kd.C_below HC0.out (below_of_grown HG.out)) HCC.out HGT.out).mono ?_
   rintro x0 wn ⟨rfl, hb⟩
   have hg := below_grown hb
   replace HG := Aside0.mk (grown_two HG.out hg)
   replace HB2 := Aside0.mk (blk_grown HB2.out hg)
   replace HB4 := Aside0.mk (blk_grown HB4.out hg)
   replace HB3 := Aside0.mk (blk_grown HB3.out hg)
   have hs : wn.heap[h2]? = some (.cells #[.int .i64 (s : Int), .int .i64 (N : Int), .slice A l.length c] 44 (0, 0)) ∧ wn.heap[h3]? = some (.cells (geA g) 50 (0, 0)) := ⟨blk_grown hHeld.1 hg, blk_grown hHeld.2 hg⟩
   replace HB5 := Aside0.mk (blk_grown HB5.out hg)
   clear hg hb
   refine ⟨_, rfl, ?_⟩
   refine hK.out _ _ hs (fun hHeld => ?_)
   clear hK K
   refine norm_ (a' := ?_) ?_ ?_
   rotate_left
   ·show Act.put _ (some 11) _ = _
    simp only [ap_]
    rfl
   refine one_ (i := 7) (N := none) #[true, true, true, true, true, true, true, true] rfl rfl (one_of HT_.out (by kernel_rfl)) (by decide) (fun K hK => ?_)
   rw [if_pos (by rfl)]
   refine wp_store_row 122 (.tmp 5) (.tmp 11) rfl h5 #[.int .i64 (i : Int), .int .u64 t0, .int .u64 d0] rfl rfl 122 #[.int .i64 0, .int .u64 0, .int .u64 0] HB5.out (by kernel_rfl) rfl (by kernel_rfl) ?_
   have hb2 := setRow_heap wn h5 _ #[.int .i64 (i : Int), .int .u64 t0, .int .u64 d0] _ _ HB5.out
   have hgr := grown_row wn h5 #[.int .i64 (i : Int), .int .u64 t0, .int .u64 d0]
   replace HG := Aside0.mk (grown_loc HG.out hgr HN5.out.1)
   replace HB2 := Aside0.mk ((hgr.block h2 (blk_lt HB2.out) (fun e => HN5.out.2.1 (Option.some.inj e))).trans HB2.out)
   replace HB4 := Aside0.mk ((hgr.block h4 (blk_lt HB4.out) (fun e => HN5.out.2.2.1 (Option.some.inj e))).trans HB4.out)
   replace HB3 := Aside0.mk ((hgr.block h3 (blk_lt HB3.out) (fun e => HN5.out.2.2.2 (Option.some.inj e))).trans HB3.out)
   have hs : (World.setRow wn h5 #[.int .i64 (i : Int), .int .u64 t0, .int .u64 d0]).heap[h2]? = some (.cells #[.int .i64 (s : Int), .int .i64 (N : Int), .slice A l.length c] 44 (0, 0)) ∧ (World.setRow wn h5 #[.int .i64 (i : Int), .int .u64 t0, .int .u64 d0]).heap[h3]? = some (.cells (geA g) 50 (0, 0)) := ⟨HB2.out, HB3.out⟩
   generalize World.setRow wn h5 #[.int .i64 (i : Int), .int .u64 t0, .int .u64 d0] = wb at hb2 hs HG HB2 HB4 HB3 ⊢
   replace HB5 := Aside0.mk hb2
   clear hgr hb2
   refine hK.out _ _ hs (fun hHeld => ?_)
   clear hK K
   refine norm_ (a' := ?_) ?_ ?_
   rotate_left
   ·show Act.put _ none _ = _
    rfl
   refine done_ (done_of HT_.out (by kernel_rfl)) ?_
 rotate_left 2
 focus
  refine box_step ?hg (N := 5) ?hd (cs := #[.int .i64 0, .int .u64 0, .int .u64 0]) (t := 122) ?hr ?_; (case hd => rfl); (case hg => rfl); (case hr => first | (go_simp; done) | (go_simp; rfl))
  intro h5 hg5 wn hbox hb
  have HB5 := Aside0.mk hbox
  have HN5 := Aside0.mk (show W.heap.size ≤ h5 ∧ h2 ≠ h5 ∧ h4 ≠ h5 ∧ h3 ≠ h5 from ⟨by rw [hg5]; exact HG.out.size, fun e => by have := blk_lt HB2.out; omega, fun e => by have := blk_lt HB4.out; omega, fun e => by have := blk_lt HB3.out; omega⟩)
  have hg := below_grown hb
  replace HG := Aside0.mk (grown_two HG.out hg)
  replace HB2 := Aside0.mk (blk_grown HB2.out hg)
  replace HB4 := Aside0.mk (blk_grown HB4.out hg)
  replace HB3 := Aside0.mk (blk_grown HB3.out hg)
  have hs : wn.heap[h2]? = some (.cells #[.int .i64 (s : Int), .int .i64 (N : Int), .slice A l.length c] 44 (0, 0)) ∧ wn.heap[h3]? = some (.cells (geA g) 50 (0, 0)) := ⟨blk_grown hHeld.1 hg, blk_grown hHeld.2 hg⟩
  clear hg hg5 hbox hb
  refine hK.out _ _ hs (fun hHeld => ?_)
  clear hK K
  refine norm_ (a' := ?_) ?_ ?_
  rotate_left
  ·show Act.put _ (some 5) _ = _
   simp only [ap_]
   rfl
  refine one_ (i := 4) (N := some 10) #[true, true, true, true, true, false, true, false] rfl rfl (one_of HT_.out (by kernel_rfl)) (by decide) (fun K hK => ?_)
  refine goes_ Try.func100 (by kernel_rfl) rfl #[.agg #[.int .i64 (s : Int), .int .i64 (N : Int), .slice A l.length c], .int .u64 (g.v : Int)] (by rfl) rfl rfl (by (try simp only [List.map_toArray, List.map_cons, List.map_nil]); first | done | rfl) ?_
  refine (lookasideref10_place.calls _ _ A c l _ _ _ (Kd.C_below HC0.out (below_of_grown HG.out)) HCC.out HPL.out).mono ?_
  rintro x0 wn ⟨rfl, hb⟩
  have hg := below_grown hb
  replace HG := Aside0.mk (grown_two HG.out hg)
  replace HB2 := Aside0.mk (blk_grown HB2.out hg)
  replace HB4 := Aside0.mk (blk_grown HB4.out hg)
  replace HB3 := Aside0.mk (blk_grown HB3.out hg)
  have hs : wn.heap[h2]? = some (.cells #[.int .i64 (s : Int), .int .i64 (N : Int), .slice A l.length c] 44 (0, 0)) ∧ wn.heap[h3]? = some (.cells (geA g) 50 (0, 0)) := ⟨blk_grown hHeld.1 hg, blk_grown hHeld.2 hg⟩
  replace HB5 := Aside0.mk (blk_grown HB5.out hg)
  clear hg hb
  refine ⟨_, rfl, ?_⟩
  refine hK.out _ _ hs (fun hHeld => ?_)
  clear hK K
  refine norm_ (a' := ?_) ?_ ?_
  rotate_left
  ·show Act.put _ (some 10) _ = _
   simp only [ap_]
   rfl
  refine one_ (i := 5) (N := some 11) #[true, true, true, true, true, true, true, false] rfl rfl (one_of HT_.out (by kernel_rfl)) (by decide) (fun K hK => ?_)
  refine goes_ Try.func99 (by kernel_rfl) rfl #[.agg #[.int .i64 (s : Int), .int .i64 (N : Int), .slice A l.length c], .int .i64 (i : Int)] (by rfl) rfl rfl (by (try simp only [List.map_toArray, List.map_cons, List.map_nil]); first | done | rfl) ?_
  refine (lookasideref10_Get.calls (l.length + 1) _ _ A c l _ _ _ _ _ (Kd.C_below HC0.out (below_of_grown HG.out)) HCC.out HGT.out).mono ?_
  rintro x0 wn ⟨rfl, hb⟩
  have hg := below_grown hb
  replace HG := Aside0.mk (grown_two HG.out hg)
  replace HB2 := Aside0.mk (blk_grown HB2.out hg)
  replace HB4 := Aside0.mk (blk_grown HB4.out hg)
  replace HB3 := Aside0.mk (blk_grown HB3.out hg)
  have hs : wn.heap[h2]? = some (.cells #[.int .i64 (s : Int), .int .i64 (N : Int), .slice A l.length c] 44 (0, 0)) ∧ wn.heap[h3]? = some (.cells (geA g) 50 (0, 0)) := ⟨blk_grown hHeld.1 hg, blk_grown hHeld.2 hg⟩
  replace HB5 := Aside0.mk (blk_grown HB5.out hg)
  clear hg hb
  refine ⟨_, rfl, ?_⟩
  refine hK.out _ _ hs (fun hHeld => ?_)
  clear hK K
  refine norm_ (a' := ?_) ?_ ?_
  rotate_left
  ·show Act.put _ (some 11) _ = _
   simp only [ap_]
   rfl
  refine one_ (i := 7) (N := none) #[true, true, true, true, true, true, true, true] rfl rfl (one_of HT_.out (by kernel_rfl)) (by decide) (fun K hK => ?_)
  rw [if_pos (by rfl)]
  refine wp_store_row 122 (.tmp 5) (.tmp 11) rfl h5 #[.int .i64 (i : Int), .int .u64 t0, .int .u64 d0] rfl rfl 122 #[.int .i64 0, .int .u64 0, .int .u64 0] HB5.out (by kernel_rfl) rfl (by kernel_rfl) ?_
  have hb2 := setRow_heap wn h5 _ #[.int .i64 (i : Int), .int .u64 t0, .int .u64 d0] _ _ HB5.out
  have hgr := grown_row wn h5 #[.int .i64 (i : Int), .int .u64 t0, .int .u64 d0]
  replace HG := Aside0.mk (grown_loc HG.out hgr HN5.out.1)
  replace HB2 := Aside0.mk ((hgr.block h2 (blk_lt HB2.out) (fun e => HN5.out.2.1 (Option.some.inj e))).trans HB2.out)
  replace HB4 := Aside0.mk ((hgr.block h4 (blk_lt HB4.out) (fun e => HN5.out.2.2.1 (Option.some.inj e))).trans HB4.out)
  replace HB3 := Aside0.mk ((hgr.block h3 (blk_lt HB3.out) (fun e => HN5.out.2.2.2 (Option.some.inj e))).trans HB3.out)
  have hs : (World.setRow wn h5 #[.int .i64 (i : Int), .int .u64 t0, .int .u64 d0]).heap[h2]? = some (.cells #[.int .i64 (s : Int), .int .i64 (N : Int), .slice A l.length c] 44 (0, 0)) ∧ (World.setRow wn h5 #[.int .i64 (i : Int), .int .u64 t0, .int .u64 d0]).heap[h3]? = some (.cells (geA g) 50 (0, 0)) := ⟨HB2.out, HB3.out⟩
  generalize World.setRow wn h5 #[.int .i64 (i : Int), .int .u64 t0, .int .u64 d0] = wb at hb2 hs HG HB2 HB4 HB3 ⊢
  replace HB5 := Aside0.mk hb2
  clear hgr hb2
  refine hK.out _ _ hs (fun hHeld => ?_)
  clear hK K
  refine norm_ (a' := ?_) ?_ ?_
  rotate_left
  ·show Act.put _ none _ = _
   rfl
  refine done_ (done_of HT_.out (by kernel_rfl)) ?_
 all_goals
  have hz3 := tte_Read.cz11 HB3.out
  obtain ⟨z0, z1, z2, z3, z4, z5, z6, z7, z8, z9, z10⟩ := hz3
  clear hHeld
  go_upto_region 3 with (go_at_call 103; refine (lookasideref03_Data.calls 500 _ _ _ _ _ _ _ _ _ _ _ _ _ HEF.out).mono ?_; rintro e wm ⟨rfl, hb⟩; have hg := below_grown hb; replace HG := Aside0.mk (grown_two HG.out hg); replace HB2 := Aside0.mk (blk_grown HB2.out hg); replace HB4 := Aside0.mk (blk_grown HB4.out hg); replace HB5 := Aside0.mk (blk_grown HB5.out hg); obtain ⟨u0, u1, u2⟩ := cz3q HB5.out; have zf := blk_frozen HB5.out 2; clear hg hb)
  clear zf u0 u1 u2 z0 z1 z2 z3 z4 z5 z6 z7 z8 z9 z10
  have hgc := grown_cellq wm ⟨h5, 2, none⟩ (.int .u64 (g.data : Int))
  have hk5 : ∀ k, some h5 = some k → ∃ cs, wm.heap[k]? = some (.cells cs 122 (0, 0)) := fun k e => by cases e; exact ⟨_, HB5.out⟩
  have hb5 : (wm.setCell ⟨h5, 2, none⟩ (.int .u64 (g.data : Int))).heap[h5]? = some (.cells #[.int .i64 (i : Int), .int .u64 t0, .int .u64 (g.data : Int)] 122 (0, 0)) := blk_put HB5.out 2 (.int .u64 (g.data : Int)) rfl
  replace HB2 := Aside0.mk (blk_keptR HB2.out hgc hk5 (by decide))
  replace HB4 := Aside0.mk (blk_keptR HB4.out hgc hk5 (by decide))
  replace HG := Aside0.mk (below_grownW HG.out hgc (fun k e => by obtain rfl : h5 = k := Option.some.inj e; exact HN5.out.1))
  generalize wm.setCell ⟨h5, 2, none⟩ (.int .u64 (g.data : Int)) = wq at hb5 HB2 HB4 HG ⊢
  replace HB5 := Aside0.mk hb5
  clear hgc hk5 hb5
  obtain ⟨q0, q1, q2⟩ := cz3q HB2.out
  obtain ⟨u0, u1, u2⟩ := cz3q HB5.out
  go_wp2_with fail
  refine (lookasideref10_put.calls (l.length + 1) _ _ A c l _ _ _ _ _ _ _ (Kd.C_below HC0.out (below_of_grown HG.out)) HCC.out HPT.out).mono ?_
  rintro x0 wr ⟨v2, rfl, hR, hb⟩
  obtain ⟨A2, c2, rfl⟩ := Kd.R_slice hR
  have hg := below_grown hb
  have HR := Aside0.mk (Kd.R_lower hR HG.out.size)
  replace HG := Aside0.mk (grown_two HG.out hg)
  replace HB4 := Aside0.mk (blk_grown HB4.out hg)
  have HLN := Aside0.mk (show True from trivial)
  clear hR hb hg q0 q1 q2 u0 u1 u2
  go_wp2_with (((with_reducible refine gate_store (t := 44) (p := 4) rfl ?_); refine wpList_store_row rfl 44 (.tmp 4) (.tmp 17) rfl h4 #[.int .i64 (s : Int), .int .i64 (N : Int), .slice A2 (pW l (i : Int) (gW l (i : Int)).1 (g.data : Int)).length c2] rfl rfl 44 _ HB4.out (by kernel_rfl) rfl (by kernel_rfl) ?_; have SHB4 := Aside0.mk (setRow_heap _ h4 _ #[.int .i64 (s : Int), .int .i64 (N : Int), .slice A2 (pW l (i : Int) (gW l (i : Int)).1 (g.data : Int)).length c2] _ _ HB4.out); have THB4 := Aside0.mk (grown_row wr h4 #[.int .i64 (s : Int), .int .i64 (N : Int), .slice A2 (pW l (i : Int) (gW l (i : Int)).1 (g.data : Int)).length c2])))
  replace HR := Aside0.mk (Kd.R_mono (ok' := fun _ => True) (Kd.R_grown (Kd.R_types HR.out HB4.out (by decide)) THB4.out (fun k hk e => hk.2 (Option.some.inj e))) (fun _ _ => trivial))
  replace HG := Aside0.mk (grown_loc HG.out THB4.out (by have := HH.out; omega))
  obtain ⟨q0, q1, q2⟩ := cz3q SHB4.out
  exact bodyPost_ret (v := .agg #[.int .i64 (s : Int), .int .i64 (N : Int), .slice A2 (pW l (i : Int) (gW l (i : Int)).1 (g.data : Int)).length c2]) (by simp [results, Try.f68, go_sem, q0, q1, q2]) rfl ⟨_, rfl, HR.out, HG.out⟩
end
end Go.Proofs.Ytjnffegjpkbjmaa.Mem
-- halved
