/- The document's Find, Drop, Locked and DropContext, whatever the words are. -/
import Derived.Test.YtjnffegjpkbjmaaTpX
namespace Go.Proofs.Ytjnffegjpkbjmaa.Mem
open Go.RowKit Go.Maps Go.Proofs.YtjnffegjpkbjmaaW.PrintWords Go.Proofs.YtjnffegjpkbjmaaW.PrintLast Go.Proofs.YtjnffegjpkbjmaaW.PrintMore Go.Proofs.Ytjnffegjpkbjmaa.QTsbPlays Go.Proofs.Ytjnffegjpkbjmaa.Pure
set_option linter.unusedSimpArgs false
set_option linter.unusedVariables false
section
set_option maxHeartbeats 2000000
set_option maxRecDepth 100000
noncomputable def rfind1_T : Bool × List (List Nat × List Nat) := rtab .any (opsOf Try.f79 1)
theorem rfind1_tab : rtab .any (opsOf Try.f79 1) = rfind1_T := rfl
theorem hits_row (o : Option GE) (ho : ∀ g, o = some g → g.ok) (va : Nat) (hva : va < 18446744073709551616) (ctx : Int) : ∃ r, lookasideref03_Hits.f (rowE o).f0 (rowE o).f1 (rowE o).f2 (rowE o).f3 (rowE o).f4.f0 (rowE o).f4.f1 (rowE o).f4.f2 (rowE o).f4.f3 (rowE o).f4.f4 (rowE o).f4.f5 (rowE o).f5 (va : Int) ctx = some r ∧ findO o va ctx = if r = true then o else none := by
 cases o with
 | none => exact ⟨_, rHits 0 0 0 ctx 0 va false false false false false false false (by decide) hva, by split <;> rfl⟩
 | some g => exact ⟨_, (ho g rfl).rhits hva ctx, rfl⟩
theorem rfind_W {N s base : Nat} {sz : Int} (b : TB base N s sz) {ws : Nat → Wd} (hok : WOK N s ws) {A : Option Addr} {c : Nat} {l : List WS} (hdw : DWw N ws l) (va : Nat) (hva : va < 18446744073709551616) (ctx : Int) {W : World} (hC : Kd.C k122 W A l.length l) (hc : l.length ≤ c) (hl : l.length ≤ 900000) :
  Calls Try.prog 79 #[.agg #[.int .i64 (s : Int), .int .i64 (N : Int), .slice A l.length c], .int .u64 (va : Int), .int .i64 ctx] W fun e W' => e = .returned (foundV (findO (readW (ws (plcOf N (s : Int) va)) va) va ctx)) ∧ W.grownBy W' none := by
 have hu := Try.underlying44
 have hu2 := Try.underlying50
 obtain ⟨i, hi⟩ : ∃ i, i = plcOf N (s : Int) va := ⟨_, rfl⟩
 have hiN : i < N := by rw [hi]; exact b.in va
 have HPL := Aside0.mk (show lookasideref10_place.f (s : Int) (N : Int) l (va : Int) = some (i : Int) from by rw [hi]; exact plc_f va hva s N b.hs b.h1 (by have := b.hN; omega) l)
 have HWI := Aside0.mk (show (ws i).1 < 18446744073709551616 ∧ (ws i).2 < 18446744073709551616 ∧ va < 18446744073709551616 ∧ ROK s (ws i).1 (ws i).2 va ∧ gW l (i : Int) = (((ws i).1 : Int), ((ws i).2 : Int)) from ⟨(hok i hiN).1, (hok i hiN).2.1, hva, hok.rok hiN hva, hdw i hiN⟩)
 rw [← hi]
 obtain ⟨od, hod⟩ : ∃ z, z = readW (ws i) va := ⟨_, rfl⟩
 have hgo : ∀ g, od = some g → g.ok := fun g hg => by
  rcases readW_spec (ws i) va hva with ⟨hn, _⟩ | ⟨g', hg', _, hk, _⟩
  ·rw [hod, hn] at hg; cases hg
  ·rw [hod, hg'] at hg; cases hg; exact hk
 obtain ⟨r, hr, hf⟩ := hits_row od hgo va hva ctx
 obtain ⟨er, her⟩ : ∃ z, z = rowE (readW ((ws i).1, (ws i).2) va) := ⟨_, rfl⟩
 obtain ⟨fs, hfs⟩ : ∃ z, z = (readW ((ws i).1, (ws i).2) va).isSome := ⟨_, rfl⟩
 have her2 : er = rowE od := by rw [her, hod]
 have hfs2 : fs = od.isSome := by rw [hfs, hod]
 rw [← her2] at hr
 have HER := Aside0.mk her.symm
 have HFS := Aside0.mk hfs.symm
 have HHT := Aside0.mk hr
 have HFO := Aside0.mk (And.intro her2 (And.intro hfs2 (And.intro hf hod)))
 clear hi hiN hod hgo hr hf her hfs her2 hfs2 hva
 have HTB := Aside0.mk b
 have HOK := Aside0.mk hok
 have HDW := Aside0.mk hdw
 have HC0 := Aside0.mk hC
 have HCC := Aside0.mk hc
 have HLL := Aside0.mk hl
 clear hC hc hok hdw b hl
 have hgb0 := World.grownBy_alloc (W) (.cells #[.int .i64 (s : Int), .int .i64 (N : Int), .slice A l.length c] 44) none
 have hb2 := heap_alloc_new (W) (.cells #[.int .i64 (s : Int), .int .i64 (N : Int), .slice A l.length c] 44)
 have hgb1 := World.grownBy_alloc ((W).alloc (.cells #[.int .i64 (s : Int), .int .i64 (N : Int), .slice A l.length c] 44)) (.cells #[.int .i64 0, .int .i64 0, .int .u64 0, .int .u64 0, .bool false, .bool false, .bool false, .bool false, .bool false, .bool false, .bool false] 50) none
 have hb3 := heap_alloc_new ((W).alloc (.cells #[.int .i64 (s : Int), .int .i64 (N : Int), .slice A l.length c] 44)) (.cells #[.int .i64 0, .int .i64 0, .int .u64 0, .int .u64 0, .bool false, .bool false, .bool false, .bool false, .bool false, .bool false, .bool false] 50)
 have hz1 : ((W).alloc (.cells #[.int .i64 (s : Int), .int .i64 (N : Int), .slice A l.length c] 44)).heap.size = W.heap.size + 1 := by simp only [World.size_alloc]
 rw [hz1] at hb3
 have HG := Aside0.mk (grown_two hgb0 hgb1)
 have HB2 := Aside0.mk (blk_grown hb2 hgb1)
 have HB3 := Aside0.mk hb3
 clear hgb0 hgb1 hb2 hb3 hz1
 obtain ⟨h2, hh2⟩ : ∃ z, z = W.heap.size := ⟨_, rfl⟩
 obtain ⟨h3, hh3⟩ : ∃ z, z = W.heap.size + 1 := ⟨_, rfl⟩
 have HH := Aside0.mk (And.intro hh2 hh3)
 go_enter Try.func79, Try.ntmps79
 go_upto_region 1 with fail
 rw [← hh2] at HB2
 rw [← hh3] at HB3
 rw [← hh3, ← hh2]
 clear hh2 hh3
 generalize (W.alloc (.cells #[.int .i64 (s : Int), .int .i64 (N : Int), .slice A l.length c] 44)).alloc (.cells #[.int .i64 0, .int .i64 0, .int .u64 0, .int .u64 0, .bool false, .bool false, .bool false, .bool false, .bool false, .bool false, .bool false] 50) = w1 at HG HB2 HB3 ⊢
 replace HG := Aside0.mk (grown_two HG.out (grown_drew w1 none))
 replace HB2 := Aside0.mk (blk_grown HB2.out (grown_drew w1 none))
 replace HB3 := Aside0.mk (blk_grown HB3.out (grown_drew w1 none))
 refine start_ (n := 12) (S := fun w' => w'.heap[h2]? = some (.cells #[.int .i64 (s : Int), .int .i64 (N : Int), .slice A l.length c] 44 (0, 0))) (ds := []) #[false, false, false, false, false, false, false, false, false, false, false, false] (by kernel_rfl) rfl rfl HB2.out (fun hHeld => ?_)
 refine with_tab rfind1_tab (fun HT_ => ?_)
 refine pure_ (i := 2) (N := some 14) (v := ?_) (a' := ?_) #[false, false, true, false, false, false, false, false, false, false, false, false] rfl rfl (any_of HT_.out (by kernel_rfl)) (fun _ _ _ h => h) (Or.inl ⟨by rfl, ?_⟩) ?_ ?_
 rotate_left
 ·intro w'
  go_simp
  with_reducible rfl
 rotate_left
 ·simp only [ap_]
  rfl
 refine pure_ (i := 4) (N := some 16) (v := ?_) (a' := ?_) #[false, false, true, false, true, false, false, false, false, false, false, false] rfl rfl (any_of HT_.out (by kernel_rfl)) (fun _ _ _ h => h) (Or.inl ⟨by rfl, ?_⟩) ?_ ?_
 rotate_left
 ·intro w'
  go_simp
  with_reducible rfl
 rotate_left
 ·simp only [ap_]
  rfl
 refine take_ (i := 0) (N := some 12) (v := .agg #[.int .i64 (s : Int), .int .i64 (N : Int), .slice A l.length c]) (a' := ?_) #[true, false, true, false, true, false, false, false, false, false, false, false] rfl rfl (take_of HT_.out (by kernel_rfl)) (fun _ _ _ h => h) (Or.inl ⟨by rfl, ?_⟩) hHeld ?_ ?_
 ·rintro w' s1
  obtain ⟨q0, q1, q2⟩ := cz3q s1
  go_simp
 rotate_left
 ·simp only [ap_]
  rfl
 refine take_ (i := 1) (N := some 13) (v := .agg #[.int .i64 (s : Int), .int .i64 (N : Int), .slice A l.length c]) (a' := ?_) #[true, true, true, false, true, false, false, false, false, false, false, false] rfl rfl (take_of HT_.out (by kernel_rfl)) (fun _ _ _ h => h) (Or.inl ⟨by rfl, ?_⟩) hHeld ?_ ?_
 ·rintro w' s1
  obtain ⟨q0, q1, q2⟩ := cz3q s1
  go_simp
 rotate_left
 ·simp only [ap_]
  rfl
 refine two_ (i := 3) (j := 9) (Ni := some 15) (Nj := some 8) #[true, true, true, true, true, false, false, false, false, false, false, false] #[true, true, true, false, true, false, false, false, false, true, false, false] rfl rfl rfl rfl (two_of HT_.out (by kernel_rfl)) (by decide) (by decide) (fun K hK => ?_) (fun K hK => ?_)
 focus
  refine goes_ Try.func100 (by kernel_rfl) rfl #[.agg #[.int .i64 (s : Int), .int .i64 (N : Int), .slice A l.length c], .int .u64 (va : Int)] (by rfl) rfl rfl (by (try simp only [List.map_toArray, List.map_cons, List.map_nil]); first | done | rfl) ?_
  refine (lookasideref10_place.calls _ _ A c l _ _ _ (Kd.C_below HC0.out (below_of_grown HG.out)) HCC.out HPL.out).mono ?_
  rintro x0 wn ⟨rfl, hb⟩
  have hg := below_grown hb
  replace HG := Aside0.mk (grown_two HG.out hg)
  replace HB2 := Aside0.mk (blk_grown HB2.out hg)
  replace HB3 := Aside0.mk (blk_grown HB3.out hg)
  have hs : wn.heap[h2]? = some (.cells #[.int .i64 (s : Int), .int .i64 (N : Int), .slice A l.length c] 44 (0, 0)) := blk_grown hHeld hg
  clear hg hb
  refine ⟨_, rfl, ?_⟩
  refine hK.out _ _ hs (fun hHeld => ?_)
  clear hK K
  refine norm_ (a' := ?_) ?_ ?_
  rotate_left
  ·show Act.put _ (some 15) _ = _
   simp only [ap_]
   rfl
  refine two_ (i := 5) (j := 9) (Ni := some 17) (Nj := some 8) #[true, true, true, true, true, true, false, false, false, false, false, false] #[true, true, true, true, true, false, false, false, false, true, false, false] rfl rfl rfl rfl (two_of HT_.out (by kernel_rfl)) (by decide) (by decide) (fun K hK => ?_) (fun K hK => ?_)
  focus
   refine goes_ Try.func109 (by kernel_rfl) rfl #[.agg #[.int .i64 (s : Int), .int .i64 (N : Int), .slice A l.length c], .int .i64 (i : Int), .int .u64 (va : Int)] (by rfl) rfl rfl (by (try simp only [List.map_toArray, List.map_cons, List.map_nil]); first | done | rfl) ?_
   refine (read10_calls HWI.out.1 HWI.out.2.1 HWI.out.2.2.1 HWI.out.2.2.2.1 HWI.out.2.2.2.2 (Kd.C_below HC0.out (below_of_grown HG.out)) HCC.out (by have := HLL.out; omega)).mono ?_
   rintro x0 wn ⟨hx0, hg⟩
   obtain rfl : x0 = .returned (.tuple #[.agg (entA er), .bool fs]) := by rw [hx0, foundV_row, HER.out, HFS.out]
   clear hx0
   replace HG := Aside0.mk (grown_two HG.out hg)
   replace HB2 := Aside0.mk (blk_grown HB2.out hg)
   replace HB3 := Aside0.mk (blk_grown HB3.out hg)
   have hs : wn.heap[h2]? = some (.cells #[.int .i64 (s : Int), .int .i64 (N : Int), .slice A l.length c] 44 (0, 0)) := blk_grown hHeld hg
   clear hg
   refine ⟨_, rfl, ?_⟩
   refine hK.out _ _ hs (fun hHeld => ?_)
   clear hK K
   refine norm_ (a' := ?_) ?_ ?_
   rotate_left
   ·show Act.put _ (some 17) _ = _
    simp only [ap_]
    rfl
   refine pure_ (i := 6) (N := some 11) (v := ?_) (a' := ?_) #[true, true, true, true, true, true, true, false, false, false, false, false] rfl rfl (any_of HT_.out (by kernel_rfl)) (fun _ _ _ h => h) (Or.inl ⟨by rfl, ?_⟩) ?_ ?_
   rotate_left
   ·intro w'
    go_simp
    with_reducible rfl
   rotate_left
   ·simp only [ap_]
    rfl
   refine pure_ (i := 7) (N := some 18) (v := ?_) (a' := ?_) #[true, true, true, true, true, true, true, true, false, false, false, false] rfl rfl (any_of HT_.out (by kernel_rfl)) (fun _ _ _ h => h) (Or.inl ⟨by rfl, ?_⟩) ?_ ?_
   rotate_left
   ·intro w'
    go_simp
    with_reducible rfl
   rotate_left
   ·simp only [ap_]
    rfl
   refine pure_ (i := 8) (N := some 19) (v := ?_) (a' := ?_) #[true, true, true, true, true, true, true, true, true, false, false, false] rfl rfl (any_of HT_.out (by kernel_rfl)) (fun _ _ _ h => h) (Or.inl ⟨by rfl, ?_⟩) ?_ ?_
   rotate_left
   ·intro w'
    go_simp
    with_reducible rfl
   rotate_left
   ·simp only [ap_]
    rfl
   refine one_ (i := 9) (N := some 8) #[true, true, true, true, true, true, true, true, true, true, false, false] rfl rfl (one_of HT_.out (by kernel_rfl)) (by decide) (fun K hK => ?_)
   refine box_step ?hg (N := 8) ?hd (cs := #[.int .i64 0, .int .i64 0, .int .u64 0, .int .u64 0, .bool false, .bool false, .bool false, .bool false, .bool false, .bool false, .bool false]) (t := 50) ?hr ?_; (case hd => rfl); (case hg => rfl); (case hr => first | (go_simp; done) | (go_simp; rfl))
   intro h8 hg8 wn hbox hb
   have HB8 := Aside0.mk hbox
   have HN8 := Aside0.mk (show W.heap.size ≤ h8 ∧ h2 ≠ h8 ∧ h3 ≠ h8 from ⟨by rw [hg8]; exact HG.out.size, fun e => by have := blk_lt HB2.out; omega, fun e => by have := blk_lt HB3.out; omega⟩)
   have hg := below_grown hb
   replace HG := Aside0.mk (grown_two HG.out hg)
   replace HB2 := Aside0.mk (blk_grown HB2.out hg)
   replace HB3 := Aside0.mk (blk_grown HB3.out hg)
   have hs : wn.heap[h2]? = some (.cells #[.int .i64 (s : Int), .int .i64 (N : Int), .slice A l.length c] 44 (0, 0)) := blk_grown hHeld hg
   clear hg hg8 hbox hb
   refine hK.out _ _ hs (fun hHeld => ?_)
   clear hK K
   refine norm_ (a' := ?_) ?_ ?_
   rotate_left
   ·show Act.put _ (some 8) _ = _
    simp only [ap_]
    rfl
   refine one_ (i := 10) (N := none) #[true, true, true, true, true, true, true, true, true, true, true, false] rfl rfl (one_of HT_.out (by kernel_rfl)) (by decide) (fun K hK => ?_)
   rw [if_pos (by rfl)]
   refine wp_store_row 50 (.tmp 8) (.tmp 18) rfl h8 (entA er) rfl rfl 50 #[.int .i64 0, .int .i64 0, .int .u64 0, .int .u64 0, .bool false, .bool false, .bool false, .bool false, .bool false, .bool false, .bool false] HB8.out (by kernel_rfl) rfl (by kernel_rfl) ?_
   have hb2 := setRow_heap wn h8 _ (entA er) _ _ HB8.out
   have hgr := grown_row wn h8 (entA er)
   replace HG := Aside0.mk (grown_loc HG.out hgr HN8.out.1)
   replace HB2 := Aside0.mk ((hgr.block h2 (blk_lt HB2.out) (fun e => HN8.out.2.1 (Option.some.inj e))).trans HB2.out)
   replace HB3 := Aside0.mk ((hgr.block h3 (blk_lt HB3.out) (fun e => HN8.out.2.2 (Option.some.inj e))).trans HB3.out)
   have hs : (World.setRow wn h8 (entA er)).heap[h2]? = some (.cells #[.int .i64 (s : Int), .int .i64 (N : Int), .slice A l.length c] 44 (0, 0)) := HB2.out
   generalize World.setRow wn h8 (entA er) = wb at hb2 hs HG HB2 HB3 ⊢
   replace HB8 := Aside0.mk hb2
   clear hgr hb2
   refine hK.out _ _ hs (fun hHeld => ?_)
   clear hK K
   refine norm_ (a' := ?_) ?_ ?_
   rotate_left
   ·show Act.put _ none _ = _
    rfl
   refine pure_ (i := 11) (N := some 9) (v := ?_) (a' := ?_) #[true, true, true, true, true, true, true, true, true, true, true, true] rfl rfl (any_of HT_.out (by kernel_rfl)) (fun _ _ _ h => h) (Or.inl ⟨by rfl, ?_⟩) ?_ ?_
   rotate_left
   ·intro w'
    go_simp
    with_reducible rfl
   rotate_left
   ·simp only [ap_]
    rfl
   refine done_ (done_of HT_.out (by kernel_rfl)) ?_
  rotate_left
  focus
   refine box_step ?hg (N := 8) ?hd (cs := #[.int .i64 0, .int .i64 0, .int .u64 0, .int .u64 0, .bool false, .bool false, .bool false, .bool false, .bool false, .bool false, .bool false]) (t := 50) ?hr ?_; (case hd => rfl); (case hg => rfl); (case hr => first | (go_simp; done) | (go_simp; rfl))
   intro h8 hg8 wn hbox hb
   have HB8 := Aside0.mk hbox
   have HN8 := Aside0.mk (show W.heap.size ≤ h8 ∧ h2 ≠ h8 ∧ h3 ≠ h8 from ⟨by rw [hg8]; exact HG.out.size, fun e => by have := blk_lt HB2.out; omega, fun e => by have := blk_lt HB3.out; omega⟩)
   have hg := below_grown hb
   replace HG := Aside0.mk (grown_two HG.out hg)
   replace HB2 := Aside0.mk (blk_grown HB2.out hg)
   replace HB3 := Aside0.mk (blk_grown HB3.out hg)
   have hs : wn.heap[h2]? = some (.cells #[.int .i64 (s : Int), .int .i64 (N : Int), .slice A l.length c] 44 (0, 0)) := blk_grown hHeld hg
   clear hg hg8 hbox hb
   refine hK.out _ _ hs (fun hHeld => ?_)
   clear hK K
   refine norm_ (a' := ?_) ?_ ?_
   rotate_left
   ·show Act.put _ (some 8) _ = _
    simp only [ap_]
    rfl
   refine one_ (i := 5) (N := some 17) #[true, true, true, true, true, true, false, false, false, true, false, false] rfl rfl (one_of HT_.out (by kernel_rfl)) (by decide) (fun K hK => ?_)
   refine goes_ Try.func109 (by kernel_rfl) rfl #[.agg #[.int .i64 (s : Int), .int .i64 (N : Int), .slice A l.length c], .int .i64 (i : Int), .int .u64 (va : Int)] (by rfl) rfl rfl (by (try simp only [List.map_toArray, List.map_cons, List.map_nil]); first | done | rfl) ?_
   refine (read10_calls HWI.out.1 HWI.out.2.1 HWI.out.2.2.1 HWI.out.2.2.2.1 HWI.out.2.2.2.2 (Kd.C_below HC0.out (below_of_grown HG.out)) HCC.out (by have := HLL.out; omega)).mono ?_
   rintro x0 wn ⟨hx0, hg⟩
   obtain rfl : x0 = .returned (.tuple #[.agg (entA er), .bool fs]) := by rw [hx0, foundV_row, HER.out, HFS.out]
   clear hx0
   replace HG := Aside0.mk (grown_two HG.out hg)
   replace HB2 := Aside0.mk (blk_grown HB2.out hg)
   replace HB3 := Aside0.mk (blk_grown HB3.out hg)
   have hs : wn.heap[h2]? = some (.cells #[.int .i64 (s : Int), .int .i64 (N : Int), .slice A l.length c] 44 (0, 0)) := blk_grown hHeld hg
   replace HB8 := Aside0.mk (blk_grown HB8.out hg)
   clear hg
   refine ⟨_, rfl, ?_⟩
   refine hK.out _ _ hs (fun hHeld => ?_)
   clear hK K
   refine norm_ (a' := ?_) ?_ ?_
   rotate_left
   ·show Act.put _ (some 17) _ = _
    simp only [ap_]
    rfl
   refine pure_ (i := 6) (N := some 11) (v := ?_) (a' := ?_) #[true, true, true, true, true, true, true, false, false, true, false, false] rfl rfl (any_of HT_.out (by kernel_rfl)) (fun _ _ _ h => h) (Or.inl ⟨by rfl, ?_⟩) ?_ ?_
   rotate_left
   ·intro w'
    go_simp
    with_reducible rfl
   rotate_left
   ·simp only [ap_]
    rfl
   refine pure_ (i := 7) (N := some 18) (v := ?_) (a' := ?_) #[true, true, true, true, true, true, true, true, false, true, false, false] rfl rfl (any_of HT_.out (by kernel_rfl)) (fun _ _ _ h => h) (Or.inl ⟨by rfl, ?_⟩) ?_ ?_
   rotate_left
   ·intro w'
    go_simp
    with_reducible rfl
   rotate_left
   ·simp only [ap_]
    rfl
   refine pure_ (i := 8) (N := some 19) (v := ?_) (a' := ?_) #[true, true, true, true, true, true, true, true, true, true, false, false] rfl rfl (any_of HT_.out (by kernel_rfl)) (fun _ _ _ h => h) (Or.inl ⟨by rfl, ?_⟩) ?_ ?_
   rotate_left
   ·intro w'
    go_simp
    with_reducible rfl
   rotate_left
   ·simp only [ap_]
    rfl
   refine one_ (i := 10) (N := none) #[true, true, true, true, true, true, true, true, true, true, true, false] rfl rfl (one_of HT_.out (by kernel_rfl)) (by decide) (fun K hK => ?_)
   rw [if_pos (by rfl)]
   refine wp_store_row 50 (.tmp 8) (.tmp 18) rfl h8 (entA er) rfl rfl 50 #[.int .i64 0, .int .i64 0, .int .u64 0, .int .u64 0, .bool false, .bool false, .bool false, .bool false, .bool false, .bool false, .bool false] HB8.out (by kernel_rfl) rfl (by kernel_rfl) ?_
   have hb2 := setRow_heap wn h8 _ (entA er) _ _ HB8.out
   have hgr := grown_row wn h8 (entA er)
   replace HG := Aside0.mk (grown_loc HG.out hgr HN8.out.1)
   replace HB2 := Aside0.mk ((hgr.block h2 (blk_lt HB2.out) (fun e => HN8.out.2.1 (Option.some.inj e))).trans HB2.out)
   replace HB3 := Aside0.mk ((hgr.block h3 (blk_lt HB3.out) (fun e => HN8.out.2.2 (Option.some.inj e))).trans HB3.out)
   have hs : (World.setRow wn h8 (entA er)).heap[h2]? = some (.cells #[.int .i64 (s : Int), .int .i64 (N : Int), .slice A l.length c] 44 (0, 0)) := HB2.out
   generalize World.setRow wn h8 (entA er) = wb at hb2 hs HG HB2 HB3 ⊢
   replace HB8 := Aside0.mk hb2
   clear hgr hb2
   refine hK.out _ _ hs (fun hHeld => ?_)
   clear hK K
   refine norm_ (a' := ?_) ?_ ?_
   rotate_left
   ·show Act.put _ none _ = _
    rfl
   refine pure_ (i := 11) (N := some 9) (v := ?_) (a' := ?_) #[true, true, true, true, true, true, true, true, true, true, true, true] rfl rfl (any_of HT_.out (by kernel_rfl)) (fun _ _ _ h => h) (Or.inl ⟨by rfl, ?_⟩) ?_ ?_
   rotate_left
   ·intro w'
    go_simp
    with_reducible rfl
   rotate_left
   ·simp only [ap_]
    rfl
   refine done_ (done_of HT_.out (by kernel_rfl)) ?_
 rotate_left 2
 focus
  refine box_step ?hg (N := 8) ?hd (cs := #[.int .i64 0, .int .i64 0, .int .u64 0, .int .u64 0, .bool false, .bool false, .bool false, .bool false, .bool false, .bool false, .bool false]) (t := 50) ?hr ?_; (case hd => rfl); (case hg => rfl); (case hr => first | (go_simp; done) | (go_simp; rfl))
  intro h8 hg8 wn hbox hb
  have HB8 := Aside0.mk hbox
  have HN8 := Aside0.mk (show W.heap.size ≤ h8 ∧ h2 ≠ h8 ∧ h3 ≠ h8 from ⟨by rw [hg8]; exact HG.out.size, fun e => by have := blk_lt HB2.out; omega, fun e => by have := blk_lt HB3.out; omega⟩)
  have hg := below_grown hb
  replace HG := Aside0.mk (grown_two HG.out hg)
  replace HB2 := Aside0.mk (blk_grown HB2.out hg)
  replace HB3 := Aside0.mk (blk_grown HB3.out hg)
  have hs : wn.heap[h2]? = some (.cells #[.int .i64 (s : Int), .int .i64 (N : Int), .slice A l.length c] 44 (0, 0)) := blk_grown hHeld hg
  clear hg hg8 hbox hb
  refine hK.out _ _ hs (fun hHeld => ?_)
  clear hK K
  refine norm_ (a' := ?_) ?_ ?_
  rotate_left
  ·show Act.put _ (some 8) _ = _
   simp only [ap_]
   rfl
  refine one_ (i := 3) (N := some 15) #[true, true, true, true, true, false, false, false, false, true, false, false] rfl rfl (one_of HT_.out (by kernel_rfl)) (by decide) (fun K hK => ?_)
  refine goes_ Try.func100 (by kernel_rfl) rfl #[.agg #[.int .i64 (s : Int), .int .i64 (N : Int), .slice A l.length c], .int .u64 (va : Int)] (by rfl) rfl rfl (by (try simp only [List.map_toArray, List.map_cons, List.map_nil]); first | done | rfl) ?_
  refine (lookasideref10_place.calls _ _ A c l _ _ _ (Kd.C_below HC0.out (below_of_grown HG.out)) HCC.out HPL.out).mono ?_
  rintro x0 wn ⟨rfl, hb⟩
  have hg := below_grown hb
  replace HG := Aside0.mk (grown_two HG.out hg)
  replace HB2 := Aside0.mk (blk_grown HB2.out hg)
  replace HB3 := Aside0.mk (blk_grown HB3.out hg)
  have hs : wn.heap[h2]? = some (.cells #[.int .i64 (s : Int), .int .i64 (N : Int), .slice A l.length c] 44 (0, 0)) := blk_grown hHeld hg
  replace HB8 := Aside0.mk (blk_grown HB8.out hg)
  clear hg hb
  refine ⟨_, rfl, ?_⟩
  refine hK.out _ _ hs (fun hHeld => ?_)
  clear hK K
  refine norm_ (a' := ?_) ?_ ?_
  rotate_left
  ·show Act.put _ (some 15) _ = _
   simp only [ap_]
   rfl
  refine one_ (i := 5) (N := some 17) #[true, true, true, true, true, true, false, false, false, true, false, false] rfl rfl (one_of HT_.out (by kernel_rfl)) (by decide) (fun K hK => ?_)
  refine goes_ Try.func109 (by kernel_rfl) rfl #[.agg #[.int .i64 (s : Int), .int .i64 (N : Int), .slice A l.length c], .int .i64 (i : Int), .int .u64 (va : Int)] (by rfl) rfl rfl (by (try simp only [List.map_toArray, List.map_cons, List.map_nil]); first | done | rfl) ?_
  refine (read10_calls HWI.out.1 HWI.out.2.1 HWI.out.2.2.1 HWI.out.2.2.2.1 HWI.out.2.2.2.2 (Kd.C_below HC0.out (below_of_grown HG.out)) HCC.out (by have := HLL.out; omega)).mono ?_
  rintro x0 wn ⟨hx0, hg⟩
  obtain rfl : x0 = .returned (.tuple #[.agg (entA er), .bool fs]) := by rw [hx0, foundV_row, HER.out, HFS.out]
  clear hx0
  replace HG := Aside0.mk (grown_two HG.out hg)
  replace HB2 := Aside0.mk (blk_grown HB2.out hg)
  replace HB3 := Aside0.mk (blk_grown HB3.out hg)
  have hs : wn.heap[h2]? = some (.cells #[.int .i64 (s : Int), .int .i64 (N : Int), .slice A l.length c] 44 (0, 0)) := blk_grown hHeld hg
  replace HB8 := Aside0.mk (blk_grown HB8.out hg)
  clear hg
  refine ⟨_, rfl, ?_⟩
  refine hK.out _ _ hs (fun hHeld => ?_)
  clear hK K
  refine norm_ (a' := ?_) ?_ ?_
  rotate_left
  ·show Act.put _ (some 17) _ = _
   simp only [ap_]
   rfl
  refine pure_ (i := 6) (N := some 11) (v := ?_) (a' := ?_) #[true, true, true, true, true, true, true, false, false, true, false, false] rfl rfl (any_of HT_.out (by kernel_rfl)) (fun _ _ _ h => h) (Or.inl ⟨by rfl, ?_⟩) ?_ ?_
  rotate_left
  ·intro w'
   go_simp
   with_reducible rfl
  rotate_left
  ·simp only [ap_]
   rfl
  refine pure_ (i := 7) (N := some 18) (v := ?_) (a' := ?_) #[true, true, true, true, true, true, true, true, false, true, false, false] rfl rfl (any_of HT_.out (by kernel_rfl)) (fun _ _ _ h => h) (Or.inl ⟨by rfl, ?_⟩) ?_ ?_
  rotate_left
  ·intro w'
   go_simp
   with_reducible rfl
  rotate_left
  ·simp only [ap_]
   rfl
  refine pure_ (i := 8) (N := some 19) (v := ?_) (a' := ?_) #[true, true, true, true, true, true, true, true, true, true, false, false] rfl rfl (any_of HT_.out (by kernel_rfl)) (fun _ _ _ h => h) (Or.inl ⟨by rfl, ?_⟩) ?_ ?_
  rotate_left
  ·intro w'
   go_simp
   with_reducible rfl
  rotate_left
  ·simp only [ap_]
   rfl
  refine one_ (i := 10) (N := none) #[true, true, true, true, true, true, true, true, true, true, true, false] rfl rfl (one_of HT_.out (by kernel_rfl)) (by decide) (fun K hK => ?_)
  rw [if_pos (by rfl)]
  refine wp_store_row 50 (.tmp 8) (.tmp 18) rfl h8 (entA er) rfl rfl 50 #[.int .i64 0, .int .i64 0, .int .u64 0, .int .u64 0, .bool false, .bool false, .bool false, .bool false, .bool false, .bool false, .bool false] HB8.out (by kernel_rfl) rfl (by kernel_rfl) ?_
  have hb2 := setRow_heap wn h8 _ (entA er) _ _ HB8.out
  have hgr := grown_row wn h8 (entA er)
  replace HG := Aside0.mk (grown_loc HG.out hgr HN8.out.1)
  replace HB2 := Aside0.mk ((hgr.block h2 (blk_lt HB2.out) (fun e => HN8.out.2.1 (Option.some.inj e))).trans HB2.out)
  replace HB3 := Aside0.mk ((hgr.block h3 (blk_lt HB3.out) (fun e => HN8.out.2.2 (Option.some.inj e))).trans HB3.out)
  have hs : (World.setRow wn h8 (entA er)).heap[h2]? = some (.cells #[.int .i64 (s : Int), .int .i64 (N : Int), .slice A l.length c] 44 (0, 0)) := HB2.out
  generalize World.setRow wn h8 (entA er) = wb at hb2 hs HG HB2 HB3 ⊢
  replace HB8 := Aside0.mk hb2
  clear hgr hb2
  refine hK.out _ _ hs (fun hHeld => ?_)
  clear hK K
  refine norm_ (a' := ?_) ?_ ?_
  rotate_left
  ·show Act.put _ none _ = _
   rfl
  refine pure_ (i := 11) (N := some 9) (v := ?_) (a' := ?_) #[true, true, true, true, true, true, true, true, true, true, true, true] rfl rfl (any_of HT_.out (by kernel_rfl)) (fun _ _ _ h => h) (Or.inl ⟨by rfl, ?_⟩) ?_ ?_
  rotate_left
  ·intro w'
   go_simp
   with_reducible rfl
  rotate_left
  ·simp only [ap_]
   rfl
  refine done_ (done_of HT_.out (by kernel_rfl)) ?_
 all_goals
  clear hHeld
  obtain ⟨z0, z1, z2, z3, z4, z5, z6, z7, z8, z9, z10⟩ := tte_Read.cz11 HB8.out
  go_wp2_with fail
  refine (lookasideref03_Hits.calls _ _ _ _ _ _ _ _ _ _ _ _ _ _ _ HHT.out).mono ?_
  rintro x0 w5 ⟨rfl, hb⟩
  have hg := below_grown hb
  replace HG := Aside0.mk (grown_two HG.out hg)
  replace HB3 := Aside0.mk (blk_grown HB3.out hg)
  replace HB8 := Aside0.mk (blk_grown HB8.out hg)
  clear hg hb z0 z1 z2 z3 z4 z5 z6 z7 z8 z9 z10 HB2 HHT HER HFS
  obtain ⟨her2, hfs2, hf, hod⟩ := HFO.out
  have HQ := Aside0.mk (show findO (readW (ws i) va) va ctx = if r = true then od else none by rw [← hod, hf])
  clear HFO hod hf
  cases od with
  | none =>
   obtain rfl : fs = false := hfs2
   clear her2
   go_wp2_with (((with_reducible refine gate_store (t := 50) (p := 6) rfl ?_); refine wpList_store_row rfl 50 (.tmp 6) (.tmp 30) rfl h3 #[.int .i64 0, .int .i64 0, .int .u64 0, .int .u64 0, .bool false, .bool false, .bool false, .bool false, .bool false, .bool false, .bool false] rfl rfl 50 _ HB3.out (by kernel_rfl) rfl (by kernel_rfl) ?_; have SHB3 := Aside0.mk (setRow_heap _ h3 _ #[.int .i64 0, .int .i64 0, .int .u64 0, .int .u64 0, .bool false, .bool false, .bool false, .bool false, .bool false, .bool false, .bool false] _ _ HB3.out); have THB3 := Aside0.mk (grown_row w5 h3 #[.int .i64 0, .int .i64 0, .int .u64 0, .int .u64 0, .bool false, .bool false, .bool false, .bool false, .bool false, .bool false, .bool false])))
   obtain ⟨z0, z1, z2, z3, z4, z5, z6, z7, z8, z9, z10⟩ := tte_Read.cz11 SHB3.out
   exact bodyPost_ret (v := .tuple #[.agg #[.int .i64 0, .int .i64 0, .int .u64 0, .int .u64 0, .bool false, .bool false, .bool false, .bool false, .bool false, .bool false, .bool false], .bool false]) (by simp [results, Try.f79, go_sem, z0, z1, z2, z3, z4, z5, z6, z7, z8, z9, z10]) rfl ⟨by rw [HQ.out]; split <;> rfl, grown_loc HG.out THB3.out (by have := HH.out; omega)⟩
  | some g =>
   obtain rfl : fs = true := hfs2
   cases r with
   | false =>
    clear her2
    go_wp2_with (((with_reducible refine gate_store (t := 50) (p := 6) rfl ?_); refine wpList_store_row rfl 50 (.tmp 6) (.tmp 30) rfl h3 #[.int .i64 0, .int .i64 0, .int .u64 0, .int .u64 0, .bool false, .bool false, .bool false, .bool false, .bool false, .bool false, .bool false] rfl rfl 50 _ HB3.out (by kernel_rfl) rfl (by kernel_rfl) ?_; have SHB3 := Aside0.mk (setRow_heap _ h3 _ #[.int .i64 0, .int .i64 0, .int .u64 0, .int .u64 0, .bool false, .bool false, .bool false, .bool false, .bool false, .bool false, .bool false] _ _ HB3.out); have THB3 := Aside0.mk (grown_row w5 h3 #[.int .i64 0, .int .i64 0, .int .u64 0, .int .u64 0, .bool false, .bool false, .bool false, .bool false, .bool false, .bool false, .bool false])))
    obtain ⟨z0, z1, z2, z3, z4, z5, z6, z7, z8, z9, z10⟩ := tte_Read.cz11 SHB3.out
    exact bodyPost_ret (v := .tuple #[.agg #[.int .i64 0, .int .i64 0, .int .u64 0, .int .u64 0, .bool false, .bool false, .bool false, .bool false, .bool false, .bool false, .bool false], .bool false]) (by simp [results, Try.f79, go_sem, z0, z1, z2, z3, z4, z5, z6, z7, z8, z9, z10]) rfl ⟨by rw [HQ.out]; rfl, grown_loc HG.out THB3.out (by have := HH.out; omega)⟩
   | true =>
    obtain rfl : er = geS g := her2
    replace HB8 := Aside0.mk (show w5.heap[h8]? = some (.cells (geA g) 50 (0, 0)) from HB8.out)
    obtain ⟨z0, z1, z2, z3, z4, z5, z6, z7, z8, z9, z10⟩ := tte_Read.cz11 HB8.out
    go_wp2_with (((with_reducible refine gate_store (t := 50) (p := 6) rfl ?_); refine wpList_store_row rfl 50 (.tmp 6) (.tmp 31) rfl h3 (geA g) rfl rfl 50 _ HB3.out (by kernel_rfl) rfl (by kernel_rfl) ?_; have SHB3 := Aside0.mk (setRow_heap _ h3 _ (geA g) _ _ HB3.out); have THB3 := Aside0.mk (grown_row w5 h3 (geA g))))
    clear z0 z1 z2 z3 z4 z5 z6 z7 z8 z9 z10
    obtain ⟨z0, z1, z2, z3, z4, z5, z6, z7, z8, z9, z10⟩ := tte_Read.cz11 SHB3.out
    exact bodyPost_ret (v := .tuple #[.agg (geA g), .bool true]) (by simp [results, Try.f79, go_sem, z0, z1, z2, z3, z4, z5, z6, z7, z8, z9, z10]) rfl ⟨by rw [HQ.out]; rfl, grown_loc HG.out THB3.out (by have := HH.out; omega)⟩
end
end Go.Proofs.Ytjnffegjpkbjmaa.Mem
-- halved
