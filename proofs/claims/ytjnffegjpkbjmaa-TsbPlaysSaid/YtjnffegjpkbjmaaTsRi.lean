/- What the document makes of a TSB's words: Insert. -/
import Derived.Test.YtjnffegjpkbjmaaTsRf
namespace Go.Proofs.Ytjnffegjpkbjmaa.Mem
open Go.RowKit Go.Maps Go.Proofs.YtjnffegjpkbjmaaW.PrintWords Go.Proofs.YtjnffegjpkbjmaaW.PrintLast Go.Proofs.YtjnffegjpkbjmaaW.PrintMore Go.Proofs.Ytjnffegjpkbjmaa.QTsbPlays Go.Proofs.Ytjnffegjpkbjmaa.Pure
set_option linter.unusedSimpArgs false
set_option linter.unusedVariables false
section
set_option maxHeartbeats 2000000
set_option maxRecDepth 100000
/-- The document's words behind Insert. -/
def insW (l : List WS) (i tag data : Int) : List WS :=
 let l1 := pW l i 9223372036854775807 (gW l i).2
 let l2 := pW l1 i (gW l1 i).1 data
 pW l2 i tag (gW l2 i).2
theorem insW_len (l : List WS) (i t d : Int) : (insW l i t d).length ≤ l.length + 3 := by
 unfold insW
 have h1 := pW_len l i 9223372036854775807 (gW l i).2
 have h2 := pW_len (pW l i 9223372036854775807 (gW l i).2) i (gW (pW l i 9223372036854775807 (gW l i).2) i).1 d
 have h3 := pW_len (pW (pW l i 9223372036854775807 (gW l i).2) i (gW (pW l i 9223372036854775807 (gW l i).2) i).1 d) i t (gW (pW (pW l i 9223372036854775807 (gW l i).2) i (gW (pW l i 9223372036854775807 (gW l i).2) i).1 d) i).2
 simp only
 omega
noncomputable def rinsert1_T : Bool × List (List Nat × List Nat) := rtab .any (opsOf Try.f30 1)
theorem rinsert1_tab : rtab .any (opsOf Try.f30 1) = rinsert1_T := rfl
theorem rinsert_calls {s N : Nat} (hs4 : s < 4) (h1 : 1 ≤ N) (hN : N ≤ 4096) {A : Option Addr} {c : Nat} {l : List WS} (g : GE) (hgo : g.ok) (hgs : g.s = s) {W : World} (hC : Kd.C k122 W A l.length l) (hc : l.length ≤ c) (hl : l.length ≤ 900000) :
  Calls Try.prog 30 #[.agg #[.int .i64 (s : Int), .int .i64 (N : Int), .slice A l.length c], .agg (geA g)] W fun e W' => ∃ v, e = .returned (.agg #[.int .i64 (s : Int), .int .i64 (N : Int), v]) ∧ Kd.R k122 122 W' W.heap.size (fun _ => True) v (insW l (plcOf N (s : Int) g.v : Int) (g.tag : Int) (g.data : Int)) ∧ W.grownBy W' none := by
 have hu := Try.underlying44
 have hu3 := Try.underlying50
 have HC0 := Aside0.mk hC
 have HCC := Aside0.mk hc
 have HGO := Aside0.mk hgo
 have HGS := Aside0.mk hgs
 obtain ⟨i, hi⟩ : ∃ i, i = plcOf N (s : Int) g.v := ⟨_, rfl⟩
 rw [← hi]
 have HI := Aside0.mk hi.symm
 clear hi
 obtain ⟨l1, hl1⟩ : ∃ z, z = pW l (i : Int) 9223372036854775807 (gW l (i : Int)).2 := ⟨_, rfl⟩
 obtain ⟨l2, hl2⟩ : ∃ z, z = pW l1 (i : Int) (gW l1 (i : Int)).1 (g.data : Int) := ⟨_, rfl⟩
 obtain ⟨l3, hl3⟩ : ∃ z, z = pW l2 (i : Int) (g.tag : Int) (gW l2 (i : Int)).2 := ⟨_, rfl⟩
 have HIN := Aside0.mk (show insW l (i : Int) (g.tag : Int) (g.data : Int) = l3 from by rw [hl3, hl2, hl1]; rfl)
 have HL1 := Aside0.mk hl1
 have HL2 := Aside0.mk hl2
 have HL3 := Aside0.mk hl3
 have HLN := Aside0.mk (show l.length ≤ 900000 ∧ l1.length ≤ 900001 ∧ l2.length ≤ 900002 from by
  have e1 := pW_len l (i : Int) 9223372036854775807 (gW l (i : Int)).2
  have e2 := pW_len l1 (i : Int) (gW l1 (i : Int)).1 (g.data : Int)
  rw [← hl1] at e1
  rw [← hl2] at e2
  omega)
 rw [HIN.out]
 clear hl1 hl2 hl3 HIN
 have hgb0 := World.grownBy_alloc (W) (.cells #[.int .i64 (s : Int), .int .i64 (N : Int), .slice A l.length c] 44) none
 have hb2 := heap_alloc_new (W) (.cells #[.int .i64 (s : Int), .int .i64 (N : Int), .slice A l.length c] 44)
 have hgb1 := World.grownBy_alloc ((W).alloc (.cells #[.int .i64 (s : Int), .int .i64 (N : Int), .slice A l.length c] 44)) (.cells (geA g) 50) none
 have hb3 := heap_alloc_new ((W).alloc (.cells #[.int .i64 (s : Int), .int .i64 (N : Int), .slice A l.length c] 44)) (.cells (geA g) 50)
 have hz1 : ((W).alloc (.cells #[.int .i64 (s : Int), .int .i64 (N : Int), .slice A l.length c] 44)).heap.size = W.heap.size + 1 := by simp only [World.size_alloc]
 rw [hz1] at hb3
 have hgb2 := World.grownBy_alloc (((W).alloc (.cells #[.int .i64 (s : Int), .int .i64 (N : Int), .slice A l.length c] 44)).alloc (.cells (geA g) 50)) (.cells #[.int .i64 0, .int .i64 0, .slice none 0 0] 44) none
 have hb4 := heap_alloc_new (((W).alloc (.cells #[.int .i64 (s : Int), .int .i64 (N : Int), .slice A l.length c] 44)).alloc (.cells (geA g) 50)) (.cells #[.int .i64 0, .int .i64 0, .slice none 0 0] 44)
 have hz2 : (((W).alloc (.cells #[.int .i64 (s : Int), .int .i64 (N : Int), .slice A l.length c] 44)).alloc (.cells (geA g) 50)).heap.size = W.heap.size + 2 := by simp only [World.size_alloc]
 rw [hz2] at hb4
 have HG := Aside0.mk (grown_two (grown_two hgb0 hgb1) hgb2)
 have HB2 := Aside0.mk (blk_grown (blk_grown (hb2) hgb1) hgb2)
 have HB3 := Aside0.mk (blk_grown (hb3) hgb2)
 have HB4 := Aside0.mk (hb4)
 clear hgb0 hgb1 hgb2 hb2 hb3 hb4 hz1 hz2 hC hc hgo hgs hl
 go_enter Try.func30, Try.ntmps30
 go_wp2_with fail
 obtain ⟨h2, hh0⟩ : ∃ z, z = W.heap.size := ⟨_, rfl⟩
 obtain ⟨h3, hh1⟩ : ∃ z, z = W.heap.size + 1 := ⟨_, rfl⟩
 obtain ⟨h4, hh2⟩ : ∃ z, z = W.heap.size + 2 := ⟨_, rfl⟩
 rw [← hh0] at HB2
 rw [← hh1] at HB3
 rw [← hh2] at HB4
 rw [← hh2, ← hh1, ← hh0]
 have HH := Aside0.mk (And.intro hh0 (And.intro hh1 hh2))
 clear hh0 hh1 hh2
 have hg := grown_drew ((((W).alloc (.cells #[.int .i64 (s : Int), .int .i64 (N : Int), .slice A l.length c] 44)).alloc (.cells (geA g) 50)).alloc (.cells #[.int .i64 0, .int .i64 0, .slice none 0 0] 44)) none
 replace HB2 := Aside0.mk (blk_grown HB2.out hg)
 replace HB3 := Aside0.mk (blk_grown HB3.out hg)
 replace HB4 := Aside0.mk (blk_grown HB4.out hg)
 replace HG := Aside0.mk (grown_two HG.out hg)
 clear hg
 refine start_ (n := 9) (S := fun w' => w'.heap[h2]? = some (.cells #[.int .i64 (s : Int), .int .i64 (N : Int), .slice A l.length c] 44 (0, 0)) ∧ w'.heap[h3]? = some (.cells (geA g) 50 (0, 0))) (ds := []) #[false, false, false, false, false, false, false, false, false] (by kernel_rfl) rfl rfl ⟨HB2.out, HB3.out⟩ (fun hHeld => ?_)
 refine with_tab rinsert1_tab (fun HT_ => ?_)
 refine pure_ (i := 1) (N := some 6) (v := ?_) (a' := ?_) #[false, true, false, false, false, false, false, false, false] rfl rfl (any_of HT_.out (by kernel_rfl)) (fun _ _ _ h => h) (Or.inl ⟨by rfl, ?_⟩) ?_ ?_
 rotate_left
 ·intro w'
  go_simp
  with_reducible rfl
 rotate_left
 ·simp only [ap_]
  rfl
 refine take_ (i := 0) (N := some 5) (v := .agg #[.int .i64 (s : Int), .int .i64 (N : Int), .slice A l.length c]) (a' := ?_) #[true, true, false, false, false, false, false, false, false] rfl rfl (take_of HT_.out (by kernel_rfl)) (fun _ _ _ h => h) (Or.inl ⟨by rfl, ?_⟩) hHeld ?_ ?_
 ·rintro w' ⟨s1, s2⟩
  obtain ⟨q0, q1, q2⟩ := cz3q s1
  go_simp
 rotate_left
 ·simp only [ap_]
  rfl
 refine take_ (i := 2) (N := some 7) (v := .int .u64 (g.v : Int)) (a' := ?_) #[true, true, true, false, false, false, false, false, false] rfl rfl (take_of HT_.out (by kernel_rfl)) (fun _ _ _ h => h) (Or.inl ⟨by rfl, ?_⟩) hHeld ?_ ?_
 ·rintro w' ⟨s1, s2⟩
  obtain ⟨z0, z1, z2, z3, z4, z5, z6, z7, z8, z9, z10⟩ := tte_Read.cz11 s2
  go_simp
 rotate_left
 ·simp only [ap_]
  rfl
 refine take_ (i := 4) (N := some 9) (v := .agg (geA g)) (a' := ?_) #[true, true, true, false, true, false, false, false, false] rfl rfl (take_of HT_.out (by kernel_rfl)) (fun _ _ _ h => h) (Or.inl ⟨by rfl, ?_⟩) hHeld ?_ ?_
 ·rintro w' ⟨s1, s2⟩
  obtain ⟨z0, z1, z2, z3, z4, z5, z6, z7, z8, z9, z10⟩ := tte_Read.cz11 s2
  go_simp
 rotate_left
 ·simp only [ap_]
  rfl
 refine take_ (i := 6) (N := some 11) (v := .agg (geA g)) (a' := ?_) #[true, true, true, false, true, false, true, false, false] rfl rfl (take_of HT_.out (by kernel_rfl)) (fun _ _ _ h => h) (Or.inl ⟨by rfl, ?_⟩) hHeld ?_ ?_
 ·rintro w' ⟨s1, s2⟩
  obtain ⟨z0, z1, z2, z3, z4, z5, z6, z7, z8, z9, z10⟩ := tte_Read.cz11 s2
  go_simp
 rotate_left
 ·simp only [ap_]
  rfl
 refine one_ (i := 3) (N := some 8) #[true, true, true, true, true, false, true, false, false] rfl rfl (one_of HT_.out (by kernel_rfl)) (by decide) (fun K hK => ?_)
 refine goes_ Try.func69 (by kernel_rfl) rfl #[.agg #[.int .i64 (s : Int), .int .i64 (N : Int), .slice A l.length c], .int .u64 (g.v : Int)] (by rfl) rfl rfl (by (try simp only [List.map_toArray, List.map_cons, List.map_nil]); first | done | rfl) ?_
 refine (rlock_calls hs4 h1 hN g.v HGO.out.hv (Kd.C_below HC0.out (below_of_grown HG.out)) HCC.out (by have := HLN.out.1; omega)).mono ?_
 rintro x0 wn ⟨v1, rfl, hR, hg⟩
 rw [HI.out, ← HL1.out] at hR
 obtain ⟨A1, c1, rfl⟩ := Kd.R_slice hR
 have HR1 := Aside0.mk (Kd.R_reads' hR)
 replace HG := Aside0.mk (grown_two HG.out hg)
 replace HB2 := Aside0.mk (blk_grown HB2.out hg)
 replace HB3 := Aside0.mk (blk_grown HB3.out hg)
 replace HB4 := Aside0.mk (blk_grown HB4.out hg)
 have hs : wn.heap[h2]? = some (.cells #[.int .i64 (s : Int), .int .i64 (N : Int), .slice A l.length c] 44 (0, 0)) ∧ wn.heap[h3]? = some (.cells (geA g) 50 (0, 0)) := ⟨blk_grown hHeld.1 hg, blk_grown hHeld.2 hg⟩
 clear hR hg
 refine ⟨_, rfl, ?_⟩
 refine hK.out _ _ hs (fun hHeld => ?_)
 clear hK K
 refine norm_ (a' := ?_) ?_ ?_
 rotate_left
 ·show Act.put _ (some 8) _ = _
  simp only [ap_]
  rfl
 refine one_ (i := 5) (N := some 10) #[true, true, true, true, true, true, true, false, false] rfl rfl (one_of HT_.out (by kernel_rfl)) (by decide) (fun K hK => ?_)
 refine goes_ Try.func68 (by kernel_rfl) rfl #[.agg #[.int .i64 (s : Int), .int .i64 (N : Int), .slice A1 l1.length c1], .agg (geA g)] (by rfl) rfl rfl (by (try simp only [List.map_toArray, List.map_cons, List.map_nil]); first | done | rfl) ?_
 refine (rputdata_calls hs4 h1 hN g HGO.out HGS.out HR1.out.2.2 HR1.out.2.1 (by have := HLN.out.2.1; omega)).mono ?_
 rintro x0 wn ⟨v2, rfl, hR, hg⟩
 rw [HI.out, ← HL2.out] at hR
 obtain ⟨A2, c2, rfl⟩ := Kd.R_slice hR
 have HR2 := Aside0.mk (Kd.R_reads' hR)
 replace HG := Aside0.mk (grown_two HG.out hg)
 replace HB2 := Aside0.mk (blk_grown HB2.out hg)
 replace HB3 := Aside0.mk (blk_grown HB3.out hg)
 replace HB4 := Aside0.mk (blk_grown HB4.out hg)
 have hs : wn.heap[h2]? = some (.cells #[.int .i64 (s : Int), .int .i64 (N : Int), .slice A l.length c] 44 (0, 0)) ∧ wn.heap[h3]? = some (.cells (geA g) 50 (0, 0)) := ⟨blk_grown hHeld.1 hg, blk_grown hHeld.2 hg⟩
 clear hR hg
 refine ⟨_, rfl, ?_⟩
 refine hK.out _ _ hs (fun hHeld => ?_)
 clear hK K
 refine norm_ (a' := ?_) ?_ ?_
 rotate_left
 ·show Act.put _ (some 10) _ = _
  simp only [ap_]
  rfl
 refine one_ (i := 7) (N := some 12) #[true, true, true, true, true, true, true, true, false] rfl rfl (one_of HT_.out (by kernel_rfl)) (by decide) (fun K hK => ?_)
 refine goes_ Try.func67 (by kernel_rfl) rfl #[.agg #[.int .i64 (s : Int), .int .i64 (N : Int), .slice A2 l2.length c2], .agg (geA g)] (by rfl) rfl rfl (by (try simp only [List.map_toArray, List.map_cons, List.map_nil]); first | done | rfl) ?_
 refine (rputtag_calls hs4 h1 hN g HGO.out HGS.out HR2.out.2.2 HR2.out.2.1 (by have := HLN.out.2.2; omega)).mono ?_
 rintro x0 wn ⟨v3, rfl, hR, hg⟩
 rw [HI.out, ← HL3.out] at hR
 obtain ⟨A3, c3, rfl⟩ := Kd.R_slice hR
 have HR3 := Aside0.mk (Kd.R_lower hR HG.out.size)
 replace HG := Aside0.mk (grown_two HG.out hg)
 replace HB2 := Aside0.mk (blk_grown HB2.out hg)
 replace HB3 := Aside0.mk (blk_grown HB3.out hg)
 replace HB4 := Aside0.mk (blk_grown HB4.out hg)
 have hs : wn.heap[h2]? = some (.cells #[.int .i64 (s : Int), .int .i64 (N : Int), .slice A l.length c] 44 (0, 0)) ∧ wn.heap[h3]? = some (.cells (geA g) 50 (0, 0)) := ⟨blk_grown hHeld.1 hg, blk_grown hHeld.2 hg⟩
 clear hR hg
 refine ⟨_, rfl, ?_⟩
 refine hK.out _ _ hs (fun hHeld => ?_)
 clear hK K
 refine norm_ (a' := ?_) ?_ ?_
 rotate_left
 ·show Act.put _ (some 12) _ = _
  simp only [ap_]
  rfl
 refine one_ (i := 8) (N := none) #[true, true, true, true, true, true, true, true, true] rfl rfl (one_of HT_.out (by kernel_rfl)) (by decide) (fun K hK => ?_)
 rw [if_pos (by rfl)]
 refine wp_store_row 44 (.tmp 4) (.tmp 12) rfl h4 #[.int .i64 (s : Int), .int .i64 (N : Int), .slice A3 l3.length c3] rfl rfl 44 #[.int .i64 0, .int .i64 0, .slice none 0 0] HB4.out (by kernel_rfl) rfl (by kernel_rfl) ?_
 have hb2 := setRow_heap wn h4 _ #[.int .i64 (s : Int), .int .i64 (N : Int), .slice A3 l3.length c3] _ _ HB4.out
 have hgr := grown_row wn h4 #[.int .i64 (s : Int), .int .i64 (N : Int), .slice A3 l3.length c3]
 replace HG := Aside0.mk (grown_loc HG.out hgr (by have := HH.out; omega))
 replace HR3 := Aside0.mk (Kd.R_mono (ok' := fun _ => True) (Kd.R_grown (Kd.R_types HR3.out HB4.out (by decide)) hgr (fun k hk e => hk.2 (Option.some.inj e))) (fun _ _ => trivial))
 have hs : (World.setRow wn h4 #[.int .i64 (s : Int), .int .i64 (N : Int), .slice A3 l3.length c3]).heap[h2]? = some (.cells #[.int .i64 (s : Int), .int .i64 (N : Int), .slice A l.length c] 44 (0, 0)) ∧ (World.setRow wn h4 #[.int .i64 (s : Int), .int .i64 (N : Int), .slice A3 l3.length c3]).heap[h3]? = some (.cells (geA g) 50 (0, 0)) := ⟨(hgr.block h2 (blk_lt hHeld.1) (fun e => by have := Option.some.inj e; have := HH.out; omega)).trans hHeld.1, (hgr.block h3 (blk_lt hHeld.2) (fun e => by have := Option.some.inj e; have := HH.out; omega)).trans hHeld.2⟩
 generalize World.setRow wn h4 #[.int .i64 (s : Int), .int .i64 (N : Int), .slice A3 l3.length c3] = wb at hb2 hs HG HR3 ⊢
 replace HB4 := Aside0.mk hb2
 clear hgr hb2
 refine hK.out _ _ hs (fun hHeld => ?_)
 clear hK K
 refine norm_ (a' := ?_) ?_ ?_
 rotate_left
 ·show Act.put _ none _ = _
  rfl
 refine done_ (done_of HT_.out (by kernel_rfl)) ?_
 obtain ⟨q0, q1, q2⟩ := cz3q HB4.out
 clear hHeld
 go_wp2
 exact bodyPost_ret (v := .agg #[.int .i64 (s : Int), .int .i64 (N : Int), .slice A3 l3.length c3]) (by simp [results, Try.f30, go_sem, q0, q1, q2]) rfl ⟨_, rfl, HR3.out, HG.out⟩
end
end Go.Proofs.Ytjnffegjpkbjmaa.Mem
-- halved
