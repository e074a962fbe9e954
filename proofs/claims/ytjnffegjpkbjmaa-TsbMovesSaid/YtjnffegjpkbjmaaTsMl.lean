/- The document's list of a TSB's entries. -/
import Derived.Test.YtjnffegjpkbjmaaTsRf
import Derived.Test.YtjnffegjpkbjmaaQTsbPlaysx27
import Derived.Test.YtjnffegjpkbjmaaTsP4
import Derived.Test.YtjnffegjpkbjmaaTsR
import Derived.WalkKit
import Derived.KernelRfl
import Derived.RowKit3
import Derived.Deep.QuietTactic
import Derived.BigQuiet
import Derived.Laws.Rows
import Derived.Below
import Derived.Outline
import Derived.WalkLawsBesides
import Derived.WalkSpells
import Derived.StillTailTactics
import Derived.LoopN
import Derived.Deep.DeepFit
import Derived.Test.YtjnffegjpkbjmaaTsO
/- merged: TsRi -/
namespace Go.Proofs.Ytjnffegjpkbjmaa.Mem
open Go.RowKit Go.Maps Go.Proofs.YtjnffegjpkbjmaaW.PrintWords Go.Proofs.YtjnffegjpkbjmaaW.PrintLast Go.Proofs.YtjnffegjpkbjmaaW.PrintMore Go.Proofs.Ytjnffegjpkbjmaa.QTsbPlays Go.Proofs.Ytjnffegjpkbjmaa.Pure
set_option linter.unusedSimpArgs false
set_option linter.unusedVariables false
section
set_option maxHeartbeats 2000000
set_option maxRecDepth 100000
/-- The document's words behind Insert. -/
def insW (l : List WS) (i tag data : Int) : List WS :=
  let l1 := pW l i 9223372036854775807 (gW l i).2
  let l2 := pW l1 i (gW l1 i).1 data
  pW l2 i tag (gW l2 i).2
theorem insW_len (l : List WS) (i t d : Int) : (insW l i t d).length ≤ l.length + 3 := by
  unfold insW
  have h1 := pW_len l i 9223372036854775807 (gW l i).2
  have h2 := pW_len (pW l i 9223372036854775807 (gW l i).2) i (gW (pW l i 9223372036854775807 (gW l i).2) i).1 d
  have h3 := pW_len (pW (pW l i 9223372036854775807 (gW l i).2) i (gW (pW l i 9223372036854775807 (gW l i).2) i).1 d) i t (gW (pW (pW l i 9223372036854775807 (gW l i).2) i (gW (pW l i 9223372036854775807 (gW l i).2) i).1 d) i).2
  simp only
  omega
noncomputable def rinsert1_T : Bool × List (List Nat × List Nat) := rtab .any (opsOf Try.f30 1)
theorem rinsert1_tab : rtab .any (opsOf Try.f30 1) = rinsert1_T := rfl
theorem rinsert_calls {s N : Nat} (hs4 : s < 4) (h1 : 1 ≤ N) (hN : N ≤ 4096) {A : Option Addr} {c : Nat} {l : List WS} (g : GE) (hgo : g.ok) (hgs : g.s = s) {W : World} (hC : Kd.C k122 W A l.length l) (hc : l.length ≤ c) (hl : l.length ≤ 900000) :
    Calls Try.prog 30 #[.agg #[.int .i64 (s : Int), .int .i64 (N : Int), .slice A l.length c], .agg (geA g)] W fun e W' => ∃ v, e = .returned (.agg #[.int .i64 (s : Int), .int .i64 (N : Int), v]) ∧ Kd.R k122 122 W' W.heap.size (fun _ => True) v (insW l (plcOf N (s : Int) g.v : Int) (g.tag : Int) (g.data : Int)) ∧ W.grownBy W' none := by
  have hu := Try.underlying44
  have hu3 := Try.underlying50
  have HC0 := Aside0.mk hC
  have HCC := Aside0.mk hc
  have HGO := Aside0.mk hgo
  have HGS := Aside0.mk hgs
  obtain ⟨i, hi⟩ : ∃ i, i = plcOf N (s : Int) g.v := ⟨_, rfl⟩
  rw [← hi]
  have HI := Aside0.mk hi.symm
  clear hi
  obtain ⟨l1, hl1⟩ : ∃ z, z = pW l (i : Int) 9223372036854775807 (gW l (i : Int)).2 := ⟨_, rfl⟩
  obtain ⟨l2, hl2⟩ : ∃ z, z = pW l1 (i : Int) (gW l1 (i : Int)).1 (g.data : Int) := ⟨_, rfl⟩
  obtain ⟨l3, hl3⟩ : ∃ z, z = pW l2 (i : Int) (g.tag : Int) (gW l2 (i : Int)).2 := ⟨_, rfl⟩
  have HIN := Aside0.mk (show insW l (i : Int) (g.tag : Int) (g.data : Int) = l3 from by rw [hl3, hl2, hl1]; rfl)
  have HL1 := Aside0.mk hl1
  have HL2 := Aside0.mk hl2
  have HL3 := Aside0.mk hl3
  have HLN := Aside0.mk (show l.length ≤ 900000 ∧ l1.length ≤ 900001 ∧ l2.length ≤ 900002 from by
    have e1 := pW_len l (i : Int) 9223372036854775807 (gW l (i : Int)).2
    have e2 := pW_len l1 (i : Int) (gW l1 (i : Int)).1 (g.data : Int)
    rw [← hl1] at e1
    rw [← hl2] at e2
    omega)
  rw [HIN.out]
  clear hl1 hl2 hl3 HIN
  have hgb0 := World.grownBy_alloc (W) (.cells #[.int .i64 (s : Int), .int .i64 (N : Int), .slice A l.length c] 44) none
  have hb2 := heap_alloc_new (W) (.cells #[.int .i64 (s : Int), .int .i64 (N : Int), .slice A l.length c] 44)
  have hgb1 := World.grownBy_alloc ((W).alloc (.cells #[.int .i64 (s : Int), .int .i64 (N : Int), .slice A l.length c] 44)) (.cells (geA g) 50) none
  have hb3 := heap_alloc_new ((W).alloc (.cells #[.int .i64 (s : Int), .int .i64 (N : Int), .slice A l.length c] 44)) (.cells (geA g) 50)
  have hz1 : ((W).alloc (.cells #[.int .i64 (s : Int), .int .i64 (N : Int), .slice A l.length c] 44)).heap.size = W.heap.size + 1 := by simp only [World.size_alloc]
  rw [hz1] at hb3
  have hgb2 := World.grownBy_alloc (((W).alloc (.cells #[.int .i64 (s : Int), .int .i64 (N : Int), .slice A l.length c] 44)).alloc (.cells (geA g) 50)) (.cells #[.int .i64 0, .int .i64 0, .slice none 0 0] 44) none
  have hb4 := heap_alloc_new (((W).alloc (.cells #[.int .i64 (s : Int), .int .i64 (N : Int), .slice A l.length c] 44)).alloc (.cells (geA g) 50)) (.cells #[.int .i64 0, .int .i64 0, .slice none 0 0] 44)
  have hz2 : (((W).alloc (.cells #[.int .i64 (s : Int), .int .i64 (N : Int), .slice A l.length c] 44)).alloc (.cells (geA g) 50)).heap.size = W.heap.size + 2 := by simp only [World.size_alloc]
  rw [hz2] at hb4
  have HG := Aside0.mk (grown_two (grown_two hgb0 hgb1) hgb2)
  have HB2 := Aside0.mk (blk_grown (blk_grown (hb2) hgb1) hgb2)
  have HB3 := Aside0.mk (blk_grown (hb3) hgb2)
  have HB4 := Aside0.mk (hb4)
  clear hgb0 hgb1 hgb2 hb2 hb3 hb4 hz1 hz2 hC hc hgo hgs hl
  go_enter Try.func30, Try.ntmps30
  go_wp2_with fail
  obtain ⟨h2, hh0⟩ : ∃ z, z = W.heap.size := ⟨_, rfl⟩
  obtain ⟨h3, hh1⟩ : ∃ z, z = W.heap.size + 1 := ⟨_, rfl⟩
  obtain ⟨h4, hh2⟩ : ∃ z, z = W.heap.size + 2 := ⟨_, rfl⟩
  rw [← hh0] at HB2
  rw [← hh1] at HB3
  rw [← hh2] at HB4
  rw [← hh2, ← hh1, ← hh0]
  have HH := Aside0.mk (And.intro hh0 (And.intro hh1 hh2))
  clear hh0 hh1 hh2
  have hg := grown_drew ((((W).alloc (.cells #[.int .i64 (s : Int), .int .i64 (N : Int), .slice A l.length c] 44)).alloc (.cells (geA g) 50)).alloc (.cells #[.int .i64 0, .int .i64 0, .slice none 0 0] 44)) none
  replace HB2 := Aside0.mk (blk_grown HB2.out hg)
  replace HB3 := Aside0.mk (blk_grown HB3.out hg)
  replace HB4 := Aside0.mk (blk_grown HB4.out hg)
  replace HG := Aside0.mk (grown_two HG.out hg)
  clear hg
  refine start_ (n := 9) (S := fun w' => w'.heap[h2]? = some (.cells #[.int .i64 (s : Int), .int .i64 (N : Int), .slice A l.length c] 44 (0, 0)) ∧ w'.heap[h3]? = some (.cells (geA g) 50 (0, 0))) (ds := []) #[false, false, false, false, false, false, false, false, false] (by kernel_rfl) rfl rfl ⟨HB2.out, HB3.out⟩ (fun hHeld => ?_)
  refine with_tab rinsert1_tab (fun HT_ => ?_)
  refine pure_ (i := 1) (N := some 6) (v := ?_) (a' := ?_) #[false, true, false, false, false, false, false, false, false] rfl rfl (any_of HT_.out (by kernel_rfl)) (fun _ _ _ h => h) (Or.inl ⟨by rfl, ?_⟩) ?_ ?_
  rotate_left
  · intro w'
    go_simp
    with_reducible rfl
  rotate_left
  · simp only [Act.put, List.setIfInBounds_toArray, List.set_cons_zero, List.set_cons_succ, i64_w, i32_w]
    rfl
  refine take_ (i := 0) (N := some 5) (v := .agg #[.int .i64 (s : Int), .int .i64 (N : Int), .slice A l.length c]) (a' := ?_) #[true, true, false, false, false, false, false, false, false] rfl rfl (take_of HT_.out (by kernel_rfl)) (fun _ _ _ h => h) (Or.inl ⟨by rfl, ?_⟩) hHeld ?_ ?_
  · rintro w' ⟨s1, s2⟩
    obtain ⟨q0, q1, q2⟩ := cz3q s1
    go_simp
  rotate_left
  · simp only [Act.put, List.setIfInBounds_toArray, List.set_cons_zero, List.set_cons_succ, i64_w, i32_w]
    rfl
  refine take_ (i := 2) (N := some 7) (v := .int .u64 (g.v : Int)) (a' := ?_) #[true, true, true, false, false, false, false, false, false] rfl rfl (take_of HT_.out (by kernel_rfl)) (fun _ _ _ h => h) (Or.inl ⟨by rfl, ?_⟩) hHeld ?_ ?_
  · rintro w' ⟨s1, s2⟩
    obtain ⟨z0, z1, z2, z3, z4, z5, z6, z7, z8, z9, z10⟩ := tte_Read.cz11 s2
    go_simp
  rotate_left
  · simp only [Act.put, List.setIfInBounds_toArray, List.set_cons_zero, List.set_cons_succ, i64_w, i32_w]
    rfl
  refine take_ (i := 4) (N := some 9) (v := .agg (geA g)) (a' := ?_) #[true, true, true, false, true, false, false, false, false] rfl rfl (take_of HT_.out (by kernel_rfl)) (fun _ _ _ h => h) (Or.inl ⟨by rfl, ?_⟩) hHeld ?_ ?_
  · rintro w' ⟨s1, s2⟩
    obtain ⟨z0, z1, z2, z3, z4, z5, z6, z7, z8, z9, z10⟩ := tte_Read.cz11 s2
    go_simp
  rotate_left
  · simp only [Act.put, List.setIfInBounds_toArray, List.set_cons_zero, List.set_cons_succ, i64_w, i32_w]
    rfl
  refine take_ (i := 6) (N := some 11) (v := .agg (geA g)) (a' := ?_) #[true, true, true, false, true, false, true, false, false] rfl rfl (take_of HT_.out (by kernel_rfl)) (fun _ _ _ h => h) (Or.inl ⟨by rfl, ?_⟩) hHeld ?_ ?_
  · rintro w' ⟨s1, s2⟩
    obtain ⟨z0, z1, z2, z3, z4, z5, z6, z7, z8, z9, z10⟩ := tte_Read.cz11 s2
    go_simp
  rotate_left
  · simp only [Act.put, List.setIfInBounds_toArray, List.set_cons_zero, List.set_cons_succ, i64_w, i32_w]
    rfl
  refine one_ (i := 3) (N := some 8) #[true, true, true, true, true, false, true, false, false] rfl rfl (one_of HT_.out (by kernel_rfl)) (by decide) (fun K hK => ?_)
  refine goes_ Try.func69 (by kernel_rfl) rfl #[.agg #[.int .i64 (s : Int), .int .i64 (N : Int), .slice A l.length c], .int .u64 (g.v : Int)] (by rfl) rfl rfl (by (try simp only [List.map_toArray, List.map_cons, List.map_nil]); first | done | rfl) ?_
  refine (rlock_calls hs4 h1 hN g.v HGO.out.hv (Kd.C_below HC0.out (below_of_grown HG.out)) HCC.out (by have := HLN.out.1; omega)).mono ?_
  rintro x0 wn ⟨v1, rfl, hR, hg⟩
  rw [HI.out, ← HL1.out] at hR
  obtain ⟨A1, c1, rfl⟩ := Kd.R_slice hR
  have HR1 := Aside0.mk (Kd.R_reads' hR)
  replace HG := Aside0.mk (grown_two HG.out hg)
  replace HB2 := Aside0.mk (blk_grown HB2.out hg)
  replace HB3 := Aside0.mk (blk_grown HB3.out hg)
  replace HB4 := Aside0.mk (blk_grown HB4.out hg)
  have hs : wn.heap[h2]? = some (.cells #[.int .i64 (s : Int), .int .i64 (N : Int), .slice A l.length c] 44 (0, 0)) ∧ wn.heap[h3]? = some (.cells (geA g) 50 (0, 0)) := ⟨blk_grown hHeld.1 hg, blk_grown hHeld.2 hg⟩
  clear hR hg
  refine ⟨_, rfl, ?_⟩
  refine hK.out _ _ hs (fun hHeld => ?_)
  clear hK K
  refine norm_ (a' := ?_) ?_ ?_
  rotate_left
  · show Act.put _ (some 8) _ = _
    simp only [Act.put, List.setIfInBounds_toArray, List.set_cons_zero, List.set_cons_succ, i64_w, i32_w]
    rfl
  refine one_ (i := 5) (N := some 10) #[true, true, true, true, true, true, true, false, false] rfl rfl (one_of HT_.out (by kernel_rfl)) (by decide) (fun K hK => ?_)
  refine goes_ Try.func68 (by kernel_rfl) rfl #[.agg #[.int .i64 (s : Int), .int .i64 (N : Int), .slice A1 l1.length c1], .agg (geA g)] (by rfl) rfl rfl (by (try simp only [List.map_toArray, List.map_cons, List.map_nil]); first | done | rfl) ?_
  refine (rputdata_calls hs4 h1 hN g HGO.out HGS.out HR1.out.2.2 HR1.out.2.1 (by have := HLN.out.2.1; omega)).mono ?_
  rintro x0 wn ⟨v2, rfl, hR, hg⟩
  rw [HI.out, ← HL2.out] at hR
  obtain ⟨A2, c2, rfl⟩ := Kd.R_slice hR
  have HR2 := Aside0.mk (Kd.R_reads' hR)
  replace HG := Aside0.mk (grown_two HG.out hg)
  replace HB2 := Aside0.mk (blk_grown HB2.out hg)
  replace HB3 := Aside0.mk (blk_grown HB3.out hg)
  replace HB4 := Aside0.mk (blk_grown HB4.out hg)
  have hs : wn.heap[h2]? = some (.cells #[.int .i64 (s : Int), .int .i64 (N : Int), .slice A l.length c] 44 (0, 0)) ∧ wn.heap[h3]? = some (.cells (geA g) 50 (0, 0)) := ⟨blk_grown hHeld.1 hg, blk_grown hHeld.2 hg⟩
  clear hR hg
  refine ⟨_, rfl, ?_⟩
  refine hK.out _ _ hs (fun hHeld => ?_)
  clear hK K
  refine norm_ (a' := ?_) ?_ ?_
  rotate_left
  · show Act.put _ (some 10) _ = _
    simp only [Act.put, List.setIfInBounds_toArray, List.set_cons_zero, List.set_cons_succ, i64_w, i32_w]
    rfl
  refine one_ (i := 7) (N := some 12) #[true, true, true, true, true, true, true, true, false] rfl rfl (one_of HT_.out (by kernel_rfl)) (by decide) (fun K hK => ?_)
  refine goes_ Try.func67 (by kernel_rfl) rfl #[.agg #[.int .i64 (s : Int), .int .i64 (N : Int), .slice A2 l2.length c2], .agg (geA g)] (by rfl) rfl rfl (by (try simp only [List.map_toArray, List.map_cons, List.map_nil]); first | done | rfl) ?_
  refine (rputtag_calls hs4 h1 hN g HGO.out HGS.out HR2.out.2.2 HR2.out.2.1 (by have := HLN.out.2.2; omega)).mono ?_
  rintro x0 wn ⟨v3, rfl, hR, hg⟩
  rw [HI.out, ← HL3.out] at hR
  obtain ⟨A3, c3, rfl⟩ := Kd.R_slice hR
  have HR3 := Aside0.mk (Kd.R_lower hR HG.out.size)
  replace HG := Aside0.mk (grown_two HG.out hg)
  replace HB2 := Aside0.mk (blk_grown HB2.out hg)
  replace HB3 := Aside0.mk (blk_grown HB3.out hg)
  replace HB4 := Aside0.mk (blk_grown HB4.out hg)
  have hs : wn.heap[h2]? = some (.cells #[.int .i64 (s : Int), .int .i64 (N : Int), .slice A l.length c] 44 (0, 0)) ∧ wn.heap[h3]? = some (.cells (geA g) 50 (0, 0)) := ⟨blk_grown hHeld.1 hg, blk_grown hHeld.2 hg⟩
  clear hR hg
  refine ⟨_, rfl, ?_⟩
  refine hK.out _ _ hs (fun hHeld => ?_)
  clear hK K
  refine norm_ (a' := ?_) ?_ ?_
  rotate_left
  · show Act.put _ (some 12) _ = _
    simp only [Act.put, List.setIfInBounds_toArray, List.set_cons_zero, List.set_cons_succ, i64_w, i32_w]
    rfl
  refine one_ (i := 8) (N := none) #[true, true, true, true, true, true, true, true, true] rfl rfl (one_of HT_.out (by kernel_rfl)) (by decide) (fun K hK => ?_)
  rw [if_pos (by rfl)]
  refine wp_store_row 44 (.tmp 4) (.tmp 12) rfl h4 #[.int .i64 (s : Int), .int .i64 (N : Int), .slice A3 l3.length c3] rfl rfl 44 #[.int .i64 0, .int .i64 0, .slice none 0 0] HB4.out (by kernel_rfl) rfl (by kernel_rfl) ?_
  have hb2 := setRow_heap wn h4 _ #[.int .i64 (s : Int), .int .i64 (N : Int), .slice A3 l3.length c3] _ _ HB4.out
  have hgr := grown_row wn h4 #[.int .i64 (s : Int), .int .i64 (N : Int), .slice A3 l3.length c3]
  replace HG := Aside0.mk (grown_loc HG.out hgr (by have := HH.out; omega))
  replace HR3 := Aside0.mk (Kd.R_mono (ok' := fun _ => True) (Kd.R_grown (Kd.R_types HR3.out HB4.out (by decide)) hgr (fun k hk e => hk.2 (Option.some.inj e))) (fun _ _ => trivial))
  have hs : (World.setRow wn h4 #[.int .i64 (s : Int), .int .i64 (N : Int), .slice A3 l3.length c3]).heap[h2]? = some (.cells #[.int .i64 (s : Int), .int .i64 (N : Int), .slice A l.length c] 44 (0, 0)) ∧ (World.setRow wn h4 #[.int .i64 (s : Int), .int .i64 (N : Int), .slice A3 l3.length c3]).heap[h3]? = some (.cells (geA g) 50 (0, 0)) := ⟨(hgr.block h2 (blk_lt hHeld.1) (fun e => by have := Option.some.inj e; have := HH.out; omega)).trans hHeld.1, (hgr.block h3 (blk_lt hHeld.2) (fun e => by have := Option.some.inj e; have := HH.out; omega)).trans hHeld.2⟩
  generalize World.setRow wn h4 #[.int .i64 (s : Int), .int .i64 (N : Int), .slice A3 l3.length c3] = wb at hb2 hs HG HR3 ⊢
  replace HB4 := Aside0.mk hb2
  clear hgr hb2
  refine hK.out _ _ hs (fun hHeld => ?_)
  clear hK K
  refine norm_ (a' := ?_) ?_ ?_
  rotate_left
  · show Act.put _ none _ = _
    rfl
  refine done_ (done_of HT_.out (by kernel_rfl)) ?_
  obtain ⟨q0, q1, q2⟩ := cz3q HB4.out
  clear hHeld
  go_wp2
  exact bodyPost_ret (v := .agg #[.int .i64 (s : Int), .int .i64 (N : Int), .slice A3 l3.length c3]) (by simp [results, Try.f30, go_sem, q0, q1, q2]) rfl ⟨_, rfl, HR3.out, HG.out⟩
end
end Go.Proofs.Ytjnffegjpkbjmaa.Mem
/- merged: TsMo -/
/- merged: TsMr -/
set_option linter.unusedVariables false
set_option linter.unusedSimpArgs false
namespace Go.Proofs.Ytjnffegjpkbjmaa.QTsbPlays
open Go.RowKit Go.Proofs.YtjnffegjpkbjmaaW.PrintWords Go.Proofs.YtjnffegjpkbjmaaW.PrintLast Go.Proofs.YtjnffegjpkbjmaaW.PrintMore
theorem rr3.cz11 {W : World} {g : Nat} {t : TypeId} {a0 a1 a2 a3 a4 a5 a6 a7 a8 a9 a10 : Value} (h : W.heap[g]? = some (.cells #[a0, a1, a2, a3, a4, a5, a6, a7, a8, a9, a10] t (0, 0))) : W.cell? ⟨g, 0, none⟩ = some a0 ∧ W.cell? ⟨g, 1, none⟩ = some a1 ∧ W.cell? ⟨g, 2, none⟩ = some a2 ∧ W.cell? ⟨g, 3, none⟩ = some a3 ∧ W.cell? ⟨g, 4, none⟩ = some a4 ∧ W.cell? ⟨g, 5, none⟩ = some a5 ∧ W.cell? ⟨g, 6, none⟩ = some a6 ∧ W.cell? ⟨g, 7, none⟩ = some a7 ∧ W.cell? ⟨g, 8, none⟩ = some a8 ∧ W.cell? ⟨g, 9, none⟩ = some a9 ∧ W.cell? ⟨g, 10, none⟩ = some a10 := ⟨(blk_cell h 0).trans rfl, (blk_cell h 1).trans rfl, (blk_cell h 2).trans rfl, (blk_cell h 3).trans rfl, (blk_cell h 4).trans rfl, (blk_cell h 5).trans rfl, (blk_cell h 6).trans rfl, (blk_cell h 7).trans rfl, (blk_cell h 8).trans rfl, (blk_cell h 9).trans rfl, (blk_cell h 10).trans rfl⟩
set_option maxHeartbeats 8000000 in
set_option maxRecDepth 100000 in
theorem rr3.hole (k : Nat) (a0 a1 a2 : Int) (w : World) (h0 : lookasideref02_Hole.f k a2 = some true) :
    Calls Try.prog 125 #[.int .u64 a0, .int .u64 a1, .int .u64 a2] w fun e w' => e = .returned (.tuple #[.agg #[.int .i64 0, .int .i64 0, .int .u64 0, .int .u64 0, .bool false, .bool false, .bool false, .bool false, .bool false, .bool false, .bool false], .int .i64 3]) ∧ Below w.heap.size w w' := by
  have A0 := Aside0.mk h0
  clear h0
  have HB := Aside0.mk (Below.refl w.heap.size w)
  have hu26 := Try.underlying50
  go_enter Try.func125, Try.ntmps125
  go_wp2_with (first | ((with_reducible refine gate_dst (N := 6) rfl ?_); refine box_event ?hg (N := 6) ?hd (cs := #[.int .i64 0, .int .i64 0, .int .u64 0, .int .u64 0, .bool false, .bool false, .bool false, .bool false, .bool false, .bool false, .bool false]) (t := 50) ?hr ?_; (case hd => rfl); (case hg => rfl); (case hr => first | (go_simp; done) | (go_simp; rfl)); intro g6 hgb w1 hbox0 hb; have GE6 := Aside0.mk (Nat.le_trans HB.out.size (Nat.le_of_eq hgb.symm)); have H6 := Aside0.mk hbox0; have m_HB := Aside0.mk (show Below w.heap.size w w1 from below_step HB.out hb); clear HB; have HB := m_HB; clear m_HB; clear hgb hbox0 hb) | ((with_reducible refine gate_dst (N := 8) rfl ?_); refine box_event ?hg (N := 8) ?hd (cs := #[.int .i64 0, .int .i64 0, .int .u64 0, .int .u64 0, .bool false, .bool false, .bool false, .bool false, .bool false, .bool false, .bool false]) (t := 50) ?hr ?_; (case hd => rfl); (case hg => rfl); (case hr => first | (go_simp; done) | (go_simp; rfl)); intro g8 hgb w2 hbox0 hb; have GE8 := Aside0.mk (Nat.le_trans HB.out.size (Nat.le_of_eq hgb.symm)); have NE_g6_g8 := Aside0.mk (Nat.ne_of_lt (Nat.lt_of_lt_of_le (blk_lt H6.out) (Nat.le_of_eq hgb.symm))); have H8 := Aside0.mk hbox0; have m_H6 := Aside0.mk (show w2.heap[g6]? = some _ from blk_below H6.out hb); have m_HB := Aside0.mk (show Below w.heap.size w w2 from below_step HB.out hb); clear H6 HB; have H6 := m_H6; have HB := m_HB; clear m_H6 m_HB; clear hgb hbox0 hb) | ((with_reducible refine gate_callee (f := 124) rfl ?_); refine goesL_ (some 13) rfl rfl Try.func124 (by kernel_rfl) rfl #[.int .u64 a2] rfl (by (try simp only [List.map_toArray, List.map_cons, List.map_nil]); first | done | rfl | (simp only [List.length_drop, List.length_take]; rfl)) ?_; (with_reducible refine (lookasideref02_Hole.calls k a2 _ _ A0.out).mono ?_); rintro e wn ⟨rfl, hdr⟩; refine ⟨_, rfl, ?_⟩; have m_H6 := Aside0.mk (show wn.heap[g6]? = some _ from by obtain ⟨nd, rfl⟩ := hdr; exact blk_drewN H6.out _); have m_H8 := Aside0.mk (show wn.heap[g8]? = some _ from by obtain ⟨nd, rfl⟩ := hdr; exact blk_drewN H8.out _); have m_HB := Aside0.mk (show Below w.heap.size w wn from by obtain ⟨nd, rfl⟩ := hdr; exact pw_below_drewN HB.out _); clear H6 H8 HB; have H6 := m_H6; have H8 := m_H8; have HB := m_HB; clear m_H6 m_H8 m_HB; clear hdr; obtain ⟨qH8_0, qH8_1, qH8_2, qH8_3, qH8_4, qH8_5, qH8_6, qH8_7, qH8_8, qH8_9, qH8_10⟩ := rr3.cz11 H8.out) | ((with_reducible refine gate_store (t := 50) (p := 6) rfl ?_); refine wpList_store_row rfl 50 (.tmp 6) (.tmp 15) rfl g6 #[.int .i64 0, .int .i64 0, .int .u64 0, .int .u64 0, .bool false, .bool false, .bool false, .bool false, .bool false, .bool false, .bool false] rfl rfl 50 _ H6.out (by kernel_rfl) rfl (by kernel_rfl) ?_; have n1 := Aside0.mk (setRow_heap _ g6 _ #[.int .i64 0, .int .i64 0, .int .u64 0, .int .u64 0, .bool false, .bool false, .bool false, .bool false, .bool false, .bool false, .bool false] _ _ H6.out); have n2 := Aside0.mk (below_setRow HB.out GE6.out #[.int .i64 0, .int .i64 0, .int .u64 0, .int .u64 0, .bool false, .bool false, .bool false, .bool false, .bool false, .bool false, .bool false]); generalize World.setRow _ g6 #[.int .i64 0, .int .i64 0, .int .u64 0, .int .u64 0, .bool false, .bool false, .bool false, .bool false, .bool false, .bool false, .bool false] = w20 at n1 n2 ⊢; clear H6 HB; have H6 := n1; have HB := n2; clear n1 n2; obtain ⟨qH6_0, qH6_1, qH6_2, qH6_3, qH6_4, qH6_5, qH6_6, qH6_7, qH6_8, qH6_9, qH6_10⟩ := rr3.cz11 H6.out))
  (try simp only [Exit.inBlock, Exit.then]); refine bodyPost_ret (results_ct rfl _ _ g6 50 #[.int .i64 0, .int .i64 0, .int .u64 0, .int .u64 0, .bool false, .bool false, .bool false, .bool false, .bool false, .bool false, .bool false] (0, 0) _ rfl H6.out hu26 rfl (by kernel_rfl)) rfl ?_; exact ⟨rfl, HB.out⟩
set_option maxHeartbeats 8000000 in
set_option maxRecDepth 100000 in
theorem rr3.state (k : Nat) (a0 a1 a2 : Int) (w : World) (h0 : lookasideref02_Hole.f k a2 = some false) (h1 : lookasideref01_Bit.f k a1 63 = some 0) :
    Calls Try.prog 125 #[.int .u64 a0, .int .u64 a1, .int .u64 a2] w fun e w' => e = .returned (.tuple #[.agg #[.int .i64 0, .int .i64 0, .int .u64 0, .int .u64 0, .bool false, .bool false, .bool false, .bool false, .bool false, .bool false, .bool false], .int .i64 11]) ∧ Below w.heap.size w w' := by
  have A0 := Aside0.mk h0
  clear h0
  have A1 := Aside0.mk h1
  clear h1
  have HB := Aside0.mk (Below.refl w.heap.size w)
  have hu26 := Try.underlying50
  go_enter Try.func125, Try.ntmps125
  go_wp2_with (first | ((with_reducible refine gate_dst (N := 6) rfl ?_); refine box_event ?hg (N := 6) ?hd (cs := #[.int .i64 0, .int .i64 0, .int .u64 0, .int .u64 0, .bool false, .bool false, .bool false, .bool false, .bool false, .bool false, .bool false]) (t := 50) ?hr ?_; (case hd => rfl); (case hg => rfl); (case hr => first | (go_simp; done) | (go_simp; rfl)); intro g6 hgb w1 hbox0 hb; have GE6 := Aside0.mk (Nat.le_trans HB.out.size (Nat.le_of_eq hgb.symm)); have H6 := Aside0.mk hbox0; have m_HB := Aside0.mk (show Below w.heap.size w w1 from below_step HB.out hb); clear HB; have HB := m_HB; clear m_HB; clear hgb hbox0 hb) | ((with_reducible refine gate_dst (N := 8) rfl ?_); refine box_event ?hg (N := 8) ?hd (cs := #[.int .i64 0, .int .i64 0, .int .u64 0, .int .u64 0, .bool false, .bool false, .bool false, .bool false, .bool false, .bool false, .bool false]) (t := 50) ?hr ?_; (case hd => rfl); (case hg => rfl); (case hr => first | (go_simp; done) | (go_simp; rfl)); intro g8 hgb w2 hbox0 hb; have GE8 := Aside0.mk (Nat.le_trans HB.out.size (Nat.le_of_eq hgb.symm)); have NE_g6_g8 := Aside0.mk (Nat.ne_of_lt (Nat.lt_of_lt_of_le (blk_lt H6.out) (Nat.le_of_eq hgb.symm))); have H8 := Aside0.mk hbox0; have m_H6 := Aside0.mk (show w2.heap[g6]? = some _ from blk_below H6.out hb); have m_HB := Aside0.mk (show Below w.heap.size w w2 from below_step HB.out hb); clear H6 HB; have H6 := m_H6; have HB := m_HB; clear m_H6 m_HB; clear hgb hbox0 hb) | ((with_reducible refine gate_callee (f := 124) rfl ?_); refine goesL_ (some 13) rfl rfl Try.func124 (by kernel_rfl) rfl #[.int .u64 a2] rfl (by (try simp only [List.map_toArray, List.map_cons, List.map_nil]); first | done | rfl | (simp only [List.length_drop, List.length_take]; rfl)) ?_; (with_reducible refine (lookasideref02_Hole.calls k a2 _ _ A0.out).mono ?_); rintro e wn ⟨rfl, hdr⟩; refine ⟨_, rfl, ?_⟩; have m_H6 := Aside0.mk (show wn.heap[g6]? = some _ from by obtain ⟨nd, rfl⟩ := hdr; exact blk_drewN H6.out _); have m_H8 := Aside0.mk (show wn.heap[g8]? = some _ from by obtain ⟨nd, rfl⟩ := hdr; exact blk_drewN H8.out _); have m_HB := Aside0.mk (show Below w.heap.size w wn from by obtain ⟨nd, rfl⟩ := hdr; exact pw_below_drewN HB.out _); clear H6 H8 HB; have H6 := m_H6; have H8 := m_H8; have HB := m_HB; clear m_H6 m_H8 m_HB; clear hdr; obtain ⟨qH8_0, qH8_1, qH8_2, qH8_3, qH8_4, qH8_5, qH8_6, qH8_7, qH8_8, qH8_9, qH8_10⟩ := rr3.cz11 H8.out) | ((with_reducible refine gate_callee (f := 113) rfl ?_); refine goesL_ (some 17) rfl rfl Try.func113 (by kernel_rfl) rfl #[.int .u64 a1, .int .i64 63] rfl (by (try simp only [List.map_toArray, List.map_cons, List.map_nil]); first | done | rfl | (simp only [List.length_drop, List.length_take]; rfl)) ?_; (with_reducible refine (lookasideref01_Bit.calls k a1 63 _ _ A1.out).mono ?_); rintro e wn ⟨rfl, hdr⟩; refine ⟨_, rfl, ?_⟩; have m_H6 := Aside0.mk (show wn.heap[g6]? = some _ from by obtain ⟨nd, rfl⟩ := hdr; exact blk_drewN H6.out _); have m_H8 := Aside0.mk (show wn.heap[g8]? = some _ from by obtain ⟨nd, rfl⟩ := hdr; exact blk_drewN H8.out _); have m_HB := Aside0.mk (show Below w.heap.size w wn from by obtain ⟨nd, rfl⟩ := hdr; exact pw_below_drewN HB.out _); clear H6 H8 HB; have H6 := m_H6; have H8 := m_H8; have HB := m_HB; clear m_H6 m_H8 m_HB; clear hdr; obtain ⟨qH8_0, qH8_1, qH8_2, qH8_3, qH8_4, qH8_5, qH8_6, qH8_7, qH8_8, qH8_9, qH8_10⟩ := rr3.cz11 H8.out) | ((with_reducible refine gate_store (t := 50) (p := 6) rfl ?_); refine wpList_store_row rfl 50 (.tmp 6) (.tmp 19) rfl g6 #[.int .i64 0, .int .i64 0, .int .u64 0, .int .u64 0, .bool false, .bool false, .bool false, .bool false, .bool false, .bool false, .bool false] rfl rfl 50 _ H6.out (by kernel_rfl) rfl (by kernel_rfl) ?_; have n1 := Aside0.mk (setRow_heap _ g6 _ #[.int .i64 0, .int .i64 0, .int .u64 0, .int .u64 0, .bool false, .bool false, .bool false, .bool false, .bool false, .bool false, .bool false] _ _ H6.out); have n2 := Aside0.mk (below_setRow HB.out GE6.out #[.int .i64 0, .int .i64 0, .int .u64 0, .int .u64 0, .bool false, .bool false, .bool false, .bool false, .bool false, .bool false, .bool false]); generalize World.setRow _ g6 #[.int .i64 0, .int .i64 0, .int .u64 0, .int .u64 0, .bool false, .bool false, .bool false, .bool false, .bool false, .bool false, .bool false] = w20 at n1 n2 ⊢; clear H6 HB; have H6 := n1; have HB := n2; clear n1 n2; obtain ⟨qH6_0, qH6_1, qH6_2, qH6_3, qH6_4, qH6_5, qH6_6, qH6_7, qH6_8, qH6_9, qH6_10⟩ := rr3.cz11 H6.out))
  (try simp only [Exit.inBlock, Exit.then]); refine bodyPost_ret (results_ct rfl _ _ g6 50 #[.int .i64 0, .int .i64 0, .int .u64 0, .int .u64 0, .bool false, .bool false, .bool false, .bool false, .bool false, .bool false, .bool false] (0, 0) _ rfl H6.out hu26 rfl (by kernel_rfl)) rfl ?_; exact ⟨rfl, HB.out⟩
set_option maxHeartbeats 8000000 in
set_option maxRecDepth 100000 in
theorem rr3.yes (k : Nat) (a0 a1 a2 t0 t1 t2 t3 t4 q l x p v g : Int) (tg dd : Int) (w : World) (hz : (t0 == 0) = false) (h0 : lookasideref02_Hole.f k a2 = some false) (h1 : lookasideref01_Bit.f k a1 63 = some t0) (h2 : lookasideref01_Get.f k a1 61 2 = some t1) (h3 : lookasideref01_Get.f k a0 48 13 = some t2) (h4 : lookasideref02_Base.f a2 (wrap64 t1) = some t3) (h5 : lookasideref01_Get.f k a1 13 28 = some t4) (h6 : lookasideref01_Bit.f k a1 60 = some q) (h7 : lookasideref01_Bit.f k a1 6 = some l) (h8 : lookasideref01_Bit.f k a1 3 = some x) (h9 : lookasideref01_Bit.f k a1 2 = some p) (h10 : lookasideref01_Bit.f k a1 1 = some v) (h11 : lookasideref01_Bit.f k a1 0 = some g) (hm : lookasideref03_May.f k (wrap64 t1) (wrap64 t2) t3 (IntKind.u64.wrap (t4 * 8192)) (v == 1) (p == 1) (x == 1) (l == 1) (g == 1) (q == 1) true = some true) (ht : lookasideref03_Tag.f k (wrap64 t1) (wrap64 t2) t3 (IntKind.u64.wrap (t4 * 8192)) (v == 1) (p == 1) (x == 1) (l == 1) (g == 1) (q == 1) true = some tg) (hn : (tg != a0) = false) (hd : lookasideref03_Data.f k (wrap64 t1) (wrap64 t2) t3 (IntKind.u64.wrap (t4 * 8192)) (v == 1) (p == 1) (x == 1) (l == 1) (g == 1) (q == 1) true = some dd) (hn2 : (dd != a1) = false) :
    Calls Try.prog 125 #[.int .u64 a0, .int .u64 a1, .int .u64 a2] w fun e w' => e = .returned (.tuple #[.agg #[.int .i64 (wrap64 t1), .int .i64 (wrap64 t2), .int .u64 t3, .int .u64 (IntKind.u64.wrap (t4 * 8192)), .bool (v == 1), .bool (p == 1), .bool (x == 1), .bool (l == 1), .bool (g == 1), .bool (q == 1), .bool true], .int .i64 0]) ∧ Below w.heap.size w w' := by
  have A0 := Aside0.mk h0
  clear h0
  have A1 := Aside0.mk h1
  clear h1
  have A2 := Aside0.mk h2
  clear h2
  have A3 := Aside0.mk h3
  clear h3
  have A4 := Aside0.mk h4
  clear h4
  have A5 := Aside0.mk h5
  clear h5
  have A6 := Aside0.mk h6
  clear h6
  have A7 := Aside0.mk h7
  clear h7
  have A8 := Aside0.mk h8
  clear h8
  have A9 := Aside0.mk h9
  clear h9
  have A10 := Aside0.mk h10
  clear h10
  have A11 := Aside0.mk h11
  clear h11
  have AM := Aside0.mk hm
  clear hm
  have AT := Aside0.mk ht
  clear ht
  have AD := Aside0.mk hd
  clear hd
  have HB := Aside0.mk (Below.refl w.heap.size w)
  have hu26 := Try.underlying50
  go_enter Try.func125, Try.ntmps125
  go_wp2_with (first | ((with_reducible refine gate_dst (N := 6) rfl ?_); refine box_event ?hg (N := 6) ?hd (cs := #[.int .i64 0, .int .i64 0, .int .u64 0, .int .u64 0, .bool false, .bool false, .bool false, .bool false, .bool false, .bool false, .bool false]) (t := 50) ?hr ?_; (case hd => rfl); (case hg => rfl); (case hr => first | (go_simp; done) | (go_simp; rfl)); intro g6 hgb w1 hbox0 hb; have GE6 := Aside0.mk (Nat.le_trans HB.out.size (Nat.le_of_eq hgb.symm)); have H6 := Aside0.mk hbox0; have m_HB := Aside0.mk (show Below w.heap.size w w1 from below_step HB.out hb); clear HB; have HB := m_HB; clear m_HB; clear hgb hbox0 hb) | ((with_reducible refine gate_dst (N := 8) rfl ?_); refine box_event ?hg (N := 8) ?hd (cs := #[.int .i64 0, .int .i64 0, .int .u64 0, .int .u64 0, .bool false, .bool false, .bool false, .bool false, .bool false, .bool false, .bool false]) (t := 50) ?hr ?_; (case hd => rfl); (case hg => rfl); (case hr => first | (go_simp; done) | (go_simp; rfl)); intro g8 hgb w2 hbox0 hb; have GE8 := Aside0.mk (Nat.le_trans HB.out.size (Nat.le_of_eq hgb.symm)); have NE_g6_g8 := Aside0.mk (Nat.ne_of_lt (Nat.lt_of_lt_of_le (blk_lt H6.out) (Nat.le_of_eq hgb.symm))); have H8 := Aside0.mk hbox0; have m_H6 := Aside0.mk (show w2.heap[g6]? = some _ from blk_below H6.out hb); have m_HB := Aside0.mk (show Below w.heap.size w w2 from below_step HB.out hb); clear H6 HB; have H6 := m_H6; have HB := m_HB; clear m_H6 m_HB; clear hgb hbox0 hb) | ((with_reducible refine gate_callee (f := 124) rfl ?_); refine goesL_ (some 13) rfl rfl Try.func124 (by kernel_rfl) rfl #[.int .u64 a2] rfl (by (try simp only [List.map_toArray, List.map_cons, List.map_nil]); first | done | rfl | (simp only [List.length_drop, List.length_take]; rfl)) ?_; (with_reducible refine (lookasideref02_Hole.calls k a2 _ _ A0.out).mono ?_); rintro e wn ⟨rfl, hdr⟩; refine ⟨_, rfl, ?_⟩; have m_H6 := Aside0.mk (show wn.heap[g6]? = some _ from by obtain ⟨nd, rfl⟩ := hdr; exact blk_drewN H6.out _); have m_H8 := Aside0.mk (show wn.heap[g8]? = some _ from by obtain ⟨nd, rfl⟩ := hdr; exact blk_drewN H8.out _); have m_HB := Aside0.mk (show Below w.heap.size w wn from by obtain ⟨nd, rfl⟩ := hdr; exact pw_below_drewN HB.out _); clear H6 H8 HB; have H6 := m_H6; have H8 := m_H8; have HB := m_HB; clear m_H6 m_H8 m_HB; clear hdr; obtain ⟨qH8_0, qH8_1, qH8_2, qH8_3, qH8_4, qH8_5, qH8_6, qH8_7, qH8_8, qH8_9, qH8_10⟩ := rr3.cz11 H8.out) | ((with_reducible refine gate_callee (f := 113) rfl ?_); refine goesL_ (some 17) rfl rfl Try.func113 (by kernel_rfl) rfl #[.int .u64 a1, .int .i64 63] rfl (by (try simp only [List.map_toArray, List.map_cons, List.map_nil]); first | done | rfl | (simp only [List.length_drop, List.length_take]; rfl)) ?_; (with_reducible refine (lookasideref01_Bit.calls k a1 63 _ _ A1.out).mono ?_); rintro e wn ⟨rfl, hdr⟩; refine ⟨_, rfl, ?_⟩; have m_H6 := Aside0.mk (show wn.heap[g6]? = some _ from by obtain ⟨nd, rfl⟩ := hdr; exact blk_drewN H6.out _); have m_H8 := Aside0.mk (show wn.heap[g8]? = some _ from by obtain ⟨nd, rfl⟩ := hdr; exact blk_drewN H8.out _); have m_HB := Aside0.mk (show Below w.heap.size w wn from by obtain ⟨nd, rfl⟩ := hdr; exact pw_below_drewN HB.out _); clear H6 H8 HB; have H6 := m_H6; have H8 := m_H8; have HB := m_HB; clear m_H6 m_H8 m_HB; clear hdr; obtain ⟨qH8_0, qH8_1, qH8_2, qH8_3, qH8_4, qH8_5, qH8_6, qH8_7, qH8_8, qH8_9, qH8_10⟩ := rr3.cz11 H8.out) | ((with_reducible refine gate_callee (f := 131) rfl ?_); refine goesL_ (some 21) rfl rfl Try.func131 (by kernel_rfl) rfl #[.int .u64 a1, .int .i64 61, .int .i64 2] rfl (by (try simp only [List.map_toArray, List.map_cons, List.map_nil]); first | done | rfl | (simp only [List.length_drop, List.length_take]; rfl)) ?_; (with_reducible refine (lookasideref01_Get.calls k a1 61 2 _ _ A2.out).mono ?_); rintro e wn ⟨rfl, hdr⟩; refine ⟨_, rfl, ?_⟩; have m_H6 := Aside0.mk (show wn.heap[g6]? = some _ from by obtain ⟨nd, rfl⟩ := hdr; exact blk_drewN H6.out _); have m_H8 := Aside0.mk (show wn.heap[g8]? = some _ from by obtain ⟨nd, rfl⟩ := hdr; exact blk_drewN H8.out _); have m_HB := Aside0.mk (show Below w.heap.size w wn from by obtain ⟨nd, rfl⟩ := hdr; exact pw_below_drewN HB.out _); clear H6 H8 HB; have H6 := m_H6; have H8 := m_H8; have HB := m_HB; clear m_H6 m_H8 m_HB; clear hdr) | ((with_reducible refine gate_callee (f := 131) rfl ?_); refine goesL_ (some 24) rfl rfl Try.func131 (by kernel_rfl) rfl #[.int .u64 a0, .int .i64 48, .int .i64 13] rfl (by (try simp only [List.map_toArray, List.map_cons, List.map_nil]); first | done | rfl | (simp only [List.length_drop, List.length_take]; rfl)) ?_; (with_reducible refine (lookasideref01_Get.calls k a0 48 13 _ _ A3.out).mono ?_); rintro e wn ⟨rfl, hdr⟩; refine ⟨_, rfl, ?_⟩; have m_H6 := Aside0.mk (show wn.heap[g6]? = some _ from by obtain ⟨nd, rfl⟩ := hdr; exact blk_drewN H6.out _); have m_H8 := Aside0.mk (show wn.heap[g8]? = some _ from by obtain ⟨nd, rfl⟩ := hdr; exact blk_drewN H8.out _); have m_HB := Aside0.mk (show Below w.heap.size w wn from by obtain ⟨nd, rfl⟩ := hdr; exact pw_below_drewN HB.out _); clear H6 H8 HB; have H6 := m_H6; have H8 := m_H8; have HB := m_HB; clear m_H6 m_H8 m_HB; clear hdr) | ((with_reducible refine gate_dst (N := 10) rfl ?_); refine box_event ?hg (N := 10) ?hd (cs := #[.int .i64 0, .int .i64 0, .int .u64 0, .int .u64 0, .bool false, .bool false, .bool false, .bool false, .bool false, .bool false, .bool false]) (t := 50) ?hr ?_; (case hd => rfl); (case hg => rfl); (case hr => first | (go_simp; done) | (go_simp; rfl)); intro g10 hgb w3 hbox0 hb; have GE10 := Aside0.mk (Nat.le_trans HB.out.size (Nat.le_of_eq hgb.symm)); have NE_g6_g10 := Aside0.mk (Nat.ne_of_lt (Nat.lt_of_lt_of_le (blk_lt H6.out) (Nat.le_of_eq hgb.symm))); have NE_g8_g10 := Aside0.mk (Nat.ne_of_lt (Nat.lt_of_lt_of_le (blk_lt H8.out) (Nat.le_of_eq hgb.symm))); have H10 := Aside0.mk hbox0; have m_H6 := Aside0.mk (show w3.heap[g6]? = some _ from blk_below H6.out hb); have m_H8 := Aside0.mk (show w3.heap[g8]? = some _ from blk_below H8.out hb); have m_HB := Aside0.mk (show Below w.heap.size w w3 from below_step HB.out hb); clear H6 H8 HB; have H6 := m_H6; have H8 := m_H8; have HB := m_HB; clear m_H6 m_H8 m_HB; clear hgb hbox0 hb) | ((with_reducible refine gate_store (t := 50) (p := 10) rfl ?_); refine wpList_store_row rfl 50 (.tmp 10) (.tmp 26) rfl g10 #[.int .i64 (wrap64 t1), .int .i64 (wrap64 t2), .int .u64 0, .int .u64 0, .bool false, .bool false, .bool false, .bool false, .bool false, .bool false, .bool true] rfl rfl 50 _ H10.out (by kernel_rfl) rfl (by kernel_rfl) ?_; have n1 := Aside0.mk (setRow_heap _ g10 _ #[.int .i64 (wrap64 t1), .int .i64 (wrap64 t2), .int .u64 0, .int .u64 0, .bool false, .bool false, .bool false, .bool false, .bool false, .bool false, .bool true] _ _ H10.out); have n2 := Aside0.mk (below_setRow HB.out GE10.out #[.int .i64 (wrap64 t1), .int .i64 (wrap64 t2), .int .u64 0, .int .u64 0, .bool false, .bool false, .bool false, .bool false, .bool false, .bool false, .bool true]); have k_H6 := Aside0.mk (tte_Data.row_other (cs := #[.int .i64 (wrap64 t1), .int .i64 (wrap64 t2), .int .u64 0, .int .u64 0, .bool false, .bool false, .bool false, .bool false, .bool false, .bool false, .bool true]) H6.out (.inr NE_g6_g10.out)); have k_H8 := Aside0.mk (tte_Data.row_other (cs := #[.int .i64 (wrap64 t1), .int .i64 (wrap64 t2), .int .u64 0, .int .u64 0, .bool false, .bool false, .bool false, .bool false, .bool false, .bool false, .bool true]) H8.out (.inr NE_g8_g10.out)); generalize World.setRow _ g10 #[.int .i64 (wrap64 t1), .int .i64 (wrap64 t2), .int .u64 0, .int .u64 0, .bool false, .bool false, .bool false, .bool false, .bool false, .bool false, .bool true] = w4 at n1 n2 k_H6 k_H8 ⊢; clear H10 HB; have H10 := n1; have HB := n2; clear n1 n2; clear H6; have H6 := k_H6; clear k_H6; clear H8; have H8 := k_H8; clear k_H8; obtain ⟨qH10_0, qH10_1, qH10_2, qH10_3, qH10_4, qH10_5, qH10_6, qH10_7, qH10_8, qH10_9, qH10_10⟩ := rr3.cz11 H10.out) | ((with_reducible refine gate_callee (f := 62) rfl ?_); refine goesL_ (some 30) rfl rfl Try.func62 (by kernel_rfl) rfl #[.int .u64 a2, .int .i64 (wrap64 t1)] rfl (by (try simp only [List.map_toArray, List.map_cons, List.map_nil]); first | done | rfl | (simp only [List.length_drop, List.length_take]; rfl)) ?_; (with_reducible refine (lookasideref02_Base.calls a2 (wrap64 t1) _ _ A4.out).mono ?_); rintro e wn ⟨rfl, hdr⟩; refine ⟨_, rfl, ?_⟩; have m_H6 := Aside0.mk (show wn.heap[g6]? = some _ from by obtain ⟨nd, rfl⟩ := hdr; exact blk_drewN H6.out _); have m_H8 := Aside0.mk (show wn.heap[g8]? = some _ from by obtain ⟨nd, rfl⟩ := hdr; exact blk_drewN H8.out _); have m_H10 := Aside0.mk (show wn.heap[g10]? = some _ from by obtain ⟨nd, rfl⟩ := hdr; exact blk_drewN H10.out _); have m_HB := Aside0.mk (show Below w.heap.size w wn from by obtain ⟨nd, rfl⟩ := hdr; exact pw_below_drewN HB.out _); clear H6 H8 H10 HB; have H6 := m_H6; have H8 := m_H8; have H10 := m_H10; have HB := m_HB; clear m_H6 m_H8 m_H10 m_HB; clear hdr; obtain ⟨qH10_0, qH10_1, qH10_2, qH10_3, qH10_4, qH10_5, qH10_6, qH10_7, qH10_8, qH10_9, qH10_10⟩ := rr3.cz11 H10.out; have fH10 := blk_frozen H10.out 2) | ((with_reducible refine gate_store (t := 38) (p := 31) rfl ?_); refine store_event rfl rfl rfl (w1 := wn.setCell ⟨g10, 2, none⟩ (.int .u64 t3)) ?hr ?_; (case hr => first | (go_simp; done) | (go_simp; rfl)); intro w5 hw; have m_H10 := Aside0.mk (show w5.heap[g10]? = some (.cells #[.int .i64 (wrap64 t1), .int .i64 (wrap64 t2), .int .u64 t3, .int .u64 0, .bool false, .bool false, .bool false, .bool false, .bool false, .bool false, .bool true] 50 (0, 0)) from by rw [hw]; exact blk_put H10.out 2 _ rfl); have m_H6 := Aside0.mk (show w5.heap[g6]? = some _ from by rw [hw]; exact blk_far H6.out NE_g6_g10.out _); have m_H8 := Aside0.mk (show w5.heap[g8]? = some _ from by rw [hw]; exact blk_far H8.out NE_g8_g10.out _); have m_HB := Aside0.mk (show Below w.heap.size w w5 from by rw [hw]; exact below_set HB.out GE10.out); clear hw HB H10 H6 H8; have H10 := m_H10; have HB := m_HB; have H6 := m_H6; clear m_H6; have H8 := m_H8; clear m_H8; clear m_HB m_H10; obtain ⟨qH10_0, qH10_1, qH10_2, qH10_3, qH10_4, qH10_5, qH10_6, qH10_7, qH10_8, qH10_9, qH10_10⟩ := rr3.cz11 H10.out) | ((with_reducible refine gate_callee (f := 131) rfl ?_); refine goesL_ (some 33) rfl rfl Try.func131 (by kernel_rfl) rfl #[.int .u64 a1, .int .i64 13, .int .i64 28] rfl (by (try simp only [List.map_toArray, List.map_cons, List.map_nil]); first | done | rfl | (simp only [List.length_drop, List.length_take]; rfl)) ?_; (with_reducible refine (lookasideref01_Get.calls k a1 13 28 _ _ A5.out).mono ?_); rintro e wn ⟨rfl, hdr⟩; refine ⟨_, rfl, ?_⟩; have m_H6 := Aside0.mk (show wn.heap[g6]? = some _ from by obtain ⟨nd, rfl⟩ := hdr; exact blk_drewN H6.out _); have m_H8 := Aside0.mk (show wn.heap[g8]? = some _ from by obtain ⟨nd, rfl⟩ := hdr; exact blk_drewN H8.out _); have m_H10 := Aside0.mk (show wn.heap[g10]? = some _ from by obtain ⟨nd, rfl⟩ := hdr; exact blk_drewN H10.out _); have m_HB := Aside0.mk (show Below w.heap.size w wn from by obtain ⟨nd, rfl⟩ := hdr; exact pw_below_drewN HB.out _); clear H6 H8 H10 HB; have H6 := m_H6; have H8 := m_H8; have H10 := m_H10; have HB := m_HB; clear m_H6 m_H8 m_H10 m_HB; clear hdr; obtain ⟨qH10_0, qH10_1, qH10_2, qH10_3, qH10_4, qH10_5, qH10_6, qH10_7, qH10_8, qH10_9, qH10_10⟩ := rr3.cz11 H10.out; have fH10 := blk_frozen H10.out 3) | ((with_reducible refine gate_store (t := 38) (p := 35) rfl ?_); refine store_event rfl rfl rfl (w1 := wn.setCell ⟨g10, 3, none⟩ (.int .u64 (IntKind.u64.wrap (t4 * 8192)))) ?hr ?_; (case hr => first | (go_simp; done) | (go_simp; rfl)); intro w6 hw; have m_H10 := Aside0.mk (show w6.heap[g10]? = some (.cells #[.int .i64 (wrap64 t1), .int .i64 (wrap64 t2), .int .u64 t3, .int .u64 (IntKind.u64.wrap (t4 * 8192)), .bool false, .bool false, .bool false, .bool false, .bool false, .bool false, .bool true] 50 (0, 0)) from by rw [hw]; exact blk_put H10.out 3 _ rfl); have m_H6 := Aside0.mk (show w6.heap[g6]? = some _ from by rw [hw]; exact blk_far H6.out NE_g6_g10.out _); have m_H8 := Aside0.mk (show w6.heap[g8]? = some _ from by rw [hw]; exact blk_far H8.out NE_g8_g10.out _); have m_HB := Aside0.mk (show Below w.heap.size w w6 from by rw [hw]; exact below_set HB.out GE10.out); clear hw HB H10 H6 H8; have H10 := m_H10; have HB := m_HB; have H6 := m_H6; clear m_H6; have H8 := m_H8; clear m_H8; clear m_HB m_H10; obtain ⟨qH10_0, qH10_1, qH10_2, qH10_3, qH10_4, qH10_5, qH10_6, qH10_7, qH10_8, qH10_9, qH10_10⟩ := rr3.cz11 H10.out) | ((with_reducible refine gate_callee (f := 113) rfl ?_); refine goesL_ (some 37) rfl rfl Try.func113 (by kernel_rfl) rfl #[.int .u64 a1, .int .i64 60] rfl (by (try simp only [List.map_toArray, List.map_cons, List.map_nil]); first | done | rfl | (simp only [List.length_drop, List.length_take]; rfl)) ?_; (with_reducible refine (lookasideref01_Bit.calls k a1 60 _ _ A6.out).mono ?_); rintro e wn ⟨rfl, hdr⟩; refine ⟨_, rfl, ?_⟩; have m_H6 := Aside0.mk (show wn.heap[g6]? = some _ from by obtain ⟨nd, rfl⟩ := hdr; exact blk_drewN H6.out _); have m_H8 := Aside0.mk (show wn.heap[g8]? = some _ from by obtain ⟨nd, rfl⟩ := hdr; exact blk_drewN H8.out _); have m_H10 := Aside0.mk (show wn.heap[g10]? = some _ from by obtain ⟨nd, rfl⟩ := hdr; exact blk_drewN H10.out _); have m_HB := Aside0.mk (show Below w.heap.size w wn from by obtain ⟨nd, rfl⟩ := hdr; exact pw_below_drewN HB.out _); clear H6 H8 H10 HB; have H6 := m_H6; have H8 := m_H8; have H10 := m_H10; have HB := m_HB; clear m_H6 m_H8 m_H10 m_HB; clear hdr; obtain ⟨qH10_0, qH10_1, qH10_2, qH10_3, qH10_4, qH10_5, qH10_6, qH10_7, qH10_8, qH10_9, qH10_10⟩ := rr3.cz11 H10.out; have fH10 := blk_frozen H10.out 9) | ((with_reducible refine gate_store (t := 4) (p := 40) rfl ?_); refine store_event rfl rfl rfl (w1 := wn.setCell ⟨g10, 9, none⟩ (.bool (q == 1))) ?hr ?_; (case hr => first | (go_simp; done) | (go_simp; rfl)); intro w7 hw; have m_H10 := Aside0.mk (show w7.heap[g10]? = some (.cells #[.int .i64 (wrap64 t1), .int .i64 (wrap64 t2), .int .u64 t3, .int .u64 (IntKind.u64.wrap (t4 * 8192)), .bool false, .bool false, .bool false, .bool false, .bool false, .bool (q == 1), .bool true] 50 (0, 0)) from by rw [hw]; exact blk_put H10.out 9 _ rfl); have m_H6 := Aside0.mk (show w7.heap[g6]? = some _ from by rw [hw]; exact blk_far H6.out NE_g6_g10.out _); have m_H8 := Aside0.mk (show w7.heap[g8]? = some _ from by rw [hw]; exact blk_far H8.out NE_g8_g10.out _); have m_HB := Aside0.mk (show Below w.heap.size w w7 from by rw [hw]; exact below_set HB.out GE10.out); clear hw HB H10 H6 H8; have H10 := m_H10; have HB := m_HB; have H6 := m_H6; clear m_H6; have H8 := m_H8; clear m_H8; clear m_HB m_H10; obtain ⟨qH10_0, qH10_1, qH10_2, qH10_3, qH10_4, qH10_5, qH10_6, qH10_7, qH10_8, qH10_9, qH10_10⟩ := rr3.cz11 H10.out) | ((with_reducible refine gate_callee (f := 113) rfl ?_); refine goesL_ (some 42) rfl rfl Try.func113 (by kernel_rfl) rfl #[.int .u64 a1, .int .i64 6] rfl (by (try simp only [List.map_toArray, List.map_cons, List.map_nil]); first | done | rfl | (simp only [List.length_drop, List.length_take]; rfl)) ?_; (with_reducible refine (lookasideref01_Bit.calls k a1 6 _ _ A7.out).mono ?_); rintro e wn ⟨rfl, hdr⟩; refine ⟨_, rfl, ?_⟩; have m_H6 := Aside0.mk (show wn.heap[g6]? = some _ from by obtain ⟨nd, rfl⟩ := hdr; exact blk_drewN H6.out _); have m_H8 := Aside0.mk (show wn.heap[g8]? = some _ from by obtain ⟨nd, rfl⟩ := hdr; exact blk_drewN H8.out _); have m_H10 := Aside0.mk (show wn.heap[g10]? = some _ from by obtain ⟨nd, rfl⟩ := hdr; exact blk_drewN H10.out _); have m_HB := Aside0.mk (show Below w.heap.size w wn from by obtain ⟨nd, rfl⟩ := hdr; exact pw_below_drewN HB.out _); clear H6 H8 H10 HB; have H6 := m_H6; have H8 := m_H8; have H10 := m_H10; have HB := m_HB; clear m_H6 m_H8 m_H10 m_HB; clear hdr; obtain ⟨qH10_0, qH10_1, qH10_2, qH10_3, qH10_4, qH10_5, qH10_6, qH10_7, qH10_8, qH10_9, qH10_10⟩ := rr3.cz11 H10.out; have fH10 := blk_frozen H10.out 7) | ((with_reducible refine gate_store (t := 4) (p := 45) rfl ?_); refine store_event rfl rfl rfl (w1 := wn.setCell ⟨g10, 7, none⟩ (.bool (l == 1))) ?hr ?_; (case hr => first | (go_simp; done) | (go_simp; rfl)); intro w8 hw; have m_H10 := Aside0.mk (show w8.heap[g10]? = some (.cells #[.int .i64 (wrap64 t1), .int .i64 (wrap64 t2), .int .u64 t3, .int .u64 (IntKind.u64.wrap (t4 * 8192)), .bool false, .bool false, .bool false, .bool (l == 1), .bool false, .bool (q == 1), .bool true] 50 (0, 0)) from by rw [hw]; exact blk_put H10.out 7 _ rfl); have m_H6 := Aside0.mk (show w8.heap[g6]? = some _ from by rw [hw]; exact blk_far H6.out NE_g6_g10.out _); have m_H8 := Aside0.mk (show w8.heap[g8]? = some _ from by rw [hw]; exact blk_far H8.out NE_g8_g10.out _); have m_HB := Aside0.mk (show Below w.heap.size w w8 from by rw [hw]; exact below_set HB.out GE10.out); clear hw HB H10 H6 H8; have H10 := m_H10; have HB := m_HB; have H6 := m_H6; clear m_H6; have H8 := m_H8; clear m_H8; clear m_HB m_H10; obtain ⟨qH10_0, qH10_1, qH10_2, qH10_3, qH10_4, qH10_5, qH10_6, qH10_7, qH10_8, qH10_9, qH10_10⟩ := rr3.cz11 H10.out) | ((with_reducible refine gate_callee (f := 113) rfl ?_); refine goesL_ (some 47) rfl rfl Try.func113 (by kernel_rfl) rfl #[.int .u64 a1, .int .i64 3] rfl (by (try simp only [List.map_toArray, List.map_cons, List.map_nil]); first | done | rfl | (simp only [List.length_drop, List.length_take]; rfl)) ?_; (with_reducible refine (lookasideref01_Bit.calls k a1 3 _ _ A8.out).mono ?_); rintro e wn ⟨rfl, hdr⟩; refine ⟨_, rfl, ?_⟩; have m_H6 := Aside0.mk (show wn.heap[g6]? = some _ from by obtain ⟨nd, rfl⟩ := hdr; exact blk_drewN H6.out _); have m_H8 := Aside0.mk (show wn.heap[g8]? = some _ from by obtain ⟨nd, rfl⟩ := hdr; exact blk_drewN H8.out _); have m_H10 := Aside0.mk (show wn.heap[g10]? = some _ from by obtain ⟨nd, rfl⟩ := hdr; exact blk_drewN H10.out _); have m_HB := Aside0.mk (show Below w.heap.size w wn from by obtain ⟨nd, rfl⟩ := hdr; exact pw_below_drewN HB.out _); clear H6 H8 H10 HB; have H6 := m_H6; have H8 := m_H8; have H10 := m_H10; have HB := m_HB; clear m_H6 m_H8 m_H10 m_HB; clear hdr; obtain ⟨qH10_0, qH10_1, qH10_2, qH10_3, qH10_4, qH10_5, qH10_6, qH10_7, qH10_8, qH10_9, qH10_10⟩ := rr3.cz11 H10.out; have fH10 := blk_frozen H10.out 6) | ((with_reducible refine gate_store (t := 4) (p := 50) rfl ?_); refine store_event rfl rfl rfl (w1 := wn.setCell ⟨g10, 6, none⟩ (.bool (x == 1))) ?hr ?_; (case hr => first | (go_simp; done) | (go_simp; rfl)); intro w9 hw; have m_H10 := Aside0.mk (show w9.heap[g10]? = some (.cells #[.int .i64 (wrap64 t1), .int .i64 (wrap64 t2), .int .u64 t3, .int .u64 (IntKind.u64.wrap (t4 * 8192)), .bool false, .bool false, .bool (x == 1), .bool (l == 1), .bool false, .bool (q == 1), .bool true] 50 (0, 0)) from by rw [hw]; exact blk_put H10.out 6 _ rfl); have m_H6 := Aside0.mk (show w9.heap[g6]? = some _ from by rw [hw]; exact blk_far H6.out NE_g6_g10.out _); have m_H8 := Aside0.mk (show w9.heap[g8]? = some _ from by rw [hw]; exact blk_far H8.out NE_g8_g10.out _); have m_HB := Aside0.mk (show Below w.heap.size w w9 from by rw [hw]; exact below_set HB.out GE10.out); clear hw HB H10 H6 H8; have H10 := m_H10; have HB := m_HB; have H6 := m_H6; clear m_H6; have H8 := m_H8; clear m_H8; clear m_HB m_H10; obtain ⟨qH10_0, qH10_1, qH10_2, qH10_3, qH10_4, qH10_5, qH10_6, qH10_7, qH10_8, qH10_9, qH10_10⟩ := rr3.cz11 H10.out) | ((with_reducible refine gate_callee (f := 113) rfl ?_); refine goesL_ (some 52) rfl rfl Try.func113 (by kernel_rfl) rfl #[.int .u64 a1, .int .i64 2] rfl (by (try simp only [List.map_toArray, List.map_cons, List.map_nil]); first | done | rfl | (simp only [List.length_drop, List.length_take]; rfl)) ?_; (with_reducible refine (lookasideref01_Bit.calls k a1 2 _ _ A9.out).mono ?_); rintro e wn ⟨rfl, hdr⟩; refine ⟨_, rfl, ?_⟩; have m_H6 := Aside0.mk (show wn.heap[g6]? = some _ from by obtain ⟨nd, rfl⟩ := hdr; exact blk_drewN H6.out _); have m_H8 := Aside0.mk (show wn.heap[g8]? = some _ from by obtain ⟨nd, rfl⟩ := hdr; exact blk_drewN H8.out _); have m_H10 := Aside0.mk (show wn.heap[g10]? = some _ from by obtain ⟨nd, rfl⟩ := hdr; exact blk_drewN H10.out _); have m_HB := Aside0.mk (show Below w.heap.size w wn from by obtain ⟨nd, rfl⟩ := hdr; exact pw_below_drewN HB.out _); clear H6 H8 H10 HB; have H6 := m_H6; have H8 := m_H8; have H10 := m_H10; have HB := m_HB; clear m_H6 m_H8 m_H10 m_HB; clear hdr; obtain ⟨qH10_0, qH10_1, qH10_2, qH10_3, qH10_4, qH10_5, qH10_6, qH10_7, qH10_8, qH10_9, qH10_10⟩ := rr3.cz11 H10.out; have fH10 := blk_frozen H10.out 5) | ((with_reducible refine gate_store (t := 4) (p := 55) rfl ?_); refine store_event rfl rfl rfl (w1 := wn.setCell ⟨g10, 5, none⟩ (.bool (p == 1))) ?hr ?_; (case hr => first | (go_simp; done) | (go_simp; rfl)); intro w10 hw; have m_H10 := Aside0.mk (show w10.heap[g10]? = some (.cells #[.int .i64 (wrap64 t1), .int .i64 (wrap64 t2), .int .u64 t3, .int .u64 (IntKind.u64.wrap (t4 * 8192)), .bool false, .bool (p == 1), .bool (x == 1), .bool (l == 1), .bool false, .bool (q == 1), .bool true] 50 (0, 0)) from by rw [hw]; exact blk_put H10.out 5 _ rfl); have m_H6 := Aside0.mk (show w10.heap[g6]? = some _ from by rw [hw]; exact blk_far H6.out NE_g6_g10.out _); have m_H8 := Aside0.mk (show w10.heap[g8]? = some _ from by rw [hw]; exact blk_far H8.out NE_g8_g10.out _); have m_HB := Aside0.mk (show Below w.heap.size w w10 from by rw [hw]; exact below_set HB.out GE10.out); clear hw HB H10 H6 H8; have H10 := m_H10; have HB := m_HB; have H6 := m_H6; clear m_H6; have H8 := m_H8; clear m_H8; clear m_HB m_H10; obtain ⟨qH10_0, qH10_1, qH10_2, qH10_3, qH10_4, qH10_5, qH10_6, qH10_7, qH10_8, qH10_9, qH10_10⟩ := rr3.cz11 H10.out) | ((with_reducible refine gate_callee (f := 113) rfl ?_); refine goesL_ (some 57) rfl rfl Try.func113 (by kernel_rfl) rfl #[.int .u64 a1, .int .i64 1] rfl (by (try simp only [List.map_toArray, List.map_cons, List.map_nil]); first | done | rfl | (simp only [List.length_drop, List.length_take]; rfl)) ?_; (with_reducible refine (lookasideref01_Bit.calls k a1 1 _ _ A10.out).mono ?_); rintro e wn ⟨rfl, hdr⟩; refine ⟨_, rfl, ?_⟩; have m_H6 := Aside0.mk (show wn.heap[g6]? = some _ from by obtain ⟨nd, rfl⟩ := hdr; exact blk_drewN H6.out _); have m_H8 := Aside0.mk (show wn.heap[g8]? = some _ from by obtain ⟨nd, rfl⟩ := hdr; exact blk_drewN H8.out _); have m_H10 := Aside0.mk (show wn.heap[g10]? = some _ from by obtain ⟨nd, rfl⟩ := hdr; exact blk_drewN H10.out _); have m_HB := Aside0.mk (show Below w.heap.size w wn from by obtain ⟨nd, rfl⟩ := hdr; exact pw_below_drewN HB.out _); clear H6 H8 H10 HB; have H6 := m_H6; have H8 := m_H8; have H10 := m_H10; have HB := m_HB; clear m_H6 m_H8 m_H10 m_HB; clear hdr; obtain ⟨qH10_0, qH10_1, qH10_2, qH10_3, qH10_4, qH10_5, qH10_6, qH10_7, qH10_8, qH10_9, qH10_10⟩ := rr3.cz11 H10.out; have fH10 := blk_frozen H10.out 4) | ((with_reducible refine gate_store (t := 4) (p := 60) rfl ?_); refine store_event rfl rfl rfl (w1 := wn.setCell ⟨g10, 4, none⟩ (.bool (v == 1))) ?hr ?_; (case hr => first | (go_simp; done) | (go_simp; rfl)); intro w11 hw; have m_H10 := Aside0.mk (show w11.heap[g10]? = some (.cells #[.int .i64 (wrap64 t1), .int .i64 (wrap64 t2), .int .u64 t3, .int .u64 (IntKind.u64.wrap (t4 * 8192)), .bool (v == 1), .bool (p == 1), .bool (x == 1), .bool (l == 1), .bool false, .bool (q == 1), .bool true] 50 (0, 0)) from by rw [hw]; exact blk_put H10.out 4 _ rfl); have m_H6 := Aside0.mk (show w11.heap[g6]? = some _ from by rw [hw]; exact blk_far H6.out NE_g6_g10.out _); have m_H8 := Aside0.mk (show w11.heap[g8]? = some _ from by rw [hw]; exact blk_far H8.out NE_g8_g10.out _); have m_HB := Aside0.mk (show Below w.heap.size w w11 from by rw [hw]; exact below_set HB.out GE10.out); clear hw HB H10 H6 H8; have H10 := m_H10; have HB := m_HB; have H6 := m_H6; clear m_H6; have H8 := m_H8; clear m_H8; clear m_HB m_H10; obtain ⟨qH10_0, qH10_1, qH10_2, qH10_3, qH10_4, qH10_5, qH10_6, qH10_7, qH10_8, qH10_9, qH10_10⟩ := rr3.cz11 H10.out) | ((with_reducible refine gate_callee (f := 113) rfl ?_); refine goesL_ (some 62) rfl rfl Try.func113 (by kernel_rfl) rfl #[.int .u64 a1, .int .i64 0] rfl (by (try simp only [List.map_toArray, List.map_cons, List.map_nil]); first | done | rfl | (simp only [List.length_drop, List.length_take]; rfl)) ?_; (with_reducible refine (lookasideref01_Bit.calls k a1 0 _ _ A11.out).mono ?_); rintro e wn ⟨rfl, hdr⟩; refine ⟨_, rfl, ?_⟩; have m_H6 := Aside0.mk (show wn.heap[g6]? = some _ from by obtain ⟨nd, rfl⟩ := hdr; exact blk_drewN H6.out _); have m_H8 := Aside0.mk (show wn.heap[g8]? = some _ from by obtain ⟨nd, rfl⟩ := hdr; exact blk_drewN H8.out _); have m_H10 := Aside0.mk (show wn.heap[g10]? = some _ from by obtain ⟨nd, rfl⟩ := hdr; exact blk_drewN H10.out _); have m_HB := Aside0.mk (show Below w.heap.size w wn from by obtain ⟨nd, rfl⟩ := hdr; exact pw_below_drewN HB.out _); clear H6 H8 H10 HB; have H6 := m_H6; have H8 := m_H8; have H10 := m_H10; have HB := m_HB; clear m_H6 m_H8 m_H10 m_HB; clear hdr; obtain ⟨qH10_0, qH10_1, qH10_2, qH10_3, qH10_4, qH10_5, qH10_6, qH10_7, qH10_8, qH10_9, qH10_10⟩ := rr3.cz11 H10.out; have fH10 := blk_frozen H10.out 8) | ((with_reducible refine gate_store (t := 4) (p := 65) rfl ?_); refine store_event rfl rfl rfl (w1 := wn.setCell ⟨g10, 8, none⟩ (.bool (g == 1))) ?hr ?_; (case hr => first | (go_simp; done) | (go_simp; rfl)); intro w12 hw; have m_H10 := Aside0.mk (show w12.heap[g10]? = some (.cells #[.int .i64 (wrap64 t1), .int .i64 (wrap64 t2), .int .u64 t3, .int .u64 (IntKind.u64.wrap (t4 * 8192)), .bool (v == 1), .bool (p == 1), .bool (x == 1), .bool (l == 1), .bool (g == 1), .bool (q == 1), .bool true] 50 (0, 0)) from by rw [hw]; exact blk_put H10.out 8 _ rfl); have m_H6 := Aside0.mk (show w12.heap[g6]? = some _ from by rw [hw]; exact blk_far H6.out NE_g6_g10.out _); have m_H8 := Aside0.mk (show w12.heap[g8]? = some _ from by rw [hw]; exact blk_far H8.out NE_g8_g10.out _); have m_HB := Aside0.mk (show Below w.heap.size w w12 from by rw [hw]; exact below_set HB.out GE10.out); clear hw HB H10 H6 H8; have H10 := m_H10; have HB := m_HB; have H6 := m_H6; clear m_H6; have H8 := m_H8; clear m_H8; clear m_HB m_H10; obtain ⟨qH10_0, qH10_1, qH10_2, qH10_3, qH10_4, qH10_5, qH10_6, qH10_7, qH10_8, qH10_9, qH10_10⟩ := rr3.cz11 H10.out) | ((with_reducible refine gate_callee (f := 104) rfl ?_); refine goesL_ (some 67) rfl rfl Try.func104 (by kernel_rfl) rfl #[.agg #[.int .i64 (wrap64 t1), .int .i64 (wrap64 t2), .int .u64 t3, .int .u64 (IntKind.u64.wrap (t4 * 8192)), .bool (v == 1), .bool (p == 1), .bool (x == 1), .bool (l == 1), .bool (g == 1), .bool (q == 1), .bool true]] rfl (by (try simp only [List.map_toArray, List.map_cons, List.map_nil]); first | done | rfl | (simp only [List.length_drop, List.length_take]; rfl)) ?_; (with_reducible refine (lookasideref03_May.calls k (wrap64 t1) (wrap64 t2) t3 (IntKind.u64.wrap (t4 * 8192)) (v == 1) (p == 1) (x == 1) (l == 1) (g == 1) (q == 1) true _ _ AM.out).mono ?_); rintro e wn ⟨rfl, hb⟩; refine ⟨_, rfl, ?_⟩; have m_H6 := Aside0.mk (show wn.heap[g6]? = some _ from blk_below H6.out hb); have m_H8 := Aside0.mk (show wn.heap[g8]? = some _ from blk_below H8.out hb); have m_H10 := Aside0.mk (show wn.heap[g10]? = some _ from blk_below H10.out hb); have m_HB := Aside0.mk (show Below w.heap.size w wn from below_step HB.out hb); clear H6 H8 H10 HB; have H6 := m_H6; have H8 := m_H8; have H10 := m_H10; have HB := m_HB; clear m_H6 m_H8 m_H10 m_HB; clear hb; obtain ⟨qH10_0, qH10_1, qH10_2, qH10_3, qH10_4, qH10_5, qH10_6, qH10_7, qH10_8, qH10_9, qH10_10⟩ := rr3.cz11 H10.out; obtain ⟨qH8_0, qH8_1, qH8_2, qH8_3, qH8_4, qH8_5, qH8_6, qH8_7, qH8_8, qH8_9, qH8_10⟩ := rr3.cz11 H8.out) | (go_at_call 101; (with_reducible refine (lookasideref03_Tag.calls k (wrap64 t1) (wrap64 t2) t3 (IntKind.u64.wrap (t4 * 8192)) (v == 1) (p == 1) (x == 1) (l == 1) (g == 1) (q == 1) true _ _ AT.out).mono ?_); rintro e wn ⟨rfl, hb⟩; have m_H6 := Aside0.mk (show wn.heap[g6]? = some _ from blk_below H6.out hb); have m_H8 := Aside0.mk (show wn.heap[g8]? = some _ from blk_below H8.out hb); have m_H10 := Aside0.mk (show wn.heap[g10]? = some _ from blk_below H10.out hb); have m_HB := Aside0.mk (show Below w.heap.size w wn from below_step HB.out hb); clear H6 H8 H10 HB; have H6 := m_H6; have H8 := m_H8; have H10 := m_H10; have HB := m_HB; clear m_H6 m_H8 m_H10 m_HB; clear hb; obtain ⟨qH10_0, qH10_1, qH10_2, qH10_3, qH10_4, qH10_5, qH10_6, qH10_7, qH10_8, qH10_9, qH10_10⟩ := rr3.cz11 H10.out; obtain ⟨qH8_0, qH8_1, qH8_2, qH8_3, qH8_4, qH8_5, qH8_6, qH8_7, qH8_8, qH8_9, qH8_10⟩ := rr3.cz11 H8.out) | (go_at_call 103; (with_reducible refine (lookasideref03_Data.calls k (wrap64 t1) (wrap64 t2) t3 (IntKind.u64.wrap (t4 * 8192)) (v == 1) (p == 1) (x == 1) (l == 1) (g == 1) (q == 1) true _ _ AD.out).mono ?_); rintro e wn ⟨rfl, hb⟩; have m_H6 := Aside0.mk (show wn.heap[g6]? = some _ from blk_below H6.out hb); have m_H8 := Aside0.mk (show wn.heap[g8]? = some _ from blk_below H8.out hb); have m_H10 := Aside0.mk (show wn.heap[g10]? = some _ from blk_below H10.out hb); have m_HB := Aside0.mk (show Below w.heap.size w wn from below_step HB.out hb); clear H6 H8 H10 HB; have H6 := m_H6; have H8 := m_H8; have H10 := m_H10; have HB := m_HB; clear m_H6 m_H8 m_H10 m_HB; clear hb; obtain ⟨qH10_0, qH10_1, qH10_2, qH10_3, qH10_4, qH10_5, qH10_6, qH10_7, qH10_8, qH10_9, qH10_10⟩ := rr3.cz11 H10.out; obtain ⟨qH8_0, qH8_1, qH8_2, qH8_3, qH8_4, qH8_5, qH8_6, qH8_7, qH8_8, qH8_9, qH8_10⟩ := rr3.cz11 H8.out) | ((with_reducible refine gate_store (t := 50) (p := 6) rfl ?_); refine wpList_store_row rfl 50 (.tmp 6) (.tmp 83) rfl g6 #[.int .i64 (wrap64 t1), .int .i64 (wrap64 t2), .int .u64 t3, .int .u64 (IntKind.u64.wrap (t4 * 8192)), .bool (v == 1), .bool (p == 1), .bool (x == 1), .bool (l == 1), .bool (g == 1), .bool (q == 1), .bool true] rfl rfl 50 _ H6.out (by kernel_rfl) rfl (by kernel_rfl) ?_; have n1 := Aside0.mk (setRow_heap _ g6 _ #[.int .i64 (wrap64 t1), .int .i64 (wrap64 t2), .int .u64 t3, .int .u64 (IntKind.u64.wrap (t4 * 8192)), .bool (v == 1), .bool (p == 1), .bool (x == 1), .bool (l == 1), .bool (g == 1), .bool (q == 1), .bool true] _ _ H6.out); have n2 := Aside0.mk (below_setRow HB.out GE6.out #[.int .i64 (wrap64 t1), .int .i64 (wrap64 t2), .int .u64 t3, .int .u64 (IntKind.u64.wrap (t4 * 8192)), .bool (v == 1), .bool (p == 1), .bool (x == 1), .bool (l == 1), .bool (g == 1), .bool (q == 1), .bool true]); generalize World.setRow _ g6 #[.int .i64 (wrap64 t1), .int .i64 (wrap64 t2), .int .u64 t3, .int .u64 (IntKind.u64.wrap (t4 * 8192)), .bool (v == 1), .bool (p == 1), .bool (x == 1), .bool (l == 1), .bool (g == 1), .bool (q == 1), .bool true] = w20 at n1 n2 ⊢; clear H6 HB; have H6 := n1; have HB := n2; clear n1 n2; obtain ⟨qH6_0, qH6_1, qH6_2, qH6_3, qH6_4, qH6_5, qH6_6, qH6_7, qH6_8, qH6_9, qH6_10⟩ := rr3.cz11 H6.out))
  (try simp only [Exit.inBlock, Exit.then]); refine bodyPost_ret (results_ct rfl _ _ g6 50 #[.int .i64 (wrap64 t1), .int .i64 (wrap64 t2), .int .u64 t3, .int .u64 (IntKind.u64.wrap (t4 * 8192)), .bool (v == 1), .bool (p == 1), .bool (x == 1), .bool (l == 1), .bool (g == 1), .bool (q == 1), .bool true] (0, 0) _ rfl H6.out hu26 rfl (by kernel_rfl)) rfl ?_; exact ⟨rfl, HB.out⟩
end Go.Proofs.Ytjnffegjpkbjmaa.QTsbPlays
namespace Go.Proofs.Ytjnffegjpkbjmaa.Pure
open Go.RowKit Go.Proofs.Ytjnffegjpkbjmaa.QTsbPlays Go.Proofs.YtjnffegjpkbjmaaW.PrintWords Go.Proofs.YtjnffegjpkbjmaaW.PrintLast Go.Proofs.YtjnffegjpkbjmaaW.PrintMore
theorem rHole_l (a : Nat) (ha : a < 18446744073709551616) (d : Nat) : ∀ (i k : Nat), i + d = 64 → 44 ≤ i → 100 + d < k →
    lookasideref02_Hole.l0 k (a : Int) (i : Int) = some (decide (¬ (a / 2 ^ i = (if a / 8796093022208 % 2 = 1 then 2 ^ d - 1 else 0)))) := by
  induction d with
  | zero =>
    intro i k hi h44 hk
    obtain ⟨k, rfl⟩ : ∃ m, k = m + 1 := ⟨k - 1, by omega⟩
    obtain rfl : i = 64 := by omega
    simp only [lookasideref02_Hole.l0]
    rw [if_neg (by omega)]
    have : a / 2 ^ 64 = 0 := Nat.div_eq_of_lt ha
    simp [this]
  | succ d ih =>
    intro i k hi h44 hk
    obtain ⟨k, rfl⟩ : ∃ m, k = m + 1 := ⟨k - 1, by omega⟩
    simp only [lookasideref02_Hole.l0]
    have b1 := rBit a i k ha (by omega) (by omega)
    have b2 := rBit a 43 k ha (by omega) (by omega)
    have h43 : ((43 : Nat) : Int) = 43 := rfl
    rw [h43] at b2
    simp only [Nat.reducePow] at b2
    rw [if_pos (by omega), b1, b2]
    simp only [Option.bind_some]
    have e2 : wrap64 ((i : Int) + 1) = ((i + 1 : Nat) : Int) := by
      have := m_w64 (i + 1) (by omega); simpa using this
    have hp : a / 2 ^ (i + 1) = a / 2 ^ i / 2 := by rw [Nat.pow_succ, Nat.div_div_eq_div_mul]
    have hd : 2 ^ (d + 1) = 2 * 2 ^ d := by rw [Nat.pow_succ, Nat.mul_comm]
    have h0 : 0 < 2 ^ d := Nat.two_pow_pos d
    rw [e2, ih (i + 1) k (by omega) (by omega) (by omega), hp, hd]
    generalize a / 2 ^ i = X
    generalize 2 ^ d = D at h0
    by_cases hb : a / 8796093022208 % 2 = 1
    · simp only [hb, if_true]
      by_cases hx : X % 2 = 1
      · rw [if_pos (by omega)]; congr 1; rw [decide_eq_decide]; omega
      · rw [if_neg (by omega)]; symm; simp; omega
    · have hb0 : a / 8796093022208 % 2 = 0 := by omega
      simp only [hb0]
      by_cases hx : X % 2 = 0
      · rw [if_pos (by omega)]; congr 1; rw [decide_eq_decide]; simp; omega
      · rw [if_neg (by omega)]; symm; simp; omega
theorem rHole (a : Nat) (ha : a < 18446744073709551616) (k : Nat) (hk : 200 ≤ k) : lookasideref02_Hole.f k (a : Int) = some (decide (a / 8796093022208 ≠ 0 ∧ a / 8796093022208 ≠ 2097151)) := by
  have := rHole_l a ha 20 44 k rfl (by omega) (by omega)
  have h44 : ((44 : Nat) : Int) = 44 := rfl
  rw [h44] at this
  simp only [Nat.reducePow] at this
  unfold lookasideref02_Hole.f
  rw [this]
  congr 1; rw [decide_eq_decide]
  split <;> omega

theorem rTMay (s c : Int) (va pa : Nat) (w p x l g q v : Bool) (hva : va < 18446744073709551616) (k : Nat) (hk : 210 ≤ k) : lookasideref03_May.f k s c (va : Int) (pa : Int) w p x l g q v = some (mayOf s c va pa g v) := by
  obtain ⟨k, rfl⟩ : ∃ m, k = m + 1 := ⟨k - 1, by omega⟩
  unfold lookasideref03_May.f mayOf
  rw [rMay, rHole va hva (k + 1) (by omega)]
  generalize decide (va / 8796093022208 ≠ 0 ∧ va / 8796093022208 ≠ 2097151) = d1
  have hf : lookasideref03_May.j0 (k + 1) true s c (va : Int) (pa : Int) w p x l g q v = some false := by rw [lookasideref03_May.j0, if_pos rfl]
  cases v
  · simp [hf]
  · by_cases h : okSize s
    · have hb := bytes_pos h
      have hj : ∀ b, lookasideref03_May.j0 (k + 1) b s c (va : Int) (pa : Int) w p x l g q true = some (!b && (decide (va % bytesOf s = 0) && (decide (pa < 2199023255552) && decide (pa % bytesOf s = 0)))) := by
        intro b
        rw [lookasideref03_May.j0, rBytes]
        cases b
        · simp only [Option.bind_some, Bool.false_eq_true, if_false]
          rw [if_neg (by omega), m_tmod, m_tmod]
          by_cases z1 : va % bytesOf s = 0
          · rw [if_pos (by omega)]
            by_cases z2 : pa % bytesOf s = 0
            · rw [if_pos (by omega)]; simp [z1, z2]; omega
            · rw [if_neg (by omega)]; simp [z2]
          · rw [if_neg (by omega)]; simp [z1]
        · simp
      simp only [h, decide_true, Option.bind_some, if_true, Bool.true_and, hj]
      by_cases h1 : c < 0
      · rw [if_pos h1]; have : ¬ 0 ≤ c := by omega
        simp [this]
      · rw [if_neg h1]
        have h1' : 0 ≤ c := by omega
        by_cases h2 : c > 8191
        · rw [if_pos h2]; have : ¬ c ≤ 8191 := by omega
          simp [this]
        · rw [if_neg h2]
          have h2' : c ≤ 8191 := by omega
          cases d1 <;> cases g <;> simp [h1', h2']
    · simp [h, hf]

theorem rget_l (x p : Nat) (hx : x < 18446744073709551616) (d : Nat) : ∀ (acc k : Nat), p + d ≤ 64 → acc * 2 ^ d + 2 ^ d ≤ 18446744073709551616 → d + 110 ≤ k →
    lookasideref01_Get.l0 k (x : Int) (p : Int) true (acc : Int) ((d : Int) - 1) = some ((acc * 2 ^ d + x / 2 ^ p % 2 ^ d : Nat) : Int) := by
  induction d with
  | zero =>
    intro acc k hp hb hk
    obtain ⟨k, rfl⟩ : ∃ m, k = m + 1 := ⟨k - 1, by omega⟩
    rw [lookasideref01_Get.l0, if_pos rfl, if_neg (by omega)]
    rw [Nat.pow_zero, Nat.mul_one, Nat.mod_one, Nat.add_zero]
  | succ d ih =>
    intro acc k hp hb hk
    obtain ⟨k, rfl⟩ : ∃ m, k = m + 1 := ⟨k - 1, by omega⟩
    have e0 : ((d + 1 : Nat) : Int) - 1 = (d : Int) := by omega
    have e1 : wrap64 ((p : Int) + (d : Int)) = ((p + d : Nat) : Int) := by rw [← Int.natCast_add]; exact m_w64 _ (by omega)
    have h2 : 2 ^ (d + 1) = 2 * 2 ^ d := by rw [Nat.pow_succ, Nat.mul_comm]
    have hpos : 0 < 2 ^ d := Nat.two_pow_pos d
    have hbit : x / 2 ^ (p + d) % 2 < 2 := Nat.mod_lt _ (by decide)
    have hm : x / 2 ^ p % 2 ^ (d + 1) = x / 2 ^ p % 2 ^ d + 2 ^ d * (x / 2 ^ (p + d) % 2) := by
      rw [Nat.mod_pow_succ, Nat.div_div_eq_div_mul, ← Nat.pow_add]
    have hacc : 2 * acc + 2 ≤ 18446744073709551616 := by
      have h3 : (2 * acc + 2) * 1 ≤ (2 * acc + 2) * 2 ^ d := Nat.mul_le_mul_left _ hpos
      have h4 : (2 * acc + 2) * 2 ^ d = acc * 2 ^ (d + 1) + 2 ^ (d + 1) := by rw [h2, Nat.add_mul, Nat.mul_comm 2 acc, Nat.mul_assoc]
      omega
    rw [e0, lookasideref01_Get.l0, if_pos rfl, if_pos (by omega), e1, rBit x (p + d) k hx (by omega) (by omega), Option.bind_some]
    have e3 : wrap64 ((d : Int) - 1) = (d : Int) - 1 := by unfold wrap64; omega
    generalize x / 2 ^ (p + d) % 2 = b at hm hbit ⊢
    have e2 : IntKind.u64.wrap (IntKind.u64.wrap (2 * (acc : Int)) + (b : Int)) = ((2 * acc + b : Nat) : Int) := by
      rw [IntKind.wrap_u64, IntKind.wrap_u64]; omega
    have hb2 : (2 * acc + b) * 2 ^ d + 2 ^ d ≤ 18446744073709551616 := by
      have h3 : (2 * acc + b) * 2 ^ d ≤ (2 * acc + 1) * 2 ^ d := Nat.mul_le_mul_right _ (by omega)
      have h4 : (2 * acc + 1) * 2 ^ d + 2 ^ d = acc * 2 ^ (d + 1) + 2 ^ (d + 1) := by rw [h2, Nat.add_mul, Nat.mul_comm 2 acc, Nat.mul_assoc]; omega
      omega
    rw [e2, e3, ih _ k (by omega) hb2 (by omega), hm]
    refine congrArg some (congrArg Nat.cast ?_)
    rw [h2, Nat.add_mul, Nat.mul_comm 2 acc, Nat.mul_assoc, Nat.mul_comm b]; omega
theorem rGet (x : Nat) (hx : x < 18446744073709551616) (p n : Nat) (h1 : 1 ≤ n) (h2 : p + n ≤ 64) (k : Nat) (hk : 200 ≤ k) : lookasideref01_Get.f k (x : Int) (p : Int) (n : Int) = some ((x / 2 ^ p % 2 ^ n : Nat) : Int) := by
  have hM : lookasideref01_May.f (p : Int) (n : Int) = some true := by
    have e : wrap64 ((p : Int) + (n : Int)) = ((p + n : Nat) : Int) := by rw [← Int.natCast_add]; exact m_w64 _ (by omega)
    unfold lookasideref01_May.f
    rw [if_pos (by omega), if_pos (by omega), if_pos (by omega), if_pos (by omega), e, decide_eq_true (by omega)]
  have e3 : wrap64 ((n : Int) - 1) = (n : Int) - 1 := by unfold wrap64; omega
  have hb : 0 * 2 ^ n + 2 ^ n ≤ 18446744073709551616 := by
    rw [Nat.zero_mul, Nat.zero_add]
    exact Nat.pow_le_pow_right (by decide) (by omega : n ≤ 64)
  have := rget_l x p hx n 0 k h2 hb (by omega)
  rw [Nat.zero_mul, Nat.zero_add] at this
  unfold lookasideref01_Get.f
  rw [hM, Option.bind_some, e3]
  exact this
theorem beq1' (x : Nat) : (((x : Nat) : Int) == 1) = decide (x = 1) := by
  rw [Bool.eq_iff_iff, beq_iff_eq, decide_eq_true_eq]; omega
theorem rread_yes {t d A : Nat} (ht : t < 18446744073709551616) (hd : d < 18446744073709551616) (hA : A < 18446744073709551616) {g : GE} (hr : readW (t, d) A = some g) (W : World) :
    Calls Try.prog 125 #[.int .u64 (t : Int), .int .u64 (d : Int), .int .u64 (A : Int)] W fun e W' => e = .returned (.tuple #[.agg #[.int .i64 (g.s : Int), .int .i64 (g.c : Int), .int .u64 (g.v : Int), .int .u64 (g.p : Int), .bool g.w, .bool g.pr, .bool g.x, .bool g.l, .bool g.g, .bool g.q, .bool true], .int .i64 0]) ∧ Below W.heap.size W W' := by
  rcases readOf_cases t d A with ⟨q, hq, h⟩ | ⟨h, hv, hm, htg, hdt⟩
  · exfalso
    unfold readW at hr
    rw [h] at hr
    have hq' : q ≠ 0 := by simpa using hq
    simp [hq'] at hr
  · have hg : g = ⟨sOf d, cOf t, vOf d A, paOf d, bitOf d 2, bitOf d 4, bitOf d 8, bitOf d 64, bitOf d 1, bitOf d 1152921504606846976⟩ := by
      unfold readW at hr
      rw [h] at hr
      simp at hr
      exact hr.symm
    subst hg
    have hno : ¬ (A / 8796093022208 ≠ 0 ∧ A / 8796093022208 ≠ 2097151) := by
      intro hh
      unfold readOf at h
      rw [if_pos hh] at h
      have h2 := congrArg (fun z => z.2.2.2.2.2.2.2.2.2.2.2) h
      revert h2
      show ¬ ((3 : Int) = 0)
      decide
    have g0 := rHole A hA 500 (by decide)
    rw [decide_eq_false hno] at g0
    have g1 := rGet d hd 61 2 (by omega) (by omega) 500 (by omega)
    rw [show ((61 : Nat) : Int) = 61 from rfl, show ((2 : Nat) : Int) = 2 from rfl, show 2 ^ 61 = 2305843009213693952 from rfl, show 2 ^ 2 = 4 from rfl] at g1
    have g2 := rGet t ht 48 13 (by omega) (by omega) 500 (by omega)
    rw [show ((48 : Nat) : Int) = 48 from rfl, show ((13 : Nat) : Int) = 13 from rfl, show 2 ^ 48 = 281474976710656 from rfl, show 2 ^ 13 = 8192 from rfl] at g2
    have g3 := rGet d hd 13 28 (by omega) (by omega) 500 (by omega)
    rw [show ((13 : Nat) : Int) = 13 from rfl, show ((28 : Nat) : Int) = 28 from rfl, show 2 ^ 28 = 268435456 from rfl, show 2 ^ 13 = 8192 from rfl] at g3
    have b63 := rBit d 63 500 hd (by omega) (by omega)
    rw [show ((63 : Nat) : Int) = 63 from rfl, show 2 ^ 63 = 9223372036854775808 from rfl, hv] at b63
    have b60 := rBit d 60 500 hd (by omega) (by omega)
    rw [show ((60 : Nat) : Int) = 60 from rfl, show 2 ^ 60 = 1152921504606846976 from rfl] at b60
    have b6 := rBit d 6 500 hd (by omega) (by omega)
    rw [show ((6 : Nat) : Int) = 6 from rfl, show 2 ^ 6 = 64 from rfl] at b6
    have b3 := rBit d 3 500 hd (by omega) (by omega)
    rw [show ((3 : Nat) : Int) = 3 from rfl, show 2 ^ 3 = 8 from rfl] at b3
    have b2 := rBit d 2 500 hd (by omega) (by omega)
    rw [show ((2 : Nat) : Int) = 2 from rfl, show 2 ^ 2 = 4 from rfl] at b2
    have b1 := rBit d 1 500 hd (by omega) (by omega)
    rw [show ((1 : Nat) : Int) = 1 from rfl, show 2 ^ 1 = 2 from rfl] at b1
    have b0 := rBit d 0 500 hd (by omega) (by omega)
    rw [show ((0 : Nat) : Int) = 0 from rfl, show 2 ^ 0 = 1 from rfl] at b0
    have e1 : wrap64 ((d / 2305843009213693952 % 4 : Nat) : Int) = (sOf d : Int) := m_w64 _ (Nat.lt_trans (sOf_lt d) (by decide))
    have e2 : wrap64 ((t / 281474976710656 % 8192 : Nat) : Int) = (cOf t : Int) := m_w64 _ (Nat.lt_trans (cOf_lt t) (by decide))
    have e3 : IntKind.u64.wrap (((d / 8192 % 268435456 : Nat) : Int) * 8192) = (paOf d : Int) := by
      have := m_wu (paOf d) (Nat.lt_trans (paOf_lt d) (by decide))
      rw [← this]; rfl
    have g4 : lookasideref02_Base.f (A : Int) (wrap64 ((d / 2305843009213693952 % 4 : Nat) : Int)) = some (vOf d A : Int) := by rw [e1, rBase A hA]; rfl
    have E : ∀ P : Nat, (((d / P % 2 : Nat) : Int) == 1) = bitOf d P := fun P => beq1' _
    have hm2 := rTMay (sOf d : Int) (cOf t : Int) (vOf d A) (paOf d) (bitOf d 2) (bitOf d 4) (bitOf d 8) (bitOf d 64) (bitOf d 1) (bitOf d 1152921504606846976) true (vOf_lt d A hA) 500 (by omega)
    rw [hm] at hm2
    have ht2 := rTTag (sOf d) (cOf t) (vOf d A) (paOf d) (bitOf d 2) (bitOf d 4) (bitOf d 8) (bitOf d 64) (bitOf d 1) (bitOf d 1152921504606846976) true (vOf_lt d A hA) (cOf_lt t) 500 (by omega)
    rw [htg] at ht2
    have hd2 := rData (sOf d) (cOf t) (vOf d A) (paOf d) (bitOf d 2) (bitOf d 4) (bitOf d 8) (bitOf d 64) (bitOf d 1) (bitOf d 1152921504606846976) true (sOf_lt d) (paOf_lt d) 500 (by omega)
    rw [hdt, Nat.mod_eq_of_lt hd] at hd2
    rw [← e1, ← e2, ← e3, ← E 2, ← E 4, ← E 8, ← E 64, ← E 1, ← E 1152921504606846976] at hm2 ht2 hd2
    refine (rr3.yes 500 _ _ _ _ _ _ _ _ _ _ _ _ _ _ _ _ W (by decide) g0 b63 g1 g2 g4 g3 b60 b6 b3 b2 b1 b0 hm2 ht2 (by simp) hd2 (by simp)).mono ?_
    rintro e W' ⟨rfl, hb⟩
    refine ⟨?_, hb⟩
    rw [e1, e2, e3, E 2, E 4, E 8, E 64, E 1, E 1152921504606846976]
theorem rread_none {t A : Nat} (hA : A < 18446744073709551616) (W : World) :
    Calls Try.prog 125 #[.int .u64 (t : Int), .int .u64 0, .int .u64 (A : Int)] W fun e W' => (∃ q : Int, q ≠ 0 ∧ e = .returned (.tuple #[.agg #[.int .i64 0, .int .i64 0, .int .u64 0, .int .u64 0, .bool false, .bool false, .bool false, .bool false, .bool false, .bool false, .bool false], .int .i64 q])) ∧ Below W.heap.size W W' := by
  have g0 := rHole A hA 500 (by decide)
  by_cases h : A / 8796093022208 ≠ 0 ∧ A / 8796093022208 ≠ 2097151
  · rw [decide_eq_true h] at g0
    refine (rr3.hole 500 (t : Int) 0 (A : Int) W g0).mono ?_
    rintro e W' ⟨rfl, hb⟩
    exact ⟨⟨3, by decide, rfl⟩, hb⟩
  · rw [decide_eq_false h] at g0
    have b63 := rBit 0 63 500 (by decide) (by omega) (by omega)
    rw [show ((63 : Nat) : Int) = 63 from rfl, Nat.zero_div] at b63
    refine (rr3.state 500 (t : Int) 0 (A : Int) W g0 b63).mono ?_
    rintro e W' ⟨rfl, hb⟩
    exact ⟨⟨11, by decide, rfl⟩, hb⟩
end Go.Proofs.Ytjnffegjpkbjmaa.Pure
namespace Go.Proofs.Ytjnffegjpkbjmaa.Mem
open Go.RowKit Go.Maps Go.Proofs.YtjnffegjpkbjmaaW.PrintWords Go.Proofs.YtjnffegjpkbjmaaW.PrintLast Go.Proofs.YtjnffegjpkbjmaaW.PrintMore Go.Proofs.Ytjnffegjpkbjmaa.QTsbPlays Go.Proofs.Ytjnffegjpkbjmaa.Pure
set_option linter.unusedSimpArgs false
set_option linter.unusedVariables false
section
set_option maxHeartbeats 2000000
set_option maxRecDepth 100000
/-- Words that the document reads as an entry of the size, or that have no data. -/
def ROK (s : Nat) (t d A : Nat) : Prop := (d = 0 ∧ readW (t, d) A = none) ∨ ∃ g, readW (t, d) A = some g ∧ g.s = s
theorem read10_calls {s N i t d a : Nat} {A : Option Addr} {c : Nat} {l : List WS} (ht : t < 18446744073709551616) (hd : d < 18446744073709551616) (ha : a < 18446744073709551616) (hro : ROK s t d a) (hgw : gW l (i : Int) = ((t : Int), (d : Int))) {W : World} (hC : Kd.C k122 W A l.length l) (hc : l.length ≤ c) (hl : l.length ≤ 1000000) :
    Calls Try.prog 109 #[.agg #[.int .i64 (s : Int), .int .i64 (N : Int), .slice A l.length c], .int .i64 (i : Int), .int .u64 (a : Int)] W fun e W' => e = .returned (foundV (readW (t, d) a)) ∧ W.grownBy W' none := by
  have hu := Try.underlying44
  have hu2 := Try.underlying122
  have hu3 := Try.underlying50
  have HC0 := Aside0.mk hC
  have HCC := Aside0.mk hc
  have HRO := Aside0.mk hro
  have HLT := Aside0.mk (And.intro ht (And.intro hd ha))
  have HGT := Aside0.mk (show lookasideref10_Get.f (l.length + 1) (s : Int) (N : Int) l (i : Int) = some ((i : Int), (t : Int), (d : Int)) by rw [gW_f _ _ _ l (by omega) (Nat.le_refl _), hgw])
  clear hC hc hro ht hd ha hgw
  have hga := World.grownBy_alloc W (.cells #[.int .i64 (s : Int), .int .i64 (N : Int), .slice A l.length c] 44) none
  have hb2 := heap_alloc_new W (.cells #[.int .i64 (s : Int), .int .i64 (N : Int), .slice A l.length c] 44)
  have hgb := World.grownBy_alloc (W.alloc (.cells #[.int .i64 (s : Int), .int .i64 (N : Int), .slice A l.length c] 44)) (.cells #[.int .i64 0, .int .i64 0, .int .u64 0, .int .u64 0, .bool false, .bool false, .bool false, .bool false, .bool false, .bool false, .bool false] 50) none
  have hb3 := heap_alloc_new (W.alloc (.cells #[.int .i64 (s : Int), .int .i64 (N : Int), .slice A l.length c] 44)) (.cells #[.int .i64 0, .int .i64 0, .int .u64 0, .int .u64 0, .bool false, .bool false, .bool false, .bool false, .bool false, .bool false, .bool false] 50)
  have hz : (W.alloc (.cells #[.int .i64 (s : Int), .int .i64 (N : Int), .slice A l.length c] 44)).heap.size = W.heap.size + 1 := by simp only [World.size_alloc]
  rw [hz] at hb3
  have HG := Aside0.mk (grown_two hga hgb)
  have HB2 := Aside0.mk (blk_grown hb2 hgb)
  have HB3 := Aside0.mk hb3
  clear hga hb2 hgb hb3 hz
  obtain ⟨q0, q1, q2⟩ := cz3q HB2.out
  go_enter Try.func109, Try.ntmps109
  go_wp2_with fail
  refine (lookasideref10_Get.calls (l.length + 1) _ _ A c l _ _ _ _ _ (Kd.C_below HC0.out (below_of_grown HG.out)) HCC.out HGT.out).mono ?_
  rintro x0 w2 ⟨rfl, hb⟩
  have hg := below_grown hb
  replace HG := Aside0.mk (grown_two HG.out hg)
  replace HB2 := Aside0.mk (blk_grown HB2.out hg)
  replace HB3 := Aside0.mk (blk_grown HB3.out hg)
  clear hg hb q0 q1 q2
  have HS := Aside0.mk (show W.heap.size + 1 < w2.heap.size from blk_lt HB3.out)
  obtain ⟨h2, hh2⟩ : ∃ z, z = W.heap.size := ⟨_, rfl⟩
  obtain ⟨h3, hh3⟩ : ∃ z, z = W.heap.size + 1 := ⟨_, rfl⟩
  rw [← hh2] at HB2
  rw [← hh3] at HB3
  rw [← hh3, ← hh2]
  have HH := Aside0.mk (And.intro hh2 hh3)
  clear hh2 hh3
  have hgc := World.grownBy_alloc w2 (.cells #[.int .i64 (i : Int), .int .u64 (t : Int), .int .u64 (d : Int)] 122) none
  have HB5 := Aside0.mk (heap_alloc_new w2 (.cells #[.int .i64 (i : Int), .int .u64 (t : Int), .int .u64 (d : Int)] 122))
  replace HG := Aside0.mk (grown_two HG.out hgc)
  replace HB2 := Aside0.mk (blk_grown HB2.out hgc)
  replace HB3 := Aside0.mk (blk_grown HB3.out hgc)
  clear hgc
  obtain ⟨u0, u1, u2⟩ := cz3q HB5.out
  go_wp2_with fail
  have HN5 := Aside0.mk (show True from trivial)
  rcases HRO.out with ⟨hd0, hrn⟩ | ⟨g, hrg, hgs⟩
  · obtain ⟨q, hq⟩ : ∃ q : Int, q = 0 := ⟨0, rfl⟩
    subst hd0
    clear hq
    refine (rread_none HLT.out.2.2 _).mono ?_
    rintro x0 w4 ⟨⟨q, hq, rfl⟩, hb⟩
    have hg := below_grown hb
    replace HG := Aside0.mk (grown_two HG.out hg)
    replace HB2 := Aside0.mk (blk_grown HB2.out hg)
    replace HB3 := Aside0.mk (blk_grown HB3.out hg)
    clear hg hb u0 u1 u2 HB5
    have hq1 : (q != 0) = true := by simpa using hq
    clear hq
    have hgc := World.grownBy_alloc w4 (.cells #[.int .i64 0, .int .i64 0, .int .u64 0, .int .u64 0, .bool false, .bool false, .bool false, .bool false, .bool false, .bool false, .bool false] 50) none
    replace HG := Aside0.mk (grown_two HG.out hgc)
    replace HB2 := Aside0.mk (blk_grown HB2.out hgc)
    replace HB3 := Aside0.mk (blk_grown HB3.out hgc)
    clear hgc
    go_wp2_with (first | ((with_reducible refine gate_store (t := 50) (p := 6) rfl ?_); refine wpList_store_row rfl 50 (.tmp 6) (.tmp 32) rfl h3 #[.int .i64 0, .int .i64 0, .int .u64 0, .int .u64 0, .bool false, .bool false, .bool false, .bool false, .bool false, .bool false, .bool false] rfl rfl 50 _ HB3.out (by kernel_rfl) rfl (by kernel_rfl) ?_; have SHB3 := Aside0.mk (setRow_heap _ h3 _ #[.int .i64 0, .int .i64 0, .int .u64 0, .int .u64 0, .bool false, .bool false, .bool false, .bool false, .bool false, .bool false, .bool false] _ _ HB3.out); have THB3 := Aside0.mk (grown_row (w4.alloc (.cells #[.int .i64 0, .int .i64 0, .int .u64 0, .int .u64 0, .bool false, .bool false, .bool false, .bool false, .bool false, .bool false, .bool false] 50)) h3 #[.int .i64 0, .int .i64 0, .int .u64 0, .int .u64 0, .bool false, .bool false, .bool false, .bool false, .bool false, .bool false, .bool false])))
    obtain ⟨z0, z1, z2, z3, z4, z5, z6, z7, z8, z9, z10⟩ := tte_Read.cz11 SHB3.out
    exact bodyPost_ret (v := .tuple #[.agg #[.int .i64 0, .int .i64 0, .int .u64 0, .int .u64 0, .bool false, .bool false, .bool false, .bool false, .bool false, .bool false, .bool false], .bool false]) (by simp [results, Try.f109, go_sem, z0, z1, z2, z3, z4, z5, z6, z7, z8, z9, z10]) rfl ⟨by rw [hrn]; rfl, grown_loc HG.out THB3.out (by have := HH.out; omega)⟩
  · subst hgs
    refine (rread_yes HLT.out.1 HLT.out.2.1 HLT.out.2.2 hrg _).mono ?_
    rintro x0 w4 ⟨rfl, hb⟩
    have hg := below_grown hb
    replace HG := Aside0.mk (grown_two HG.out hg)
    replace HB2 := Aside0.mk (blk_grown HB2.out hg)
    replace HB3 := Aside0.mk (blk_grown HB3.out hg)
    clear hg hb u0 u1 u2 HB5
    have hgc := World.grownBy_alloc w4 (.cells (geA g) 50) none
    have HB9 := Aside0.mk (heap_alloc_new w4 (.cells (geA g) 50))
    replace HG := Aside0.mk (grown_two HG.out hgc)
    replace HB2 := Aside0.mk (blk_grown HB2.out hgc)
    replace HB3 := Aside0.mk (blk_grown HB3.out hgc)
    clear hgc
    obtain ⟨q0, q1, q2⟩ := cz3q HB2.out
    obtain ⟨z0, z1, z2, z3, z4, z5, z6, z7, z8, z9, z10⟩ := tte_Read.cz11 HB9.out
    go_wp2_with (first | ((with_reducible refine gate_store (t := 50) (p := 6) rfl ?_); refine wpList_store_row rfl 50 (.tmp 6) (.tmp 33) rfl h3 (geA g) rfl rfl 50 _ HB3.out (by kernel_rfl) rfl (by kernel_rfl) ?_; have SHB3 := Aside0.mk (setRow_heap _ h3 _ (geA g) _ _ HB3.out); have THB3 := Aside0.mk (grown_row (w4.alloc (.cells (geA g) 50)) h3 (geA g))))
    clear z0 z1 z2 z3 z4 z5 z6 z7 z8 z9 z10
    obtain ⟨z0, z1, z2, z3, z4, z5, z6, z7, z8, z9, z10⟩ := tte_Read.cz11 SHB3.out
    exact bodyPost_ret (v := .tuple #[.agg (geA g), .bool true]) (by simp [results, Try.f109, go_sem, z0, z1, z2, z3, z4, z5, z6, z7, z8, z9, z10]) rfl ⟨by rw [hrg]; rfl, grown_loc HG.out THB3.out (by have := HH.out; omega)⟩
theorem bytes_dvd {s : Nat} (hs : s < 4) : 4194304 / Pure.bytesOf (s : Int) * Pure.bytesOf (s : Int) = 4194304 ∧ 0 < 4194304 / Pure.bytesOf (s : Int) := by
  have : s = 0 ∨ s = 1 ∨ s = 2 ∨ s = 3 := by omega
  rcases this with rfl | rfl | rfl | rfl <;> decide
noncomputable def rown7_T : Bool × List (List Nat × List Nat) := rtab .any (opsOf Try.f73 7)
theorem rown7_tab : rtab .any (opsOf Try.f73 7) = rown7_T := rfl
theorem rown_calls {s N i t d : Nat} {A : Option Addr} {c : Nat} {l : List WS} (hs : s < 4) (h1 : 1 ≤ N) (hN : N ≤ 4096) (hi : i < N) (ht : t < 18446744073709551616) (hd : d < 18446744073709551616) (hro : ROK s t d (ownVa s i t)) (hgw : gW l (i : Int) = ((t : Int), (d : Int))) {W : World} (hC : Kd.C k122 W A l.length l) (hc : l.length ≤ c) (hl : l.length ≤ 1000000) :
    Calls Try.prog 73 #[.agg #[.int .i64 (s : Int), .int .i64 (N : Int), .slice A l.length c], .int .i64 (i : Int)] W fun e W' => e = .returned (foundV (ownW N s i (t, d))) ∧ W.grownBy W' none := by
  have hu := Try.underlying44
  have hu2 := Try.underlying122
  have hu3 := Try.underlying50
  have HC0 := Aside0.mk hC
  have HCC := Aside0.mk hc
  have HRO := Aside0.mk hro
  have HLT := Aside0.mk (And.intro ht hd)
  have HGW := Aside0.mk hgw
  have HGT := Aside0.mk (show lookasideref10_Get.f (l.length + 1) (s : Int) (N : Int) l (i : Int) = some ((i : Int), (t : Int), (d : Int)) by rw [gW_f _ _ _ l (by omega) (Nat.le_refl _), hgw])
  have HNS := Aside0.mk (And.intro hs (And.intro h1 (And.intro hN hi)))
  obtain ⟨m, hm⟩ : ∃ m, m = t % 4194304 := ⟨_, rfl⟩
  have hml : m < 4194304 := by rw [hm]; exact Nat.mod_lt _ (by decide)
  have hm1 : Int.tmod (t : Int) 4194304 = (m : Int) := by rw [hm, show (4194304 : Int) = ((4194304 : Nat) : Int) from rfl, ← Int.ofNat_tmod]
  obtain ⟨X0, hX0⟩ : ∃ X, X = m * 4194304 := ⟨_, rfl⟩
  have hX0l : X0 < 17592186044416 := by omega
  have hm2 : IntKind.u64.wrap ((m : Int) * 4194304) = (X0 : Int) := by
    rw [show (m : Int) * 4194304 = ((X0 : Nat) : Int) by omega]
    exact m_wu X0 (by omega)
  obtain ⟨X1, hX1⟩ : ∃ X, X = X0 + 18446726481523507200 := ⟨_, rfl⟩
  have hm3 : IntKind.u64.wrap ((X0 : Int) + 18446726481523507200) = (X1 : Int) := by
    rw [show (X0 : Int) + 18446726481523507200 = ((X1 : Nat) : Int) by omega]
    exact m_wu X1 (by omega)
  have HMX := Aside0.mk (show m = t % 4194304 ∧ X0 = m * 4194304 ∧ X1 = X0 + 18446726481523507200 from ⟨hm, hX0, hX1⟩)
  clear hC hc hro ht hd hgw hs h1 hN hi hm hX0 hX1
  have hga := World.grownBy_alloc W (.cells #[.int .i64 (s : Int), .int .i64 (N : Int), .slice A l.length c] 44) none
  have hb2 := heap_alloc_new W (.cells #[.int .i64 (s : Int), .int .i64 (N : Int), .slice A l.length c] 44)
  have hgb := World.grownBy_alloc (W.alloc (.cells #[.int .i64 (s : Int), .int .i64 (N : Int), .slice A l.length c] 44)) (.cells #[.int .i64 0, .int .i64 0, .int .u64 0, .int .u64 0, .bool false, .bool false, .bool false, .bool false, .bool false, .bool false, .bool false] 50) none
  have hb3 := heap_alloc_new (W.alloc (.cells #[.int .i64 (s : Int), .int .i64 (N : Int), .slice A l.length c] 44)) (.cells #[.int .i64 0, .int .i64 0, .int .u64 0, .int .u64 0, .bool false, .bool false, .bool false, .bool false, .bool false, .bool false, .bool false] 50)
  have hz : (W.alloc (.cells #[.int .i64 (s : Int), .int .i64 (N : Int), .slice A l.length c] 44)).heap.size = W.heap.size + 1 := by simp only [World.size_alloc]
  rw [hz] at hb3
  have HG := Aside0.mk (grown_two hga hgb)
  have HB2 := Aside0.mk (blk_grown hb2 hgb)
  have HB3 := Aside0.mk hb3
  clear hga hb2 hgb hb3 hz
  obtain ⟨q0, q1, q2⟩ := cz3q HB2.out
  go_enter Try.func73, Try.ntmps73
  go_wp2_with fail
  refine (lookasideref10_Get.calls (l.length + 1) _ _ A c l _ _ _ _ _ (Kd.C_below HC0.out (below_of_grown HG.out)) HCC.out HGT.out).mono ?_
  rintro x0 w2 ⟨rfl, hb⟩
  have hg := below_grown hb
  replace HG := Aside0.mk (grown_two HG.out hg)
  replace HB2 := Aside0.mk (blk_grown HB2.out hg)
  replace HB3 := Aside0.mk (blk_grown HB3.out hg)
  clear hg hb q0 q1 q2
  obtain ⟨h2, hh2⟩ : ∃ z, z = W.heap.size := ⟨_, rfl⟩
  obtain ⟨h3, hh3⟩ : ∃ z, z = W.heap.size + 1 := ⟨_, rfl⟩
  rw [← hh2] at HB2
  rw [← hh3] at HB3
  rw [← hh3, ← hh2]
  have HH := Aside0.mk (And.intro hh2 hh3)
  clear hh2 hh3
  have hgc := World.grownBy_alloc w2 (.cells #[.int .i64 (i : Int), .int .u64 (t : Int), .int .u64 (d : Int)] 122) none
  have HB5 := Aside0.mk (heap_alloc_new w2 (.cells #[.int .i64 (i : Int), .int .u64 (t : Int), .int .u64 (d : Int)] 122))
  replace HG := Aside0.mk (grown_two HG.out hgc)
  replace HB2 := Aside0.mk (blk_grown HB2.out hgc)
  replace HB3 := Aside0.mk (blk_grown HB3.out hgc)
  clear hgc
  obtain ⟨u0, u1, u2⟩ := cz3q HB5.out
  obtain ⟨q0, q1, q2⟩ := cz3q HB2.out
  rcases Nat.lt_or_ge m 2097152 with hh | hh
  case' inr =>
    have hcm : (2097152 : Int) ≤ (m : Int) := by omega
    go_wp2_with fail
    have HX := Aside0.mk (show (X1 + i * Pure.bytesOf (s : Int) % 4194304) % 18446744073709551616 = ownVa s i t ∧ X1 + i * Pure.bytesOf (s : Int) % 4194304 < 18446744073709551616 from ⟨by unfold ownVa; rw [if_pos (show t / 2097152 % 2 = 1 by have := HMX.out; omega), ← HMX.out.1, ← HMX.out.2.1, HMX.out.2.2], by have := HMX.out; have := Nat.mod_lt (i * Pure.bytesOf (s : Int)) (show 0 < 4194304 by decide); omega⟩)
    clear HMX hm3 hcm hh
    generalize X1 = X at HX ⊢
  case' inl =>
    have hlm := Aside0.mk hh
    have hcm : decide ((m : Int) ≥ 2097152) = false := decide_eq_false (by omega)
    clear hh hm3
    go_wp2_with fail
    have HX := Aside0.mk (show (X0 + i * Pure.bytesOf (s : Int) % 4194304) % 18446744073709551616 = ownVa s i t ∧ X0 + i * Pure.bytesOf (s : Int) % 4194304 < 18446744073709551616 from ⟨by unfold ownVa; rw [if_neg (show ¬ t / 2097152 % 2 = 1 by have := HMX.out; have := hlm.out; omega), ← HMX.out.1, ← HMX.out.2.1, Nat.add_zero], by have := Nat.mod_lt (i * Pure.bytesOf (s : Int)) (show 0 < 4194304 by decide); omega⟩)
    clear HMX hcm hlm hm2
    generalize X0 = X at HX ⊢
  all_goals
    refine (lookasideref02_Bytes.calls _ _ _ (Pure.rBytes _)).mono ?_
    rintro x0 w4 ⟨rfl, hd⟩
    have hg := drawn_grown hd
    replace HG := Aside0.mk (grown_two HG.out hg)
    replace HB2 := Aside0.mk (blk_grown HB2.out hg)
    replace HB3 := Aside0.mk (blk_grown HB3.out hg)
    clear hg hd u0 u1 u2 q0 q1 q2 HB5
    have hB1 := bytes_dvd HNS.out.1
    obtain ⟨Bq, hBq⟩ : ∃ z, z = Pure.bytesOf (s : Int) := ⟨_, rfl⟩
    rw [← hBq] at HX hB1
    rw [← hBq]
    have HBQ := Aside0.mk hBq
    have hBp : 0 < Bq := by rw [hBq]; exact Nat.lt_of_lt_of_le (by decide) (Pure.bytes_pos (show Pure.okSize (s : Int) by have := HNS.out; unfold Pure.okSize; omega)).1
    obtain ⟨pg, hpg⟩ : ∃ z, z = 4194304 / Bq := ⟨_, rfl⟩
    rw [← hpg] at hB1
    have HPG := Aside0.mk (show pg * Bq = 4194304 ∧ 0 < pg ∧ 0 < Bq ∧ pg ≤ 4194304 from ⟨hB1.1, hB1.2, hBp, by rw [hpg]; exact Nat.div_le_self _ _⟩)
    have hdv : (4194304 : Int) / (Bq : Int) = (pg : Int) := by
      rw [hpg, show (4194304 : Int) = ((4194304 : Nat) : Int) from rfl, ← Int.natCast_ediv]
    have hnz : ¬ (Bq : Int) = 0 := by omega
    have HBF := Aside0.mk (show lookasideref02_Bytes.f (s : Int) = some (Bq : Int) by rw [hBq]; exact Pure.rBytes _)
    clear hBq hBp hpg hB1
    go_upto_region 7 with fail
    rw [hdv]
    replace HG := Aside0.mk (grown_two HG.out (grown_drew _ none))
    replace HB2 := Aside0.mk (blk_grown HB2.out (grown_drew _ none))
    replace HB3 := Aside0.mk (blk_grown HB3.out (grown_drew _ none))
    clear hdv hnz
    have hpz : ¬ pg = 0 := by have := HPG.out; omega
    have hiw : IntKind.u64.wrap (i : Int) = (i : Int) := m_wu i (by have := HNS.out; omega)
    obtain ⟨z, hz⟩ : ∃ z, z = i % pg := ⟨_, rfl⟩
    have hzt : Int.tmod (i : Int) (pg : Int) = (z : Int) := by rw [hz, ← Int.ofNat_tmod]
    obtain ⟨Y, hY⟩ : ∃ Y, Y = i * Bq % 4194304 := ⟨_, rfl⟩
    have hzY : z * Bq = Y := by rw [hz, hY, ← Nat.mul_mod_mul_right, HPG.out.1]
    have hYl : Y < 4194304 := by rw [hY]; exact Nat.mod_lt _ (by decide)
    have hmu : IntKind.u64.wrap ((z : Int) * (Bq : Int)) = (Y : Int) := by rw [← Int.natCast_mul, hzY]; exact m_wu Y (by omega)
    rw [← hY] at HX
    obtain ⟨va, hva⟩ : ∃ va, va = ownVa s i t := ⟨_, rfl⟩
    rw [← hva] at HX HRO
    have had : IntKind.u64.wrap ((X : Int) + (Y : Int)) = (va : Int) := by
      have e := HX.out
      rw [Nat.mod_eq_of_lt e.2] at e
      rw [← Int.natCast_add, m_wu _ e.2, e.1]
    have HVA := Aside0.mk (show va = ownVa s i t ∧ va < 18446744073709551616 from ⟨hva, by rw [hva]; exact ownVa_lt _ _ _⟩)
    clear hz hY hva hYl hzY
    refine start_ (n := 11) (S := fun w' => w'.heap[h2]? = some (.cells #[.int .i64 (s : Int), .int .i64 (N : Int), .slice A l.length c] 44 (0, 0))) (ds := []) #[false, false, false, false, false, false, false, false, false, false, false] (by kernel_rfl) rfl rfl HB2.out (fun hHeld => ?_)
    refine with_tab rown7_tab (fun HT_ => ?_)
    refine pure_ (i := 0) (N := some 26) (v := ?_) (a' := ?_) #[true, false, false, false, false, false, false, false, false, false, false] rfl rfl (any_of HT_.out (by kernel_rfl)) (fun _ _ _ h => h) (Or.inl ⟨by rfl, ?_⟩) ?_ ?_
    rotate_left
    · intro w'
      go_simp
      with_reducible rfl
    rotate_left
    · simp only [Act.put, List.setIfInBounds_toArray, List.set_cons_zero, List.set_cons_succ, i64_w, i32_w]
      rfl
    refine pure_ (i := 1) (N := some 27) (v := ?_) (a' := ?_) #[true, true, false, false, false, false, false, false, false, false, false] rfl rfl (any_of HT_.out (by kernel_rfl)) (fun _ _ _ h => h) (Or.inl ⟨by rfl, ?_⟩) ?_ ?_
    rotate_left
    · intro w'
      go_simp
      with_reducible rfl
    rotate_left
    · simp only [Act.put, List.setIfInBounds_toArray, List.set_cons_zero, List.set_cons_succ, i64_w, i32_w]
      rfl
    refine pure_ (i := 2) (N := some 28) (v := ?_) (a' := ?_) #[true, true, true, false, false, false, false, false, false, false, false] rfl rfl (any_of HT_.out (by kernel_rfl)) (fun _ _ _ h => h) (Or.inl ⟨by rfl, ?_⟩) ?_ ?_
    rotate_left
    · intro w'
      go_simp
      with_reducible rfl
    rotate_left
    · simp only [Act.put, List.setIfInBounds_toArray, List.set_cons_zero, List.set_cons_succ, i64_w, i32_w]
      rfl
    refine pure_ (i := 3) (N := some 29) (v := ?_) (a' := ?_) #[true, true, true, true, false, false, false, false, false, false, false] rfl rfl (any_of HT_.out (by kernel_rfl)) (fun _ _ _ h => h) (Or.inl ⟨by rfl, ?_⟩) ?_ ?_
    rotate_left
    · intro w'
      go_simp
      with_reducible rfl
    rotate_left
    · simp only [Act.put, List.setIfInBounds_toArray, List.set_cons_zero, List.set_cons_succ, i64_w, i32_w]
      rfl
    refine pure_ (i := 4) (N := some 30) (v := ?_) (a' := ?_) #[true, true, true, true, true, false, false, false, false, false, false] rfl rfl (any_of HT_.out (by kernel_rfl)) (fun _ _ _ h => h) (Or.inl ⟨by rfl, ?_⟩) ?_ ?_
    rotate_left
    · intro w'
      go_simp
      with_reducible rfl
    rotate_left
    · simp only [Act.put, List.setIfInBounds_toArray, List.set_cons_zero, List.set_cons_succ, i64_w, i32_w]
      rfl
    refine pure_ (i := 5) (N := some 31) (v := ?_) (a' := ?_) #[true, true, true, true, true, true, false, false, false, false, false] rfl rfl (any_of HT_.out (by kernel_rfl)) (fun _ _ _ h => h) (Or.inl ⟨by rfl, ?_⟩) ?_ ?_
    rotate_left
    · intro w'
      go_simp
      with_reducible rfl
    rotate_left
    · simp only [Act.put, List.setIfInBounds_toArray, List.set_cons_zero, List.set_cons_succ, i64_w, i32_w]
      rfl
    refine take_ (i := 6) (N := some 32) (v := .int .i64 (s : Int)) (a' := ?_) #[true, true, true, true, true, true, true, false, false, false, false] rfl rfl (take_of HT_.out (by kernel_rfl)) (fun _ _ _ h => h) (Or.inl ⟨by rfl, ?_⟩) hHeld ?_ ?_
    · rintro w' s1
      obtain ⟨q0, q1, q2⟩ := cz3q s1
      go_simp
    rotate_left
    · simp only [Act.put, List.setIfInBounds_toArray, List.set_cons_zero, List.set_cons_succ, i64_w, i32_w]
      rfl
    refine one_ (i := 7) (N := some 33) #[true, true, true, true, true, true, true, true, false, false, false] rfl rfl (one_of HT_.out (by kernel_rfl)) (by decide) (fun K hK => ?_)
    refine goes_ Try.func57 (by kernel_rfl) rfl #[.int .i64 (s : Int)] (by rfl) rfl rfl (by (try simp only [List.map_toArray, List.map_cons, List.map_nil]); first | done | rfl) ?_
    refine (lookasideref02_Bytes.calls _ _ _ HBF.out).mono ?_
    rintro x0 wn ⟨rfl, hd⟩
    have hg := drawn_grown hd
    replace HG := Aside0.mk (grown_two HG.out hg)
    replace HB2 := Aside0.mk (blk_grown HB2.out hg)
    replace HB3 := Aside0.mk (blk_grown HB3.out hg)
    have hs : wn.heap[h2]? = some (.cells #[.int .i64 (s : Int), .int .i64 (N : Int), .slice A l.length c] 44 (0, 0)) := blk_grown hHeld hg
    clear hg hd
    refine ⟨_, rfl, ?_⟩
    refine hK.out _ _ hs (fun hHeld => ?_)
    clear hK K
    refine norm_ (a' := ?_) ?_ ?_
    rotate_left
    · show Act.put _ (some 33) _ = _
      simp only [Act.put, List.setIfInBounds_toArray, List.set_cons_zero, List.set_cons_succ, i64_w, i32_w]
      rfl
    refine pure_ (i := 8) (N := some 34) (v := ?_) (a' := ?_) #[true, true, true, true, true, true, true, true, true, false, false] rfl rfl (any_of HT_.out (by kernel_rfl)) (fun _ _ _ h => h) (Or.inl ⟨by rfl, ?_⟩) ?_ ?_
    rotate_left
    · intro w'
      go_simp
      with_reducible rfl
    rotate_left
    · simp only [Act.put, List.setIfInBounds_toArray, List.set_cons_zero, List.set_cons_succ, i64_w, i32_w]
      rfl
    refine pure_ (i := 9) (N := some 35) (v := ?_) (a' := ?_) #[true, true, true, true, true, true, true, true, true, true, false] rfl rfl (any_of HT_.out (by kernel_rfl)) (fun _ _ _ h => h) (Or.inl ⟨by rfl, ?_⟩) ?_ ?_
    rotate_left
    · intro w'
      go_simp
      with_reducible rfl
    rotate_left
    · simp only [Act.put, List.setIfInBounds_toArray, List.set_cons_zero, List.set_cons_succ, i64_w, i32_w]
      rfl
    refine pure_ (i := 10) (N := some 8) (v := ?_) (a' := ?_) #[true, true, true, true, true, true, true, true, true, true, true] rfl rfl (any_of HT_.out (by kernel_rfl)) (fun _ _ _ h => h) (Or.inl ⟨by rfl, ?_⟩) ?_ ?_
    rotate_left
    · intro w'
      go_simp
      with_reducible rfl
    rotate_left
    · simp only [Act.put, List.setIfInBounds_toArray, List.set_cons_zero, List.set_cons_succ, i64_w, i32_w]
      rfl
    refine done_ (done_of HT_.out (by kernel_rfl)) ?_
    clear hHeld hiw hzt hmu had hpz
    have HPL := Aside0.mk (show lookasideref10_place.f (s : Int) (N : Int) l (va : Int) = some (plcOf N (s : Int) va : Int) from plc_f va HVA.out.2 s N HNS.out.1 HNS.out.2.1 (by have := HNS.out; omega) l)
    have HOW := Aside0.mk (show ownW N s i (t, d) = if plcOf N (s : Int) va = i then readW (t, d) va else none by rw [HVA.out.1]; rfl)
    obtain ⟨q0, q1, q2⟩ := cz3q HB2.out
    go_wp2_with fail
    refine (lookasideref10_place.calls _ _ A c l _ _ _ (Kd.C_below HC0.out (below_of_grown HG.out)) HCC.out HPL.out).mono ?_
    rintro x0 w6 ⟨rfl, hb⟩
    have hg := below_grown hb
    replace HG := Aside0.mk (grown_two HG.out hg)
    replace HB2 := Aside0.mk (blk_grown HB2.out hg)
    replace HB3 := Aside0.mk (blk_grown HB3.out hg)
    clear hg hb q0 q1 q2
    by_cases hp : plcOf N (s : Int) va = i
    · have HPI := Aside0.mk hp
      obtain ⟨q0, q1, q2⟩ := cz3q HB2.out
      rw [hp]
      clear hp
      go_wp2_with fail
      refine (read10_calls HLT.out.1 HLT.out.2 HVA.out.2 HRO.out HGW.out (Kd.C_below HC0.out (below_of_grown HG.out)) HCC.out hl).mono ?_
      rintro x0 w7 ⟨he, hg⟩
      replace HG := Aside0.mk (grown_two HG.out hg)
      replace HB3 := Aside0.mk (blk_grown HB3.out hg)
      clear hg q0 q1 q2
      rcases ho : readW (t, d) va with _ | g
      · have he2 : x0 = .returned (.tuple #[.agg #[.int .i64 0, .int .i64 0, .int .u64 0, .int .u64 0, .bool false, .bool false, .bool false, .bool false, .bool false, .bool false, .bool false], .bool false]) := by rw [he, ho]; rfl
        have HO := Aside0.mk ho
        clear he ho
        subst he2
        go_wp2_with (first | ((with_reducible refine gate_store (t := 50) (p := 4) rfl ?_); refine wpList_store_row rfl 50 (.tmp 4) (.tmp 46) rfl h3 #[.int .i64 0, .int .i64 0, .int .u64 0, .int .u64 0, .bool false, .bool false, .bool false, .bool false, .bool false, .bool false, .bool false] rfl rfl 50 _ HB3.out (by kernel_rfl) rfl (by kernel_rfl) ?_; have SHB3 := Aside0.mk (setRow_heap _ h3 _ #[.int .i64 0, .int .i64 0, .int .u64 0, .int .u64 0, .bool false, .bool false, .bool false, .bool false, .bool false, .bool false, .bool false] _ _ HB3.out); have THB3 := Aside0.mk (grown_row w7 h3 #[.int .i64 0, .int .i64 0, .int .u64 0, .int .u64 0, .bool false, .bool false, .bool false, .bool false, .bool false, .bool false, .bool false])))
        obtain ⟨z0, z1, z2, z3, z4, z5, z6, z7, z8, z9, z10⟩ := tte_Read.cz11 SHB3.out
        exact bodyPost_ret (v := .tuple #[.agg #[.int .i64 0, .int .i64 0, .int .u64 0, .int .u64 0, .bool false, .bool false, .bool false, .bool false, .bool false, .bool false, .bool false], .bool false]) (by simp [results, Try.f73, go_sem, z0, z1, z2, z3, z4, z5, z6, z7, z8, z9, z10]) rfl ⟨by rw [HOW.out, if_pos HPI.out, HO.out]; rfl, grown_loc HG.out THB3.out (by have := HH.out; omega)⟩
      · have he2 : x0 = .returned (.tuple #[.agg (geA g), .bool true]) := by rw [he, ho]; rfl
        have HO := Aside0.mk ho
        clear he ho
        subst he2
        go_wp2_with (first | ((with_reducible refine gate_store (t := 50) (p := 4) rfl ?_); refine wpList_store_row rfl 50 (.tmp 4) (.tmp 46) rfl h3 (geA g) rfl rfl 50 _ HB3.out (by kernel_rfl) rfl (by kernel_rfl) ?_; have SHB3 := Aside0.mk (setRow_heap _ h3 _ (geA g) _ _ HB3.out); have THB3 := Aside0.mk (grown_row w7 h3 (geA g))))
        obtain ⟨z0, z1, z2, z3, z4, z5, z6, z7, z8, z9, z10⟩ := tte_Read.cz11 SHB3.out
        exact bodyPost_ret (v := .tuple #[.agg (geA g), .bool true]) (by simp [results, Try.f73, go_sem, z0, z1, z2, z3, z4, z5, z6, z7, z8, z9, z10]) rfl ⟨by rw [HOW.out, if_pos HPI.out, HO.out]; rfl, grown_loc HG.out THB3.out (by have := HH.out; omega)⟩
    · have HPI := Aside0.mk hp
      have hp2 : ((plcOf N (s : Int) va : Int) != (i : Int)) = true := bne_iff_ne.mpr (fun e => hp (by exact_mod_cast e))
      clear hp
      generalize (plcOf N (s : Int) va : Int) = pz at hp2 ⊢
      go_wp2_with (first | ((with_reducible refine gate_store (t := 50) (p := 4) rfl ?_); refine wpList_store_row rfl 50 (.tmp 4) (.tmp 41) rfl h3 #[.int .i64 0, .int .i64 0, .int .u64 0, .int .u64 0, .bool false, .bool false, .bool false, .bool false, .bool false, .bool false, .bool false] rfl rfl 50 _ HB3.out (by kernel_rfl) rfl (by kernel_rfl) ?_; have SHB3 := Aside0.mk (setRow_heap _ h3 _ #[.int .i64 0, .int .i64 0, .int .u64 0, .int .u64 0, .bool false, .bool false, .bool false, .bool false, .bool false, .bool false, .bool false] _ _ HB3.out); have THB3 := Aside0.mk (grown_row w6 h3 #[.int .i64 0, .int .i64 0, .int .u64 0, .int .u64 0, .bool false, .bool false, .bool false, .bool false, .bool false, .bool false, .bool false])))
      obtain ⟨z0, z1, z2, z3, z4, z5, z6, z7, z8, z9, z10⟩ := tte_Read.cz11 SHB3.out
      exact bodyPost_ret (v := .tuple #[.agg #[.int .i64 0, .int .i64 0, .int .u64 0, .int .u64 0, .bool false, .bool false, .bool false, .bool false, .bool false, .bool false, .bool false], .bool false]) (by simp [results, Try.f73, go_sem, z0, z1, z2, z3, z4, z5, z6, z7, z8, z9, z10]) rfl ⟨by rw [HOW.out, if_neg HPI.out]; rfl, grown_loc HG.out THB3.out (by have := HH.out; omega)⟩
end
end Go.Proofs.Ytjnffegjpkbjmaa.Mem
namespace Go.Proofs.Ytjnffegjpkbjmaa.Mem
open Go.RowKit Go.Maps Go.Proofs.YtjnffegjpkbjmaaW.PrintWords Go.Proofs.YtjnffegjpkbjmaaW.PrintLast Go.Proofs.YtjnffegjpkbjmaaW.PrintMore Go.Proofs.Ytjnffegjpkbjmaa.QTsbPlays Go.Proofs.Ytjnffegjpkbjmaa.Pure
set_option linter.unusedSimpArgs false
set_option linter.unusedVariables false
section
set_option maxHeartbeats 2000000
set_option maxRecDepth 100000
theorem gW_filter (a : Int) (j : Int) : ∀ l : List WS, gW (l.filter (fun x => !(x.f0 == a))) j = if j = a then (9223372036854775807, 0) else gW l j
  | [] => by simp [gW]
  | b :: l => by
    have ih := gW_filter a j l
    by_cases e : b.f0 = a
    · rw [List.filter_cons_of_neg (by simp [e]), ih, gW_cons]
      by_cases h : j = a
      · rw [if_pos h, if_pos h]
      · rw [if_neg h, if_neg h, if_neg (fun e2 => h (e2.symm.trans e))]
    · rw [List.filter_cons_of_pos (by simp [e]), gW_cons, gW_cons, ih]
      by_cases h : j = a
      · rw [if_pos h, if_neg (fun e2 => e (e2.trans h))]
        simp [h]
      · rw [if_neg h, if_neg h]
theorem gW_append (j : Int) (x : WS) : ∀ l : List WS, (∀ b ∈ l, b.f0 ≠ x.f0) → gW (l ++ [x]) j = if j = x.f0 then (x.f1, x.f2) else gW l j
  | [], _ => by
    show (if x.f0 = j then (x.f1, x.f2) else (9223372036854775807, 0)) = _
    by_cases h : j = x.f0
    · rw [if_pos h.symm, if_pos h]
    · rw [if_neg (fun e => h e.symm), if_neg h]; rfl
  | b :: l, hl => by
    have ih := gW_append j x l (fun c hc => hl c (by simp [hc]))
    rw [List.cons_append, gW_cons, gW_cons, ih]
    by_cases h : j = x.f0
    · rw [if_pos h, if_neg (fun e => hl b (by simp) (e.trans h))]
      simp [h]
    · rw [if_neg h, if_neg h]
theorem gW_pW (l : List WS) (a t d j : Int) : gW (pW l a t d) j = if j = a then (t, d) else gW l j := by
  unfold pW
  by_cases h : t = 9223372036854775807 ∧ d = 0
  · rw [if_pos h, List.append_nil, gW_filter, h.1, h.2]
  · rw [if_neg h, gW_append j ⟨a, t, d⟩ _ (fun b hb => by
      have := (List.mem_filter.1 hb).2
      simpa using this), gW_filter]
    by_cases e : j = a
    · rw [if_pos e, if_pos e]
    · rw [if_neg e, if_neg e, if_neg e]
theorem gW_ins (l : List WS) (a t d j : Int) : gW (insW l a t d) j = if j = a then (t, d) else gW l j := by
  unfold insW
  by_cases e : j = a
  · simp [gW_pW, e]
  · simp [gW_pW, e]
theorem below_two {B : Nat} {w0 W W' : World} (h : Below B w0 W) (hB : w0.heap.size = B) (hg : W.grownBy W' none) : Below B w0 W' := ⟨hg.os.trans h.os, hg.tape.trans h.tape, hg.output.trans h.output, Nat.le_trans h.size hg.size, fun k hk => (hg.block k (Nat.lt_of_lt_of_le hk (by rw [← hB]; exact h.size)) (by simp)).trans (h.block k hk)⟩
/-- The document's words are these entries'. -/
def DW (N : Nat) (os : Nat → Option GE) (l : List WS) : Prop := ∀ i, i < N → gW l (i : Int) = (((WO os i).1 : Int), ((WO os i).2 : Int))
theorem dw_nil (N : Nat) : DW N (fun _ => none) [] := fun i _ => rfl
theorem DW.ins {N s : Nat} {os : Nat → Option GE} {l : List WS} (h : DW N os l) (g : GE) (i : Nat) : DW N (setO os i (some g)) (insW l (i : Int) (g.tag : Int) (g.data : Int)) := by
  intro j hj
  rw [gW_ins]
  by_cases e : j = i
  · subst e
    rw [if_pos rfl]
    unfold WO
    rw [setO_at]
    rfl
  · rw [if_neg (fun z => e (by exact_mod_cast z)), h j hj]
    unfold WO
    rw [setO_ne e]
theorem DW.nil {N s : Nat} {os : Nat → Option GE} (h : DW N os []) (hok : OKO N s os) {i : Nat} (hi : i < N) : os i = none := by
  have e := h i hi
  have e1 : (WO os i).1 = BADW := by
    have := congrArg Prod.fst e
    have e2 : (9223372036854775807 : Int) = ((WO os i).1 : Int) := this
    unfold BADW
    omega
  exact (tag_bad hok hi).1 e1
theorem filterMap_none {os : Nat → Option GE} : ∀ is : List Nat, (∀ i ∈ is, os i = none) → is.filterMap os = []
  | [], _ => rfl
  | i :: is, h => by
    rw [List.filterMap_cons_none (h i (by simp))]
    exact filterMap_none is (fun j hj => h j (by simp [hj]))
theorem range_snoc (os : Nat → Option GE) (k : Nat) : (List.range (k + 1)).filterMap os = (List.range k).filterMap os ++ (match os k with | some g => [g] | none => []) := by
  rw [List.range_succ, List.filterMap_append]
  congr 1
  cases h : os k <;> simp [h]
theorem rown_O {N s base : Nat} {sz : Int} (b : TB base N s sz) {os : Nat → Option GE} (hok : OKO N s os) {A : Option Addr} {c : Nat} {l : List WS} (hdw : DW N os l) {i : Nat} (hi : i < N) {W : World} (hC : Kd.C k122 W A l.length l) (hc : l.length ≤ c) (hl : l.length ≤ 1000000) :
    Calls Try.prog 73 #[.agg #[.int .i64 (s : Int), .int .i64 (N : Int), .slice A l.length c], .int .i64 (i : Int)] W fun e W' => e = .returned (foundV (os i)) ∧ W.grownBy W' none := by
  have ho := own_O b hok hi
  have hgw := hdw i hi
  have h1 : (WO os i).1 < 18446744073709551616 ∧ (WO os i).2 < 18446744073709551616 ∧ ROK s (WO os i).1 (WO os i).2 (ownVa s i (WO os i).1) := by
    cases hoi : os i with
    | none =>
      have e : WO os i = (BADW, 0) := by unfold WO; rw [hoi]; rfl
      rw [e]
      exact ⟨by decide, by decide, .inl ⟨rfl, readW_bad _ _⟩⟩
    | some g =>
      obtain ⟨h1, h2, h3⟩ := hok i hi g hoi
      have e : WO os i = (g.tag, g.data) := by unfold WO; rw [hoi]; rfl
      rw [e]
      refine ⟨h1.tag_lt, h1.data_lt, .inr ⟨g, ?_, h2⟩⟩
      subst h2
      have hv := own_va h1 b.hq b.h1
      rw [h3] at hv
      show readW (g.tag, g.data) (ownVa g.s i g.tag) = some g
      rw [hv]
      exact readW_ge h1 (base_self _ _ h1.vm)
  have h2 := rown_calls (c := c) b.hs b.h1 b.hN hi h1.1 h1.2.1 h1.2.2 hgw hC hc hl
  rw [show ownW N s i ((WO os i).1, (WO os i).2) = os i from ho] at h2
  exact h2
theorem rlist_calls {N s base : Nat} {sz : Int} (b : TB base N s sz) {os : Nat → Option GE} (hok : OKO N s os) {A : Option Addr} {c : Nat} {l : List WS} (hdw : DW N os l) {W : World} (hC : Kd.C k122 W A l.length l) (hc : l.length ≤ c) (hl : l.length ≤ 1000000) :
    Calls Try.prog 35 #[.agg #[.int .i64 (s : Int), .int .i64 (N : Int), .slice A l.length c]] W fun e W' => ∃ v, e = .returned v ∧ Kd.R k50 50 W' W.heap.size (fun _ => True) v ((listO N os).map geS) ∧ W.grownBy W' none := by
  have hu := Try.underlying44
  have hu3 := Try.underlying50
  have HC0 := Aside0.mk hC
  have HCC := Aside0.mk hc
  have HTB := Aside0.mk b
  have HOK := Aside0.mk hok
  have HDW := Aside0.mk hdw
  have hN : N ≤ 4096 := b.hN
  clear hC hc b hok hdw
  have hga := World.grownBy_alloc W (.cells #[.int .i64 (s : Int), .int .i64 (N : Int), .slice A l.length c] 44) none
  have hb2 := heap_alloc_new W (.cells #[.int .i64 (s : Int), .int .i64 (N : Int), .slice A l.length c] 44)
  have hz : (W.alloc (.cells #[.int .i64 (s : Int), .int .i64 (N : Int), .slice A l.length c] 44)).heap.size = W.heap.size + 1 := by simp only [World.size_alloc]
  have HG := Aside0.mk hga
  have HB2 := Aside0.mk hb2
  clear hga hb2
  go_enter Try.func35, Try.ntmps35
  go_wp2_with fail
  obtain ⟨h2, hh2⟩ : ∃ z, z = W.heap.size := ⟨_, rfl⟩
  rw [← hh2] at HB2 hz
  rw [← hh2]
  generalize W.alloc (.cells #[.int .i64 (s : Int), .int .i64 (N : Int), .slice A l.length c] 44) = w1 at HB2 HG hz ⊢
  have HB0 := Aside0.mk HB2.out
  have HH := Aside0.mk hh2
  have HZ := Aside0.mk hz
  clear hh2 hz
  go_loopw [3, 4] (fun v3 v4 wr => ∃ (k : Nat), v4 = .int .i64 k ∧ k ≤ N ∧ Aside0 (Kd.R k50 50 wr (h2 + 1) (fun _ => True) v3 (((List.range k).filterMap os).map geS)) ∧ Aside0 (wr.heap[h2]? = some (.cells #[.int .i64 (s : Int), .int .i64 (N : Int), .slice A l.length c] 44 (0, 0))) ∧ Aside0 (Below (h2 + 1) w1 wr)) (fun _ v4 _ => N - (intOf v4).toNat)
  case atStart => exact ⟨0, rfl, by omega, ⟨Kd.R_nil _ _ _ _ _⟩, HB2, ⟨Below.refl _ _⟩⟩
  case round =>
    clear HB2
    obtain ⟨k, rfl, hk, HR, HB2, HBL⟩ := hrel
    obtain ⟨q0, q1, q2⟩ := cz3q HB2.out
    by_cases hkl : k < N ∧ 0 < l.length
    · have h1' : (k : Int) < (N : Int) := by omega
      have h2' : (0 : Int) < (l.length : Int) := by omega
      have HKN := Aside0.mk hkl
      clear hkl
      go_wp2_with fail
      refine (rown_O HTB.out HOK.out HDW.out HKN.out.1 (Kd.C_below HC0.out (below_of_grown (grown_two HG.out (below_grown (by rw [HZ.out]; exact HBL.out))))) HCC.out hl).mono ?_
      rintro x0 w3 ⟨he, hg⟩
      replace HR := Aside0.mk (Kd.R_grown HR.out hg (by simp))
      replace HB2 := Aside0.mk (blk_grown HB2.out hg)
      replace HBL := Aside0.mk (below_two HBL.out HZ.out hg)
      clear hg q0 q1 q2
      rcases ho : os k with _ | g
      · have he2 : x0 = .returned (.tuple #[.agg #[.int .i64 0, .int .i64 0, .int .u64 0, .int .u64 0, .bool false, .bool false, .bool false, .bool false, .bool false, .bool false, .bool false], .bool false]) := by rw [he, ho]; rfl
        have HSN := Aside0.mk (show ((List.range (k + 1)).filterMap os).map geS = ((List.range k).filterMap os).map geS by rw [range_snoc, ho]; simp)
        clear he ho
        subst he2
        have hgc := World.grownBy_alloc w3 (.cells #[.int .i64 0, .int .i64 0, .int .u64 0, .int .u64 0, .bool false, .bool false, .bool false, .bool false, .bool false, .bool false, .bool false] 50) none
        replace HR := Aside0.mk (Kd.R_grown HR.out hgc (by simp))
        replace HB2 := Aside0.mk (blk_grown HB2.out hgc)
        replace HBL := Aside0.mk (below_two HBL.out HZ.out hgc)
        clear hgc
        go_wp2_with fail

        go_roundw
        case rel => exact ⟨k + 1, by go_num, by have := HKN.out; omega, ⟨by rw [HSN.out]; exact HR.out⟩, HB2, HBL⟩
        case measure => have := HKN.out; simp [intOf]; omega
      · have he2 : x0 = .returned (.tuple #[.agg (geA g), .bool true]) := by rw [he, ho]; rfl
        have HSN := Aside0.mk (show ((List.range (k + 1)).filterMap os).map geS = ((List.range k).filterMap os).map geS ++ [geS g] by rw [range_snoc, ho]; simp)
        clear he ho
        subst he2
        have hgc := World.grownBy_alloc w3 (.cells (geA g) 50) none
        have HB5 := Aside0.mk (heap_alloc_new w3 (.cells (geA g) 50))
        replace HR := Aside0.mk (Kd.R_grown HR.out hgc (by simp))
        replace HB2 := Aside0.mk (blk_grown HB2.out hgc)
        replace HBL := Aside0.mk (below_two HBL.out HZ.out hgc)
        clear hgc
        have HXL := Aside0.mk (show (((List.range k).filterMap os).map geS).length ≤ 4096 by have := HTB.out.hN; have := List.length_filterMap_le os (List.range k); simp only [List.length_map, List.length_range] at this ⊢; omega)
        obtain ⟨z0, z1, z2, z3, z4, z5, z6, z7, z8, z9, z10⟩ := tte_Read.cz11 HB5.out
        go_wp2_with (first | ((with_reducible refine gate_builtin (b := .append) (xs := #[.tmp 26, .tmp 28]) rfl ?_); at_builtin; refine Kd.R_append k50 (w0 := w1) (h2 + 1) rfl (.tmp 26) (.tmp 28) 41 50 (.agg #[.int .i64 0, .int .i64 0, .int .u64 0, .int .u64 0, .bool false, .bool false, .bool false, .bool false, .bool false, .bool false, .bool false]) 40 rfl Try.underlying41 info50 rfl (by decide) (by omega) u3 (((List.range k).filterMap os).map geS) (geS g) (geA g).toList (fun _ => True) (fun _ => False) rfl (by first | (go_simp; done) | (go_simp; rfl)) ?aP (fun _ hk => hk.elim) (fun _ _ => trivial) ?aO ?aB ?aS ?aL ?_; (case aP => exact k50_mkM _ _ _ (geS g)); (case aO => exact HR.out); (case aB => exact HBL.out); (case aS => exact Nat.le_trans (Nat.le_of_eq (by rw [HZ.out])) HBL.out.size); (case aL => have := HXL.out; omega); intro v1 w5 hR hB hg hat; have HR5 := Aside0.mk hR; have HBL5 := Aside0.mk hB; clear hR hB hg hat))

        go_roundw
        case rel => exact ⟨k + 1, by go_num, by have := HKN.out; omega, ⟨by rw [HSN.out]; exact HR5.out⟩, ⟨(HBL5.out.block h2 (Nat.lt_succ_self _)).trans HB0.out⟩, HBL5⟩
        case measure => have := HKN.out; simp [intOf]; omega
    · have hkk : ((k : Int) < (N : Int) ∧ ¬ (0 : Int) < (l.length : Int)) ∨ ¬ (k : Int) < (N : Int) := by omega
      have HLE := Aside0.mk (show (List.range k).filterMap os = listO N os by
        rcases Nat.lt_or_ge k N with e | e
        · have e0 : l = [] := List.eq_nil_of_length_eq_zero (by omega)
          have e1 := HDW.out
          rw [e0] at e1
          unfold listO
          rw [filterMap_none _ (fun i hi => e1.nil HOK.out (by have := List.mem_range.1 hi; omega)), filterMap_none _ (fun i hi => e1.nil HOK.out (List.mem_range.1 hi))]
        · obtain rfl : k = N := by omega
          rfl)
      clear hkl
      rcases hkk with ⟨h1', h2'⟩ | h1'
      all_goals
        go_wp2
        go_ret
        refine ⟨_, rfl, ?_, ?_⟩
        · rw [← HLE.out]
          exact Kd.R_lower HR.out (by rw [HH.out]; exact Nat.le_succ _)
        · exact grown_two HG.out (below_grown (by rw [HZ.out]; exact HBL.out))
end
end Go.Proofs.Ytjnffegjpkbjmaa.Mem
