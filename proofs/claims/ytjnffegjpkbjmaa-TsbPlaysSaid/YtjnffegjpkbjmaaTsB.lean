/- A TSB is begun in a memory of its own, and the document's. -/
import Derived.Test.YtjnffegjpkbjmaaTsT
namespace Go.Proofs.Ytjnffegjpkbjmaa.Mem
open Go.RowKit Go.Maps Go.Proofs.YtjnffegjpkbjmaaW.PrintWords Go.Proofs.YtjnffegjpkbjmaaW.PrintLast Go.Proofs.YtjnffegjpkbjmaaW.PrintMore Go.Proofs.Ytjnffegjpkbjmaa.QTsbPlays Go.Proofs.Ytjnffegjpkbjmaa.Pure
set_option linter.unusedSimpArgs false
set_option linter.unusedVariables false
section
set_option maxHeartbeats 2000000
set_option maxRecDepth 100000
noncomputable def tbegin8_T : Bool × List (List Nat × List Nat) := rtab .any (opsOf Try.f20 8)
theorem tbegin8_tab : rtab .any (opsOf Try.f20 8) = tbegin8_T := rfl
theorem cz3q {W : World} {g : Nat} {t : TypeId} {a0 a1 a2 : Value} (h : W.heap[g]? = some (.cells #[a0, a1, a2] t (0, 0))) : W.cell? ⟨g, 0, none⟩ = some a0 ∧ W.cell? ⟨g, 1, none⟩ = some a1 ∧ W.cell? ⟨g, 2, none⟩ = some a2 := ⟨(blk_cell h 0).trans rfl, (blk_cell h 1).trans rfl, (blk_cell h 2).trans rfl⟩
theorem tb_begin (s g : Nat) (hs : s < 4) (hg : g < 4) : TB 65536 (plcs s g) s 1048576 := by
 have := plcs_le s g hs hg
 exact ⟨hs, this.1, this.2, by decide, by omega, by decide, plcs_mod s g hs hg⟩
theorem begin_calls {B : Nat} {w0 W : World} (hb : Below B w0 W) (hB : B ≤ W.heap.size) (size grade : Int) :
  Calls Try.prog 20 #[.int .i64 size, .int .i64 grade] W fun e W' => ∃ p mb pt A c, e = .returned (.tuple #[.pointer (some ⟨pt, 0, none⟩), .agg #[.int .i64 (ar4 size), .int .i64 (plcs (ar4 size) (ar4 grade)), .slice A 0 c]]) ∧ Kd.R k122 122 W' W.heap.size (fun _ => True) (.slice A 0 c) [] ∧ Now B w0 p mb 1048576 65536 (plcs (ar4 size) (ar4 grade)) (ar4 size) (.map []) (2 * plcs (ar4 size) (ar4 grade)) (fun _ => (BADW, 0)) W' ∧ W'.heap[pt]? = some (.cells (TCs p (65536 : Nat) (plcs (ar4 size) (ar4 grade)) (ar4 size) (ar4 grade)) 95 (0, 0)) ∧ W.heap.size ≤ pt ∧ W.heap.size ≤ p ∧ W.heap.size ≤ mb ∧ W.grownBy W' none := by
 have hu := Try.underlying44
 have hA := World.grownBy_alloc W (.cells #[.int .i64 0, .int .i64 0, .slice none 0 0] 44) none
 have HG := Aside0.mk hA
 have HBL := Aside0.mk (hb.grown hA hB (fun k e => by cases e))
 have HB5 := Aside0.mk (heap_alloc_new W (.cells #[.int .i64 0, .int .i64 0, .slice none 0 0] 44))
 have HBZ := Aside0.mk hB
 obtain ⟨N0, hN0⟩ : ∃ N0, N0 = W.heap.size := ⟨_, rfl⟩
 have HNN := Aside0.mk hN0
 have HN0 := Aside0.mk (show N0 = W.heap.size from hN0)
 clear hA hb hB hN0
 go_enter Try.func20, Try.ntmps20
 go_wp2_with fail
 have HSZ := Aside0.mk HG.out.size
 refine (lookasideref08_Around.calls size 4 _ _ (rAround4 size)).mono ?_
 rintro x0 w1 ⟨rfl, hd⟩
 have hg := drawn_grown hd
 replace HG := Aside0.mk (grown_two HG.out hg)
 replace HBL := Aside0.mk (HBL.out.grown hg (Nat.le_trans HBZ.out HSZ.out) (fun k e => by cases e))
 replace HB5 := Aside0.mk (blk_grown HB5.out hg)
 clear hd hg
 have HSZ1 := Aside0.mk HG.out.size
 generalize W.heap.size = h5 at HB5 HN0 ⊢
 go_wp2_with fail
 refine (lookasideref08_Around.calls grade 4 _ _ (rAround4 grade)).mono ?_
 rintro x0 w2 ⟨rfl, hd⟩
 have hg := drawn_grown hd
 replace HG := Aside0.mk (grown_two HG.out hg)
 replace HBL := Aside0.mk (HBL.out.grown hg (Nat.le_trans HBZ.out HSZ1.out) (fun k e => by cases e))
 replace HB5 := Aside0.mk (blk_grown HB5.out hg)
 clear hd hg
 go_wp2_with fail
 refine (new_calls HBL.out (Nat.le_trans HBZ.out HG.out.size) 1048576 (by decide) (by decide)).mono ?_
 rintro x0 w3 ⟨p, mb, rfl, hM, hg, hmb, hp⟩
 have HM := Aside0.mk hM
 have HPM := Aside0.mk (show N0 ≤ p ∧ N0 ≤ mb from ⟨by have := HG.out.size; have := HNN.out; omega, by have := HG.out.size; have := HNN.out; omega⟩)
 replace HG := Aside0.mk (grown_two HG.out hg)
 replace HB5 := Aside0.mk (blk_grown HB5.out hg)
 clear hM hg hmb hp HBL
 have HRN := Aside0.mk (show lookasideref10_New.f (ar4 size : Int) (ar4 grade : Int) = some ((ar4 size : Int), (plcs (ar4 size) (ar4 grade) : Int), ([] : List (S122))) by unfold lookasideref10_New.f; rw [rPlaces _ _ (ar4_lt _) (ar4_lt _)]; rfl)
 go_wp2_with fail
 refine (lookasideref10_New.calls _ _ _ _ _ _ HRN.out).mono ?_
 rintro x0 w4 ⟨v, rfl, hR, hb⟩
 obtain ⟨A, c, rfl⟩ := Kd.R_slice hR
 simp only [List.length_nil] at hR ⊢
 have hg := below_grown hb
 have HR := Aside0.mk (Kd.R_lower hR HG.out.size)
 replace HM := Aside0.mk (HM.out.same hg)
 replace HG := Aside0.mk (grown_two HG.out hg)
 replace HB5 := Aside0.mk (blk_grown HB5.out hg)
 clear hg hb hR
 go_wp2_with (first | ((with_reducible refine gate_dst (N := 7) rfl ?_); refine box_event ?hg (N := 7) ?hd (cs := #[.int .i64 0, .int .i64 0, .slice none 0 0]) (t := 44) ?hr ?_; (case hd => rfl); (case hg => rfl); (case hr => first | (go_simp; done) | (go_simp; rfl)); intro h7 hgb w5 hbox hb; have HX := Aside0.mk hbox; have GHX := Aside0.mk (below_grown hb); have LHX := Aside0.mk (Nat.le_of_eq hgb.symm); clear hgb hbox hb) | ((with_reducible refine gate_store (t := 44) (p := 7) rfl ?_); refine wpList_store_row rfl 44 (.tmp 7) (.tmp 17) rfl h7 #[.int .i64 (ar4 size), .int .i64 (plcs (ar4 size) (ar4 grade)), .slice A 0 c] rfl rfl 44 _ HX.out (by kernel_rfl) rfl (by kernel_rfl) ?_; have SHX := Aside0.mk (setRow_heap _ h7 _ #[.int .i64 (ar4 size), .int .i64 (plcs (ar4 size) (ar4 grade)), .slice A 0 c] _ _ HX.out); have THX := Aside0.mk (grown_row w5 h7 #[.int .i64 (ar4 size), .int .i64 (plcs (ar4 size) (ar4 grade)), .slice A 0 c]); have HK7 := Aside0.mk (show h5 ≠ h7 by have := blk_lt HB5.out; have := LHX.out; omega); replace HB5 := Aside0.mk ((THX.out.block h5 (blk_lt (blk_grown HB5.out GHX.out)) (fun e => HK7.out (Option.some.inj e))).trans (blk_grown HB5.out GHX.out)); have HGN := Aside0.mk (GHX.out.andThen THX.out (fun j e => by cases e; exact .inl LHX.out)); replace HM := Aside0.mk (HM.out.same HGN.out); replace HG := Aside0.mk (grown_two HG.out HGN.out); have HB7 := Aside0.mk SHX.out; generalize World.setRow w5 h7 #[.int .i64 (ar4 size), .int .i64 (plcs (ar4 size) (ar4 grade)), .slice A 0 c] = w6 at HM HG HB5 HB7 HGN ⊢; clear HX GHX LHX SHX THX))
 have HTB := Aside0.mk (tb_begin _ _ (ar4_lt size) (ar4_lt grade))
 refine (tnew_calls (base := 65536) HM.out (pPlaces _ _ (ar4_lt size) (ar4_lt grade)) HTB.out.h1 (by have := HTB.out.hN; omega) (by decide) (by decide) HTB.out.hsz (by decide) (by decide)).mono ?_
 rintro x0 w7 ⟨pt, rfl, hM, hT, hpt, hg⟩
 replace hM := (Nat.zero_add (2 * plcs (ar4 size) (ar4 grade))) ▸ hM
 have HT := Aside0.mk hT
 have HNM := Aside0.mk (fun b cs t hb => HM.out.nb b cs t hb)
 replace HR := Aside0.mk (Kd.R_mono (ok' := fun _ => True) (Kd.R_grown (Kd.R_bound (Kd.R_grown HR.out HGN.out (by simp))) hg (fun k hk e => by obtain ⟨_, _, _, q, _, cs, hc⟩ := hk; exact HM.out.nb k cs q hc (Option.some.inj e).symm.symm)) (fun _ _ => trivial))
 replace HB5 := Aside0.mk ((hg.block h5 (blk_lt HB5.out) (fun e => HM.out.nb _ _ _ HB5.out (Option.some.inj e))).trans HB5.out)
 replace HB7 := Aside0.mk ((hg.block h7 (blk_lt HB7.out) (fun e => HM.out.nb _ _ _ HB7.out (Option.some.inj e))).trans HB7.out)
 have HPT := Aside0.mk (show N0 ≤ pt from by have := HG.out.size; have := HNN.out; omega)
 replace HG := Aside0.mk (grown_loc HG.out hg (by have := HPM.out; have := HNN.out; omega))
 replace HM := Aside0.mk hM
 clear hM hT hpt hg HNM HGN
 go_wp2_with fail
 replace HT := Aside0.mk (blk_grown HT.out (grown_drew w7 none))
 replace HB5 := Aside0.mk (blk_grown HB5.out (grown_drew w7 none))
 replace HB7 := Aside0.mk (blk_grown HB7.out (grown_drew w7 none))
 replace HG := Aside0.mk (grown_two HG.out (grown_drew w7 none))
 replace HM := Aside0.mk (HM.out.same (grown_drew w7 none))
 replace HR := Aside0.mk (Kd.R_drew HR.out)
 refine start_ (n := 4) (S := fun w' => w'.heap[h7]? = some (.cells #[.int .i64 (ar4 size), .int .i64 (plcs (ar4 size) (ar4 grade)), .slice A 0 c] 44 (0, 0))) (ds := []) #[false, false, false, false] (by kernel_rfl) rfl rfl HB7.out (fun hHeld => ?_)
 refine with_tab tbegin8_tab (fun HT_ => ?_)
 refine pure_ (i := 0) (N := some 28) (v := .pointer (some ⟨pt, 0, none⟩)) (a' := ?_) #[true, false, false, false] rfl rfl (any_of HT_.out (by kernel_rfl)) (fun _ _ _ h => h) (Or.inl ⟨by rfl, ?_⟩) ?_ ?_
 ·intro w'
  go_simp
 rotate_left
 ·simp only [ap_]
  rfl
 refine pure_ (i := 2) (N := some 4) (v := .pointer (some ⟨pt, 0, none⟩)) (a' := ?_) #[true, false, true, false] rfl rfl (any_of HT_.out (by kernel_rfl)) (fun _ _ _ h => h) (Or.inl ⟨by rfl, ?_⟩) ?_ ?_
 ·intro w'
  go_simp
 rotate_left
 ·simp only [ap_]
  rfl
 refine take_ (i := 1) (N := some 29) (v := .agg #[.int .i64 (ar4 size), .int .i64 (plcs (ar4 size) (ar4 grade)), .slice A 0 c]) (a' := ?_) #[true, true, true, false] rfl rfl (take_of HT_.out (by kernel_rfl)) (fun _ _ _ h => h) (Or.inl ⟨by rfl, ?_⟩) hHeld ?_ ?_
 ·rintro w' s1
  obtain ⟨q0, q1, q2⟩ := cz3q s1
  go_simp
 rotate_left
 ·simp only [ap_]
  rfl
 refine one_ (i := 3) (N := none) #[true, true, true, true] rfl rfl (one_of HT_.out (by kernel_rfl)) (by decide) (fun K hK => ?_)
 rw [if_pos (by rfl)]
 refine wp_store_row 44 (.tmp 5) (.tmp 29) rfl h5 #[.int .i64 (ar4 size), .int .i64 (plcs (ar4 size) (ar4 grade)), .slice A 0 c] rfl rfl 44 #[.int .i64 0, .int .i64 0, .slice none 0 0] HB5.out (by kernel_rfl) rfl (by kernel_rfl) ?_
 have hb2 := setRow_heap w7.drew h5 _ #[.int .i64 (ar4 size), .int .i64 (plcs (ar4 size) (ar4 grade)), .slice A 0 c] _ _ HB5.out
 have hgr := grown_row w7.drew h5 #[.int .i64 (ar4 size), .int .i64 (plcs (ar4 size) (ar4 grade)), .slice A 0 c]
 have hs : (World.setRow w7.drew h5 #[.int .i64 (ar4 size), .int .i64 (plcs (ar4 size) (ar4 grade)), .slice A 0 c]).heap[h7]? = some (.cells #[.int .i64 (ar4 size), .int .i64 (plcs (ar4 size) (ar4 grade)), .slice A 0 c] 44 (0, 0)) := (setRow_other w7.drew h5 h7 #[.int .i64 (ar4 size), .int .i64 (plcs (ar4 size) (ar4 grade)), .slice A 0 c] HK7.out.symm).trans hHeld
 generalize World.setRow w7.drew h5 #[.int .i64 (ar4 size), .int .i64 (plcs (ar4 size) (ar4 grade)), .slice A 0 c] = we at hb2 hgr hs ⊢
 have HBE := Aside0.mk hb2
 have HGE := Aside0.mk hgr
 clear hb2 hgr
 refine hK.out _ _ hs (fun hHeld => ?_)
 clear hK K
 refine norm_ (a' := ?_) ?_ ?_
 rotate_left
 ·show Act.put _ none _ = _
  rfl
 refine done_ (done_of HT_.out (by kernel_rfl)) ?_
 have HK5 := Aside0.mk (show mb ≠ h5 ∧ p ≠ h5 ∧ pt ≠ h5 ∧ B ≤ h5 from ⟨fun e => HM.out.nb _ _ _ HB5.out e.symm, (by intro e; have h := HM.out.row; rw [e, HB5.out] at h; cases h), (by intro e; have h := HT.out; rw [e, HB5.out] at h; cases h), by have := HBZ.out; have := HNN.out; have := HN0.out; omega⟩)
 replace HR := Aside0.mk (Kd.R_mono (ok' := fun _ => True) (Kd.R_grown (Kd.R_types HR.out HB5.out (by decide)) HGE.out (fun k hk e => hk.2 (Option.some.inj e))) (fun _ _ => trivial))
 replace HM := Aside0.mk (HM.out.kept HGE.out (fun e => HK5.out.1 (Option.some.inj e)) (fun e => HK5.out.2.1 (Option.some.inj e)) (fun k e => by cases e; exact HK5.out.2.2.2))
 replace HT := Aside0.mk ((HGE.out.block pt (blk_lt HT.out) (fun e => HK5.out.2.2.1 (Option.some.inj e))).trans HT.out)
 replace HG := Aside0.mk (grown_loc HG.out HGE.out (by have := HNN.out; have := HN0.out; omega))
 clear hHeld HGE HB5 HB7
 obtain ⟨q0, q1, q2⟩ := cz3q HBE.out
 go_wp2
 have HFIN := Aside0.mk (show W.heap.size ≤ pt ∧ W.heap.size ≤ p ∧ W.heap.size ≤ mb from by have := HPT.out; have := HPM.out; have := HNN.out; omega)
 exact bodyPost_ret (v := .tuple #[.pointer (some ⟨pt, 0, none⟩), .agg #[.int .i64 (ar4 size), .int .i64 (plcs (ar4 size) (ar4 grade)), .slice A 0 c]]) (by simp [results, Try.f20, go_sem, q0, q1, q2]) rfl ⟨p, mb, pt, A, c, rfl, HR.out, ⟨_, HM.out, cleared HTB.out _ isMap_empty, (clear_holds HTB.out _ _ isMap_empty (fun x hx => List.mem_range.1 hx)).1⟩, HT.out, HFIN.out.1, HFIN.out.2.1, HFIN.out.2.2, HG.out⟩
end
end Go.Proofs.Ytjnffegjpkbjmaa.Mem
-- halved
