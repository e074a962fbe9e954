/- What is not found in a TSB, though an entry is read. -/
import Derived.Test.YtjnffegjpkbjmaaTs10
/- merged: YtjnffegjpkbjmaaTs11 -/
namespace Go.Proofs.Ytjnffegjpkbjmaa.Mem
open Go.RowKit Go.Maps Go.Proofs.YtjnffegjpkbjmaaW.PrintWords Go.Proofs.YtjnffegjpkbjmaaW.PrintLast Go.Proofs.YtjnffegjpkbjmaaW.PrintMore Go.Proofs.Ytjnffegjpkbjmaa.QTsbPlays
set_option linter.unusedSimpArgs false
set_option linter.unusedVariables false
section
set_option maxHeartbeats 2000000
set_option maxRecDepth 100000
noncomputable def treadn3_T : Bool × List (List Nat × List Nat) := rtab .any (opsOf Try.f58 3)
theorem treadn3_tab : rtab .any (opsOf Try.f58 3) = treadn3_T := rfl
theorem tread_no {B w0 p mb sz n D W pt} {base : Int} {N : Nat} {size grade : Int} (h : Mem B w0 p mb sz n D W) (kt : W.heap[pt]? = some (.cells (TCs p base N size grade) 95 (0, 0))) (f0 f1 f2 f3 : Int) (b4 b5 b6 b7 b8 b9 b10 : Bool) (k : Nat) (a va q : Int) (ha : (Lit.int .u64 a).wf = true) (hc : mayOf sz a 16 16 = 0) (hr : tte_Read.f k (rd D (a / 8)) (rd D (a / 8 + 1)) va = some (f0, f1, f2, f3, b4, b5, b6, b7, b8, b9, b10, q)) (hq : (q != 0) = true) :
  Calls Try.prog 58 #[.pointer (some ⟨pt, 0, none⟩), .int .u64 a, .int .u64 va] W fun e W' => e = .returned (.tuple #[.agg #[.int .i64 0, .int .i64 0, .int .u64 0, .int .u64 0, .bool false, .bool false, .bool false, .bool false, .bool false, .bool false, .bool false], .bool false]) ∧ W.grownBy W' none := by
 have hu := Try.underlying50
 have hA := World.grownBy_alloc W (.cells #[.int .i64 0, .int .i64 0, .int .u64 0, .int .u64 0, .bool false, .bool false, .bool false, .bool false, .bool false, .bool false, .bool false] 50) none
 have HG := Aside0.mk hA
 have HM := Aside0.mk (h.same hA)
 have HT := Aside0.mk (blk_grown kt hA)
 have HB6 := Aside0.mk (heap_alloc_new W (.cells #[.int .i64 0, .int .i64 0, .int .u64 0, .int .u64 0, .bool false, .bool false, .bool false, .bool false, .bool false, .bool false, .bool false] 50))
 have HR := Aside0.mk hr
 have HA := Aside0.mk ha
 have HC := Aside0.mk hc
 obtain ⟨N0, hN0⟩ : ∃ N0, N0 = W.heap.size := ⟨_, rfl⟩
 have HNN := Aside0.mk hN0
 have HN0 := Aside0.mk (show N0 ≤ W.heap.size by omega)
 clear hN0
 have HQ := Aside0.mk hq
 clear h kt hA hr ha hc hq
 obtain ⟨y0, y1, y2, y3, y4⟩ := cz5 HT.out
 go_enter Try.func58, Try.ntmps58
 go_wp2_with fail
 refine (pair_ok HM.out a HA.out HC.out).mono ?_
 rintro x0 wp ⟨rfl, he⟩
 have hg : (W.alloc (.cells #[.int .i64 0, .int .i64 0, .int .u64 0, .int .u64 0, .bool false, .bool false, .bool false, .bool false, .bool false, .bool false, .bool false] 50)).grownBy wp none := by rw [he]; exact grown_drew _ _
 clear he
 replace HG := Aside0.mk (grown_two HG.out hg)
 replace HT := Aside0.mk (blk_grown HT.out hg)
 replace HB6 := Aside0.mk (blk_grown HB6.out hg)
 clear hg y0 y1 y2 y3 y4 HM
 generalize W.heap.size = g6 at HB6 HN0 ⊢
 go_wp2_with fail
 refine (tte_Read.calls k _ _ va f0 f1 f2 f3 b4 b5 b6 b7 b8 b9 b10 q _ HR.out).mono ?_
 rintro x0 wr ⟨rfl, hb⟩
 have hg := below_grown hb
 replace HG := Aside0.mk (grown_two HG.out hg)
 replace HT := Aside0.mk (blk_grown HT.out hg)
 replace HB6 := Aside0.mk (blk_grown HB6.out hg)
 clear hg hb
 go_wp2_with (first | ((with_reducible refine gate_dst (N := 11) rfl ?_); refine box_event ?hg (N := 11) ?hd (cs := #[.int .i64 0, .int .i64 0, .int .u64 0, .int .u64 0, .bool false, .bool false, .bool false, .bool false, .bool false, .bool false, .bool false]) (t := 50) ?hr ?_; (case hd => rfl); (case hg => rfl); (case hr => first | (go_simp; done) | (go_simp; rfl)); intro g11 hgb w4 hbox hb; have HX := Aside0.mk hbox; have GHX := Aside0.mk (below_grown hb); have LHX := Aside0.mk (Nat.le_of_eq hgb.symm); clear hgb hbox hb) | ((with_reducible refine gate_store (t := 50) (p := 11) rfl ?_); refine wpList_store_row rfl 50 (.tmp 11) (.tmp 28) rfl g11 #[.int .i64 f0, .int .i64 f1, .int .u64 f2, .int .u64 f3, .bool b4, .bool b5, .bool b6, .bool b7, .bool b8, .bool b9, .bool b10] rfl rfl 50 _ HX.out (by kernel_rfl) rfl (by kernel_rfl) ?_; have SHX := Aside0.mk (setRow_heap _ g11 _ #[.int .i64 f0, .int .i64 f1, .int .u64 f2, .int .u64 f3, .bool b4, .bool b5, .bool b6, .bool b7, .bool b8, .bool b9, .bool b10] _ _ HX.out); have THX := Aside0.mk (grown_row w4 g11 #[.int .i64 f0, .int .i64 f1, .int .u64 f2, .int .u64 f3, .bool b4, .bool b5, .bool b6, .bool b7, .bool b8, .bool b9, .bool b10]); skip))
 have HKK := Aside0.mk (show pt ≠ g11 ∧ g6 ≠ g11 from ⟨by have := blk_lt HT.out; have := LHX.out; omega, by have := blk_lt HB6.out; have := LHX.out; omega⟩)
 replace HT := Aside0.mk ((THX.out.block pt (blk_lt (blk_grown HT.out GHX.out)) (fun e => HKK.out.1 (Option.some.inj e))).trans (blk_grown HT.out GHX.out))
 replace HB6 := Aside0.mk ((THX.out.block g6 (blk_lt (blk_grown HB6.out GHX.out)) (fun e => HKK.out.2 (Option.some.inj e))).trans (blk_grown HB6.out GHX.out))
 replace HG := Aside0.mk (grown_loc (grown_two HG.out GHX.out) THX.out (Nat.le_trans HG.out.size LHX.out))
 have HB := Aside0.mk SHX.out
 generalize World.setRow w4 g11 #[.int .i64 f0, .int .i64 f1, .int .u64 f2, .int .u64 f3, .bool b4, .bool b5, .bool b6, .bool b7, .bool b8, .bool b9, .bool b10] = w5 at HT HB6 HG HB ⊢
 clear HX GHX LHX SHX THX
 replace HT := Aside0.mk (blk_grown HT.out (grown_drew w5 none))
 replace HB6 := Aside0.mk (blk_grown HB6.out (grown_drew w5 none))
 replace HB := Aside0.mk (blk_grown HB.out (grown_drew w5 none))
 replace HG := Aside0.mk (grown_two HG.out (grown_drew w5 none))
 refine start_ (n := 11) (S := fun w' => w'.heap[pt]? = some (.cells (TCs p base N size grade) 95 (0, 0)) ∧ w'.heap[g11]? = some (.cells #[.int .i64 f0, .int .i64 f1, .int .u64 f2, .int .u64 f3, .bool b4, .bool b5, .bool b6, .bool b7, .bool b8, .bool b9, .bool b10] 50 (0, 0))) (ds := []) #[false, false, false, false, false, false, false, false, false, false, false] (by kernel_rfl) rfl rfl ⟨HT.out, HB.out⟩ (fun hHeld => ?_)
 refine with_tab treadn3_tab (fun HT_ => ?_)
 refine pure_ (i := 0) (N := some 30) (v := ?_) (a' := ?_) #[true, false, false, false, false, false, false, false, false, false, false] rfl rfl (any_of HT_.out (by kernel_rfl)) (fun _ _ _ h => h) (Or.inl ⟨by rfl, ?_⟩) ?_ ?_
 rotate_left
 ·intro w'
  go_simp
  with_reducible rfl
 rotate_left
 ·simp only [ap_]
  rfl
 refine pure_ (i := 1) (N := some 31) (v := .bool true) (a' := ?_) #[true, true, false, false, false, false, false, false, false, false, false] rfl rfl (any_of HT_.out (by kernel_rfl)) (fun _ _ _ h => h) (Or.inl ⟨by rfl, ?_⟩) ?_ ?_
 ·intro w'
  have hq := HQ.out
  go_simp
 rotate_left
 ·simp only [ap_]
  rfl
 refine pure_ (i := 2) (N := some 32) (v := ?_) (a' := ?_) #[true, true, true, false, false, false, false, false, false, false, false] rfl rfl (any_of HT_.out (by kernel_rfl)) (fun _ _ _ h => h) (Or.inl ⟨by rfl, ?_⟩) ?_ ?_
 rotate_left
 ·intro w'
  go_simp
  with_reducible rfl
 rotate_left
 ·simp only [ap_]
  rfl
 refine pure_ (i := 3) (N := some 33) (v := undef) (a' := ?_) #[true, true, true, true, false, false, false, false, false, false, false] rfl rfl (any_of HT_.out (by kernel_rfl)) (fun _ _ _ h => h) (Or.inr ⟨by rfl, rfl⟩) ?_ ?_
 rotate_left
 ·simp only [ap_]
  rfl
 refine pure_ (i := 4) (N := some 34) (v := undef) (a' := ?_) #[true, true, true, true, true, false, false, false, false, false, false] rfl rfl (any_of HT_.out (by kernel_rfl)) (fun _ _ _ h => h) (Or.inr ⟨by rfl, rfl⟩) ?_ ?_
 rotate_left
 ·simp only [ap_]
  rfl
 refine pure_ (i := 5) (N := some 35) (v := undef) (a' := ?_) #[true, true, true, true, true, true, false, false, false, false, false] rfl rfl (any_of HT_.out (by kernel_rfl)) (fun _ _ _ h => h) (Or.inr ⟨by rfl, rfl⟩) ?_ ?_
 rotate_left
 ·simp only [ap_]
  rfl
 refine pure_ (i := 6) (N := some 36) (v := undef) (a' := ?_) #[true, true, true, true, true, true, true, false, false, false, false] rfl rfl (any_of HT_.out (by kernel_rfl)) (fun _ _ _ h => h) (Or.inr ⟨by rfl, rfl⟩) ?_ ?_
 rotate_left
 ·simp only [ap_]
  rfl
 refine pure_ (i := 7) (N := some 37) (v := undef) (a' := ?_) #[true, true, true, true, true, true, true, true, false, false, false] rfl rfl (any_of HT_.out (by kernel_rfl)) (fun _ _ _ h => h) (Or.inr ⟨by rfl, rfl⟩) ?_ ?_
 rotate_left
 ·simp only [ap_]
  rfl
 refine pure_ (i := 8) (N := some 38) (v := undef) (a' := ?_) #[true, true, true, true, true, true, true, true, true, false, false] rfl rfl (any_of HT_.out (by kernel_rfl)) (fun _ _ _ h => h) (Or.inr ⟨by rfl, rfl⟩) ?_ ?_
 rotate_left
 ·simp only [ap_]
  rfl
 refine pure_ (i := 9) (N := some 39) (v := undef) (a' := ?_) #[true, true, true, true, true, true, true, true, true, true, false] rfl rfl (any_of HT_.out (by kernel_rfl)) (fun _ _ _ h => h) (Or.inr ⟨by rfl, rfl⟩) ?_ ?_
 rotate_left
 ·simp only [ap_]
  rfl
 refine pure_ (i := 10) (N := some 40) (v := ?_) (a' := ?_) #[true, true, true, true, true, true, true, true, true, true, true] rfl rfl (any_of HT_.out (by kernel_rfl)) (fun _ _ _ h => h) (Or.inl ⟨by rfl, ?_⟩) ?_ ?_
 rotate_left
 ·intro w'
  go_simp
  with_reducible rfl
 rotate_left
 ·simp only [ap_]
  rfl
 refine done_ (done_of HT_.out (by kernel_rfl)) ?_
 go_wp2_with (((with_reducible refine gate_store (t := 50) (p := 6) rfl ?_); refine wpList_store_row rfl 50 (.tmp 6) (.tmp 41) rfl g6 #[.int .i64 0, .int .i64 0, .int .u64 0, .int .u64 0, .bool false, .bool false, .bool false, .bool false, .bool false, .bool false, .bool false] rfl rfl 50 _ HB6.out (by kernel_rfl) rfl (by kernel_rfl) ?_; have SHB6 := Aside0.mk (setRow_heap _ g6 _ #[.int .i64 0, .int .i64 0, .int .u64 0, .int .u64 0, .bool false, .bool false, .bool false, .bool false, .bool false, .bool false, .bool false] _ _ HB6.out); have THB6 := Aside0.mk (grown_row w5.drew g6 #[.int .i64 0, .int .i64 0, .int .u64 0, .int .u64 0, .bool false, .bool false, .bool false, .bool false, .bool false, .bool false, .bool false])))
 replace HG := Aside0.mk (grown_loc HG.out THB6.out (by rw [← HNN.out]; exact HN0.out))
 obtain ⟨z0, z1, z2, z3, z4, z5, z6, z7, z8, z9, z10⟩ := tte_Read.cz11 SHB6.out
 exact bodyPost_ret (v := .tuple #[.agg #[.int .i64 0, .int .i64 0, .int .u64 0, .int .u64 0, .bool false, .bool false, .bool false, .bool false, .bool false, .bool false, .bool false], .bool false]) (by simp [results, Try.f58, go_sem, z0, z1, z2, z3, z4, z5, z6, z7, z8, z9, z10]) rfl ⟨rfl, HG.out⟩
end
end Go.Proofs.Ytjnffegjpkbjmaa.Mem
/- merged: YtjnffegjpkbjmaaTs12 -/
namespace Go.Proofs.Ytjnffegjpkbjmaa.Mem
open Go.RowKit Go.Maps Go.Proofs.YtjnffegjpkbjmaaW.PrintWords Go.Proofs.YtjnffegjpkbjmaaW.PrintLast Go.Proofs.YtjnffegjpkbjmaaW.PrintMore Go.Proofs.Ytjnffegjpkbjmaa.QTsbPlays
set_option linter.unusedSimpArgs false
set_option linter.unusedVariables false
section
set_option maxHeartbeats 2000000
set_option maxRecDepth 100000
theorem tfind_yes {B w0 p mb sz n D W pt} {base : Int} {N : Nat} {size grade : Int} (h : Mem B w0 p mb sz n D W) (kt : W.heap[pt]? = some (.cells (TCs p base N size grade) 95 (0, 0))) (f1 f2 f3 : Int) (b4 b5 b6 b7 b8 b9 b10 : Bool) (k k2 : Nat) (va ctx s : Int) (hs : point_Slot.f base N va size = some s) (ha : (Lit.int .u64 s).wf = true) (hc : mayOf sz s 16 16 = 0) (hr : tte_Read.f k (rd D (s / 8)) (rd D (s / 8 + 1)) va = some (size, f1, f2, f3, b4, b5, b6, b7, b8, b9, b10, 0)) (hh : tte_Hits.f size f1 f2 f3 b4 b5 b6 b7 b8 b9 b10 va ctx = some true) :
  Calls Try.prog 24 #[.pointer (some ⟨pt, 0, none⟩), .int .u64 va, .int .i64 ctx] W fun e W' => e = .returned (.tuple #[.agg #[.int .i64 size, .int .i64 f1, .int .u64 f2, .int .u64 f3, .bool b4, .bool b5, .bool b6, .bool b7, .bool b8, .bool b9, .bool b10], .bool true]) ∧ W.grownBy W' none := by
 have hu := Try.underlying50
 have hA := World.grownBy_alloc W (.cells #[.int .i64 0, .int .i64 0, .int .u64 0, .int .u64 0, .bool false, .bool false, .bool false, .bool false, .bool false, .bool false, .bool false] 50) none
 have HG := Aside0.mk hA
 have HM := Aside0.mk (h.same hA)
 have HT := Aside0.mk (blk_grown kt hA)
 have HB6 := Aside0.mk (heap_alloc_new W (.cells #[.int .i64 0, .int .i64 0, .int .u64 0, .int .u64 0, .bool false, .bool false, .bool false, .bool false, .bool false, .bool false, .bool false] 50))
 have HR := Aside0.mk hr
 have HA := Aside0.mk ha
 have HC := Aside0.mk hc
 have HS := Aside0.mk hs
 have HH := Aside0.mk hh
 obtain ⟨N0, hN0⟩ : ∃ N0, N0 = W.heap.size := ⟨_, rfl⟩
 have HNN := Aside0.mk hN0
 have HN0 := Aside0.mk (show N0 ≤ W.heap.size by omega)
 clear h kt hA hr ha hc hs hh hN0
 go_enter Try.func24, Try.ntmps24
 go_wp2_with fail
 refine (tat_calls HT.out va s HS.out).mono ?_
 rintro x0 wp ⟨rfl, hg⟩
 replace HG := Aside0.mk (grown_two HG.out hg)
 replace HM := Aside0.mk (HM.out.same hg)
 replace HT := Aside0.mk (blk_grown HT.out hg)
 replace HB6 := Aside0.mk (blk_grown HB6.out hg)
 clear hg
 generalize W.heap.size = g6 at HB6 HN0 ⊢
 go_wp2_with fail
 refine (tread_yes HM.out HT.out f1 f2 f3 b4 b5 b6 b7 b8 b9 b10 k s va HA.out HC.out HR.out).mono ?_
 rintro x0 wr ⟨rfl, hg⟩
 replace HG := Aside0.mk (grown_two HG.out hg)
 replace HB6 := Aside0.mk (blk_grown HB6.out hg)
 clear hg HM HT
 go_wp2_with (first | ((with_reducible refine gate_dst (N := 8) rfl ?_); refine box_event ?hg (N := 8) ?hd (cs := #[.int .i64 0, .int .i64 0, .int .u64 0, .int .u64 0, .bool false, .bool false, .bool false, .bool false, .bool false, .bool false, .bool false]) (t := 50) ?hr ?_; (case hd => rfl); (case hg => rfl); (case hr => first | (go_simp; done) | (go_simp; rfl)); intro g11 hgb w4 hbox hb; have HX := Aside0.mk hbox; have GHX := Aside0.mk (below_grown hb); have LHX := Aside0.mk (Nat.le_of_eq hgb.symm); clear hgb hbox hb) | ((with_reducible refine gate_store (t := 50) (p := 8) rfl ?_); refine wpList_store_row rfl 50 (.tmp 8) (.tmp 17) rfl g11 #[.int .i64 size, .int .i64 f1, .int .u64 f2, .int .u64 f3, .bool b4, .bool b5, .bool b6, .bool b7, .bool b8, .bool b9, .bool b10] rfl rfl 50 _ HX.out (by kernel_rfl) rfl (by kernel_rfl) ?_; have SHX := Aside0.mk (setRow_heap _ g11 _ #[.int .i64 size, .int .i64 f1, .int .u64 f2, .int .u64 f3, .bool b4, .bool b5, .bool b6, .bool b7, .bool b8, .bool b9, .bool b10] _ _ HX.out); have THX := Aside0.mk (grown_row w4 g11 #[.int .i64 size, .int .i64 f1, .int .u64 f2, .int .u64 f3, .bool b4, .bool b5, .bool b6, .bool b7, .bool b8, .bool b9, .bool b10]); have HKK := Aside0.mk (show g6 ≠ g11 by have := blk_lt HB6.out; have := LHX.out; omega); replace HB6 := Aside0.mk ((THX.out.block g6 (blk_lt (blk_grown HB6.out GHX.out)) (fun e => HKK.out (Option.some.inj e))).trans (blk_grown HB6.out GHX.out)); replace HG := Aside0.mk (grown_loc (grown_two HG.out GHX.out) THX.out (Nat.le_trans HG.out.size LHX.out)); have HB := Aside0.mk SHX.out; generalize World.setRow w4 g11 #[.int .i64 size, .int .i64 f1, .int .u64 f2, .int .u64 f3, .bool b4, .bool b5, .bool b6, .bool b7, .bool b8, .bool b9, .bool b10] = w5 at HB6 HG HB ⊢; clear HX GHX LHX SHX THX; obtain ⟨z0, z1, z2, z3, z4, z5, z6, z7, z8, z9, z10⟩ := tte_Read.cz11 HB.out))
 refine (tte_Hits.calls size f1 f2 f3 b4 b5 b6 b7 b8 b9 b10 va ctx true _ HH.out).mono ?_
 rintro x0 wh ⟨rfl, hb⟩
 have hg := below_grown hb
 replace HG := Aside0.mk (grown_two HG.out hg)
 replace HB6 := Aside0.mk (blk_grown HB6.out hg)
 replace HB := Aside0.mk (blk_grown HB.out hg)
 clear hg hb z0 z1 z2 z3 z4 z5 z6 z7 z8 z9 z10
 obtain ⟨z0, z1, z2, z3, z4, z5, z6, z7, z8, z9, z10⟩ := tte_Read.cz11 HB.out
 go_wp2_with (((with_reducible refine gate_store (t := 50) (p := 6) rfl ?_); refine wpList_store_row rfl 50 (.tmp 6) (.tmp 29) rfl g6 #[.int .i64 size, .int .i64 f1, .int .u64 f2, .int .u64 f3, .bool b4, .bool b5, .bool b6, .bool b7, .bool b8, .bool b9, .bool b10] rfl rfl 50 _ HB6.out (by kernel_rfl) rfl (by kernel_rfl) ?_; have SHB6 := Aside0.mk (setRow_heap _ g6 _ #[.int .i64 size, .int .i64 f1, .int .u64 f2, .int .u64 f3, .bool b4, .bool b5, .bool b6, .bool b7, .bool b8, .bool b9, .bool b10] _ _ HB6.out); have THB6 := Aside0.mk (grown_row wh g6 #[.int .i64 size, .int .i64 f1, .int .u64 f2, .int .u64 f3, .bool b4, .bool b5, .bool b6, .bool b7, .bool b8, .bool b9, .bool b10])))
 replace HG := Aside0.mk (grown_loc HG.out THB6.out (by rw [← HNN.out]; exact HN0.out))
 clear z0 z1 z2 z3 z4 z5 z6 z7 z8 z9 z10
 obtain ⟨z0, z1, z2, z3, z4, z5, z6, z7, z8, z9, z10⟩ := tte_Read.cz11 SHB6.out
 exact bodyPost_ret (v := .tuple #[.agg #[.int .i64 size, .int .i64 f1, .int .u64 f2, .int .u64 f3, .bool b4, .bool b5, .bool b6, .bool b7, .bool b8, .bool b9, .bool b10], .bool true]) (by simp [results, Try.f24, go_sem, z0, z1, z2, z3, z4, z5, z6, z7, z8, z9, z10]) rfl ⟨rfl, HG.out⟩
end
end Go.Proofs.Ytjnffegjpkbjmaa.Mem
/- merged: YtjnffegjpkbjmaaTs13 -/
namespace Go.Proofs.Ytjnffegjpkbjmaa.Mem
open Go.RowKit Go.Maps Go.Proofs.YtjnffegjpkbjmaaW.PrintWords Go.Proofs.YtjnffegjpkbjmaaW.PrintLast Go.Proofs.YtjnffegjpkbjmaaW.PrintMore Go.Proofs.Ytjnffegjpkbjmaa.QTsbPlays
set_option linter.unusedSimpArgs false
set_option linter.unusedVariables false
section
set_option maxHeartbeats 2000000
set_option maxRecDepth 100000
theorem tfind_no {B w0 p mb sz n D W pt} {base : Int} {N : Nat} {size grade : Int} (h : Mem B w0 p mb sz n D W) (kt : W.heap[pt]? = some (.cells (TCs p base N size grade) 95 (0, 0))) (f0 f1 f2 f3 : Int) (b4 b5 b6 b7 b8 b9 b10 : Bool) (k : Nat) (va ctx s q : Int) (hs : point_Slot.f base N va size = some s) (ha : (Lit.int .u64 s).wf = true) (hc : mayOf sz s 16 16 = 0) (hr : tte_Read.f k (rd D (s / 8)) (rd D (s / 8 + 1)) va = some (f0, f1, f2, f3, b4, b5, b6, b7, b8, b9, b10, q)) (hq : (q != 0) = true) :
  Calls Try.prog 24 #[.pointer (some ⟨pt, 0, none⟩), .int .u64 va, .int .i64 ctx] W fun e W' => e = .returned (.tuple #[.agg #[.int .i64 0, .int .i64 0, .int .u64 0, .int .u64 0, .bool false, .bool false, .bool false, .bool false, .bool false, .bool false, .bool false], .bool false]) ∧ W.grownBy W' none := by
 have hu := Try.underlying50
 have hA := World.grownBy_alloc W (.cells #[.int .i64 0, .int .i64 0, .int .u64 0, .int .u64 0, .bool false, .bool false, .bool false, .bool false, .bool false, .bool false, .bool false] 50) none
 have HG := Aside0.mk hA
 have HM := Aside0.mk (h.same hA)
 have HT := Aside0.mk (blk_grown kt hA)
 have HB6 := Aside0.mk (heap_alloc_new W (.cells #[.int .i64 0, .int .i64 0, .int .u64 0, .int .u64 0, .bool false, .bool false, .bool false, .bool false, .bool false, .bool false, .bool false] 50))
 have HR := Aside0.mk hr
 have HA := Aside0.mk ha
 have HC := Aside0.mk hc
 have HS := Aside0.mk hs
 have HQ := Aside0.mk hq
 obtain ⟨N0, hN0⟩ : ∃ N0, N0 = W.heap.size := ⟨_, rfl⟩
 have HNN := Aside0.mk hN0
 have HN0 := Aside0.mk (show N0 ≤ W.heap.size by omega)
 clear h kt hA hr ha hc hs hq hN0
 go_enter Try.func24, Try.ntmps24
 go_wp2_with fail
 refine (tat_calls HT.out va s HS.out).mono ?_
 rintro x0 wp ⟨rfl, hg⟩
 replace HG := Aside0.mk (grown_two HG.out hg)
 replace HM := Aside0.mk (HM.out.same hg)
 replace HT := Aside0.mk (blk_grown HT.out hg)
 replace HB6 := Aside0.mk (blk_grown HB6.out hg)
 clear hg
 generalize W.heap.size = g6 at HB6 HN0 ⊢
 go_wp2_with fail
 refine (tread_no HM.out HT.out f0 f1 f2 f3 b4 b5 b6 b7 b8 b9 b10 k s va q HA.out HC.out HR.out HQ.out).mono ?_
 rintro x0 wr ⟨rfl, hg⟩
 replace HG := Aside0.mk (grown_two HG.out hg)
 replace HB6 := Aside0.mk (blk_grown HB6.out hg)
 clear hg HM HT
 go_wp2_with (first | ((with_reducible refine gate_dst (N := 8) rfl ?_); refine box_event ?hg (N := 8) ?hd (cs := #[.int .i64 0, .int .i64 0, .int .u64 0, .int .u64 0, .bool false, .bool false, .bool false, .bool false, .bool false, .bool false, .bool false]) (t := 50) ?hr ?_; (case hd => rfl); (case hg => rfl); (case hr => first | (go_simp; done) | (go_simp; rfl)); intro g11 hgb w4 hbox hb; have HX := Aside0.mk hbox; have GHX := Aside0.mk (below_grown hb); have LHX := Aside0.mk (Nat.le_of_eq hgb.symm); clear hgb hbox hb) | ((with_reducible refine gate_store (t := 50) (p := 8) rfl ?_); refine wpList_store_row rfl 50 (.tmp 8) (.tmp 17) rfl g11 #[.int .i64 0, .int .i64 0, .int .u64 0, .int .u64 0, .bool false, .bool false, .bool false, .bool false, .bool false, .bool false, .bool false] rfl rfl 50 _ HX.out (by kernel_rfl) rfl (by kernel_rfl) ?_; have SHX := Aside0.mk (setRow_heap _ g11 _ #[.int .i64 0, .int .i64 0, .int .u64 0, .int .u64 0, .bool false, .bool false, .bool false, .bool false, .bool false, .bool false, .bool false] _ _ HX.out); have THX := Aside0.mk (grown_row w4 g11 #[.int .i64 0, .int .i64 0, .int .u64 0, .int .u64 0, .bool false, .bool false, .bool false, .bool false, .bool false, .bool false, .bool false]); have HKK := Aside0.mk (show g6 ≠ g11 by have := blk_lt HB6.out; have := LHX.out; omega); replace HB6 := Aside0.mk ((THX.out.block g6 (blk_lt (blk_grown HB6.out GHX.out)) (fun e => HKK.out (Option.some.inj e))).trans (blk_grown HB6.out GHX.out)); replace HG := Aside0.mk (grown_loc (grown_two HG.out GHX.out) THX.out (Nat.le_trans HG.out.size LHX.out)); generalize World.setRow w4 g11 #[.int .i64 0, .int .i64 0, .int .u64 0, .int .u64 0, .bool false, .bool false, .bool false, .bool false, .bool false, .bool false, .bool false] = w5 at HB6 HG ⊢; clear HX GHX LHX SHX THX) | ((with_reducible refine gate_store (t := 50) (p := 6) rfl ?_); refine wpList_store_row rfl 50 (.tmp 6) (.tmp 28) rfl g6 #[.int .i64 0, .int .i64 0, .int .u64 0, .int .u64 0, .bool false, .bool false, .bool false, .bool false, .bool false, .bool false, .bool false] rfl rfl 50 _ HB6.out (by kernel_rfl) rfl (by kernel_rfl) ?_; have SHB6 := Aside0.mk (setRow_heap _ g6 _ #[.int .i64 0, .int .i64 0, .int .u64 0, .int .u64 0, .bool false, .bool false, .bool false, .bool false, .bool false, .bool false, .bool false] _ _ HB6.out); have THB6 := Aside0.mk (grown_row w5 g6 #[.int .i64 0, .int .i64 0, .int .u64 0, .int .u64 0, .bool false, .bool false, .bool false, .bool false, .bool false, .bool false, .bool false])))
 replace HG := Aside0.mk (grown_loc HG.out THB6.out (by rw [← HNN.out]; exact HN0.out))
 obtain ⟨z0, z1, z2, z3, z4, z5, z6, z7, z8, z9, z10⟩ := tte_Read.cz11 SHB6.out
 exact bodyPost_ret (v := .tuple #[.agg #[.int .i64 0, .int .i64 0, .int .u64 0, .int .u64 0, .bool false, .bool false, .bool false, .bool false, .bool false, .bool false, .bool false], .bool false]) (by simp [results, Try.f24, go_sem, z0, z1, z2, z3, z4, z5, z6, z7, z8, z9, z10]) rfl ⟨rfl, HG.out⟩
end
end Go.Proofs.Ytjnffegjpkbjmaa.Mem
namespace Go.Proofs.Ytjnffegjpkbjmaa.Mem
open Go.RowKit Go.Maps Go.Proofs.YtjnffegjpkbjmaaW.PrintWords Go.Proofs.YtjnffegjpkbjmaaW.PrintLast Go.Proofs.YtjnffegjpkbjmaaW.PrintMore Go.Proofs.Ytjnffegjpkbjmaa.QTsbPlays
set_option linter.unusedSimpArgs false
set_option linter.unusedVariables false
section
set_option maxHeartbeats 2000000
set_option maxRecDepth 100000
theorem tfind_nohit {B w0 p mb sz n D W pt} {base : Int} {N : Nat} {size grade : Int} (h : Mem B w0 p mb sz n D W) (kt : W.heap[pt]? = some (.cells (TCs p base N size grade) 95 (0, 0))) (f1 f2 f3 : Int) (b4 b5 b6 b7 b8 b9 b10 : Bool) (k k2 : Nat) (va ctx s : Int) (hs : point_Slot.f base N va size = some s) (ha : (Lit.int .u64 s).wf = true) (hc : mayOf sz s 16 16 = 0) (hr : tte_Read.f k (rd D (s / 8)) (rd D (s / 8 + 1)) va = some (size, f1, f2, f3, b4, b5, b6, b7, b8, b9, b10, 0)) (hh : tte_Hits.f size f1 f2 f3 b4 b5 b6 b7 b8 b9 b10 va ctx = some false) :
  Calls Try.prog 24 #[.pointer (some ⟨pt, 0, none⟩), .int .u64 va, .int .i64 ctx] W fun e W' => e = .returned (.tuple #[.agg #[.int .i64 0, .int .i64 0, .int .u64 0, .int .u64 0, .bool false, .bool false, .bool false, .bool false, .bool false, .bool false, .bool false], .bool false]) ∧ W.grownBy W' none := by
 have hu := Try.underlying50
 have hA := World.grownBy_alloc W (.cells #[.int .i64 0, .int .i64 0, .int .u64 0, .int .u64 0, .bool false, .bool false, .bool false, .bool false, .bool false, .bool false, .bool false] 50) none
 have HG := Aside0.mk hA
 have HM := Aside0.mk (h.same hA)
 have HT := Aside0.mk (blk_grown kt hA)
 have HB6 := Aside0.mk (heap_alloc_new W (.cells #[.int .i64 0, .int .i64 0, .int .u64 0, .int .u64 0, .bool false, .bool false, .bool false, .bool false, .bool false, .bool false, .bool false] 50))
 have HR := Aside0.mk hr
 have HA := Aside0.mk ha
 have HC := Aside0.mk hc
 have HS := Aside0.mk hs
 have HH := Aside0.mk hh
 obtain ⟨N0, hN0⟩ : ∃ N0, N0 = W.heap.size := ⟨_, rfl⟩
 have HNN := Aside0.mk hN0
 have HN0 := Aside0.mk (show N0 ≤ W.heap.size by omega)
 clear h kt hA hr ha hc hs hh hN0
 go_enter Try.func24, Try.ntmps24
 go_wp2_with fail
 refine (tat_calls HT.out va s HS.out).mono ?_
 rintro x0 wp ⟨rfl, hg⟩
 replace HG := Aside0.mk (grown_two HG.out hg)
 replace HM := Aside0.mk (HM.out.same hg)
 replace HT := Aside0.mk (blk_grown HT.out hg)
 replace HB6 := Aside0.mk (blk_grown HB6.out hg)
 clear hg
 generalize W.heap.size = g6 at HB6 HN0 ⊢
 go_wp2_with fail
 refine (tread_yes HM.out HT.out f1 f2 f3 b4 b5 b6 b7 b8 b9 b10 k s va HA.out HC.out HR.out).mono ?_
 rintro x0 wr ⟨rfl, hg⟩
 replace HG := Aside0.mk (grown_two HG.out hg)
 replace HB6 := Aside0.mk (blk_grown HB6.out hg)
 clear hg HM HT
 go_wp2_with (first | ((with_reducible refine gate_dst (N := 8) rfl ?_); refine box_event ?hg (N := 8) ?hd (cs := #[.int .i64 0, .int .i64 0, .int .u64 0, .int .u64 0, .bool false, .bool false, .bool false, .bool false, .bool false, .bool false, .bool false]) (t := 50) ?hr ?_; (case hd => rfl); (case hg => rfl); (case hr => first | (go_simp; done) | (go_simp; rfl)); intro g11 hgb w4 hbox hb; have HX := Aside0.mk hbox; have GHX := Aside0.mk (below_grown hb); have LHX := Aside0.mk (Nat.le_of_eq hgb.symm); clear hgb hbox hb) | ((with_reducible refine gate_store (t := 50) (p := 8) rfl ?_); refine wpList_store_row rfl 50 (.tmp 8) (.tmp 17) rfl g11 #[.int .i64 size, .int .i64 f1, .int .u64 f2, .int .u64 f3, .bool b4, .bool b5, .bool b6, .bool b7, .bool b8, .bool b9, .bool b10] rfl rfl 50 _ HX.out (by kernel_rfl) rfl (by kernel_rfl) ?_; have SHX := Aside0.mk (setRow_heap _ g11 _ #[.int .i64 size, .int .i64 f1, .int .u64 f2, .int .u64 f3, .bool b4, .bool b5, .bool b6, .bool b7, .bool b8, .bool b9, .bool b10] _ _ HX.out); have THX := Aside0.mk (grown_row w4 g11 #[.int .i64 size, .int .i64 f1, .int .u64 f2, .int .u64 f3, .bool b4, .bool b5, .bool b6, .bool b7, .bool b8, .bool b9, .bool b10]); have HKK := Aside0.mk (show g6 ≠ g11 by have := blk_lt HB6.out; have := LHX.out; omega); replace HB6 := Aside0.mk ((THX.out.block g6 (blk_lt (blk_grown HB6.out GHX.out)) (fun e => HKK.out (Option.some.inj e))).trans (blk_grown HB6.out GHX.out)); replace HG := Aside0.mk (grown_loc (grown_two HG.out GHX.out) THX.out (Nat.le_trans HG.out.size LHX.out)); have HB := Aside0.mk SHX.out; generalize World.setRow w4 g11 #[.int .i64 size, .int .i64 f1, .int .u64 f2, .int .u64 f3, .bool b4, .bool b5, .bool b6, .bool b7, .bool b8, .bool b9, .bool b10] = w5 at HB6 HG HB ⊢; clear HX GHX LHX SHX THX; obtain ⟨z0, z1, z2, z3, z4, z5, z6, z7, z8, z9, z10⟩ := tte_Read.cz11 HB.out))
 refine (tte_Hits.calls size f1 f2 f3 b4 b5 b6 b7 b8 b9 b10 va ctx false _ HH.out).mono ?_
 rintro x0 wh ⟨rfl, hb⟩
 have hg := below_grown hb
 replace HG := Aside0.mk (grown_two HG.out hg)
 replace HB6 := Aside0.mk (blk_grown HB6.out hg)
 replace HB := Aside0.mk (blk_grown HB.out hg)
 clear hg hb z0 z1 z2 z3 z4 z5 z6 z7 z8 z9 z10
 obtain ⟨z0, z1, z2, z3, z4, z5, z6, z7, z8, z9, z10⟩ := tte_Read.cz11 HB.out
 go_wp2_with (((with_reducible refine gate_store (t := 50) (p := 6) rfl ?_); refine wpList_store_row rfl 50 (.tmp 6) (.tmp 28) rfl g6 #[.int .i64 0, .int .i64 0, .int .u64 0, .int .u64 0, .bool false, .bool false, .bool false, .bool false, .bool false, .bool false, .bool false] rfl rfl 50 _ HB6.out (by kernel_rfl) rfl (by kernel_rfl) ?_; have SHB6 := Aside0.mk (setRow_heap _ g6 _ #[.int .i64 0, .int .i64 0, .int .u64 0, .int .u64 0, .bool false, .bool false, .bool false, .bool false, .bool false, .bool false, .bool false] _ _ HB6.out); have THB6 := Aside0.mk (grown_row wh g6 #[.int .i64 0, .int .i64 0, .int .u64 0, .int .u64 0, .bool false, .bool false, .bool false, .bool false, .bool false, .bool false, .bool false])))
 replace HG := Aside0.mk (grown_loc HG.out THB6.out (by rw [← HNN.out]; exact HN0.out))
 clear z0 z1 z2 z3 z4 z5 z6 z7 z8 z9 z10
 obtain ⟨z0, z1, z2, z3, z4, z5, z6, z7, z8, z9, z10⟩ := tte_Read.cz11 SHB6.out
 exact bodyPost_ret (v := .tuple #[.agg #[.int .i64 0, .int .i64 0, .int .u64 0, .int .u64 0, .bool false, .bool false, .bool false, .bool false, .bool false, .bool false, .bool false], .bool false]) (by simp [results, Try.f24, go_sem, z0, z1, z2, z3, z4, z5, z6, z7, z8, z9, z10]) rfl ⟨rfl, HG.out⟩
end
end Go.Proofs.Ytjnffegjpkbjmaa.Mem
-- halved
