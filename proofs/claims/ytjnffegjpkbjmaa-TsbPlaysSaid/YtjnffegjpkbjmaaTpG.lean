/- Entries that may not be in a TSB; a deed's entry. -/
import Derived.Test.YtjnffegjpkbjmaaTpF
namespace Go.Proofs.Ytjnffegjpkbjmaa.Mem
open Go.RowKit Go.Maps Go.Proofs.YtjnffegjpkbjmaaW.PrintWords Go.Proofs.YtjnffegjpkbjmaaW.PrintLast Go.Proofs.YtjnffegjpkbjmaaW.PrintMore Go.Proofs.Ytjnffegjpkbjmaa.QTsbPlays Go.Proofs.Ytjnffegjpkbjmaa.Pure
set_option linter.unusedSimpArgs false
set_option linter.unusedVariables false
section
set_option maxHeartbeats 2000000
set_option maxRecDepth 100000
noncomputable def tmayno1_T : Bool × List (List Nat × List Nat) := rtab .any (opsOf Try.f56 1)
theorem tmayno1_tab : rtab .any (opsOf Try.f56 1) = tmayno1_T := rfl
noncomputable def tmayno0_T : Bool × List (List Nat × List Nat) := rtab .any (opsOf Try.f56 1)
theorem tmayno0_tab : rtab .any (opsOf Try.f56 1) = tmayno0_T := rfl
theorem tmayno_calls {W : World} {pt p : Nat} {base : Int} {N : Nat} {size grade : Int} (kt : W.heap[pt]? = some (.cells (TCs p base N size grade) 95 (0, 0))) (f0 f1 f2 f3 : Int) (b4 b5 b6 b7 b8 b9 b10 : Bool) (k : Nat) (m : Bool) (hm : tte_May.f k f0 f1 f2 f3 b4 b5 b6 b7 b8 b9 b10 = some m) (hno : (m && f0 == size) = false) :
  Calls Try.prog 56 #[.pointer (some ⟨pt, 0, none⟩), .agg #[.int .i64 f0, .int .i64 f1, .int .u64 f2, .int .u64 f3, .bool b4, .bool b5, .bool b6, .bool b7, .bool b8, .bool b9, .bool b10]] W fun e W' => e = .returned (.bool false) ∧ W.grownBy W' none := by
 have hu := Try.underlying50
 have HA := World.grownBy_alloc W (.cells #[.int .i64 f0, .int .i64 f1, .int .u64 f2, .int .u64 f3, .bool b4, .bool b5, .bool b6, .bool b7, .bool b8, .bool b9, .bool b10] 50) none
 have HG := Aside0.mk (grown_two HA (grown_drew (W.alloc (.cells #[.int .i64 f0, .int .i64 f1, .int .u64 f2, .int .u64 f3, .bool b4, .bool b5, .bool b6, .bool b7, .bool b8, .bool b9, .bool b10] 50)) none))
 have HT := Aside0.mk (blk_grown (blk_grown kt HA) (grown_drew (W.alloc (.cells #[.int .i64 f0, .int .i64 f1, .int .u64 f2, .int .u64 f3, .bool b4, .bool b5, .bool b6, .bool b7, .bool b8, .bool b9, .bool b10] 50)) none))
 have HB := Aside0.mk (blk_grown (heap_alloc_new W (.cells #[.int .i64 f0, .int .i64 f1, .int .u64 f2, .int .u64 f3, .bool b4, .bool b5, .bool b6, .bool b7, .bool b8, .bool b9, .bool b10] 50)) (grown_drew (W.alloc (.cells #[.int .i64 f0, .int .i64 f1, .int .u64 f2, .int .u64 f3, .bool b4, .bool b5, .bool b6, .bool b7, .bool b8, .bool b9, .bool b10] 50)) none))
 clear kt HA
 go_enter Try.func56, Try.ntmps56
 go_wp2_with fail
 generalize W.heap.size = g3 at HB ⊢
 cases m with
 | true =>
  have HMY := Aside0.mk hm
  have hne : (f0 == size) = false := hno
  clear hm hno
  refine start_ (n := 12) (S := fun w' => w'.heap[pt]? = some (.cells (TCs p base N size grade) 95 (0, 0)) ∧ w'.heap[g3]? = some (.cells #[.int .i64 f0, .int .i64 f1, .int .u64 f2, .int .u64 f3, .bool b4, .bool b5, .bool b6, .bool b7, .bool b8, .bool b9, .bool b10] 50 (0, 0))) (ds := []) #[false, false, false, false, false, false, false, false, false, false, false, false] (by kernel_rfl) rfl rfl ⟨HT.out, HB.out⟩ (fun hHeld => ?_)
  refine with_tab tmayno1_tab (fun HT_ => ?_)
  refine take_ (i := 0) (N := some 5) (v := .agg #[.int .i64 f0, .int .i64 f1, .int .u64 f2, .int .u64 f3, .bool b4, .bool b5, .bool b6, .bool b7, .bool b8, .bool b9, .bool b10]) (a' := ?_) #[true, false, false, false, false, false, false, false, false, false, false, false] rfl rfl (take_of HT_.out (by kernel_rfl)) (fun _ _ _ h => h) (Or.inl ⟨by rfl, ?_⟩) hHeld ?_ ?_
  ·rintro w' ⟨s1, s2⟩
   obtain ⟨z0, z1, z2, z3, z4, z5, z6, z7, z8, z9, z10⟩ := tte_Read.cz11 s2
   go_simp
  rotate_left
  ·simp only [ap_]
   rfl
  refine one_ (i := 1) (N := some 6) #[true, true, false, false, false, false, false, false, false, false, false, false] rfl rfl (one_of HT_.out (by kernel_rfl)) (by decide) (fun K hK => ?_)
  refine goes_ Try.func88 (by kernel_rfl) rfl #[.agg #[.int .i64 f0, .int .i64 f1, .int .u64 f2, .int .u64 f3, .bool b4, .bool b5, .bool b6, .bool b7, .bool b8, .bool b9, .bool b10]] (by rfl) rfl rfl (by (try simp only [List.map_toArray, List.map_cons, List.map_nil]); first | done | rfl) ?_
  refine (tte_May.calls k f0 f1 f2 f3 b4 b5 b6 b7 b8 b9 b10 true _ HMY.out).mono ?_
  rintro x0 wn ⟨rfl, hb⟩
  have hg := below_grown hb
  have hs := And.intro (blk_grown hHeld.1 hg) (blk_grown hHeld.2 hg)
  replace HG := Aside0.mk (grown_two HG.out hg)
  clear hg hb
  refine ⟨_, rfl, ?_⟩
  refine hK.out _ _ hs (fun hHeld => ?_)
  clear hK K
  refine norm_ (a' := ?_) ?_ ?_
  rotate_left
  ·show Act.put _ (some 6) _ = _
   simp only [ap_]
   rfl
  refine pure_ (i := 2) (N := some 7) (v := ?_) (a' := ?_) #[true, true, true, false, false, false, false, false, false, false, false, false] rfl rfl (any_of HT_.out (by kernel_rfl)) (fun _ _ _ h => h) (Or.inl ⟨by rfl, ?_⟩) ?_ ?_
  rotate_left
  ·intro w'
   go_simp
   with_reducible rfl
  rotate_left
  ·simp only [ap_]
   rfl
  refine pure_ (i := 3) (N := some 8) (v := ?_) (a' := ?_) #[true, true, true, true, false, false, false, false, false, false, false, false] rfl rfl (any_of HT_.out (by kernel_rfl)) (fun _ _ _ h => h) (Or.inl ⟨by rfl, ?_⟩) ?_ ?_
  rotate_left
  ·intro w'
   go_simp
   with_reducible rfl
  rotate_left
  ·simp only [ap_]
   rfl
  refine pure_ (i := 5) (N := some 10) (v := ?_) (a' := ?_) #[true, true, true, true, false, true, false, false, false, false, false, false] rfl rfl (any_of HT_.out (by kernel_rfl)) (fun _ _ _ h => h) (Or.inl ⟨by rfl, ?_⟩) ?_ ?_
  rotate_left
  ·intro w'
   go_simp
   with_reducible rfl
  rotate_left
  ·simp only [ap_]
   rfl
  refine pure_ (i := 6) (N := some 11) (v := .pointer (some ⟨pt, 0, none⟩)) (a' := ?_) #[true, true, true, true, false, true, true, false, false, false, false, false] rfl rfl (any_of HT_.out (by kernel_rfl)) (fun _ _ _ h => h) (Or.inl ⟨by rfl, ?_⟩) ?_ ?_
  ·intro w'
   go_simp
  rotate_left
  ·simp only [ap_]
   rfl
  refine pure_ (i := 7) (N := some 12) (v := ?_) (a' := ?_) #[true, true, true, true, false, true, true, true, false, false, false, false] rfl rfl (any_of HT_.out (by kernel_rfl)) (fun _ _ _ h => h) (Or.inl ⟨by rfl, ?_⟩) ?_ ?_
  rotate_left
  ·intro w'
   go_simp
   with_reducible rfl
  rotate_left
  ·simp only [ap_]
   rfl
  refine take_ (i := 4) (N := some 9) (v := .int .i64 f0) (a' := ?_) #[true, true, true, true, true, true, true, true, false, false, false, false] rfl rfl (take_of HT_.out (by kernel_rfl)) (fun _ _ _ h => h) (Or.inl ⟨by rfl, ?_⟩) hHeld ?_ ?_
  ·rintro w' ⟨s1, s2⟩
   obtain ⟨z0, z1, z2, z3, z4, z5, z6, z7, z8, z9, z10⟩ := tte_Read.cz11 s2
   go_simp
  rotate_left
  ·simp only [ap_]
   rfl
  refine take_ (i := 8) (N := some 13) (v := .int .i64 size) (a' := ?_) #[true, true, true, true, true, true, true, true, true, false, false, false] rfl rfl (take_of HT_.out (by kernel_rfl)) (fun _ _ _ h => h) (Or.inl ⟨by rfl, ?_⟩) hHeld ?_ ?_
  ·rintro w' ⟨s1, s2⟩
   obtain ⟨y0, y1, y2, y3, y4⟩ := cz5 s1
   go_simp
  rotate_left
  ·simp only [ap_]
   rfl
  refine pure_ (i := 9) (N := some 14) (v := .bool false) (a' := ?_) #[true, true, true, true, true, true, true, true, true, true, false, false] rfl rfl (any_of HT_.out (by kernel_rfl)) (fun _ _ _ h => h) (Or.inl ⟨by rfl, ?_⟩) ?_ ?_
  ·intro w'
   go_simp
  rotate_left
  ·simp only [ap_]
   rfl
  refine pure_ (i := 10) (N := some 15) (v := ?_) (a' := ?_) #[true, true, true, true, true, true, true, true, true, true, true, false] rfl rfl (any_of HT_.out (by kernel_rfl)) (fun _ _ _ h => h) (Or.inl ⟨by rfl, ?_⟩) ?_ ?_
  rotate_left
  ·intro w'
   go_simp
   with_reducible rfl
  rotate_left
  ·simp only [ap_]
   rfl
  refine pure_ (i := 11) (N := some 4) (v := ?_) (a' := ?_) #[true, true, true, true, true, true, true, true, true, true, true, true] rfl rfl (any_of HT_.out (by kernel_rfl)) (fun _ _ _ h => h) (Or.inl ⟨by rfl, ?_⟩) ?_ ?_
  rotate_left
  ·intro w'
   go_simp
   with_reducible rfl
  rotate_left
  ·simp only [ap_]
   rfl
  refine done_ (done_of HT_.out (by kernel_rfl)) ?_
  go_wp2
  go_ret
  exact ⟨rfl, HG.out⟩
 | false =>
  have HMY := Aside0.mk hm
  clear hm hno
  refine start_ (n := 12) (S := fun w' => w'.heap[pt]? = some (.cells (TCs p base N size grade) 95 (0, 0)) ∧ w'.heap[g3]? = some (.cells #[.int .i64 f0, .int .i64 f1, .int .u64 f2, .int .u64 f3, .bool b4, .bool b5, .bool b6, .bool b7, .bool b8, .bool b9, .bool b10] 50 (0, 0))) (ds := []) #[false, false, false, false, false, false, false, false, false, false, false, false] (by kernel_rfl) rfl rfl ⟨HT.out, HB.out⟩ (fun hHeld => ?_)
  refine with_tab tmayno0_tab (fun HT_ => ?_)
  refine take_ (i := 0) (N := some 5) (v := .agg #[.int .i64 f0, .int .i64 f1, .int .u64 f2, .int .u64 f3, .bool b4, .bool b5, .bool b6, .bool b7, .bool b8, .bool b9, .bool b10]) (a' := ?_) #[true, false, false, false, false, false, false, false, false, false, false, false] rfl rfl (take_of HT_.out (by kernel_rfl)) (fun _ _ _ h => h) (Or.inl ⟨by rfl, ?_⟩) hHeld ?_ ?_
  ·rintro w' ⟨s1, s2⟩
   obtain ⟨z0, z1, z2, z3, z4, z5, z6, z7, z8, z9, z10⟩ := tte_Read.cz11 s2
   go_simp
  rotate_left
  ·simp only [ap_]
   rfl
  refine one_ (i := 1) (N := some 6) #[true, true, false, false, false, false, false, false, false, false, false, false] rfl rfl (one_of HT_.out (by kernel_rfl)) (by decide) (fun K hK => ?_)
  refine goes_ Try.func88 (by kernel_rfl) rfl #[.agg #[.int .i64 f0, .int .i64 f1, .int .u64 f2, .int .u64 f3, .bool b4, .bool b5, .bool b6, .bool b7, .bool b8, .bool b9, .bool b10]] (by rfl) rfl rfl (by (try simp only [List.map_toArray, List.map_cons, List.map_nil]); first | done | rfl) ?_
  refine (tte_May.calls k f0 f1 f2 f3 b4 b5 b6 b7 b8 b9 b10 false _ HMY.out).mono ?_
  rintro x0 wn ⟨rfl, hb⟩
  have hg := below_grown hb
  have hs := And.intro (blk_grown hHeld.1 hg) (blk_grown hHeld.2 hg)
  replace HG := Aside0.mk (grown_two HG.out hg)
  clear hg hb
  refine ⟨_, rfl, ?_⟩
  refine hK.out _ _ hs (fun hHeld => ?_)
  clear hK K
  refine norm_ (a' := ?_) ?_ ?_
  rotate_left
  ·show Act.put _ (some 6) _ = _
   simp only [ap_]
   rfl
  refine pure_ (i := 2) (N := some 7) (v := ?_) (a' := ?_) #[true, true, true, false, false, false, false, false, false, false, false, false] rfl rfl (any_of HT_.out (by kernel_rfl)) (fun _ _ _ h => h) (Or.inl ⟨by rfl, ?_⟩) ?_ ?_
  rotate_left
  ·intro w'
   go_simp
   with_reducible rfl
  rotate_left
  ·simp only [ap_]
   rfl
  refine pure_ (i := 3) (N := some 8) (v := undef) (a' := ?_) #[true, true, true, true, false, false, false, false, false, false, false, false] rfl rfl (any_of HT_.out (by kernel_rfl)) (fun _ _ _ h => h) (Or.inr ⟨by rfl, rfl⟩) ?_ ?_
  rotate_left
  ·simp only [ap_]
   rfl
  refine pure_ (i := 4) (N := some 9) (v := undef) (a' := ?_) #[true, true, true, true, true, false, false, false, false, false, false, false] rfl rfl (any_of HT_.out (by kernel_rfl)) (fun _ _ _ h => h) (Or.inr ⟨by rfl, rfl⟩) ?_ ?_
  rotate_left
  ·simp only [ap_]
   rfl
  refine pure_ (i := 5) (N := some 10) (v := undef) (a' := ?_) #[true, true, true, true, true, true, false, false, false, false, false, false] rfl rfl (any_of HT_.out (by kernel_rfl)) (fun _ _ _ h => h) (Or.inr ⟨by rfl, rfl⟩) ?_ ?_
  rotate_left
  ·simp only [ap_]
   rfl
  refine pure_ (i := 6) (N := some 11) (v := undef) (a' := ?_) #[true, true, true, true, true, true, true, false, false, false, false, false] rfl rfl (any_of HT_.out (by kernel_rfl)) (fun _ _ _ h => h) (Or.inr ⟨by rfl, rfl⟩) ?_ ?_
  rotate_left
  ·simp only [ap_]
   rfl
  refine pure_ (i := 7) (N := some 12) (v := undef) (a' := ?_) #[true, true, true, true, true, true, true, true, false, false, false, false] rfl rfl (any_of HT_.out (by kernel_rfl)) (fun _ _ _ h => h) (Or.inr ⟨by rfl, rfl⟩) ?_ ?_
  rotate_left
  ·simp only [ap_]
   rfl
  refine pure_ (i := 8) (N := some 13) (v := undef) (a' := ?_) #[true, true, true, true, true, true, true, true, true, false, false, false] rfl rfl (any_of HT_.out (by kernel_rfl)) (fun _ _ _ h => h) (Or.inr ⟨by rfl, rfl⟩) ?_ ?_
  rotate_left
  ·simp only [ap_]
   rfl
  refine pure_ (i := 9) (N := some 14) (v := undef) (a' := ?_) #[true, true, true, true, true, true, true, true, true, true, false, false] rfl rfl (any_of HT_.out (by kernel_rfl)) (fun _ _ _ h => h) (Or.inr ⟨by rfl, rfl⟩) ?_ ?_
  rotate_left
  ·simp only [ap_]
   rfl
  refine pure_ (i := 10) (N := some 15) (v := ?_) (a' := ?_) #[true, true, true, true, true, true, true, true, true, true, true, false] rfl rfl (any_of HT_.out (by kernel_rfl)) (fun _ _ _ h => h) (Or.inl ⟨by rfl, ?_⟩) ?_ ?_
  rotate_left
  ·intro w'
   go_simp
   with_reducible rfl
  rotate_left
  ·simp only [ap_]
   rfl
  refine pure_ (i := 11) (N := some 4) (v := ?_) (a' := ?_) #[true, true, true, true, true, true, true, true, true, true, true, true] rfl rfl (any_of HT_.out (by kernel_rfl)) (fun _ _ _ h => h) (Or.inl ⟨by rfl, ?_⟩) ?_ ?_
  rotate_left
  ·intro w'
   go_simp
   with_reducible rfl
  rotate_left
  ·simp only [ap_]
   rfl
  refine done_ (done_of HT_.out (by kernel_rfl)) ?_
  go_wp2
  go_ret
  exact ⟨rfl, HG.out⟩
theorem tinsertno_calls {W : World} {pt p : Nat} {base : Int} {N : Nat} {size grade : Int} (kt : W.heap[pt]? = some (.cells (TCs p base N size grade) 95 (0, 0))) (f0 f1 f2 f3 : Int) (b4 b5 b6 b7 b8 b9 b10 : Bool) (k : Nat) (m : Bool) (hm : tte_May.f k f0 f1 f2 f3 b4 b5 b6 b7 b8 b9 b10 = some m) (hno : (m && f0 == size) = false) :
  Calls Try.prog 22 #[.pointer (some ⟨pt, 0, none⟩), .agg #[.int .i64 f0, .int .i64 f1, .int .u64 f2, .int .u64 f3, .bool b4, .bool b5, .bool b6, .bool b7, .bool b8, .bool b9, .bool b10]] W fun e W' => e = .returned (.int .i64 1) ∧ W.grownBy W' none := by
 have hu := Try.underlying50
 have hA := World.grownBy_alloc W (.cells #[.int .i64 f0, .int .i64 f1, .int .u64 f2, .int .u64 f3, .bool b4, .bool b5, .bool b6, .bool b7, .bool b8, .bool b9, .bool b10] 50) none
 have HT := Aside0.mk (blk_grown kt hA)
 have HA := Aside0.mk hA
 have HMM := Aside0.mk (And.intro hm hno)
 obtain ⟨z0, z1, z2, z3, z4, z5, z6, z7, z8, z9, z10⟩ := tte_Read.cz11 (heap_alloc_new W (.cells #[.int .i64 f0, .int .i64 f1, .int .u64 f2, .int .u64 f3, .bool b4, .bool b5, .bool b6, .bool b7, .bool b8, .bool b9, .bool b10] 50))
 clear kt hA hm hno
 go_enter Try.func22, Try.ntmps22
 go_wp2_with fail
 refine (tmayno_calls HT.out f0 f1 f2 f3 b4 b5 b6 b7 b8 b9 b10 k m HMM.out.1 HMM.out.2).mono ?_
 rintro x0 wm ⟨rfl, hg⟩
 clear z0 z1 z2 z3 z4 z5 z6 z7 z8 z9 z10
 go_wp2
 go_ret
 exact ⟨rfl, grown_two HA.out hg⟩
theorem tputdatano_calls {W : World} {pt p : Nat} {base : Int} {N : Nat} {size grade : Int} (kt : W.heap[pt]? = some (.cells (TCs p base N size grade) 95 (0, 0))) (f0 f1 f2 f3 : Int) (b4 b5 b6 b7 b8 b9 b10 : Bool) (k : Nat) (m : Bool) (hm : tte_May.f k f0 f1 f2 f3 b4 b5 b6 b7 b8 b9 b10 = some m) (hno : (m && f0 == size) = false) :
  Calls Try.prog 28 #[.pointer (some ⟨pt, 0, none⟩), .agg #[.int .i64 f0, .int .i64 f1, .int .u64 f2, .int .u64 f3, .bool b4, .bool b5, .bool b6, .bool b7, .bool b8, .bool b9, .bool b10]] W fun e W' => e = .returned (.int .i64 1) ∧ W.grownBy W' none := by
 have hu := Try.underlying50
 have hA := World.grownBy_alloc W (.cells #[.int .i64 f0, .int .i64 f1, .int .u64 f2, .int .u64 f3, .bool b4, .bool b5, .bool b6, .bool b7, .bool b8, .bool b9, .bool b10] 50) none
 have HT := Aside0.mk (blk_grown kt hA)
 have HA := Aside0.mk hA
 have HMM := Aside0.mk (And.intro hm hno)
 obtain ⟨z0, z1, z2, z3, z4, z5, z6, z7, z8, z9, z10⟩ := tte_Read.cz11 (heap_alloc_new W (.cells #[.int .i64 f0, .int .i64 f1, .int .u64 f2, .int .u64 f3, .bool b4, .bool b5, .bool b6, .bool b7, .bool b8, .bool b9, .bool b10] 50))
 clear kt hA hm hno
 go_enter Try.func28, Try.ntmps28
 go_wp2_with fail
 refine (tmayno_calls HT.out f0 f1 f2 f3 b4 b5 b6 b7 b8 b9 b10 k m HMM.out.1 HMM.out.2).mono ?_
 rintro x0 wm ⟨rfl, hg⟩
 clear z0 z1 z2 z3 z4 z5 z6 z7 z8 z9 z10
 go_wp2
 go_ret
 exact ⟨rfl, grown_two HA.out hg⟩
theorem tputtagno_calls {W : World} {pt p : Nat} {base : Int} {N : Nat} {size grade : Int} (kt : W.heap[pt]? = some (.cells (TCs p base N size grade) 95 (0, 0))) (f0 f1 f2 f3 : Int) (b4 b5 b6 b7 b8 b9 b10 : Bool) (k : Nat) (m : Bool) (hm : tte_May.f k f0 f1 f2 f3 b4 b5 b6 b7 b8 b9 b10 = some m) (hno : (m && f0 == size) = false) :
  Calls Try.prog 29 #[.pointer (some ⟨pt, 0, none⟩), .agg #[.int .i64 f0, .int .i64 f1, .int .u64 f2, .int .u64 f3, .bool b4, .bool b5, .bool b6, .bool b7, .bool b8, .bool b9, .bool b10]] W fun e W' => e = .returned (.int .i64 1) ∧ W.grownBy W' none := by
 have hu := Try.underlying50
 have hA := World.grownBy_alloc W (.cells #[.int .i64 f0, .int .i64 f1, .int .u64 f2, .int .u64 f3, .bool b4, .bool b5, .bool b6, .bool b7, .bool b8, .bool b9, .bool b10] 50) none
 have HT := Aside0.mk (blk_grown kt hA)
 have HA := Aside0.mk hA
 have HMM := Aside0.mk (And.intro hm hno)
 obtain ⟨z0, z1, z2, z3, z4, z5, z6, z7, z8, z9, z10⟩ := tte_Read.cz11 (heap_alloc_new W (.cells #[.int .i64 f0, .int .i64 f1, .int .u64 f2, .int .u64 f3, .bool b4, .bool b5, .bool b6, .bool b7, .bool b8, .bool b9, .bool b10] 50))
 clear kt hA hm hno
 go_enter Try.func29, Try.ntmps29
 go_wp2_with fail
 refine (tmayno_calls HT.out f0 f1 f2 f3 b4 b5 b6 b7 b8 b9 b10 k m HMM.out.1 HMM.out.2).mono ?_
 rintro x0 wm ⟨rfl, hg⟩
 clear z0 z1 z2 z3 z4 z5 z6 z7 z8 z9 z10
 go_wp2
 go_ret
 exact ⟨rfl, grown_two HA.out hg⟩
/-- May the document's entry be in a TSB of this size? -/
def mayE (s : Nat) (e : Ent) : Bool := Pure.mayOf e.f0 e.f1 e.f2.toNat e.f3.toNat e.f4.f4 e.f5 && e.f0 == (s : Int)
theorem may_p {e : Ent} (he : EntW e) : tte_May.f 500 e.f0 e.f1 e.f2 e.f3 e.f4.f0 e.f4.f1 e.f4.f2 e.f4.f3 e.f4.f4 e.f4.f5 e.f5 = some (Pure.mayOf e.f0 e.f1 e.f2.toNat e.f3.toNat e.f4.f4 e.f5) := by
 have h1 := u64_b he.v
 have h2 := u64_b he.p
 have := pTMay e.f0 e.f1 e.f2.toNat e.f3.toNat e.f4.f0 e.f4.f1 e.f4.f2 e.f4.f3 e.f4.f4 e.f4.f5 e.f5 (by omega) (by omega) 500 (by decide)
 rwa [Int.toNat_of_nonneg h1.1, Int.toNat_of_nonneg h2.1] at this
theorem may_r {e : Ent} (he : EntW e) (s N : Nat) (l : List WS) : lookasideref10_May.f 500 (s : Int) (N : Int) l e.f0 e.f1 e.f2 e.f3 e.f4.f0 e.f4.f1 e.f4.f2 e.f4.f3 e.f4.f4 e.f4.f5 e.f5 = some (mayE s e) := by
 have h1 := u64_b he.v
 have h2 := u64_b he.p
 have := rTMay e.f0 e.f1 e.f2.toNat e.f3.toNat e.f4.f0 e.f4.f1 e.f4.f2 e.f4.f3 e.f4.f4 e.f4.f5 e.f5 (by omega) 500 (by decide)
 rw [Int.toNat_of_nonneg h1.1, Int.toNat_of_nonneg h2.1] at this
 unfold lookasideref10_May.f mayE
 rw [this, Option.bind_some]
 cases Pure.mayOf e.f0 e.f1 e.f2.toNat e.f3.toNat e.f4.f4 e.f5 with
 | false => rfl
 | true =>
  rw [if_pos rfl]
  simp [BEq.beq]
/-- An entry that may be here. -/
theorem may_ge {s : Nat} {e : Ent} (he : EntW e) (h : mayE s e = true) : ∃ g : GE, g.ok ∧ g.s = s ∧ e = geS g := by
 have h1 := u64_b he.v
 have h2 := u64_b he.p
 unfold mayE at h
 rw [Bool.and_eq_true, beq_iff_eq] at h
 obtain ⟨hm, hs⟩ := h
 obtain ⟨f0, f1, f2, f3, ⟨a0, a1, a2, a3, a4, a5⟩, f5⟩ := e
 simp only at hm hs h1 h2
 subst hs
 obtain ⟨va, rfl⟩ := Int.eq_ofNat_of_zero_le h1.1
 obtain ⟨pa, rfl⟩ := Int.eq_ofNat_of_zero_le h2.1
 rw [Int.toNat_natCast, Int.toNat_natCast] at hm
 have hf5 : f5 = true := by cases f5 with | true => rfl | false => (unfold Pure.mayOf at hm; simp at hm)
 subst hf5
 have hc0 : 0 ≤ f1 := by
  have hm2 := hm
  unfold Pure.mayOf at hm2
  simp only [Bool.and_eq_true, decide_eq_true_eq] at hm2
  omega
 obtain ⟨c, rfl⟩ := Int.eq_ofNat_of_zero_le hc0
 exact ⟨⟨s, c, va, pa, a0, a1, a2, a3, a4, a5⟩, mayOf_ok hm (by omega), rfl, rfl⟩
/-- A deed's entry. -/
def dE (raw : Bool) (s : Nat) (e : Ent) : Ent := if raw = true then e else geS (geE s e)
theorem dE_wf {raw : Bool} {s : Nat} {e : Ent} (he : EntW e) (hs : s < 4) : EntW (dE raw s e) := by
 unfold dE
 split
 ·exact he
 ·exact geS_wf (geE_ok s e hs)
theorem entry_any (k c va : Int) (raw : Bool) (e : Ent) (he : EntW e) (s : Nat) (hs : s < 4) (W : World) :
  Calls Try.prog 21 #[.agg #[.int .i64 k, .int .i64 c, .int .u64 va, .int .i64 e.f0, .int .i64 e.f1, .int .u64 e.f2, .int .u64 e.f3, .bool e.f4.f0, .bool e.f4.f1, .bool e.f4.f2, .bool e.f4.f3, .bool e.f4.f4, .bool e.f4.f5, .bool e.f5, .bool raw], .int .i64 s] W fun x W' => x = .returned (.agg (entA (dE raw s e))) ∧ W.grownBy W' none := by
 cases raw with
 | false =>
  refine (lookasidelaw10_Deed_entry.calls 500 _ _ _ _ _ _ _ _ _ _ _ _ _ _ _ _ _ _ _ _ _ _ _ _ _ _ _ _ (geOf_entry s e.f1 e.f2 e.f3 e.f4.f0 e.f4.f1 e.f4.f2 e.f4.f3 e.f4.f4 e.f4.f5 e.f5 e.f0 k c va hs he.c he.v he.p)).mono ?_
  rintro x W' ⟨rfl, hb⟩
  exact ⟨rfl, below_grown hb⟩
 | true =>
  refine (lookasidelaw10_Deed_entry.calls 500 _ _ _ _ _ _ _ _ _ _ _ _ _ _ _ _ _ _ _ _ _ _ _ _ _ _ _ _ (show lookasidelaw10_Deed_entry.f 500 k c va e.f0 e.f1 e.f2 e.f3 e.f4.f0 e.f4.f1 e.f4.f2 e.f4.f3 e.f4.f4 e.f4.f5 e.f5 true (s : Int) = some (e.f0, e.f1, e.f2, e.f3, e.f4.f0, e.f4.f1, e.f4.f2, e.f4.f3, e.f4.f4, e.f4.f5, e.f5) from by unfold lookasidelaw10_Deed_entry.f; exact if_pos rfl)).mono ?_
  rintro x W' ⟨rfl, hb⟩
  exact ⟨rfl, below_grown hb⟩
end
end Go.Proofs.Ytjnffegjpkbjmaa.Mem
-- halved
