/- An entry that may be in a TSB. -/
import Derived.Test.YtjnffegjpkbjmaaTs5
import Derived.Test.YtjnffegjpkbjmaaQTsbPlaysx21
/- merged: YtjnffegjpkbjmaaTs6 -/
namespace Go.Proofs.Ytjnffegjpkbjmaa.Mem
open Go.RowKit Go.Maps Go.Proofs.YtjnffegjpkbjmaaW.PrintWords Go.Proofs.YtjnffegjpkbjmaaW.PrintLast Go.Proofs.YtjnffegjpkbjmaaW.PrintMore Go.Proofs.Ytjnffegjpkbjmaa.QTsbPlays
set_option linter.unusedSimpArgs false
set_option linter.unusedVariables false
section
set_option maxHeartbeats 1000000
set_option maxRecDepth 100000
noncomputable def tlock0_T : Bool × List (List Nat × List Nat) := rtab .any (opsOf Try.f27 0)
theorem tlock0_tab : rtab .any (opsOf Try.f27 0) = tlock0_T := rfl
theorem tlock_calls {B w0 p mb sz n D W pt} {base : Int} {N : Nat} {size grade : Int} (h : Mem B w0 p mb sz n D W) (kt : W.heap[pt]? = some (.cells (TCs p base N size grade) 95 (0, 0))) (va s : Int) (hs : point_Slot.f base N va size = some s) (ha : (Lit.int .u64 s).wf = true) (hn : n < 1000000) (hc : mayOf sz s 8 8 = 0) :
  Calls Try.prog 27 #[.pointer (some ⟨pt, 0, none⟩), .int .u64 va] W fun e W' => e = .returned (.tuple #[]) ∧ Mem B w0 p mb sz (n + 1) (st D (s / 8) 9223372036854775807) W' ∧ W.grownBy W' (some mb) := by
 have HM := Aside0.mk (h.same (grown_drew W none))
 have HG := Aside0.mk (grown_drew W (some mb))
 have HT := Aside0.mk (blk_grown kt (grown_drew W none))
 have HS := Aside0.mk hs
 have HA := Aside0.mk ha
 have HN := Aside0.mk hn
 have HC := Aside0.mk hc
 clear h kt hs ha hn hc
 go_enter Try.func27, Try.ntmps27
 go_wp2_with fail
 refine start_ (n := 9) (S := fun w' => w'.heap[pt]? = some (.cells (TCs p base N size grade) 95 (0, 0))) (ds := []) #[false, false, false, false, false, false, false, false, false] (by kernel_rfl) rfl rfl HT.out (fun hHeld => ?_)
 refine with_tab tlock0_tab (fun HT_ => ?_)
 refine pure_ (i := 0) (N := some 4) (v := ?_) (a' := ?_) #[true, false, false, false, false, false, false, false, false] rfl rfl (any_of HT_.out (by kernel_rfl)) (fun _ _ _ h => h) (Or.inl ⟨by rfl, ?_⟩) ?_ ?_
 rotate_left
 ·intro w'
  go_simp
  with_reducible rfl
 rotate_left
 ·simp only [ap_]
  rfl
 refine pure_ (i := 1) (N := some 5) (v := .pointer (some ⟨pt, 0, none⟩)) (a' := ?_) #[true, true, false, false, false, false, false, false, false] rfl rfl (any_of HT_.out (by kernel_rfl)) (fun _ _ _ h => h) (Or.inl ⟨by rfl, ?_⟩) ?_ ?_
 ·intro w'
  go_simp
 rotate_left
 ·simp only [ap_]
  rfl
 refine pure_ (i := 2) (N := some 6) (v := ?_) (a' := ?_) #[true, true, true, false, false, false, false, false, false] rfl rfl (any_of HT_.out (by kernel_rfl)) (fun _ _ _ h => h) (Or.inl ⟨by rfl, ?_⟩) ?_ ?_
 rotate_left
 ·intro w'
  go_simp
  with_reducible rfl
 rotate_left
 ·simp only [ap_]
  rfl
 refine pure_ (i := 4) (N := some 8) (v := ?_) (a' := ?_) #[true, true, true, false, true, false, false, false, false] rfl rfl (any_of HT_.out (by kernel_rfl)) (fun _ _ _ h => h) (Or.inl ⟨by rfl, ?_⟩) ?_ ?_
 rotate_left
 ·intro w'
  go_simp
  with_reducible rfl
 rotate_left
 ·simp only [ap_]
  rfl
 refine pure_ (i := 5) (N := some 9) (v := ?_) (a' := ?_) #[true, true, true, false, true, true, false, false, false] rfl rfl (any_of HT_.out (by kernel_rfl)) (fun _ _ _ h => h) (Or.inl ⟨by rfl, ?_⟩) ?_ ?_
 rotate_left
 ·intro w'
  go_simp
  with_reducible rfl
 rotate_left
 ·simp only [ap_]
  rfl
 refine take_ (i := 3) (N := some 7) (v := .pointer (some ⟨p, 0, none⟩)) (a' := ?_) #[true, true, true, true, true, true, false, false, false] rfl rfl (take_of HT_.out (by kernel_rfl)) (fun _ _ _ h => h) (Or.inl ⟨by rfl, ?_⟩) hHeld ?_ ?_
 ·rintro w' s1
  obtain ⟨y0, y1, y2, y3, y4⟩ := cz5 s1
  go_simp
 rotate_left
 ·simp only [ap_]
  rfl
 refine one_ (i := 6) (N := some 10) #[true, true, true, true, true, true, true, false, false] rfl rfl (one_of HT_.out (by kernel_rfl)) (by decide) (fun K hK => ?_)
 refine goes_ Try.func59 (by kernel_rfl) rfl #[.pointer (some ⟨pt, 0, none⟩), .int .u64 va] (by rfl) rfl rfl (by (try simp only [List.map_toArray, List.map_cons, List.map_nil]); first | done | rfl) ?_
 refine (tat_calls hHeld va s HS.out).mono ?_
 rintro x0 wn ⟨rfl, hg⟩
 have hs := blk_grown hHeld hg
 replace HM := Aside0.mk (HM.out.same hg)
 replace HG := Aside0.mk (grown_two HG.out (grown_but hg (some mb)))
 clear hg
 refine ⟨_, rfl, ?_⟩
 refine hK.out _ _ hs (fun hHeld => ?_)
 clear hK K
 refine norm_ (a' := ?_) ?_ ?_
 rotate_left
 ·show Act.put _ (some 10) _ = _
  simp only [ap_]
  rfl
 refine one_ (i := 7) (N := some 11) #[true, true, true, true, true, true, true, true, false] rfl rfl (one_of HT_.out (by kernel_rfl)) (by decide) (fun K hK => ?_)
 refine goes_ Try.func64 (by kernel_rfl) rfl #[] (by rfl) rfl rfl (by (try simp only [List.map_toArray, List.map_cons, List.map_nil]); first | done | rfl) ?_
 refine (bad_calls _).mono ?_
 rintro x0 wn ⟨rfl, hg⟩
 have hs := blk_grown hHeld hg
 replace HM := Aside0.mk (HM.out.same hg)
 replace HG := Aside0.mk (grown_two HG.out (grown_but hg (some mb)))
 clear hg
 refine ⟨_, rfl, ?_⟩
 refine hK.out _ _ hs (fun hHeld => ?_)
 clear hK K
 refine norm_ (a' := ?_) ?_ ?_
 rotate_left
 ·show Act.put _ (some 11) _ = _
  simp only [ap_]
  rfl
 refine one_ (i := 8) (N := some 12) #[true, true, true, true, true, true, true, true, true] rfl rfl (one_of HT_.out (by kernel_rfl)) (by decide) (fun K hK => ?_)
 refine goes_ Try.func63 (by kernel_rfl) rfl #[.pointer (some ⟨p, 0, none⟩), .int .u64 s, .int .u64 9223372036854775807] (by rfl) rfl rfl (by (try simp only [List.map_toArray, List.map_cons, List.map_nil]); first | done | rfl) ?_
 refine (putWord_ok HM.out s HA.out 9223372036854775807 (by decide) HN.out HC.out).mono ?_
 rintro x0 wn ⟨rfl, hM, hg⟩
 have hs : wn.heap[pt]? = some (.cells (TCs p base N size grade) 95 (0, 0)) := (hg.block pt (blk_lt hHeld) (fun e => HM.out.nb _ _ _ hHeld (Option.some.inj e))).trans hHeld
 replace HM := Aside0.mk hM
 replace HG := Aside0.mk (grown_two HG.out hg)
 clear hM hg
 refine ⟨_, rfl, ?_⟩
 refine hK.out _ _ hs (fun hHeld => ?_)
 clear hK K
 refine norm_ (a' := ?_) ?_ ?_
 rotate_left
 ·show Act.put _ (some 12) _ = _
  simp only [ap_]
  rfl
 refine done_ (done_of HT_.out (by kernel_rfl)) ?_
 go_wp2
 go_end0
 exact ⟨rfl, HM.out, HG.out⟩
end
end Go.Proofs.Ytjnffegjpkbjmaa.Mem
namespace Go.Proofs.Ytjnffegjpkbjmaa.Mem
open Go.RowKit Go.Maps Go.Proofs.YtjnffegjpkbjmaaW.PrintWords Go.Proofs.YtjnffegjpkbjmaaW.PrintLast Go.Proofs.YtjnffegjpkbjmaaW.PrintMore Go.Proofs.Ytjnffegjpkbjmaa.QTsbPlays
set_option linter.unusedSimpArgs false
set_option linter.unusedVariables false
section
set_option maxHeartbeats 1000000
set_option maxRecDepth 100000
noncomputable def tmay1_T : Bool × List (List Nat × List Nat) := rtab .any (opsOf Try.f56 1)
theorem tmay1_tab : rtab .any (opsOf Try.f56 1) = tmay1_T := rfl
theorem tmay_calls {W pt p} {base : Int} {N : Nat} {size grade : Int} (kt : W.heap[pt]? = some (.cells (TCs p base N size grade) 95 (0, 0))) (f1 f2 f3 : Int) (b4 b5 b6 b7 b8 b9 b10 : Bool) (k : Nat) (hm : tte_May.f k size f1 f2 f3 b4 b5 b6 b7 b8 b9 b10 = some true) :
  Calls Try.prog 56 #[.pointer (some ⟨pt, 0, none⟩), .agg #[.int .i64 size, .int .i64 f1, .int .u64 f2, .int .u64 f3, .bool b4, .bool b5, .bool b6, .bool b7, .bool b8, .bool b9, .bool b10]] W fun e W' => e = .returned (.bool true) ∧ W.grownBy W' none := by
 have hu := Try.underlying50
 have HA := World.grownBy_alloc W (.cells #[.int .i64 size, .int .i64 f1, .int .u64 f2, .int .u64 f3, .bool b4, .bool b5, .bool b6, .bool b7, .bool b8, .bool b9, .bool b10] 50) none
 have HG := Aside0.mk (grown_two HA (grown_drew (W.alloc (.cells #[.int .i64 size, .int .i64 f1, .int .u64 f2, .int .u64 f3, .bool b4, .bool b5, .bool b6, .bool b7, .bool b8, .bool b9, .bool b10] 50)) none))
 have HT := Aside0.mk (blk_grown (blk_grown kt HA) (grown_drew (W.alloc (.cells #[.int .i64 size, .int .i64 f1, .int .u64 f2, .int .u64 f3, .bool b4, .bool b5, .bool b6, .bool b7, .bool b8, .bool b9, .bool b10] 50)) none))
 have HB := Aside0.mk (blk_grown (heap_alloc_new W (.cells #[.int .i64 size, .int .i64 f1, .int .u64 f2, .int .u64 f3, .bool b4, .bool b5, .bool b6, .bool b7, .bool b8, .bool b9, .bool b10] 50)) (grown_drew (W.alloc (.cells #[.int .i64 size, .int .i64 f1, .int .u64 f2, .int .u64 f3, .bool b4, .bool b5, .bool b6, .bool b7, .bool b8, .bool b9, .bool b10] 50)) none))
 have HMY := Aside0.mk hm
 clear kt hm HA
 go_enter Try.func56, Try.ntmps56
 go_wp2_with fail
 generalize W.heap.size = g3 at HB ⊢
 refine start_ (n := 12) (S := fun w' => w'.heap[pt]? = some (.cells (TCs p base N size grade) 95 (0, 0)) ∧ w'.heap[g3]? = some (.cells #[.int .i64 size, .int .i64 f1, .int .u64 f2, .int .u64 f3, .bool b4, .bool b5, .bool b6, .bool b7, .bool b8, .bool b9, .bool b10] 50 (0, 0))) (ds := []) #[false, false, false, false, false, false, false, false, false, false, false, false] (by kernel_rfl) rfl rfl ⟨HT.out, HB.out⟩ (fun hHeld => ?_)
 refine with_tab tmay1_tab (fun HT_ => ?_)
 refine take_ (i := 0) (N := some 5) (v := .agg #[.int .i64 size, .int .i64 f1, .int .u64 f2, .int .u64 f3, .bool b4, .bool b5, .bool b6, .bool b7, .bool b8, .bool b9, .bool b10]) (a' := ?_) #[true, false, false, false, false, false, false, false, false, false, false, false] rfl rfl (take_of HT_.out (by kernel_rfl)) (fun _ _ _ h => h) (Or.inl ⟨by rfl, ?_⟩) hHeld ?_ ?_
 ·rintro w' ⟨s1, s2⟩
  obtain ⟨z0, z1, z2, z3, z4, z5, z6, z7, z8, z9, z10⟩ := tte_Read.cz11 s2
  go_simp
 rotate_left
 ·simp only [ap_]
  rfl
 refine one_ (i := 1) (N := some 6) #[true, true, false, false, false, false, false, false, false, false, false, false] rfl rfl (one_of HT_.out (by kernel_rfl)) (by decide) (fun K hK => ?_)
 refine goes_ Try.func88 (by kernel_rfl) rfl #[.agg #[.int .i64 size, .int .i64 f1, .int .u64 f2, .int .u64 f3, .bool b4, .bool b5, .bool b6, .bool b7, .bool b8, .bool b9, .bool b10]] (by rfl) rfl rfl (by (try simp only [List.map_toArray, List.map_cons, List.map_nil]); first | done | rfl) ?_
 refine (tte_May.calls k size f1 f2 f3 b4 b5 b6 b7 b8 b9 b10 true _ HMY.out).mono ?_
 rintro x0 wn ⟨rfl, hb⟩
 have hg := below_grown hb
 have hs := And.intro (blk_grown hHeld.1 hg) (blk_grown hHeld.2 hg)
 replace HG := Aside0.mk (grown_two HG.out hg)
 clear hg hb
 refine ⟨_, rfl, ?_⟩
 refine hK.out _ _ hs (fun hHeld => ?_)
 clear hK K
 refine norm_ (a' := ?_) ?_ ?_
 rotate_left
 ·show Act.put _ (some 6) _ = _
  simp only [ap_]
  rfl
 refine pure_ (i := 2) (N := some 7) (v := ?_) (a' := ?_) #[true, true, true, false, false, false, false, false, false, false, false, false] rfl rfl (any_of HT_.out (by kernel_rfl)) (fun _ _ _ h => h) (Or.inl ⟨by rfl, ?_⟩) ?_ ?_
 rotate_left
 ·intro w'
  go_simp
  with_reducible rfl
 rotate_left
 ·simp only [ap_]
  rfl
 refine pure_ (i := 3) (N := some 8) (v := ?_) (a' := ?_) #[true, true, true, true, false, false, false, false, false, false, false, false] rfl rfl (any_of HT_.out (by kernel_rfl)) (fun _ _ _ h => h) (Or.inl ⟨by rfl, ?_⟩) ?_ ?_
 rotate_left
 ·intro w'
  go_simp
  with_reducible rfl
 rotate_left
 ·simp only [ap_]
  rfl
 refine pure_ (i := 5) (N := some 10) (v := ?_) (a' := ?_) #[true, true, true, true, false, true, false, false, false, false, false, false] rfl rfl (any_of HT_.out (by kernel_rfl)) (fun _ _ _ h => h) (Or.inl ⟨by rfl, ?_⟩) ?_ ?_
 rotate_left
 ·intro w'
  go_simp
  with_reducible rfl
 rotate_left
 ·simp only [ap_]
  rfl
 refine pure_ (i := 6) (N := some 11) (v := .pointer (some ⟨pt, 0, none⟩)) (a' := ?_) #[true, true, true, true, false, true, true, false, false, false, false, false] rfl rfl (any_of HT_.out (by kernel_rfl)) (fun _ _ _ h => h) (Or.inl ⟨by rfl, ?_⟩) ?_ ?_
 ·intro w'
  go_simp
 rotate_left
 ·simp only [ap_]
  rfl
 refine pure_ (i := 7) (N := some 12) (v := ?_) (a' := ?_) #[true, true, true, true, false, true, true, true, false, false, false, false] rfl rfl (any_of HT_.out (by kernel_rfl)) (fun _ _ _ h => h) (Or.inl ⟨by rfl, ?_⟩) ?_ ?_
 rotate_left
 ·intro w'
  go_simp
  with_reducible rfl
 rotate_left
 ·simp only [ap_]
  rfl
 refine take_ (i := 4) (N := some 9) (v := .int .i64 size) (a' := ?_) #[true, true, true, true, true, true, true, true, false, false, false, false] rfl rfl (take_of HT_.out (by kernel_rfl)) (fun _ _ _ h => h) (Or.inl ⟨by rfl, ?_⟩) hHeld ?_ ?_
 ·rintro w' ⟨s1, s2⟩
  obtain ⟨z0, z1, z2, z3, z4, z5, z6, z7, z8, z9, z10⟩ := tte_Read.cz11 s2
  go_simp
 rotate_left
 ·simp only [ap_]
  rfl
 refine take_ (i := 8) (N := some 13) (v := .int .i64 size) (a' := ?_) #[true, true, true, true, true, true, true, true, true, false, false, false] rfl rfl (take_of HT_.out (by kernel_rfl)) (fun _ _ _ h => h) (Or.inl ⟨by rfl, ?_⟩) hHeld ?_ ?_
 ·rintro w' ⟨s1, s2⟩
  obtain ⟨y0, y1, y2, y3, y4⟩ := cz5 s1
  go_simp
 rotate_left
 ·simp only [ap_]
  rfl
 refine pure_ (i := 9) (N := some 14) (v := .bool true) (a' := ?_) #[true, true, true, true, true, true, true, true, true, true, false, false] rfl rfl (any_of HT_.out (by kernel_rfl)) (fun _ _ _ h => h) (Or.inl ⟨by rfl, ?_⟩) ?_ ?_
 ·intro w'
  go_simp
 rotate_left
 ·simp only [ap_]
  rfl
 refine pure_ (i := 10) (N := some 15) (v := ?_) (a' := ?_) #[true, true, true, true, true, true, true, true, true, true, true, false] rfl rfl (any_of HT_.out (by kernel_rfl)) (fun _ _ _ h => h) (Or.inl ⟨by rfl, ?_⟩) ?_ ?_
 rotate_left
 ·intro w'
  go_simp
  with_reducible rfl
 rotate_left
 ·simp only [ap_]
  rfl
 refine pure_ (i := 11) (N := some 4) (v := ?_) (a' := ?_) #[true, true, true, true, true, true, true, true, true, true, true, true] rfl rfl (any_of HT_.out (by kernel_rfl)) (fun _ _ _ h => h) (Or.inl ⟨by rfl, ?_⟩) ?_ ?_
 rotate_left
 ·intro w'
  go_simp
  with_reducible rfl
 rotate_left
 ·simp only [ap_]
  rfl
 refine done_ (done_of HT_.out (by kernel_rfl)) ?_
 go_wp2
 go_ret
 exact ⟨rfl, HG.out⟩
end
end Go.Proofs.Ytjnffegjpkbjmaa.Mem
-- halved
