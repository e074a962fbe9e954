/- An entry's data, an entry's tag, put into a TSB. -/
import Derived.Test.YtjnffegjpkbjmaaTs7
namespace Go.Proofs.Ytjnffegjpkbjmaa.Mem
open Go.RowKit Go.Maps Go.Proofs.YtjnffegjpkbjmaaW.PrintWords Go.Proofs.YtjnffegjpkbjmaaW.PrintLast Go.Proofs.YtjnffegjpkbjmaaW.PrintMore Go.Proofs.Ytjnffegjpkbjmaa.QTsbPlays
set_option linter.unusedSimpArgs false
set_option linter.unusedVariables false
section
set_option maxHeartbeats 2000000
set_option maxRecDepth 100000
noncomputable def tputdata3_T : Bool × List (List Nat × List Nat) := rtab .any (opsOf Try.f28 3)
theorem tputdata3_tab : rtab .any (opsOf Try.f28 3) = tputdata3_T := rfl
theorem tdata_calls {B w0 p mb sz n D W pt} {base : Int} {N : Nat} {size grade : Int} (h : Mem B w0 p mb sz n D W) (kt : W.heap[pt]? = some (.cells (TCs p base N size grade) 95 (0, 0))) (f1 f2 f3 : Int) (b4 b5 b6 b7 b8 b9 b10 : Bool) (k : Nat) (hm : tte_May.f k size f1 f2 f3 b4 b5 b6 b7 b8 b9 b10 = some true) (s d : Int) (hs : point_Slot.f base N f2 size = some s) (hd : tte_Data.f size f1 f2 f3 b4 b5 b6 b7 b8 b9 b10 = some d) (ha : (Lit.int .u64 (s + 8)).wf = true) (hwd : (Lit.int .u64 d).wf = true) (hn : n < 1000000) (hc : mayOf sz (s + 8) 8 8 = 0) :
  Calls Try.prog 28 #[.pointer (some ⟨pt, 0, none⟩), .agg #[.int .i64 size, .int .i64 f1, .int .u64 f2, .int .u64 f3, .bool b4, .bool b5, .bool b6, .bool b7, .bool b8, .bool b9, .bool b10]] W fun e W' => e = .returned (.int .i64 0) ∧ Mem B w0 p mb sz (n + 1) (st D ((s + 8) / 8) d) W' ∧ W.grownBy W' (some mb) := by
 have hu := Try.underlying50
 have hA := World.grownBy_alloc W (.cells #[.int .i64 size, .int .i64 f1, .int .u64 f2, .int .u64 f3, .bool b4, .bool b5, .bool b6, .bool b7, .bool b8, .bool b9, .bool b10] 50) none
 have HG := Aside0.mk (grown_but hA (some mb))
 have HM := Aside0.mk (h.same hA)
 have HT := Aside0.mk (blk_grown kt hA)
 have HB := Aside0.mk (heap_alloc_new W (.cells #[.int .i64 size, .int .i64 f1, .int .u64 f2, .int .u64 f3, .bool b4, .bool b5, .bool b6, .bool b7, .bool b8, .bool b9, .bool b10] 50))
 have HMY := Aside0.mk hm
 have HS := Aside0.mk hs
 have HD := Aside0.mk hd
 have HA := Aside0.mk ha
 have HWD := Aside0.mk hwd
 have HN := Aside0.mk hn
 have HC := Aside0.mk hc
 have HW := Aside0.mk (show IntKind.u64.wrap (s + 8) = s + 8 by rw [IntKind.wrap_u64]; have := u64_b ha; omega)
 clear h kt hA hm hs hd ha hwd hn hc
 obtain ⟨z0, z1, z2, z3, z4, z5, z6, z7, z8, z9, z10⟩ := tte_Read.cz11 HB.out
 go_enter Try.func28, Try.ntmps28
 go_wp2_with fail
 refine (tmay_calls HT.out f1 f2 f3 b4 b5 b6 b7 b8 b9 b10 k HMY.out).mono ?_
 rintro x0 wm ⟨rfl, hg⟩
 generalize W.heap.size = g3 at HB ⊢
 replace HG := Aside0.mk (grown_two HG.out (grown_but hg (some mb)))
 replace HM := Aside0.mk (HM.out.same hg)
 replace HT := Aside0.mk (blk_grown HT.out hg)
 replace HB := Aside0.mk (blk_grown HB.out hg)
 clear hg z0 z1 z2 z3 z4 z5 z6 z7 z8 z9 z10
 go_wp2_with fail
 replace HG := Aside0.mk (grown_two HG.out (grown_drew wm (some mb)))
 replace HM := Aside0.mk (HM.out.same (grown_drew wm none))
 replace HT := Aside0.mk (blk_grown HT.out (grown_drew wm none))
 replace HB := Aside0.mk (blk_grown HB.out (grown_drew wm none))
 refine start_ (n := 13) (S := fun w' => w'.heap[pt]? = some (.cells (TCs p base N size grade) 95 (0, 0)) ∧ w'.heap[g3]? = some (.cells #[.int .i64 size, .int .i64 f1, .int .u64 f2, .int .u64 f3, .bool b4, .bool b5, .bool b6, .bool b7, .bool b8, .bool b9, .bool b10] 50 (0, 0))) (ds := []) #[false, false, false, false, false, false, false, false, false, false, false, false, false] (by kernel_rfl) rfl rfl ⟨HT.out, HB.out⟩ (fun hHeld => ?_)
 refine with_tab tputdata3_tab (fun HT_ => ?_)
 refine pure_ (i := 0) (N := some 9) (v := ?_) (a' := ?_) #[true, false, false, false, false, false, false, false, false, false, false, false, false] rfl rfl (any_of HT_.out (by kernel_rfl)) (fun _ _ _ h => h) (Or.inl ⟨by rfl, ?_⟩) ?_ ?_
 rotate_left
 ·intro w'
  go_simp
  with_reducible rfl
 rotate_left
 ·simp only [ap_]
  rfl
 refine pure_ (i := 1) (N := some 10) (v := .pointer (some ⟨pt, 0, none⟩)) (a' := ?_) #[true, true, false, false, false, false, false, false, false, false, false, false, false] rfl rfl (any_of HT_.out (by kernel_rfl)) (fun _ _ _ h => h) (Or.inl ⟨by rfl, ?_⟩) ?_ ?_
 ·intro w'
  go_simp
 rotate_left
 ·simp only [ap_]
  rfl
 refine pure_ (i := 2) (N := some 11) (v := ?_) (a' := ?_) #[true, true, true, false, false, false, false, false, false, false, false, false, false] rfl rfl (any_of HT_.out (by kernel_rfl)) (fun _ _ _ h => h) (Or.inl ⟨by rfl, ?_⟩) ?_ ?_
 rotate_left
 ·intro w'
  go_simp
  with_reducible rfl
 rotate_left
 ·simp only [ap_]
  rfl
 refine pure_ (i := 4) (N := some 13) (v := ?_) (a' := ?_) #[true, true, true, false, true, false, false, false, false, false, false, false, false] rfl rfl (any_of HT_.out (by kernel_rfl)) (fun _ _ _ h => h) (Or.inl ⟨by rfl, ?_⟩) ?_ ?_
 rotate_left
 ·intro w'
  go_simp
  with_reducible rfl
 rotate_left
 ·simp only [ap_]
  rfl
 refine pure_ (i := 5) (N := some 14) (v := ?_) (a' := ?_) #[true, true, true, false, true, true, false, false, false, false, false, false, false] rfl rfl (any_of HT_.out (by kernel_rfl)) (fun _ _ _ h => h) (Or.inl ⟨by rfl, ?_⟩) ?_ ?_
 rotate_left
 ·intro w'
  go_simp
  with_reducible rfl
 rotate_left
 ·simp only [ap_]
  rfl
 refine take_ (i := 3) (N := some 12) (v := .pointer (some ⟨p, 0, none⟩)) (a' := ?_) #[true, true, true, true, true, true, false, false, false, false, false, false, false] rfl rfl (take_of HT_.out (by kernel_rfl)) (fun _ _ _ h => h) (Or.inl ⟨by rfl, ?_⟩) hHeld ?_ ?_
 ·rintro w' ⟨s1, s2⟩
  obtain ⟨y0, y1, y2, y3, y4⟩ := cz5 s1
  go_simp
 rotate_left
 ·simp only [ap_]
  rfl
 refine take_ (i := 6) (N := some 15) (v := .int .u64 f2) (a' := ?_) #[true, true, true, true, true, true, true, false, false, false, false, false, false] rfl rfl (take_of HT_.out (by kernel_rfl)) (fun _ _ _ h => h) (Or.inl ⟨by rfl, ?_⟩) hHeld ?_ ?_
 ·rintro w' ⟨s1, s2⟩
  obtain ⟨z0, z1, z2, z3, z4, z5, z6, z7, z8, z9, z10⟩ := tte_Read.cz11 s2
  go_simp
 rotate_left
 ·simp only [ap_]
  rfl
 refine take_ (i := 9) (N := some 18) (v := .agg #[.int .i64 size, .int .i64 f1, .int .u64 f2, .int .u64 f3, .bool b4, .bool b5, .bool b6, .bool b7, .bool b8, .bool b9, .bool b10]) (a' := ?_) #[true, true, true, true, true, true, true, false, false, true, false, false, false] rfl rfl (take_of HT_.out (by kernel_rfl)) (fun _ _ _ h => h) (Or.inl ⟨by rfl, ?_⟩) hHeld ?_ ?_
 ·rintro w' ⟨s1, s2⟩
  obtain ⟨z0, z1, z2, z3, z4, z5, z6, z7, z8, z9, z10⟩ := tte_Read.cz11 s2
  go_simp
 rotate_left
 ·simp only [ap_]
  rfl
 refine one_ (i := 7) (N := some 16) #[true, true, true, true, true, true, true, true, false, true, false, false, false] rfl rfl (one_of HT_.out (by kernel_rfl)) (by decide) (fun K hK => ?_)
 refine goes_ Try.func59 (by kernel_rfl) rfl #[.pointer (some ⟨pt, 0, none⟩), .int .u64 f2] (by rfl) rfl rfl (by (try simp only [List.map_toArray, List.map_cons, List.map_nil]); first | done | rfl) ?_
 refine (tat_calls hHeld.1 f2 s HS.out).mono ?_
 rintro x0 wn ⟨rfl, hg⟩
 have hs := And.intro (blk_grown hHeld.1 hg) (blk_grown hHeld.2 hg)
 replace HM := Aside0.mk (HM.out.same hg)
 replace HG := Aside0.mk (grown_two HG.out (grown_but hg (some mb)))
 clear hg
 refine ⟨_, rfl, ?_⟩
 refine hK.out _ _ hs (fun hHeld => ?_)
 clear hK K
 refine norm_ (a' := ?_) ?_ ?_
 rotate_left
 ·show Act.put _ (some 16) _ = _
  simp only [ap_]
  rfl
 refine pure_ (i := 8) (N := some 17) (v := .int .u64 (s + 8)) (a' := ?_) #[true, true, true, true, true, true, true, true, true, true, false, false, false] rfl rfl (any_of HT_.out (by kernel_rfl)) (fun _ _ _ h => h) (Or.inl ⟨by rfl, ?_⟩) ?_ ?_
 ·intro w'
  have hw := HW.out
  go_simp
 rotate_left
 ·simp only [ap_]
  rfl
 refine one_ (i := 10) (N := some 19) #[true, true, true, true, true, true, true, true, true, true, true, false, false] rfl rfl (one_of HT_.out (by kernel_rfl)) (by decide) (fun K hK => ?_)
 refine goes_ Try.func65 (by kernel_rfl) rfl #[.agg #[.int .i64 size, .int .i64 f1, .int .u64 f2, .int .u64 f3, .bool b4, .bool b5, .bool b6, .bool b7, .bool b8, .bool b9, .bool b10]] (by rfl) rfl rfl (by (try simp only [List.map_toArray, List.map_cons, List.map_nil]); first | done | rfl) ?_
 refine (tte_Data.calls size f1 f2 f3 b4 b5 b6 b7 b8 b9 b10 d _ HD.out).mono ?_
 rintro x0 wn ⟨rfl, hb⟩
 have hg := below_grown hb
 clear hb
 have hs := And.intro (blk_grown hHeld.1 hg) (blk_grown hHeld.2 hg)
 replace HM := Aside0.mk (HM.out.same hg)
 replace HG := Aside0.mk (grown_two HG.out (grown_but hg (some mb)))
 clear hg
 refine ⟨_, rfl, ?_⟩
 refine hK.out _ _ hs (fun hHeld => ?_)
 clear hK K
 refine norm_ (a' := ?_) ?_ ?_
 rotate_left
 ·show Act.put _ (some 19) _ = _
  simp only [ap_]
  rfl
 refine one_ (i := 11) (N := some 20) #[true, true, true, true, true, true, true, true, true, true, true, true, false] rfl rfl (one_of HT_.out (by kernel_rfl)) (by decide) (fun K hK => ?_)
 refine goes_ Try.func63 (by kernel_rfl) rfl #[.pointer (some ⟨p, 0, none⟩), .int .u64 (s + 8), .int .u64 d] (by rfl) rfl rfl (by (try simp only [List.map_toArray, List.map_cons, List.map_nil]); first | done | rfl) ?_
 refine (putWord_ok HM.out (s + 8) HA.out d HWD.out HN.out HC.out).mono ?_
 rintro x0 wn ⟨rfl, hM, hg⟩
 have hs : wn.heap[pt]? = some (.cells (TCs p base N size grade) 95 (0, 0)) ∧ wn.heap[g3]? = some (.cells #[.int .i64 size, .int .i64 f1, .int .u64 f2, .int .u64 f3, .bool b4, .bool b5, .bool b6, .bool b7, .bool b8, .bool b9, .bool b10] 50 (0, 0)) := ⟨(hg.block pt (blk_lt hHeld.1) (fun e => HM.out.nb _ _ _ hHeld.1 (Option.some.inj e))).trans hHeld.1, (hg.block g3 (blk_lt hHeld.2) (fun e => HM.out.nb _ _ _ hHeld.2 (Option.some.inj e))).trans hHeld.2⟩
 replace HM := Aside0.mk hM
 replace HG := Aside0.mk (grown_two HG.out hg)
 clear hM hg
 refine ⟨_, rfl, ?_⟩
 refine hK.out _ _ hs (fun hHeld => ?_)
 clear hK K
 refine norm_ (a' := ?_) ?_ ?_
 rotate_left
 ·show Act.put _ (some 20) _ = _
  simp only [ap_]
  rfl
 refine pure_ (i := 12) (N := some 4) (v := ?_) (a' := ?_) #[true, true, true, true, true, true, true, true, true, true, true, true, true] rfl rfl (any_of HT_.out (by kernel_rfl)) (fun _ _ _ h => h) (Or.inl ⟨by rfl, ?_⟩) ?_ ?_
 rotate_left
 ·intro w'
  go_simp
  with_reducible rfl
 rotate_left
 ·simp only [ap_]
  rfl
 refine done_ (done_of HT_.out (by kernel_rfl)) ?_
 go_wp2
 go_ret
 exact ⟨rfl, HM.out, HG.out⟩
noncomputable def tputtag3_T : Bool × List (List Nat × List Nat) := rtab .any (opsOf Try.f29 3)
theorem tputtag3_tab : rtab .any (opsOf Try.f29 3) = tputtag3_T := rfl
theorem ttag_calls {B w0 p mb sz n D W pt} {base : Int} {N : Nat} {size grade : Int} (h : Mem B w0 p mb sz n D W) (kt : W.heap[pt]? = some (.cells (TCs p base N size grade) 95 (0, 0))) (f1 f2 f3 : Int) (b4 b5 b6 b7 b8 b9 b10 : Bool) (k : Nat) (hm : tte_May.f k size f1 f2 f3 b4 b5 b6 b7 b8 b9 b10 = some true) (s d : Int) (hs : point_Slot.f base N f2 size = some s) (hd : tte_Tag.f size f1 f2 f3 b4 b5 b6 b7 b8 b9 b10 = some d) (ha : (Lit.int .u64 s).wf = true) (hwd : (Lit.int .u64 d).wf = true) (hn : n < 1000000) (hc : mayOf sz s 8 8 = 0) :
  Calls Try.prog 29 #[.pointer (some ⟨pt, 0, none⟩), .agg #[.int .i64 size, .int .i64 f1, .int .u64 f2, .int .u64 f3, .bool b4, .bool b5, .bool b6, .bool b7, .bool b8, .bool b9, .bool b10]] W fun e W' => e = .returned (.int .i64 0) ∧ Mem B w0 p mb sz (n + 1) (st D (s / 8) d) W' ∧ W.grownBy W' (some mb) := by
 have hu := Try.underlying50
 have hA := World.grownBy_alloc W (.cells #[.int .i64 size, .int .i64 f1, .int .u64 f2, .int .u64 f3, .bool b4, .bool b5, .bool b6, .bool b7, .bool b8, .bool b9, .bool b10] 50) none
 have HG := Aside0.mk (grown_but hA (some mb))
 have HM := Aside0.mk (h.same hA)
 have HT := Aside0.mk (blk_grown kt hA)
 have HB := Aside0.mk (heap_alloc_new W (.cells #[.int .i64 size, .int .i64 f1, .int .u64 f2, .int .u64 f3, .bool b4, .bool b5, .bool b6, .bool b7, .bool b8, .bool b9, .bool b10] 50))
 have HMY := Aside0.mk hm
 have HS := Aside0.mk hs
 have HD := Aside0.mk hd
 have HA := Aside0.mk ha
 have HWD := Aside0.mk hwd
 have HN := Aside0.mk hn
 have HC := Aside0.mk hc
 clear h kt hA hm hs hd ha hwd hn hc
 obtain ⟨z0, z1, z2, z3, z4, z5, z6, z7, z8, z9, z10⟩ := tte_Read.cz11 HB.out
 go_enter Try.func29, Try.ntmps29
 go_wp2_with fail
 refine (tmay_calls HT.out f1 f2 f3 b4 b5 b6 b7 b8 b9 b10 k HMY.out).mono ?_
 rintro x0 wm ⟨rfl, hg⟩
 generalize W.heap.size = g3 at HB ⊢
 replace HG := Aside0.mk (grown_two HG.out (grown_but hg (some mb)))
 replace HM := Aside0.mk (HM.out.same hg)
 replace HT := Aside0.mk (blk_grown HT.out hg)
 replace HB := Aside0.mk (blk_grown HB.out hg)
 clear hg z0 z1 z2 z3 z4 z5 z6 z7 z8 z9 z10
 go_wp2_with fail
 replace HG := Aside0.mk (grown_two HG.out (grown_drew wm (some mb)))
 replace HM := Aside0.mk (HM.out.same (grown_drew wm none))
 replace HT := Aside0.mk (blk_grown HT.out (grown_drew wm none))
 replace HB := Aside0.mk (blk_grown HB.out (grown_drew wm none))
 refine start_ (n := 12) (S := fun w' => w'.heap[pt]? = some (.cells (TCs p base N size grade) 95 (0, 0)) ∧ w'.heap[g3]? = some (.cells #[.int .i64 size, .int .i64 f1, .int .u64 f2, .int .u64 f3, .bool b4, .bool b5, .bool b6, .bool b7, .bool b8, .bool b9, .bool b10] 50 (0, 0))) (ds := []) #[false, false, false, false, false, false, false, false, false, false, false, false] (by kernel_rfl) rfl rfl ⟨HT.out, HB.out⟩ (fun hHeld => ?_)
 refine with_tab tputtag3_tab (fun HT_ => ?_)
 refine pure_ (i := 0) (N := some 9) (v := ?_) (a' := ?_) #[true, false, false, false, false, false, false, false, false, false, false, false] rfl rfl (any_of HT_.out (by kernel_rfl)) (fun _ _ _ h => h) (Or.inl ⟨by rfl, ?_⟩) ?_ ?_
 rotate_left
 ·intro w'
  go_simp
  with_reducible rfl
 rotate_left
 ·simp only [ap_]
  rfl
 refine pure_ (i := 1) (N := some 10) (v := .pointer (some ⟨pt, 0, none⟩)) (a' := ?_) #[true, true, false, false, false, false, false, false, false, false, false, false] rfl rfl (any_of HT_.out (by kernel_rfl)) (fun _ _ _ h => h) (Or.inl ⟨by rfl, ?_⟩) ?_ ?_
 ·intro w'
  go_simp
 rotate_left
 ·simp only [ap_]
  rfl
 refine pure_ (i := 2) (N := some 11) (v := ?_) (a' := ?_) #[true, true, true, false, false, false, false, false, false, false, false, false] rfl rfl (any_of HT_.out (by kernel_rfl)) (fun _ _ _ h => h) (Or.inl ⟨by rfl, ?_⟩) ?_ ?_
 rotate_left
 ·intro w'
  go_simp
  with_reducible rfl
 rotate_left
 ·simp only [ap_]
  rfl
 refine pure_ (i := 4) (N := some 13) (v := ?_) (a' := ?_) #[true, true, true, false, true, false, false, false, false, false, false, false] rfl rfl (any_of HT_.out (by kernel_rfl)) (fun _ _ _ h => h) (Or.inl ⟨by rfl, ?_⟩) ?_ ?_
 rotate_left
 ·intro w'
  go_simp
  with_reducible rfl
 rotate_left
 ·simp only [ap_]
  rfl
 refine pure_ (i := 5) (N := some 14) (v := ?_) (a' := ?_) #[true, true, true, false, true, true, false, false, false, false, false, false] rfl rfl (any_of HT_.out (by kernel_rfl)) (fun _ _ _ h => h) (Or.inl ⟨by rfl, ?_⟩) ?_ ?_
 rotate_left
 ·intro w'
  go_simp
  with_reducible rfl
 rotate_left
 ·simp only [ap_]
  rfl
 refine take_ (i := 3) (N := some 12) (v := .pointer (some ⟨p, 0, none⟩)) (a' := ?_) #[true, true, true, true, true, true, false, false, false, false, false, false] rfl rfl (take_of HT_.out (by kernel_rfl)) (fun _ _ _ h => h) (Or.inl ⟨by rfl, ?_⟩) hHeld ?_ ?_
 ·rintro w' ⟨s1, s2⟩
  obtain ⟨y0, y1, y2, y3, y4⟩ := cz5 s1
  go_simp
 rotate_left
 ·simp only [ap_]
  rfl
 refine take_ (i := 6) (N := some 15) (v := .int .u64 f2) (a' := ?_) #[true, true, true, true, true, true, true, false, false, false, false, false] rfl rfl (take_of HT_.out (by kernel_rfl)) (fun _ _ _ h => h) (Or.inl ⟨by rfl, ?_⟩) hHeld ?_ ?_
 ·rintro w' ⟨s1, s2⟩
  obtain ⟨z0, z1, z2, z3, z4, z5, z6, z7, z8, z9, z10⟩ := tte_Read.cz11 s2
  go_simp
 rotate_left
 ·simp only [ap_]
  rfl
 refine take_ (i := 8) (N := some 17) (v := .agg #[.int .i64 size, .int .i64 f1, .int .u64 f2, .int .u64 f3, .bool b4, .bool b5, .bool b6, .bool b7, .bool b8, .bool b9, .bool b10]) (a' := ?_) #[true, true, true, true, true, true, true, false, true, false, false, false] rfl rfl (take_of HT_.out (by kernel_rfl)) (fun _ _ _ h => h) (Or.inl ⟨by rfl, ?_⟩) hHeld ?_ ?_
 ·rintro w' ⟨s1, s2⟩
  obtain ⟨z0, z1, z2, z3, z4, z5, z6, z7, z8, z9, z10⟩ := tte_Read.cz11 s2
  go_simp
 rotate_left
 ·simp only [ap_]
  rfl
 refine one_ (i := 7) (N := some 16) #[true, true, true, true, true, true, true, true, true, false, false, false] rfl rfl (one_of HT_.out (by kernel_rfl)) (by decide) (fun K hK => ?_)
 refine goes_ Try.func59 (by kernel_rfl) rfl #[.pointer (some ⟨pt, 0, none⟩), .int .u64 f2] (by rfl) rfl rfl (by (try simp only [List.map_toArray, List.map_cons, List.map_nil]); first | done | rfl) ?_
 refine (tat_calls hHeld.1 f2 s HS.out).mono ?_
 rintro x0 wn ⟨rfl, hg⟩
 have hs := And.intro (blk_grown hHeld.1 hg) (blk_grown hHeld.2 hg)
 replace HM := Aside0.mk (HM.out.same hg)
 replace HG := Aside0.mk (grown_two HG.out (grown_but hg (some mb)))
 clear hg
 refine ⟨_, rfl, ?_⟩
 refine hK.out _ _ hs (fun hHeld => ?_)
 clear hK K
 refine norm_ (a' := ?_) ?_ ?_
 rotate_left
 ·show Act.put _ (some 16) _ = _
  simp only [ap_]
  rfl
 refine one_ (i := 9) (N := some 18) #[true, true, true, true, true, true, true, true, true, true, false, false] rfl rfl (one_of HT_.out (by kernel_rfl)) (by decide) (fun K hK => ?_)
 refine goes_ Try.func66 (by kernel_rfl) rfl #[.agg #[.int .i64 size, .int .i64 f1, .int .u64 f2, .int .u64 f3, .bool b4, .bool b5, .bool b6, .bool b7, .bool b8, .bool b9, .bool b10]] (by rfl) rfl rfl (by (try simp only [List.map_toArray, List.map_cons, List.map_nil]); first | done | rfl) ?_
 refine (tte_Tag.calls size f1 f2 f3 b4 b5 b6 b7 b8 b9 b10 d _ HD.out).mono ?_
 rintro x0 wn ⟨rfl, hb⟩
 have hg := below_grown hb
 clear hb
 have hs := And.intro (blk_grown hHeld.1 hg) (blk_grown hHeld.2 hg)
 replace HM := Aside0.mk (HM.out.same hg)
 replace HG := Aside0.mk (grown_two HG.out (grown_but hg (some mb)))
 clear hg
 refine ⟨_, rfl, ?_⟩
 refine hK.out _ _ hs (fun hHeld => ?_)
 clear hK K
 refine norm_ (a' := ?_) ?_ ?_
 rotate_left
 ·show Act.put _ (some 18) _ = _
  simp only [ap_]
  rfl
 refine one_ (i := 10) (N := some 19) #[true, true, true, true, true, true, true, true, true, true, true, false] rfl rfl (one_of HT_.out (by kernel_rfl)) (by decide) (fun K hK => ?_)
 refine goes_ Try.func63 (by kernel_rfl) rfl #[.pointer (some ⟨p, 0, none⟩), .int .u64 s, .int .u64 d] (by rfl) rfl rfl (by (try simp only [List.map_toArray, List.map_cons, List.map_nil]); first | done | rfl) ?_
 refine (putWord_ok HM.out s HA.out d HWD.out HN.out HC.out).mono ?_
 rintro x0 wn ⟨rfl, hM, hg⟩
 have hs : wn.heap[pt]? = some (.cells (TCs p base N size grade) 95 (0, 0)) ∧ wn.heap[g3]? = some (.cells #[.int .i64 size, .int .i64 f1, .int .u64 f2, .int .u64 f3, .bool b4, .bool b5, .bool b6, .bool b7, .bool b8, .bool b9, .bool b10] 50 (0, 0)) := ⟨(hg.block pt (blk_lt hHeld.1) (fun e => HM.out.nb _ _ _ hHeld.1 (Option.some.inj e))).trans hHeld.1, (hg.block g3 (blk_lt hHeld.2) (fun e => HM.out.nb _ _ _ hHeld.2 (Option.some.inj e))).trans hHeld.2⟩
 replace HM := Aside0.mk hM
 replace HG := Aside0.mk (grown_two HG.out hg)
 clear hM hg
 refine ⟨_, rfl, ?_⟩
 refine hK.out _ _ hs (fun hHeld => ?_)
 clear hK K
 refine norm_ (a' := ?_) ?_ ?_
 rotate_left
 ·show Act.put _ (some 19) _ = _
  simp only [ap_]
  rfl
 refine pure_ (i := 11) (N := some 4) (v := ?_) (a' := ?_) #[true, true, true, true, true, true, true, true, true, true, true, true] rfl rfl (any_of HT_.out (by kernel_rfl)) (fun _ _ _ h => h) (Or.inl ⟨by rfl, ?_⟩) ?_ ?_
 rotate_left
 ·intro w'
  go_simp
  with_reducible rfl
 rotate_left
 ·simp only [ap_]
  rfl
 refine done_ (done_of HT_.out (by kernel_rfl)) ?_
 go_wp2
 go_ret
 exact ⟨rfl, HM.out, HG.out⟩
end
end Go.Proofs.Ytjnffegjpkbjmaa.Mem
-- halved
