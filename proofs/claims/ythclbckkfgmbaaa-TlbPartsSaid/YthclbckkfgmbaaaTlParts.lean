/- TlbParts: two entries that may be; at whatever numbers. -/
import Derived.Test.YthclbckkfgmbaaaTlPartsP
namespace Go.Proofs.Ythclbckkfgmbaaa.QTlbPlays
open Go.RowKit Go.Proofs.YthclbckkfgmbaaaW.PrintWords Go.Proofs.YthclbckkfgmbaaaW.PrintLast Go.Proofs.YthclbckkfgmbaaaW.PrintMore
set_option linter.unusedSimpArgs false
set_option linter.unusedVariables false
section
set_option maxHeartbeats 1000000
set_option maxRecDepth 100000
noncomputable def parts15_T : Bool × List (List Nat × List Nat) := rtab .any (opsOf Try.f3 15)
theorem parts15_tab : rtab .any (opsOf Try.f3 15) = parts15_T := rfl
noncomputable def parts16_T : Bool × List (List Nat × List Nat) := rtab .any (opsOf Try.f3 16)
theorem parts16_tab : rtab .any (opsOf Try.f3 16) = parts16_T := rfl
theorem vaAt_wf {x y : Ent} (hx : EntW x) (hy : EntW y) (i : Nat) : (Lit.int .u64 (vaAt x y i)).wf = true := by
  unfold vaAt
  split
  · exact hx.v
  · exact hy.v
structure PtW (x y : Ent) (h5 h6 : Nat) (W wr : World) : Prop where
  grown : W.grownBy wr none
  bx : wr.heap[h5]? = some (.cells (entA x) 26 (0, 0))
  by_ : wr.heap[h6]? = some (.cells (entA y) 26 (0, 0))
theorem PtW.next {x y h5 h6 W wr w2} (h : PtW x y h5 h6 W wr) (hg : wr.grownBy w2 none) : PtW x y h5 h6 W w2 := ⟨grown_two h.grown hg, blk_grown h.bx hg, blk_grown h.by_ hg⟩
structure PtL (x y : Ent) (h5 h6 g : Nat) (W wr : World) : Prop where
  s : PtW x y h5 h6 W wr
  va : ∀ i, i < 2 → wr.cell? ⟨g, i, none⟩ = some (.int .u64 (vaAt x y i))
  cx : ∀ i, i < 2 → wr.cell? ⟨g + 1, i, none⟩ = some (.int .i64 (cxAt x y i))
theorem PtL.next {x y h5 h6 g W wr w2} (h : PtL x y h5 h6 g W wr) (hg : wr.grownBy w2 none) : PtL x y h5 h6 g W w2 := ⟨h.s.next hg, fun i hi => cell_grown (h.va i hi) hg, fun i hi => cell_grown (h.cx i hi) hg⟩
theorem ptl_begin {x y h5 h6 W wn} (h : PtW x y h5 h6 W wn) : PtL x y h5 h6 wn.heap.size W ((wn.alloc (.cells #[.int .u64 x.f2, .int .u64 y.f2] 22)).alloc (.cells #[.int .i64 x.f1, .int .i64 y.f1] 3)) := by
  have h1 := heap_alloc_new wn (.cells #[.int .u64 x.f2, .int .u64 y.f2] 22)
  have h2 := heap_alloc_new (wn.alloc (.cells #[.int .u64 x.f2, .int .u64 y.f2] 22)) (.cells #[.int .i64 x.f1, .int .i64 y.f1] 3)
  rw [World.size_alloc] at h2
  have g2 := World.grownBy_alloc (wn.alloc (.cells #[.int .u64 x.f2, .int .u64 y.f2] 22)) (.cells #[.int .i64 x.f1, .int .i64 y.f1] 3) none
  refine ⟨(h.next (World.grownBy_alloc wn _ none)).next g2, fun i hi => ?_, fun i hi => ?_⟩
  · refine cell_grown ((blk_cell h1 i).trans ?_) g2
    have : i = 0 ∨ i = 1 := by omega
    rcases this with rfl | rfl <;> rfl
  · refine (blk_cell h2 i).trans ?_
    have : i = 0 ∨ i = 1 := by omega
    rcases this with rfl | rfl <;> rfl
theorem tlbParts_calls (a b : Ent) (W : World) (ha : EntW a) (hb : EntW b) : Calls Try.prog 3 #[.agg (entA a), .agg (entA b)] W fun x W' => x = .returned (.bool true) ∧ Below W.heap.size W W' := by
  have hu := Try.underlying26
  have hu2 := Try.underlying24
  have HA := Aside0.mk ha
  have HB := Aside0.mk hb
  clear ha hb
  go_enter Try.func3, Try.ntmps3
  have HG0 := Aside0.mk (grown_two (World.grownBy_alloc W (.cells (entA a) 26) none) (World.grownBy_alloc _ (.cells (entA b) 26) none))
  have HB2 := Aside0.mk (heap_alloc_new (W.alloc (.cells (entA a) 26)) (.cells (entA b) 26))
  go_wp2_with fail
  refine (good_calls HA.out _).mono ?_
  rintro x W1 ⟨rfl, hg⟩
  have HG1 := Aside0.mk (grown_two HG0.out hg)
  have HB3 := Aside0.mk (blk_grown HB2.out hg)
  clear hg
  have HX := Aside0.mk (goodE_W a)
  have HXM := Aside0.mk (may_okS (goodE_may a))
  generalize goodE a = x at HX HXM ⊢
  rw [World.size_alloc] at HB3
  have HG2 := Aside0.mk (grown_two HG1.out (World.grownBy_alloc W1 (.cells (entA x) 26) none))
  have HB4 := Aside0.mk (blk_grown HB3.out (World.grownBy_alloc W1 (.cells (entA x) 26) none))
  have HX4 := Aside0.mk (heap_alloc_new W1 (.cells (entA x) 26))
  obtain ⟨q0, q1, q2, q3, q4, q5, q6, q7, q8, q9, q10⟩ := cz11 HB4.out
  go_wp2_with fail
  refine (good_calls HB.out _).mono ?_
  rintro x2 W2 ⟨rfl, hg⟩
  have HG3 := Aside0.mk (grown_two HG2.out hg)
  have HX5 := Aside0.mk (blk_grown HX4.out hg)
  clear hg HG0 HB2 HG1 HB3 HG2 HB4 HX4 q0 q1 q2 q3 q4 q5 q6 q7 q8 q9 q10
  have HY := Aside0.mk (goodE_W b)
  have HYM := Aside0.mk (may_okS (goodE_may b))
  generalize goodE b = y at HY HYM ⊢
  have HS := Aside0.mk (show PtW x y W1.heap.size W2.heap.size W (W2.alloc (.cells (entA y) 26)) from ⟨grown_two HG3.out (World.grownBy_alloc W2 (.cells (entA y) 26) none), blk_grown HX5.out (World.grownBy_alloc W2 (.cells (entA y) 26) none), heap_alloc_new W2 (.cells (entA y) 26)⟩)
  clear HG3 HX5
  obtain ⟨q0, q1, q2, q3, q4, q5, q6, q7, q8, q9, q10⟩ := cz11 HS.out.bx
  obtain ⟨z0, z1, z2, z3, z4, z5, z6, z7, z8, z9, z10⟩ := cz11 HS.out.by_
  have hpp := parts_comm HXM.out HYM.out
  have HLAW := Aside0.mk (both_law HXM.out HYM.out)
  have HSELF := Aside0.mk (parts_self HXM.out)
  cases hp : partsB x y with
  | true =>
    rw [hp] at hpp HLAW
    have HP := Aside0.mk hp
    have HPY := Aside0.mk hpp.symm
    clear hp hpp
    go_wp2_with fail
    refine (parts_calls HX.out HY.out _).mono ?_
    rintro x0 wn ⟨rfl, hg⟩
    rw [HP.out]
    replace HS := Aside0.mk (HS.out.next hg)
    clear hg q0 q1 q2 q3 q4 q5 q6 q7 q8 q9 q10 z0 z1 z2 z3 z4 z5 z6 z7 z8 z9 z10
    obtain ⟨q0, q1, q2, q3, q4, q5, q6, q7, q8, q9, q10⟩ := cz11 HS.out.bx
    obtain ⟨z0, z1, z2, z3, z4, z5, z6, z7, z8, z9, z10⟩ := cz11 HS.out.by_
    go_wp2_with fail
    refine (rparts_calls HX.out HY.out _).mono ?_
    rintro x0 wn ⟨rfl, hg⟩
    rw [HP.out]
    replace HS := Aside0.mk (HS.out.next hg)
    clear hg q0 q1 q2 q3 q4 q5 q6 q7 q8 q9 q10 z0 z1 z2 z3 z4 z5 z6 z7 z8 z9 z10
    obtain ⟨q0, q1, q2, q3, q4, q5, q6, q7, q8, q9, q10⟩ := cz11 HS.out.bx
    obtain ⟨z0, z1, z2, z3, z4, z5, z6, z7, z8, z9, z10⟩ := cz11 HS.out.by_
    go_wp2_with fail
    refine (parts_calls HY.out HX.out _).mono ?_
    rintro x0 wn ⟨rfl, hg⟩
    rw [HPY.out]
    replace HS := Aside0.mk (HS.out.next hg)
    clear hg q0 q1 q2 q3 q4 q5 q6 q7 q8 q9 q10 z0 z1 z2 z3 z4 z5 z6 z7 z8 z9 z10
    obtain ⟨q0, q1, q2, q3, q4, q5, q6, q7, q8, q9, q10⟩ := cz11 HS.out.bx
    obtain ⟨z0, z1, z2, z3, z4, z5, z6, z7, z8, z9, z10⟩ := cz11 HS.out.by_
    go_wp2_with fail
    refine (parts_calls HX.out HX.out _).mono ?_
    rintro x0 wn ⟨rfl, hg⟩
    rw [HSELF.out]
    replace HS := Aside0.mk (HS.out.next hg)
    clear hg q0 q1 q2 q3 q4 q5 q6 q7 q8 q9 q10 z0 z1 z2 z3 z4 z5 z6 z7 z8 z9 z10
    obtain ⟨q0, q1, q2, q3, q4, q5, q6, q7, q8, q9, q10⟩ := cz11 HS.out.bx
    obtain ⟨z0, z1, z2, z3, z4, z5, z6, z7, z8, z9, z10⟩ := cz11 HS.out.by_
    have r1 := cell_grown q1 (World.grownBy_alloc wn (.cells #[.int .u64 x.f2, .int .u64 y.f2] 22) none)
    have r2 := cell_grown z1 (World.grownBy_alloc wn (.cells #[.int .u64 x.f2, .int .u64 y.f2] 22) none)
    have HL := Aside0.mk (ptl_begin HS.out)
    have HLF := Aside0.mk lives_calls
    go_wp2_with fail
    clear r1 r2 q0 q1 q2 q3 q4 q5 q6 q7 q8 q9 q10 z0 z1 z2 z3 z4 z5 z6 z7 z8 z9 z10 HS
    generalize wn.heap.size = g at HL ⊢
    generalize W1.heap.size = h5 at HL ⊢
    generalize W2.heap.size = h6 at HL ⊢
    go_loopw [8, 11] (fun v8 v11 wr => ∃ i : Nat, v11 = .int .i64 i ∧ i ≤ 2 ∧ v8 = .bool (bothO x y i) ∧ Aside0 (PtL x y h5 h6 g W wr)) (fun _ v11 _ => 2 - (intOf v11).toNat)
    case atStart => exact ⟨0, rfl, by omega, rfl, HL⟩
    case round =>
      clear HL
      obtain ⟨i, rfl, hi, rfl, HL⟩ := hrel
      by_cases hi2 : i < 2
      · have hi2' : (i : Int) < 2 := by omega
        go_wp2_with fail
        have HBS := Aside0.mk (show bothO x y (i + 1) = bothI x y (bothO x y i) i 2 from rfl)
        generalize bothO x y i = b at HBS ⊢
        go_loopw [8, 12] (fun v8 v12 wr => ∃ k : Nat, v12 = .int .i64 k ∧ k ≤ 2 ∧ v8 = .bool (bothI x y b i k) ∧ Aside0 (PtL x y h5 h6 g W wr)) (fun _ v12 _ => 2 - (intOf v12).toNat)
        case atStart => exact ⟨0, rfl, by omega, rfl, HL⟩
        case round =>
          clear HL
          obtain ⟨k, rfl, hk, rfl, HL⟩ := hrel
          by_cases hk2 : k < 2
          · have hk2' : (k : Int) < 2 := by omega
            have HVA := Aside0.mk (vaAt_wf HX.out HY.out i)
            go_wp2_with fail
            refine start_ (n := 11) (S := fun w' => w'.heap[h5]? = some (.cells (entA x) 26 (0, 0)) ∧ w'.cell? ⟨g, i, none⟩ = some (.int .u64 (vaAt x y i)) ∧ w'.cell? ⟨g + 1, k, none⟩ = some (.int .i64 (cxAt x y k))) (ds := []) #[false, false, false, false, false, false, false, false, false, false, false] (by kernel_rfl) rfl rfl ⟨HL.out.s.bx, HL.out.va i hi2, HL.out.cx k hk2⟩ (fun hHeld => ?_)
            refine with_tab parts15_tab (fun HT_ => ?_)
            refine pure_ (i := 1) (N := some 58) (v := ?_) (a' := ?_) #[false, true, false, false, false, false, false, false, false, false, false] rfl rfl (any_of HT_.out (by kernel_rfl)) (fun _ _ _ h => h) (Or.inl ⟨by rfl, ?_⟩) ?_ ?_
            rotate_left
            · intro w'
              go_simp
              with_reducible rfl
            rotate_left
            · simp only [Act.put, List.setIfInBounds_toArray, List.set_cons_zero, List.set_cons_succ, i64_w, i32_w]
              rfl
            refine pure_ (i := 2) (N := some 59) (v := ?_) (a' := ?_) #[false, true, true, false, false, false, false, false, false, false, false] rfl rfl (any_of HT_.out (by kernel_rfl)) (fun _ _ _ h => h) (Or.inl ⟨by rfl, ?_⟩) ?_ ?_
            rotate_left
            · intro w'
              go_simp
              with_reducible rfl
            rotate_left
            · simp only [Act.put, List.setIfInBounds_toArray, List.set_cons_zero, List.set_cons_succ, i64_w, i32_w]
              rfl
            refine pure_ (i := 3) (N := some 60) (v := ?_) (a' := ?_) #[false, true, true, true, false, false, false, false, false, false, false] rfl rfl (any_of HT_.out (by kernel_rfl)) (fun _ _ _ h => h) (Or.inl ⟨by rfl, ?_⟩) ?_ ?_
            rotate_left
            · intro w'
              go_simp
              with_reducible rfl
            rotate_left
            · simp only [Act.put, List.setIfInBounds_toArray, List.set_cons_zero, List.set_cons_succ, i64_w, i32_w]
              rfl
            refine pure_ (i := 5) (N := some 62) (v := ?_) (a' := ?_) #[false, true, true, true, false, true, false, false, false, false, false] rfl rfl (any_of HT_.out (by kernel_rfl)) (fun _ _ _ h => h) (Or.inl ⟨by rfl, ?_⟩) ?_ ?_
            rotate_left
            · intro w'
              go_simp
              with_reducible rfl
            rotate_left
            · simp only [Act.put, List.setIfInBounds_toArray, List.set_cons_zero, List.set_cons_succ, i64_w, i32_w]
              rfl
            refine pure_ (i := 6) (N := some 63) (v := ?_) (a' := ?_) #[false, true, true, true, false, true, true, false, false, false, false] rfl rfl (any_of HT_.out (by kernel_rfl)) (fun _ _ _ h => h) (Or.inl ⟨by rfl, ?_⟩) ?_ ?_
            rotate_left
            · intro w'
              go_simp
              with_reducible rfl
            rotate_left
            · simp only [Act.put, List.setIfInBounds_toArray, List.set_cons_zero, List.set_cons_succ, i64_w, i32_w]
              rfl
            refine pure_ (i := 7) (N := some 64) (v := ?_) (a' := ?_) #[false, true, true, true, false, true, true, true, false, false, false] rfl rfl (any_of HT_.out (by kernel_rfl)) (fun _ _ _ h => h) (Or.inl ⟨by rfl, ?_⟩) ?_ ?_
            rotate_left
            · intro w'
              go_simp
              with_reducible rfl
            rotate_left
            · simp only [Act.put, List.setIfInBounds_toArray, List.set_cons_zero, List.set_cons_succ, i64_w, i32_w]
              rfl
            refine take_ (i := 0) (N := some 57) (v := .agg (entA x)) (a' := ?_) #[true, true, true, true, false, true, true, true, false, false, false] rfl rfl (take_of HT_.out (by kernel_rfl)) (fun _ _ _ h => h) (Or.inl ⟨by rfl, ?_⟩) hHeld ?_ ?_
            · rintro w' ⟨s1, s2, s3⟩
              obtain ⟨q0, q1, q2, q3, q4, q5, q6, q7, q8, q9, q10⟩ := cz11 s1
              go_simp
            rotate_left
            · simp only [Act.put, List.setIfInBounds_toArray, List.set_cons_zero, List.set_cons_succ, i64_w, i32_w]
              rfl
            refine take_ (i := 4) (N := some 61) (v := ?_) (a' := ?_) #[true, true, true, true, true, true, true, true, false, false, false] rfl rfl (take_of HT_.out (by kernel_rfl)) (fun _ _ _ h => h) (Or.inl ⟨by rfl, ?_⟩) hHeld ?_ ?_
            rotate_left
            · rintro w' ⟨s1, s2, s3⟩
              go_simp
              with_reducible rfl
            rotate_left
            · simp only [Act.put, List.setIfInBounds_toArray, List.set_cons_zero, List.set_cons_succ, i64_w, i32_w]
              rfl
            refine take_ (i := 8) (N := some 65) (v := ?_) (a' := ?_) #[true, true, true, true, true, true, true, true, true, false, false] rfl rfl (take_of HT_.out (by kernel_rfl)) (fun _ _ _ h => h) (Or.inl ⟨by rfl, ?_⟩) hHeld ?_ ?_
            rotate_left
            · rintro w' ⟨s1, s2, s3⟩
              go_simp
              with_reducible rfl
            rotate_left
            · simp only [Act.put, List.setIfInBounds_toArray, List.set_cons_zero, List.set_cons_succ, i64_w, i32_w]
              rfl
            refine one_ (i := 9) (N := some 66) #[true, true, true, true, true, true, true, true, true, true, false] rfl rfl (one_of HT_.out (by kernel_rfl)) (by decide) (fun K hK => ?_)
            refine goes_ Try.func16 (by kernel_rfl) rfl #[.agg (entA x), .int .u64 (vaAt x y i), .int .i64 (cxAt x y k)] (by rfl) rfl rfl (by (try simp only [List.map_toArray, List.map_cons, List.map_nil]); first | done | rfl) ?_
            refine (rhits_calls HX.out HVA.out _ _).mono ?_
            rintro x0 wn ⟨rfl, hg⟩
            replace HL := Aside0.mk (HL.out.next (grown_two (grown_drew _ none) hg))
            have hs := And.intro (blk_grown hHeld.1 hg) (And.intro (cell_grown hHeld.2.1 hg) (cell_grown hHeld.2.2 hg))
            clear hg
            refine ⟨_, rfl, ?_⟩
            refine hK.out _ _ hs (fun hHeld => ?_)
            clear hK K
            refine norm_ (a' := ?_) ?_ ?_
            rotate_left
            · show Act.put _ (some 66) _ = _
              simp only [Act.put, List.setIfInBounds_toArray, List.set_cons_zero, List.set_cons_succ, i64_w, i32_w]
              rfl
            refine pure_ (i := 10) (N := some 13) (v := ?_) (a' := ?_) #[true, true, true, true, true, true, true, true, true, true, true] rfl rfl (any_of HT_.out (by kernel_rfl)) (fun _ _ _ h => h) (Or.inl ⟨by rfl, ?_⟩) ?_ ?_
            rotate_left
            · intro w'
              go_simp
              with_reducible rfl
            rotate_left
            · simp only [Act.put, List.setIfInBounds_toArray, List.set_cons_zero, List.set_cons_succ, i64_w, i32_w]
              rfl
            refine done_ (done_of HT_.out (by kernel_rfl)) ?_
            go_wp2_with fail
            refine start_ (n := 11) (S := fun w' => w'.heap[h6]? = some (.cells (entA y) 26 (0, 0)) ∧ w'.cell? ⟨g, i, none⟩ = some (.int .u64 (vaAt x y i)) ∧ w'.cell? ⟨g + 1, k, none⟩ = some (.int .i64 (cxAt x y k))) (ds := []) #[false, false, false, false, false, false, false, false, false, false, false] (by kernel_rfl) rfl rfl ⟨HL.out.s.by_, HL.out.va i hi2, HL.out.cx k hk2⟩ (fun hHeld => ?_)
            refine with_tab parts16_tab (fun HT_ => ?_)
            refine pure_ (i := 1) (N := some 68) (v := ?_) (a' := ?_) #[false, true, false, false, false, false, false, false, false, false, false] rfl rfl (any_of HT_.out (by kernel_rfl)) (fun _ _ _ h => h) (Or.inl ⟨by rfl, ?_⟩) ?_ ?_
            rotate_left
            · intro w'
              go_simp
              with_reducible rfl
            rotate_left
            · simp only [Act.put, List.setIfInBounds_toArray, List.set_cons_zero, List.set_cons_succ, i64_w, i32_w]
              rfl
            refine pure_ (i := 2) (N := some 69) (v := ?_) (a' := ?_) #[false, true, true, false, false, false, false, false, false, false, false] rfl rfl (any_of HT_.out (by kernel_rfl)) (fun _ _ _ h => h) (Or.inl ⟨by rfl, ?_⟩) ?_ ?_
            rotate_left
            · intro w'
              go_simp
              with_reducible rfl
            rotate_left
            · simp only [Act.put, List.setIfInBounds_toArray, List.set_cons_zero, List.set_cons_succ, i64_w, i32_w]
              rfl
            refine pure_ (i := 3) (N := some 70) (v := ?_) (a' := ?_) #[false, true, true, true, false, false, false, false, false, false, false] rfl rfl (any_of HT_.out (by kernel_rfl)) (fun _ _ _ h => h) (Or.inl ⟨by rfl, ?_⟩) ?_ ?_
            rotate_left
            · intro w'
              go_simp
              with_reducible rfl
            rotate_left
            · simp only [Act.put, List.setIfInBounds_toArray, List.set_cons_zero, List.set_cons_succ, i64_w, i32_w]
              rfl
            refine pure_ (i := 5) (N := some 72) (v := ?_) (a' := ?_) #[false, true, true, true, false, true, false, false, false, false, false] rfl rfl (any_of HT_.out (by kernel_rfl)) (fun _ _ _ h => h) (Or.inl ⟨by rfl, ?_⟩) ?_ ?_
            rotate_left
            · intro w'
              go_simp
              with_reducible rfl
            rotate_left
            · simp only [Act.put, List.setIfInBounds_toArray, List.set_cons_zero, List.set_cons_succ, i64_w, i32_w]
              rfl
            refine pure_ (i := 6) (N := some 73) (v := ?_) (a' := ?_) #[false, true, true, true, false, true, true, false, false, false, false] rfl rfl (any_of HT_.out (by kernel_rfl)) (fun _ _ _ h => h) (Or.inl ⟨by rfl, ?_⟩) ?_ ?_
            rotate_left
            · intro w'
              go_simp
              with_reducible rfl
            rotate_left
            · simp only [Act.put, List.setIfInBounds_toArray, List.set_cons_zero, List.set_cons_succ, i64_w, i32_w]
              rfl
            refine pure_ (i := 7) (N := some 74) (v := ?_) (a' := ?_) #[false, true, true, true, false, true, true, true, false, false, false] rfl rfl (any_of HT_.out (by kernel_rfl)) (fun _ _ _ h => h) (Or.inl ⟨by rfl, ?_⟩) ?_ ?_
            rotate_left
            · intro w'
              go_simp
              with_reducible rfl
            rotate_left
            · simp only [Act.put, List.setIfInBounds_toArray, List.set_cons_zero, List.set_cons_succ, i64_w, i32_w]
              rfl
            refine take_ (i := 0) (N := some 67) (v := .agg (entA y)) (a' := ?_) #[true, true, true, true, false, true, true, true, false, false, false] rfl rfl (take_of HT_.out (by kernel_rfl)) (fun _ _ _ h => h) (Or.inl ⟨by rfl, ?_⟩) hHeld ?_ ?_
            · rintro w' ⟨s1, s2, s3⟩
              obtain ⟨q0, q1, q2, q3, q4, q5, q6, q7, q8, q9, q10⟩ := cz11 s1
              go_simp
            rotate_left
            · simp only [Act.put, List.setIfInBounds_toArray, List.set_cons_zero, List.set_cons_succ, i64_w, i32_w]
              rfl
            refine take_ (i := 4) (N := some 71) (v := ?_) (a' := ?_) #[true, true, true, true, true, true, true, true, false, false, false] rfl rfl (take_of HT_.out (by kernel_rfl)) (fun _ _ _ h => h) (Or.inl ⟨by rfl, ?_⟩) hHeld ?_ ?_
            rotate_left
            · rintro w' ⟨s1, s2, s3⟩
              go_simp
              with_reducible rfl
            rotate_left
            · simp only [Act.put, List.setIfInBounds_toArray, List.set_cons_zero, List.set_cons_succ, i64_w, i32_w]
              rfl
            refine take_ (i := 8) (N := some 75) (v := ?_) (a' := ?_) #[true, true, true, true, true, true, true, true, true, false, false] rfl rfl (take_of HT_.out (by kernel_rfl)) (fun _ _ _ h => h) (Or.inl ⟨by rfl, ?_⟩) hHeld ?_ ?_
            rotate_left
            · rintro w' ⟨s1, s2, s3⟩
              go_simp
              with_reducible rfl
            rotate_left
            · simp only [Act.put, List.setIfInBounds_toArray, List.set_cons_zero, List.set_cons_succ, i64_w, i32_w]
              rfl
            refine one_ (i := 9) (N := some 76) #[true, true, true, true, true, true, true, true, true, true, false] rfl rfl (one_of HT_.out (by kernel_rfl)) (by decide) (fun K hK => ?_)
            refine goes_ Try.func16 (by kernel_rfl) rfl #[.agg (entA y), .int .u64 (vaAt x y i), .int .i64 (cxAt x y k)] (by rfl) rfl rfl (by (try simp only [List.map_toArray, List.map_cons, List.map_nil]); first | done | rfl) ?_
            refine (rhits_calls HY.out HVA.out _ _).mono ?_
            rintro x0 wn ⟨rfl, hg⟩
            replace HL := Aside0.mk (HL.out.next (grown_two (grown_drew _ none) hg))
            have hs := And.intro (blk_grown hHeld.1 hg) (And.intro (cell_grown hHeld.2.1 hg) (cell_grown hHeld.2.2 hg))
            clear hg
            refine ⟨_, rfl, ?_⟩
            refine hK.out _ _ hs (fun hHeld => ?_)
            clear hK K
            refine norm_ (a' := ?_) ?_ ?_
            rotate_left
            · show Act.put _ (some 76) _ = _
              simp only [Act.put, List.setIfInBounds_toArray, List.set_cons_zero, List.set_cons_succ, i64_w, i32_w]
              rfl
            refine pure_ (i := 10) (N := some 14) (v := ?_) (a' := ?_) #[true, true, true, true, true, true, true, true, true, true, true] rfl rfl (any_of HT_.out (by kernel_rfl)) (fun _ _ _ h => h) (Or.inl ⟨by rfl, ?_⟩) ?_ ?_
            rotate_left
            · intro w'
              go_simp
              with_reducible rfl
            rotate_left
            · simp only [Act.put, List.setIfInBounds_toArray, List.set_cons_zero, List.set_cons_succ, i64_w, i32_w]
              rfl
            refine done_ (done_of HT_.out (by kernel_rfl)) ?_
            have HBK := Aside0.mk (show bothI x y b i (k + 1) = (bothI x y b i k || (hitsB x (vaAt x y i) (cxAt x y k) && hitsB y (vaAt x y i) (cxAt x y k))) from rfl)
            generalize bothI x y b i k = b0 at HBK ⊢
            generalize hitsB x (vaAt x y i) (cxAt x y k) = b1 at HBK ⊢
            generalize hitsB y (vaAt x y i) (cxAt x y k) = b2 at HBK ⊢
            cases b0 <;> cases b1 <;> cases b2
            all_goals
              go_wp2
              go_roundw
              case rel => exact ⟨k + 1, by go_num, by omega, by rw [HBK.out]; rfl, HL⟩
              case measure => simp [intOf]; omega
          · obtain rfl : k = 2 := by omega
            go_wp2
            go_roundw
            case rel => exact ⟨i + 1, by go_num, by omega, by rw [HBS.out], HL⟩
            case measure => simp [intOf]; omega
      · obtain rfl : i = 2 := by omega
        rw [HLAW.out]
        go_wp2_with fail
        refine (HLF.out _).mono ?_
        rintro x0 wn ⟨rfl, hg⟩
        have HE := Aside0.mk (grown_two HL.out.s.grown hg)
        clear hg
        go_wp2
        go_ret
        exact ⟨rfl, below_of_grown HE.out⟩
  | false =>
    rw [hp] at hpp HLAW
    have HP := Aside0.mk hp
    have HPY := Aside0.mk hpp.symm
    clear hp hpp
    go_wp2_with fail
    refine (parts_calls HX.out HY.out _).mono ?_
    rintro x0 wn ⟨rfl, hg⟩
    rw [HP.out]
    replace HS := Aside0.mk (HS.out.next hg)
    clear hg q0 q1 q2 q3 q4 q5 q6 q7 q8 q9 q10 z0 z1 z2 z3 z4 z5 z6 z7 z8 z9 z10
    obtain ⟨q0, q1, q2, q3, q4, q5, q6, q7, q8, q9, q10⟩ := cz11 HS.out.bx
    obtain ⟨z0, z1, z2, z3, z4, z5, z6, z7, z8, z9, z10⟩ := cz11 HS.out.by_
    go_wp2_with fail
    refine (rparts_calls HX.out HY.out _).mono ?_
    rintro x0 wn ⟨rfl, hg⟩
    rw [HP.out]
    replace HS := Aside0.mk (HS.out.next hg)
    clear hg q0 q1 q2 q3 q4 q5 q6 q7 q8 q9 q10 z0 z1 z2 z3 z4 z5 z6 z7 z8 z9 z10
    obtain ⟨q0, q1, q2, q3, q4, q5, q6, q7, q8, q9, q10⟩ := cz11 HS.out.bx
    obtain ⟨z0, z1, z2, z3, z4, z5, z6, z7, z8, z9, z10⟩ := cz11 HS.out.by_
    go_wp2_with fail
    refine (parts_calls HY.out HX.out _).mono ?_
    rintro x0 wn ⟨rfl, hg⟩
    rw [HPY.out]
    replace HS := Aside0.mk (HS.out.next hg)
    clear hg q0 q1 q2 q3 q4 q5 q6 q7 q8 q9 q10 z0 z1 z2 z3 z4 z5 z6 z7 z8 z9 z10
    obtain ⟨q0, q1, q2, q3, q4, q5, q6, q7, q8, q9, q10⟩ := cz11 HS.out.bx
    obtain ⟨z0, z1, z2, z3, z4, z5, z6, z7, z8, z9, z10⟩ := cz11 HS.out.by_
    go_wp2_with fail
    refine (parts_calls HX.out HX.out _).mono ?_
    rintro x0 wn ⟨rfl, hg⟩
    rw [HSELF.out]
    replace HS := Aside0.mk (HS.out.next hg)
    clear hg q0 q1 q2 q3 q4 q5 q6 q7 q8 q9 q10 z0 z1 z2 z3 z4 z5 z6 z7 z8 z9 z10
    obtain ⟨q0, q1, q2, q3, q4, q5, q6, q7, q8, q9, q10⟩ := cz11 HS.out.bx
    obtain ⟨z0, z1, z2, z3, z4, z5, z6, z7, z8, z9, z10⟩ := cz11 HS.out.by_
    have r1 := cell_grown q1 (World.grownBy_alloc wn (.cells #[.int .u64 x.f2, .int .u64 y.f2] 22) none)
    have r2 := cell_grown z1 (World.grownBy_alloc wn (.cells #[.int .u64 x.f2, .int .u64 y.f2] 22) none)
    have HL := Aside0.mk (ptl_begin HS.out)
    have HLF := Aside0.mk lives_calls
    go_wp2_with fail
    clear r1 r2 q0 q1 q2 q3 q4 q5 q6 q7 q8 q9 q10 z0 z1 z2 z3 z4 z5 z6 z7 z8 z9 z10 HS
    generalize wn.heap.size = g at HL ⊢
    generalize W1.heap.size = h5 at HL ⊢
    generalize W2.heap.size = h6 at HL ⊢
    go_loopw [8, 11] (fun v8 v11 wr => ∃ i : Nat, v11 = .int .i64 i ∧ i ≤ 2 ∧ v8 = .bool (bothO x y i) ∧ Aside0 (PtL x y h5 h6 g W wr)) (fun _ v11 _ => 2 - (intOf v11).toNat)
    case atStart => exact ⟨0, rfl, by omega, rfl, HL⟩
    case round =>
      clear HL
      obtain ⟨i, rfl, hi, rfl, HL⟩ := hrel
      by_cases hi2 : i < 2
      · have hi2' : (i : Int) < 2 := by omega
        go_wp2_with fail
        have HBS := Aside0.mk (show bothO x y (i + 1) = bothI x y (bothO x y i) i 2 from rfl)
        generalize bothO x y i = b at HBS ⊢
        go_loopw [8, 12] (fun v8 v12 wr => ∃ k : Nat, v12 = .int .i64 k ∧ k ≤ 2 ∧ v8 = .bool (bothI x y b i k) ∧ Aside0 (PtL x y h5 h6 g W wr)) (fun _ v12 _ => 2 - (intOf v12).toNat)
        case atStart => exact ⟨0, rfl, by omega, rfl, HL⟩
        case round =>
          clear HL
          obtain ⟨k, rfl, hk, rfl, HL⟩ := hrel
          by_cases hk2 : k < 2
          · have hk2' : (k : Int) < 2 := by omega
            have HVA := Aside0.mk (vaAt_wf HX.out HY.out i)
            go_wp2_with fail
            refine start_ (n := 11) (S := fun w' => w'.heap[h5]? = some (.cells (entA x) 26 (0, 0)) ∧ w'.cell? ⟨g, i, none⟩ = some (.int .u64 (vaAt x y i)) ∧ w'.cell? ⟨g + 1, k, none⟩ = some (.int .i64 (cxAt x y k))) (ds := []) #[false, false, false, false, false, false, false, false, false, false, false] (by kernel_rfl) rfl rfl ⟨HL.out.s.bx, HL.out.va i hi2, HL.out.cx k hk2⟩ (fun hHeld => ?_)
            refine with_tab parts15_tab (fun HT_ => ?_)
            refine pure_ (i := 1) (N := some 58) (v := ?_) (a' := ?_) #[false, true, false, false, false, false, false, false, false, false, false] rfl rfl (any_of HT_.out (by kernel_rfl)) (fun _ _ _ h => h) (Or.inl ⟨by rfl, ?_⟩) ?_ ?_
            rotate_left
            · intro w'
              go_simp
              with_reducible rfl
            rotate_left
            · simp only [Act.put, List.setIfInBounds_toArray, List.set_cons_zero, List.set_cons_succ, i64_w, i32_w]
              rfl
            refine pure_ (i := 2) (N := some 59) (v := ?_) (a' := ?_) #[false, true, true, false, false, false, false, false, false, false, false] rfl rfl (any_of HT_.out (by kernel_rfl)) (fun _ _ _ h => h) (Or.inl ⟨by rfl, ?_⟩) ?_ ?_
            rotate_left
            · intro w'
              go_simp
              with_reducible rfl
            rotate_left
            · simp only [Act.put, List.setIfInBounds_toArray, List.set_cons_zero, List.set_cons_succ, i64_w, i32_w]
              rfl
            refine pure_ (i := 3) (N := some 60) (v := ?_) (a' := ?_) #[false, true, true, true, false, false, false, false, false, false, false] rfl rfl (any_of HT_.out (by kernel_rfl)) (fun _ _ _ h => h) (Or.inl ⟨by rfl, ?_⟩) ?_ ?_
            rotate_left
            · intro w'
              go_simp
              with_reducible rfl
            rotate_left
            · simp only [Act.put, List.setIfInBounds_toArray, List.set_cons_zero, List.set_cons_succ, i64_w, i32_w]
              rfl
            refine pure_ (i := 5) (N := some 62) (v := ?_) (a' := ?_) #[false, true, true, true, false, true, false, false, false, false, false] rfl rfl (any_of HT_.out (by kernel_rfl)) (fun _ _ _ h => h) (Or.inl ⟨by rfl, ?_⟩) ?_ ?_
            rotate_left
            · intro w'
              go_simp
              with_reducible rfl
            rotate_left
            · simp only [Act.put, List.setIfInBounds_toArray, List.set_cons_zero, List.set_cons_succ, i64_w, i32_w]
              rfl
            refine pure_ (i := 6) (N := some 63) (v := ?_) (a' := ?_) #[false, true, true, true, false, true, true, false, false, false, false] rfl rfl (any_of HT_.out (by kernel_rfl)) (fun _ _ _ h => h) (Or.inl ⟨by rfl, ?_⟩) ?_ ?_
            rotate_left
            · intro w'
              go_simp
              with_reducible rfl
            rotate_left
            · simp only [Act.put, List.setIfInBounds_toArray, List.set_cons_zero, List.set_cons_succ, i64_w, i32_w]
              rfl
            refine pure_ (i := 7) (N := some 64) (v := ?_) (a' := ?_) #[false, true, true, true, false, true, true, true, false, false, false] rfl rfl (any_of HT_.out (by kernel_rfl)) (fun _ _ _ h => h) (Or.inl ⟨by rfl, ?_⟩) ?_ ?_
            rotate_left
            · intro w'
              go_simp
              with_reducible rfl
            rotate_left
            · simp only [Act.put, List.setIfInBounds_toArray, List.set_cons_zero, List.set_cons_succ, i64_w, i32_w]
              rfl
            refine take_ (i := 0) (N := some 57) (v := .agg (entA x)) (a' := ?_) #[true, true, true, true, false, true, true, true, false, false, false] rfl rfl (take_of HT_.out (by kernel_rfl)) (fun _ _ _ h => h) (Or.inl ⟨by rfl, ?_⟩) hHeld ?_ ?_
            · rintro w' ⟨s1, s2, s3⟩
              obtain ⟨q0, q1, q2, q3, q4, q5, q6, q7, q8, q9, q10⟩ := cz11 s1
              go_simp
            rotate_left
            · simp only [Act.put, List.setIfInBounds_toArray, List.set_cons_zero, List.set_cons_succ, i64_w, i32_w]
              rfl
            refine take_ (i := 4) (N := some 61) (v := ?_) (a' := ?_) #[true, true, true, true, true, true, true, true, false, false, false] rfl rfl (take_of HT_.out (by kernel_rfl)) (fun _ _ _ h => h) (Or.inl ⟨by rfl, ?_⟩) hHeld ?_ ?_
            rotate_left
            · rintro w' ⟨s1, s2, s3⟩
              go_simp
              with_reducible rfl
            rotate_left
            · simp only [Act.put, List.setIfInBounds_toArray, List.set_cons_zero, List.set_cons_succ, i64_w, i32_w]
              rfl
            refine take_ (i := 8) (N := some 65) (v := ?_) (a' := ?_) #[true, true, true, true, true, true, true, true, true, false, false] rfl rfl (take_of HT_.out (by kernel_rfl)) (fun _ _ _ h => h) (Or.inl ⟨by rfl, ?_⟩) hHeld ?_ ?_
            rotate_left
            · rintro w' ⟨s1, s2, s3⟩
              go_simp
              with_reducible rfl
            rotate_left
            · simp only [Act.put, List.setIfInBounds_toArray, List.set_cons_zero, List.set_cons_succ, i64_w, i32_w]
              rfl
            refine one_ (i := 9) (N := some 66) #[true, true, true, true, true, true, true, true, true, true, false] rfl rfl (one_of HT_.out (by kernel_rfl)) (by decide) (fun K hK => ?_)
            refine goes_ Try.func16 (by kernel_rfl) rfl #[.agg (entA x), .int .u64 (vaAt x y i), .int .i64 (cxAt x y k)] (by rfl) rfl rfl (by (try simp only [List.map_toArray, List.map_cons, List.map_nil]); first | done | rfl) ?_
            refine (rhits_calls HX.out HVA.out _ _).mono ?_
            rintro x0 wn ⟨rfl, hg⟩
            replace HL := Aside0.mk (HL.out.next (grown_two (grown_drew _ none) hg))
            have hs := And.intro (blk_grown hHeld.1 hg) (And.intro (cell_grown hHeld.2.1 hg) (cell_grown hHeld.2.2 hg))
            clear hg
            refine ⟨_, rfl, ?_⟩
            refine hK.out _ _ hs (fun hHeld => ?_)
            clear hK K
            refine norm_ (a' := ?_) ?_ ?_
            rotate_left
            · show Act.put _ (some 66) _ = _
              simp only [Act.put, List.setIfInBounds_toArray, List.set_cons_zero, List.set_cons_succ, i64_w, i32_w]
              rfl
            refine pure_ (i := 10) (N := some 13) (v := ?_) (a' := ?_) #[true, true, true, true, true, true, true, true, true, true, true] rfl rfl (any_of HT_.out (by kernel_rfl)) (fun _ _ _ h => h) (Or.inl ⟨by rfl, ?_⟩) ?_ ?_
            rotate_left
            · intro w'
              go_simp
              with_reducible rfl
            rotate_left
            · simp only [Act.put, List.setIfInBounds_toArray, List.set_cons_zero, List.set_cons_succ, i64_w, i32_w]
              rfl
            refine done_ (done_of HT_.out (by kernel_rfl)) ?_
            go_wp2_with fail
            refine start_ (n := 11) (S := fun w' => w'.heap[h6]? = some (.cells (entA y) 26 (0, 0)) ∧ w'.cell? ⟨g, i, none⟩ = some (.int .u64 (vaAt x y i)) ∧ w'.cell? ⟨g + 1, k, none⟩ = some (.int .i64 (cxAt x y k))) (ds := []) #[false, false, false, false, false, false, false, false, false, false, false] (by kernel_rfl) rfl rfl ⟨HL.out.s.by_, HL.out.va i hi2, HL.out.cx k hk2⟩ (fun hHeld => ?_)
            refine with_tab parts16_tab (fun HT_ => ?_)
            refine pure_ (i := 1) (N := some 68) (v := ?_) (a' := ?_) #[false, true, false, false, false, false, false, false, false, false, false] rfl rfl (any_of HT_.out (by kernel_rfl)) (fun _ _ _ h => h) (Or.inl ⟨by rfl, ?_⟩) ?_ ?_
            rotate_left
            · intro w'
              go_simp
              with_reducible rfl
            rotate_left
            · simp only [Act.put, List.setIfInBounds_toArray, List.set_cons_zero, List.set_cons_succ, i64_w, i32_w]
              rfl
            refine pure_ (i := 2) (N := some 69) (v := ?_) (a' := ?_) #[false, true, true, false, false, false, false, false, false, false, false] rfl rfl (any_of HT_.out (by kernel_rfl)) (fun _ _ _ h => h) (Or.inl ⟨by rfl, ?_⟩) ?_ ?_
            rotate_left
            · intro w'
              go_simp
              with_reducible rfl
            rotate_left
            · simp only [Act.put, List.setIfInBounds_toArray, List.set_cons_zero, List.set_cons_succ, i64_w, i32_w]
              rfl
            refine pure_ (i := 3) (N := some 70) (v := ?_) (a' := ?_) #[false, true, true, true, false, false, false, false, false, false, false] rfl rfl (any_of HT_.out (by kernel_rfl)) (fun _ _ _ h => h) (Or.inl ⟨by rfl, ?_⟩) ?_ ?_
            rotate_left
            · intro w'
              go_simp
              with_reducible rfl
            rotate_left
            · simp only [Act.put, List.setIfInBounds_toArray, List.set_cons_zero, List.set_cons_succ, i64_w, i32_w]
              rfl
            refine pure_ (i := 5) (N := some 72) (v := ?_) (a' := ?_) #[false, true, true, true, false, true, false, false, false, false, false] rfl rfl (any_of HT_.out (by kernel_rfl)) (fun _ _ _ h => h) (Or.inl ⟨by rfl, ?_⟩) ?_ ?_
            rotate_left
            · intro w'
              go_simp
              with_reducible rfl
            rotate_left
            · simp only [Act.put, List.setIfInBounds_toArray, List.set_cons_zero, List.set_cons_succ, i64_w, i32_w]
              rfl
            refine pure_ (i := 6) (N := some 73) (v := ?_) (a' := ?_) #[false, true, true, true, false, true, true, false, false, false, false] rfl rfl (any_of HT_.out (by kernel_rfl)) (fun _ _ _ h => h) (Or.inl ⟨by rfl, ?_⟩) ?_ ?_
            rotate_left
            · intro w'
              go_simp
              with_reducible rfl
            rotate_left
            · simp only [Act.put, List.setIfInBounds_toArray, List.set_cons_zero, List.set_cons_succ, i64_w, i32_w]
              rfl
            refine pure_ (i := 7) (N := some 74) (v := ?_) (a' := ?_) #[false, true, true, true, false, true, true, true, false, false, false] rfl rfl (any_of HT_.out (by kernel_rfl)) (fun _ _ _ h => h) (Or.inl ⟨by rfl, ?_⟩) ?_ ?_
            rotate_left
            · intro w'
              go_simp
              with_reducible rfl
            rotate_left
            · simp only [Act.put, List.setIfInBounds_toArray, List.set_cons_zero, List.set_cons_succ, i64_w, i32_w]
              rfl
            refine take_ (i := 0) (N := some 67) (v := .agg (entA y)) (a' := ?_) #[true, true, true, true, false, true, true, true, false, false, false] rfl rfl (take_of HT_.out (by kernel_rfl)) (fun _ _ _ h => h) (Or.inl ⟨by rfl, ?_⟩) hHeld ?_ ?_
            · rintro w' ⟨s1, s2, s3⟩
              obtain ⟨q0, q1, q2, q3, q4, q5, q6, q7, q8, q9, q10⟩ := cz11 s1
              go_simp
            rotate_left
            · simp only [Act.put, List.setIfInBounds_toArray, List.set_cons_zero, List.set_cons_succ, i64_w, i32_w]
              rfl
            refine take_ (i := 4) (N := some 71) (v := ?_) (a' := ?_) #[true, true, true, true, true, true, true, true, false, false, false] rfl rfl (take_of HT_.out (by kernel_rfl)) (fun _ _ _ h => h) (Or.inl ⟨by rfl, ?_⟩) hHeld ?_ ?_
            rotate_left
            · rintro w' ⟨s1, s2, s3⟩
              go_simp
              with_reducible rfl
            rotate_left
            · simp only [Act.put, List.setIfInBounds_toArray, List.set_cons_zero, List.set_cons_succ, i64_w, i32_w]
              rfl
            refine take_ (i := 8) (N := some 75) (v := ?_) (a' := ?_) #[true, true, true, true, true, true, true, true, true, false, false] rfl rfl (take_of HT_.out (by kernel_rfl)) (fun _ _ _ h => h) (Or.inl ⟨by rfl, ?_⟩) hHeld ?_ ?_
            rotate_left
            · rintro w' ⟨s1, s2, s3⟩
              go_simp
              with_reducible rfl
            rotate_left
            · simp only [Act.put, List.setIfInBounds_toArray, List.set_cons_zero, List.set_cons_succ, i64_w, i32_w]
              rfl
            refine one_ (i := 9) (N := some 76) #[true, true, true, true, true, true, true, true, true, true, false] rfl rfl (one_of HT_.out (by kernel_rfl)) (by decide) (fun K hK => ?_)
            refine goes_ Try.func16 (by kernel_rfl) rfl #[.agg (entA y), .int .u64 (vaAt x y i), .int .i64 (cxAt x y k)] (by rfl) rfl rfl (by (try simp only [List.map_toArray, List.map_cons, List.map_nil]); first | done | rfl) ?_
            refine (rhits_calls HY.out HVA.out _ _).mono ?_
            rintro x0 wn ⟨rfl, hg⟩
            replace HL := Aside0.mk (HL.out.next (grown_two (grown_drew _ none) hg))
            have hs := And.intro (blk_grown hHeld.1 hg) (And.intro (cell_grown hHeld.2.1 hg) (cell_grown hHeld.2.2 hg))
            clear hg
            refine ⟨_, rfl, ?_⟩
            refine hK.out _ _ hs (fun hHeld => ?_)
            clear hK K
            refine norm_ (a' := ?_) ?_ ?_
            rotate_left
            · show Act.put _ (some 76) _ = _
              simp only [Act.put, List.setIfInBounds_toArray, List.set_cons_zero, List.set_cons_succ, i64_w, i32_w]
              rfl
            refine pure_ (i := 10) (N := some 14) (v := ?_) (a' := ?_) #[true, true, true, true, true, true, true, true, true, true, true] rfl rfl (any_of HT_.out (by kernel_rfl)) (fun _ _ _ h => h) (Or.inl ⟨by rfl, ?_⟩) ?_ ?_
            rotate_left
            · intro w'
              go_simp
              with_reducible rfl
            rotate_left
            · simp only [Act.put, List.setIfInBounds_toArray, List.set_cons_zero, List.set_cons_succ, i64_w, i32_w]
              rfl
            refine done_ (done_of HT_.out (by kernel_rfl)) ?_
            have HBK := Aside0.mk (show bothI x y b i (k + 1) = (bothI x y b i k || (hitsB x (vaAt x y i) (cxAt x y k) && hitsB y (vaAt x y i) (cxAt x y k))) from rfl)
            generalize bothI x y b i k = b0 at HBK ⊢
            generalize hitsB x (vaAt x y i) (cxAt x y k) = b1 at HBK ⊢
            generalize hitsB y (vaAt x y i) (cxAt x y k) = b2 at HBK ⊢
            cases b0 <;> cases b1 <;> cases b2
            all_goals
              go_wp2
              go_roundw
              case rel => exact ⟨k + 1, by go_num, by omega, by rw [HBK.out]; rfl, HL⟩
              case measure => simp [intOf]; omega
          · obtain rfl : k = 2 := by omega
            go_wp2
            go_roundw
            case rel => exact ⟨i + 1, by go_num, by omega, by rw [HBS.out], HL⟩
            case measure => simp [intOf]; omega
      · obtain rfl : i = 2 := by omega
        rw [HLAW.out]
        go_wp2_with fail
        refine (HLF.out _).mono ?_
        rintro x0 wn ⟨rfl, hg⟩
        have HE := Aside0.mk (grown_two HL.out.s.grown hg)
        clear hg
        go_wp2
        go_ret
        exact ⟨rfl, below_of_grown HE.out⟩
end
end Go.Proofs.Ythclbckkfgmbaaa.QTlbPlays
