-- Taken out of a text that a program of this session printed (wip/print/myprint.py, wip/print/take.py); Lean checks it.
import Derived.Test.YthclbckkfgmbaaaQRegsPlaysx0
import Derived.Test.YthclbckkfgmbaaaQRegsPlaysx1
namespace Go.Proofs.Ythclbckkfgmbaaa.QRegsPlays
open Go.RowKit Go.Proofs.YthclbckkfgmbaaaW.PrintWords Go.Proofs.YthclbckkfgmbaaaW.PrintLast Go.Proofs.YthclbckkfgmbaaaW.PrintMore
attribute [local go_sem] max2_int min2_int max_two min_two max_three min_three max_four min_four   -- for this text's walks alone
set_option linter.unusedVariables false
set_option linter.unusedSimpArgs false
theorem bb5_ {w2 w' : World} {g : Nat} {o : Obj} (hb : Below w2.heap.size w2 w') (h : w2.heap[g]? = some o) : w'.heap[g]? = some o := blk_below h hb
attribute [local go_sem high] eqA113
/-! ### regs_keys: function 98 -/
def regs_keys.f  : Option ((List (S113))) := some (([(⟨80, 0⟩ : S113), (⟨80, 24⟩ : S113), (⟨80, 40⟩ : S113), (⟨80, 48⟩ : S113), (⟨88, 0⟩ : S113), (⟨88, 8⟩ : S113), (⟨88, 16⟩ : S113), (⟨88, 24⟩ : S113), (⟨88, 32⟩ : S113), (⟨88, 40⟩ : S113), (⟨88, 48⟩ : S113)] : List (S113)))
set_option maxHeartbeats 8000000 in
set_option maxRecDepth 100000 in
theorem regs_keys.calls  (r : List (S113)) (w : World) (h : regs_keys.f  = some r) :
    Calls Try.prog 98 #[] w fun e w' => ∃ v0_ : Value, e = .returned (v0_) ∧ Kd.R k113 113 w' w.heap.size (fun _ => True) v0_ r ∧ Below w.heap.size w w' := by
  have hu113 := Try.underlying113
  have HB := Aside0.mk (Below.refl w.heap.size w)
  have H : (some (([(⟨80, 0⟩ : S113), (⟨80, 24⟩ : S113), (⟨80, 40⟩ : S113), (⟨80, 48⟩ : S113), (⟨88, 0⟩ : S113), (⟨88, 8⟩ : S113), (⟨88, 16⟩ : S113), (⟨88, 24⟩ : S113), (⟨88, 32⟩ : S113), (⟨88, 40⟩ : S113), (⟨88, 48⟩ : S113)] : List (S113)))) = some r := h
  clear h
  obtain ⟨y101, hy101⟩ : ∃ y_ : List (S113), y_ = (([(⟨80, 0⟩ : S113), (⟨80, 24⟩ : S113), (⟨80, 40⟩ : S113), (⟨80, 48⟩ : S113), (⟨88, 0⟩ : S113), (⟨88, 8⟩ : S113), (⟨88, 16⟩ : S113), (⟨88, 24⟩ : S113), (⟨88, 32⟩ : S113), (⟨88, 40⟩ : S113), (⟨88, 48⟩ : S113)] : List (S113))) := ⟨_, rfl⟩
  replace H : (some y101) = some r := by first | (rw [hy101]; with_reducible exact H) | (have H2_ := (Option.bind_some _ _).symm.trans H; rw [hy101]; with_reducible exact H2_) | (have H2_ := (Option.bind_some _ _).symm.trans H; with_reducible exact H2_) | with_reducible exact H | (rw [hy101]; exact H) | exact H
  have Ny101 := Aside0.mk hy101
  clear hy101
  obtain rfl := Option.some.inj H
  go_enter Try.func98, Try.ntmps98
  go_wp2_with (first | ((with_reducible refine gate_dst (N := 12) rfl ?_); refine Kd.R_lit k113 _ 113 ?hg (N := 12) ?hd (xs := ([(⟨80, 0⟩ : S113), (⟨80, 24⟩ : S113), (⟨80, 40⟩ : S113), (⟨80, 48⟩ : S113), (⟨88, 0⟩ : S113), (⟨88, 8⟩ : S113), (⟨88, 16⟩ : S113), (⟨88, 24⟩ : S113), (⟨88, 32⟩ : S113), (⟨88, 40⟩ : S113), (⟨88, 48⟩ : S113)] : List (S113))) (inner := [.int .i64 80, .int .u64 0, .int .i64 80, .int .u64 24, .int .i64 80, .int .u64 40, .int .i64 80, .int .u64 48, .int .i64 88, .int .u64 0, .int .i64 88, .int .u64 8, .int .i64 88, .int .u64 16, .int .i64 88, .int .u64 24, .int .i64 88, .int .u64 32, .int .i64 88, .int .u64 40, .int .i64 88, .int .u64 48]) (ok := fun _ => True) (okp := fun _ => True) ?hr ?hp (fun _ hk => hk) trivial (Below.refl _ _) (Nat.le_refl _) (by simp) ?_; (case hd => rfl); (case hg => rfl); (case hr => first | (go_simp; done) | (go_simp; rfl)); (case hp => exact (Reps.c2 (show Kd.M k113 _ _ _ (⟨80, 0⟩ : S113) [.int .i64 80, .int .u64 0] from (k113_mkM _ _ _ (⟨80, 0⟩ : S113) )) (Reps.c2 (show Kd.M k113 _ _ _ (⟨80, 24⟩ : S113) [.int .i64 80, .int .u64 24] from (k113_mkM _ _ _ (⟨80, 24⟩ : S113) )) (Reps.c2 (show Kd.M k113 _ _ _ (⟨80, 40⟩ : S113) [.int .i64 80, .int .u64 40] from (k113_mkM _ _ _ (⟨80, 40⟩ : S113) )) (Reps.c2 (show Kd.M k113 _ _ _ (⟨80, 48⟩ : S113) [.int .i64 80, .int .u64 48] from (k113_mkM _ _ _ (⟨80, 48⟩ : S113) )) (Reps.c2 (show Kd.M k113 _ _ _ (⟨88, 0⟩ : S113) [.int .i64 88, .int .u64 0] from (k113_mkM _ _ _ (⟨88, 0⟩ : S113) )) (Reps.c2 (show Kd.M k113 _ _ _ (⟨88, 8⟩ : S113) [.int .i64 88, .int .u64 8] from (k113_mkM _ _ _ (⟨88, 8⟩ : S113) )) (Reps.c2 (show Kd.M k113 _ _ _ (⟨88, 16⟩ : S113) [.int .i64 88, .int .u64 16] from (k113_mkM _ _ _ (⟨88, 16⟩ : S113) )) (Reps.c2 (show Kd.M k113 _ _ _ (⟨88, 24⟩ : S113) [.int .i64 88, .int .u64 24] from (k113_mkM _ _ _ (⟨88, 24⟩ : S113) )) (Reps.c2 (show Kd.M k113 _ _ _ (⟨88, 32⟩ : S113) [.int .i64 88, .int .u64 32] from (k113_mkM _ _ _ (⟨88, 32⟩ : S113) )) (Reps.c2 (show Kd.M k113 _ _ _ (⟨88, 40⟩ : S113) [.int .i64 88, .int .u64 40] from (k113_mkM _ _ _ (⟨88, 40⟩ : S113) )) (Reps.c2 (show Kd.M k113 _ _ _ (⟨88, 48⟩ : S113) [.int .i64 88, .int .u64 48] from (k113_mkM _ _ _ (⟨88, 48⟩ : S113) )) (Reps.none _ _))))))))))))); intro v102 w1 ho2 hb hg_ hnew_; clear hg_ hnew_; (first | rw [← Ny101.out] at ho2 | (simp only [Int.reduceToNat] at ho2; rw [← Ny101.out] at ho2)); have n0_ := Aside0.mk (Kd.R_lower ho2 (below_size (by repeat (first | (with_reducible first | exact HB.out | apply below_alloc | apply pw_below_drewN | apply below_drew1) | exact HB.out)))); have n1_ := Aside0.mk (below_step (by repeat (first | (with_reducible first | exact HB.out | apply below_alloc | apply pw_below_drewN | apply below_drew1) | exact HB.out)) hb); clear HB; have HO103 := n0_; have HB := n1_; clear n0_ n1_; clear hb ho2))
  go_ret
  exact ⟨_, by first | rfl | (simp [errW_none, errW_some] <;> rfl) | (simp [*, errW_none, errW_some] <;> rfl), by (with_reducible repeat (first | apply Kd.R_alloc | apply Kd.R_drewN | apply Kd.R_drew)); exact HO103.out, by repeat (first | (with_reducible first | exact HB.out | apply below_alloc | apply pw_below_drewN | apply below_drew1) | exact HB.out)⟩
/-! ### regs_there: function 77 -/
def regs_there.l0 : Nat → List (S113) → Int → Int → Int → Int → Option (Bool)
  | 0, _, _, _, _, _ => none
  | k + 1, x5, x6, x7, x105000, x105001 => if x7 < x6 then (if 0 ≤ x7 then (if x7 < (x5.length : Int) then (if (((rd_T113 x5 x7).f0) == x105000 && (((rd_T113 x5 x7).f1) == x105001)) = true then (some true) else (regs_there.l0 k x5 x6 (wrap64 (x7 + 1)) x105000 x105001)) else (none)) else (none)) else (some false)
def regs_there.f (k : Nat) (a0_0 : Int) (a0_1 : Int) : Option (Bool) := (regs_keys.f).bind fun t105 => (regs_there.l0 k t105 (t105.length : Int) 0 a0_0 a0_1)
theorem regs_there.mono_l : ∀ k, (∀ y0 y1 y2 y3 y4, LeO (regs_there.l0 k y0 y1 y2 y3 y4) (regs_there.l0 (k + 1) y0 y1 y2 y3 y4))
  | 0 => fun _ _ _ _ _ r h => by simp [regs_there.l0] at h
  | k + 1 => by
    have ih0 := regs_there.mono_l k
    · intro y0 y1 y2 y3 y4
      unfold regs_there.l0
      repeat' first
      | (with_reducible exact ih0 _ _ _ _ _)
      | (with_reducible exact LeO.refl _)
      | (with_reducible exact LeO.none _)
      | (with_reducible refine LeO.ite ?_ ?_)
      | (with_reducible refine LeO.bind ?_ (fun _ => ?_))
      | exact ih0 _ _ _ _ _
      | exact LeO.none _
      | refine LeO.ite ?_ ?_
      | refine LeO.bind ?_ (fun _ => ?_)
theorem regs_there.mono : ∀ a0 a1 k, LeO (regs_there.f k a0 a1) (regs_there.f (k + 1) a0 a1) := by
  intro a0 a1 k
  have ih0 := regs_there.mono_l k
  unfold regs_there.f
  repeat' first
      | (with_reducible exact ih0 _ _ _ _ _)
      | (with_reducible exact LeO.refl _)
      | (with_reducible exact LeO.none _)
      | (with_reducible refine LeO.ite ?_ ?_)
      | (with_reducible refine LeO.bind ?_ (fun _ => ?_))
      | exact ih0 _ _ _ _ _
      | exact LeO.none _
      | refine LeO.ite ?_ ?_
      | refine LeO.bind ?_ (fun _ => ?_)
set_option maxHeartbeats 8000000 in
set_option maxRecDepth 100000 in
theorem regs_there.calls (k : Nat) (a0_0 : Int) (a0_1 : Int) (r : Bool) (w : World) (h : regs_there.f k a0_0 a0_1 = some r) :
    Calls Try.prog 77 #[.agg #[.int .i64 a0_0, .int .u64 a0_1]] w fun e w' => e = .returned (.bool r) ∧ Below w.heap.size w w' := by
  have hu113 := Try.underlying113
  have HB := Aside0.mk (Below.refl w.heap.size w)
  have H : ((regs_keys.f).bind fun t105 => (regs_there.l0 k t105 (t105.length : Int) 0 a0_0 a0_1)) = some r := h
  clear h
  replace H := Option.bind_eq_some_iff.mp H
  obtain ⟨t105, A20, H⟩ := H
  replace H : (regs_there.l0 k t105 (t105.length : Int) 0 a0_0 a0_1) = some r := H
  have A2 := Aside0.mk A20
  clear A20
  have H' := Aside0.mk H
  clear H
  go_enter Try.func77, Try.ntmps77
  go_wp2_with (first | ((with_reducible refine gate_dst (N := 1) rfl ?_); refine box_event ?hg (N := 1) ?hd (cs := #[.int .i64 a0_0, .int .u64 a0_1]) (t := 113) ?hr ?_; (case hd => rfl); (case hg => rfl); (case hr => first | (go_simp; done) | (go_simp; rfl)); intro gb104 hg w3 hbox hb; have n0_ := Aside0.mk (below_step (by repeat (first | (with_reducible first | exact HB.out | apply below_alloc | apply pw_below_drewN | apply below_drew1) | exact HB.out)) hb); have n1_ := Aside0.mk (hbox); have n2_ := Aside0.mk ((by rw [hg]; exact (below_size (by repeat (first | (with_reducible first | exact HB.out | apply below_alloc | apply pw_below_drewN | apply below_drew1) | exact HB.out))) : w.heap.size ≤ gb104)); have n3_ := Aside0.mk ((by rw [hg]; exact (below_size (by repeat (first | (with_reducible first | exact HB.out | apply below_alloc | apply pw_below_drewN | apply below_drew1) | exact HB.out))) : w.heap.size ≤ gb104)); clear HB; have HB := n0_; have BK104 := n1_; have GW104 := n2_; have GE104 := n3_; clear n0_ n1_ n2_ n3_; clear hb hbox hg) | ((with_reducible refine gate_callee (f := 98) rfl ?_); refine goesL_ (some 5) rfl rfl Try.func98 (by kernel_rfl) rfl #[] rfl (by (try simp only [List.map_toArray, List.map_cons, List.map_nil]); first | done | rfl | (simp only [List.length_drop, List.length_take]; rfl)) ?_; (with_reducible refine (regs_keys.calls  t105 _ A2.out).mono ?_); rintro e w4 ⟨v106, rfl, ho0, hb⟩; refine ⟨_, rfl, ?_⟩; have n0_ := Aside0.mk (Kd.R_lower (Kd.R_newB ho0 (g := gb104) (o := .cells #[.int .i64 a0_0, .int .u64 a0_1] 113 (0, 0)) (by (with_reducible repeat (first | refine blk_drewN ?_ _ | refine blk_drew ?_ | refine blk_alloc ?_ _)); exact BK104.out)) (below_size (by repeat (first | (with_reducible first | exact HB.out | apply below_alloc | apply pw_below_drewN | apply below_drew1 | refine below_set ?_ GE104.out) | exact HB.out)))); have n1_ := Aside0.mk (bb5_ hb BK104.out); have n2_ := Aside0.mk (below_step (by repeat (first | (with_reducible first | exact HB.out | apply below_alloc | apply pw_below_drewN | apply below_drew1 | refine below_set ?_ GE104.out) | exact HB.out)) hb); clear BK104; clear HB; have HO107 := n0_; have BK104 := n1_; have HB := n2_; clear n0_ n1_ n2_; (try clear hb); (try clear hb2); (try clear hk); (try clear hi); (try clear ho0); obtain ⟨Ao5, co5, eo5⟩ := Kd.R_slice HO107.out; subst eo5))
  go_loopg [7] k (fun kq v7 w' => ∃ (x7_1 : Int), v7 = .int .i64 x7_1 ∧ Aside0 (regs_there.l0 kq t105 (t105.length : Int) x7_1 a0_0 a0_1 = some r) ∧ Aside0 (kq ≤ k) ∧ Aside0 (Kd.R k113 113 w' w.heap.size (fun k_ => k_ ≠ gb104) (.slice Ao5 t105.length co5) t105) ∧ Aside0 (w'.heap[gb104]? = some (.cells #[.int .i64 a0_0, .int .u64 a0_1] 113 (0, 0))) ∧ Aside0 (Below w.heap.size w w'))
  case atStart => exact ⟨(0), (by first | rfl | (simp; done) | (simp [*]; done)), H', ⟨Nat.le_refl _⟩, ⟨by (with_reducible repeat (first | apply Kd.R_alloc | apply Kd.R_drewN | apply Kd.R_drew)); exact Kd.R_mono HO107.out (fun _ hk => hk.2)⟩, ⟨by (with_reducible repeat (first | refine blk_drewN ?_ _ | refine blk_drew ?_ | refine blk_alloc ?_ _)); exact BK104.out⟩, ⟨by repeat (first | (with_reducible first | exact HB.out | apply below_alloc | apply pw_below_drewN | apply below_drew1 | refine below_set ?_ GE104.out) | exact HB.out)⟩⟩
  case round =>
    clear H'
    try clear p2
    obtain ⟨x7_1, rfl, HA, HK1, HO_5, BK104, HB⟩ := hrel
    cases gk with
    | zero => exact absurd HA.out (by simp [regs_there.l0])
    | succ k1 =>
      have H := HA.out
      clear HA
      simp only [regs_there.l0] at H
      by_cases c6 : x7_1 < (t105.length : Int)
      · rw [if_pos c6] at H
        have c6b0 : decide (x7_1 < (t105.length : Int)) = true := decide_eq_true c6
        clear c6
        by_cases c7 : 0 ≤ x7_1
        · rw [if_pos c7] at H
          have c7b0 : decide (0 ≤ x7_1) = true := decide_eq_true c7
          clear c7
          by_cases c8 : x7_1 < (t105.length : Int)
          · rw [if_pos c8] at H
            have c8b0 : decide (x7_1 < (t105.length : Int)) = true := decide_eq_true c8
            clear c8
            by_cases c9 : (((rd_T113 t105 x7_1).f0) == a0_0 && (((rd_T113 t105 x7_1).f1) == a0_1)) = true
            · rw [if_pos c9] at H
              have c9b0 : (((rd_T113 t105 x7_1).f0) == a0_0 && (((rd_T113 t105 x7_1).f1) == a0_1)) = true := c9
              (try (have c9b1 : decide (((rd_T113 t105 x7_1).f0) = a0_0 && (((rd_T113 t105 x7_1).f1) == a0_1)) = true := by simpa using c9))
              (try (have c9b2 : (((rd_T113 t105 x7_1).f0) == a0_0 && (((rd_T113 t105 x7_1).f1) == a0_1)) = true := by simpa using c9))
              clear c9
              obtain rfl := Option.some.inj H
              have p108 : 0 ≤ (x7_1 : Int) := of_decide_eq_true (by first | (with_reducible assumption) | assumption)
              have q108 : x7_1 < (t105.length : Int) := of_decide_eq_true (by first | (with_reducible assumption) | assumption)
              obtain ⟨ad108, e108, hx108_0, hx108_1⟩ := at_T113 (Kd.R_reads' HO_5.out).2.2 x7_1 p108 q108
              cases e108
              replace p108 := eq_true p108
              replace q108 := eq_true q108
              go_wp2_with (first | ((with_reducible refine gate_dst (N := 4) rfl ?_); refine box_event ?hg (N := 4) ?hd (cs := #[.int .i64 0, .int .u64 0]) (t := 113) ?hr ?_; (case hd => rfl); (case hg => rfl); (case hr => first | (go_simp; done) | (go_simp; rfl)); intro gb109 hg w10 hbox hb; have n0_ := Aside0.mk (Kd.R_below (Kd.R_elderB (by (with_reducible repeat (first | apply Kd.R_alloc | apply Kd.R_drewN | apply Kd.R_drew)); exact HO_5.out) gb109 (Nat.le_of_eq hg.symm)) hb); have n1_ := Aside0.mk (bb5_ hb BK104.out); have n2_ := Aside0.mk (below_step (by repeat (first | (with_reducible first | exact HB.out | apply below_alloc | apply pw_below_drewN | apply below_drew1 | refine below_set ?_ GE104.out) | exact HB.out)) hb); have n3_ := Aside0.mk (hbox); have n4_ := Aside0.mk ((by rw [hg]; exact (below_size (by repeat (first | (with_reducible first | exact HB.out | apply below_alloc | apply pw_below_drewN | apply below_drew1 | refine below_set ?_ GE104.out) | exact HB.out))) : w.heap.size ≤ gb109)); have n5_ := Aside0.mk ((by rw [hg]; exact (below_size (by repeat (first | (with_reducible first | exact HB.out | apply below_alloc | apply pw_below_drewN | apply below_drew1 | refine below_set ?_ GE104.out) | exact HB.out))) : w.heap.size ≤ gb109)); have n6_ := Aside0.mk ((by rw [hg]; exact Nat.ne_of_lt (blk_lt BK104.out) : gb104 ≠ gb109)); have n7_ := Aside0.mk ((by rw [hg]; exact Nat.ne_of_gt (blk_lt BK104.out) : gb109 ≠ gb104)); clear HO_5; clear BK104; clear HB; have HO_5 := n0_; have BK104 := n1_; have HB := n2_; have BK109 := n3_; have GW109 := n4_; have GE109 := n5_; have NB104_109 := n6_; have NB109_104 := n7_; clear n0_ n1_ n2_ n3_ n4_ n5_ n6_ n7_; clear hb hbox hg; have hnb11 := NB109_104.out; have hnc11 := NB104_109.out; have hcz12_0 : w10.cell? ⟨gb109, 0, none⟩ = some (.int .i64 0) := (blk_cell BK109.out 0).trans rfl; have hcz12_1 : w10.cell? ⟨gb109, 1, none⟩ = some (.int .u64 0) := (blk_cell BK109.out 1).trans rfl; have hfz12_0 := blk_frozen BK109.out 0; have hfz12_1 := blk_frozen BK109.out 1; have hcz13_0 : w10.cell? ⟨gb104, 0, none⟩ = some (.int .i64 a0_0) := (blk_cell BK104.out 0).trans rfl; have hcz13_1 : w10.cell? ⟨gb104, 1, none⟩ = some (.int .u64 a0_1) := (blk_cell BK104.out 1).trans rfl; have hfz13_0 := blk_frozen BK104.out 0; have hfz13_1 := blk_frozen BK104.out 1))
              go_ret
              exact ⟨by first | rfl | (simp [errW_none, errW_some] <;> rfl) | (simp [*, errW_none, errW_some] <;> rfl), by repeat (first | (with_reducible first | exact HB.out | apply below_alloc | apply pw_below_drewN | apply below_drew1 | refine below_set ?_ GE104.out | refine below_set ?_ GE109.out) | exact HB.out)⟩
            · rw [if_neg c9] at H
              have c9b0 : (((rd_T113 t105 x7_1).f0) == a0_0 && (((rd_T113 t105 x7_1).f1) == a0_1)) = false := by simpa using c9
              (try (have c9b1 : decide (((rd_T113 t105 x7_1).f0) = a0_0 && (((rd_T113 t105 x7_1).f1) == a0_1)) = false := by simpa using c9))
              (try (have c9b2 : (((rd_T113 t105 x7_1).f0) == a0_0 && (((rd_T113 t105 x7_1).f1) == a0_1)) = false := by simpa using c9))
              (try (have c9b3 : ¬ (((rd_T113 t105 x7_1).f0) = a0_0 && (((rd_T113 t105 x7_1).f1) == a0_1)) := by simpa using c9))
              clear c9
              have H' := Aside0.mk H
              clear H
              have p108 : 0 ≤ (x7_1 : Int) := of_decide_eq_true (by first | (with_reducible assumption) | assumption)
              have q108 : x7_1 < (t105.length : Int) := of_decide_eq_true (by first | (with_reducible assumption) | assumption)
              obtain ⟨ad108, e108, hx108_0, hx108_1⟩ := at_T113 (Kd.R_reads' HO_5.out).2.2 x7_1 p108 q108
              cases e108
              replace p108 := eq_true p108
              replace q108 := eq_true q108
              go_wp2_with (first | ((with_reducible refine gate_dst (N := 4) rfl ?_); refine box_event ?hg (N := 4) ?hd (cs := #[.int .i64 0, .int .u64 0]) (t := 113) ?hr ?_; (case hd => rfl); (case hg => rfl); (case hr => first | (go_simp; done) | (go_simp; rfl)); intro gb109 hg w14 hbox hb; have n0_ := Aside0.mk (Kd.R_below (Kd.R_elderB (by (with_reducible repeat (first | apply Kd.R_alloc | apply Kd.R_drewN | apply Kd.R_drew)); exact HO_5.out) gb109 (Nat.le_of_eq hg.symm)) hb); have n1_ := Aside0.mk (bb5_ hb BK104.out); have n2_ := Aside0.mk (below_step (by repeat (first | (with_reducible first | exact HB.out | apply below_alloc | apply pw_below_drewN | apply below_drew1 | refine below_set ?_ GE104.out) | exact HB.out)) hb); have n3_ := Aside0.mk (hbox); have n4_ := Aside0.mk ((by rw [hg]; exact (below_size (by repeat (first | (with_reducible first | exact HB.out | apply below_alloc | apply pw_below_drewN | apply below_drew1 | refine below_set ?_ GE104.out) | exact HB.out))) : w.heap.size ≤ gb109)); have n5_ := Aside0.mk ((by rw [hg]; exact (below_size (by repeat (first | (with_reducible first | exact HB.out | apply below_alloc | apply pw_below_drewN | apply below_drew1 | refine below_set ?_ GE104.out) | exact HB.out))) : w.heap.size ≤ gb109)); have n6_ := Aside0.mk ((by rw [hg]; exact Nat.ne_of_lt (blk_lt BK104.out) : gb104 ≠ gb109)); have n7_ := Aside0.mk ((by rw [hg]; exact Nat.ne_of_gt (blk_lt BK104.out) : gb109 ≠ gb104)); clear HO_5; clear BK104; clear HB; have HO_5 := n0_; have BK104 := n1_; have HB := n2_; have BK109 := n3_; have GW109 := n4_; have GE109 := n5_; have NB104_109 := n6_; have NB109_104 := n7_; clear n0_ n1_ n2_ n3_ n4_ n5_ n6_ n7_; clear hb hbox hg; have hnb15 := NB109_104.out; have hnc15 := NB104_109.out; have hcz16_0 : w14.cell? ⟨gb109, 0, none⟩ = some (.int .i64 0) := (blk_cell BK109.out 0).trans rfl; have hcz16_1 : w14.cell? ⟨gb109, 1, none⟩ = some (.int .u64 0) := (blk_cell BK109.out 1).trans rfl; have hfz16_0 := blk_frozen BK109.out 0; have hfz16_1 := blk_frozen BK109.out 1; have hcz17_0 : w14.cell? ⟨gb104, 0, none⟩ = some (.int .i64 a0_0) := (blk_cell BK104.out 0).trans rfl; have hcz17_1 : w14.cell? ⟨gb104, 1, none⟩ = some (.int .u64 a0_1) := (blk_cell BK104.out 1).trans rfl; have hfz17_0 := blk_frozen BK104.out 0; have hfz17_1 := blk_frozen BK104.out 1))
              go_roundg k1
              case measure => have := HK1.out; omega
              case rel => exact ⟨(wrap64 (x7_1 + 1)), (by first | rfl | (simp; done) | (simp [*]; done)), H', ⟨by have := HK1.out; omega⟩, ⟨by (with_reducible repeat (first | apply Kd.R_alloc | apply Kd.R_drewN | apply Kd.R_drew)); exact Kd.R_mono (Kd.R_far (p := ⟨gb109, 1, none⟩) (Kd.R_far (p := ⟨gb109, 0, none⟩) (Kd.R_mono HO_5.out (fun k_ hk => (⟨hk, hk.2⟩ : _ ∧ k_ ≠ gb109))) (fun _ hk => hk.2) (.int .i64 ((rd_T113 t105 x7_1).f0))) (fun _ hk => hk.2) (.int .u64 ((rd_T113 t105 x7_1).f1))) (fun _ hk => hk.1.1)⟩, ⟨by (with_reducible repeat (first | refine blk_drewN ?_ _ | refine blk_drew ?_ | refine blk_alloc ?_ _)); refine blk_far ?_ NB104_109.out _; refine blk_far ?_ NB104_109.out _; (with_reducible repeat (first | refine blk_drewN ?_ _ | refine blk_drew ?_ | refine blk_alloc ?_ _)); exact BK104.out⟩, ⟨by repeat (first | (with_reducible first | exact HB.out | apply below_alloc | apply pw_below_drewN | apply below_drew1 | refine below_set ?_ GE104.out | refine below_set ?_ GE109.out) | exact HB.out)⟩⟩
          · rw [if_neg c8] at H
            exact absurd H (by simp)
        · rw [if_neg c7] at H
          exact absurd H (by simp)
      · rw [if_neg c6] at H
        have c6b0 : decide (x7_1 < (t105.length : Int)) = false := decide_eq_false c6
        clear c6
        obtain rfl := Option.some.inj H
        go_wp2
        go_ret
        exact ⟨by first | rfl | (simp [errW_none, errW_some] <;> rfl) | (simp [*, errW_none, errW_some] <;> rfl), by repeat (first | (with_reducible first | exact HB.out | apply below_alloc | apply pw_below_drewN | apply below_drew1 | refine below_set ?_ GE104.out) | exact HB.out)⟩
/-! ### field_May: function 109 -/
def field_May.f (a0 : Int) (a1 : Int) : Option (Bool) := if a0 ≥ 0 then (if a1 ≥ 1 then (if a1 ≤ 64 then (some (decide (a0 ≤ (wrap64 (64 - a1))))) else (some false)) else (some false)) else (some false)
set_option maxHeartbeats 8000000 in
set_option maxRecDepth 100000 in
theorem field_May.calls (a0 : Int) (a1 : Int) (r : Bool) (w : World) (h : field_May.f a0 a1 = some r) :
    Calls Try.prog 109 #[.int .i64 a0, .int .i64 a1] w fun e w' => e = .returned (.bool r) ∧ Drawn0 w w' := by
  have H : (if a0 ≥ 0 then (if a1 ≥ 1 then (if a1 ≤ 64 then (some (decide (a0 ≤ (wrap64 (64 - a1))))) else (some false)) else (some false)) else (some false)) = some r := h
  clear h
  by_cases c3 : a0 ≥ 0
  · rw [if_pos c3] at H
    have c3b0 : decide (0 ≤ a0) = true := decide_eq_true c3
    clear c3
    by_cases c4 : a1 ≥ 1
    · rw [if_pos c4] at H
      have c4b0 : decide (1 ≤ a1) = true := decide_eq_true c4
      clear c4
      by_cases c5 : a1 ≤ 64
      · rw [if_pos c5] at H
        have c5b0 : decide (a1 ≤ 64) = true := decide_eq_true c5
        clear c5
        obtain rfl := Option.some.inj H
        go_enter Try.func109, Try.ntmps109
        go_wp2
        go_ret
        exact ⟨by first | rfl | (simp; done) | (simp [*]; done), by repeat (first | exact Drawn0.refl _ | apply Drawn0.step)⟩
      · rw [if_neg c5] at H
        have c5b0 : decide (a1 ≤ 64) = false := decide_eq_false c5
        clear c5
        obtain rfl := Option.some.inj H
        go_enter Try.func109, Try.ntmps109
        go_wp2
        go_ret
        exact ⟨by first | rfl | (simp; done) | (simp [*]; done), by repeat (first | exact Drawn0.refl _ | apply Drawn0.step)⟩
    · rw [if_neg c4] at H
      have c4b0 : decide (1 ≤ a1) = false := decide_eq_false c4
      clear c4
      obtain rfl := Option.some.inj H
      go_enter Try.func109, Try.ntmps109
      go_wp2
      go_ret
      exact ⟨by first | rfl | (simp; done) | (simp [*]; done), by repeat (first | exact Drawn0.refl _ | apply Drawn0.step)⟩
  · rw [if_neg c3] at H
    have c3b0 : decide (0 ≤ a0) = false := decide_eq_false c3
    clear c3
    obtain rfl := Option.some.inj H
    go_enter Try.func109, Try.ntmps109
    go_wp2
    go_ret
    exact ⟨by first | rfl | (simp; done) | (simp [*]; done), by repeat (first | exact Drawn0.refl _ | apply Drawn0.step)⟩
/-! ### field_Mask: function 110 -/
def field_Mask.f (a0 : Int) (a1 : Int) : Option (Int) := (field_May.f a0 a1).bind fun t110 => (if t110 = true then (if 0 ≤ (wrap64 (64 - a1)) then (if 0 ≤ a0 then (some (shl .u64 (shr .u64 18446744073709551615 (wrap64 (64 - a1))) a0)) else (none)) else (none)) else (some 0))
set_option maxHeartbeats 8000000 in
set_option maxRecDepth 100000 in
theorem field_Mask.calls (a0 : Int) (a1 : Int) (r : Int) (w : World) (h : field_Mask.f a0 a1 = some r) :
    Calls Try.prog 110 #[.int .i64 a0, .int .i64 a1] w fun e w' => e = .returned (.int .u64 r) ∧ Drawn0 w w' := by
  have H : ((field_May.f a0 a1).bind fun t110 => (if t110 = true then (if 0 ≤ (wrap64 (64 - a1)) then (if 0 ≤ a0 then (some (shl .u64 (shr .u64 18446744073709551615 (wrap64 (64 - a1))) a0)) else (none)) else (none)) else (some 0))) = some r := h
  clear h
  replace H := Option.bind_eq_some_iff.mp H
  obtain ⟨t110, A30, H⟩ := H
  replace H : (if t110 = true then (if 0 ≤ (wrap64 (64 - a1)) then (if 0 ≤ a0 then (some (shl .u64 (shr .u64 18446744073709551615 (wrap64 (64 - a1))) a0)) else (none)) else (none)) else (some 0)) = some r := H
  have A3 := Aside0.mk A30
  clear A30
  by_cases c4 : t110 = true
  · subst c4
    have H1 : (if 0 ≤ (wrap64 (64 - a1)) then (if 0 ≤ a0 then (some (shl .u64 (shr .u64 18446744073709551615 (wrap64 (64 - a1))) a0)) else (none)) else (none)) = some r := by rw [if_pos rfl] at H; exact H
    clear H
    have H := H1
    clear H1
    obtain ⟨ji5, hji5⟩ : ∃ j_ : Int, (wrap64 (64 - a1)) = j_ := ⟨_, rfl⟩
    replace H : (if 0 ≤ (ji5) then (if 0 ≤ a0 then (some (shl .u64 (shr .u64 18446744073709551615 (ji5)) a0)) else (none)) else (none)) = some r := by first | (rw [hji5] at H; exact H) | (simp only [hji5] at H ⊢; exact H)
    (try rw [hji5] at A3)
    have hji5w : (IntKind.i64.wrap (64 - a1)) = ji5 := (i64_w _).trans hji5
    by_cases c6 : 0 ≤ (ji5)
    · rw [if_pos c6] at H
      have c6b0 := eq_true c6
      have c6b1 : decide (0 ≤ (ji5)) = true := decide_eq_true c6
      clear c6
      obtain ⟨ji7, hji7⟩ : ∃ j_ : Int, (shr .u64 18446744073709551615 (ji5)) = j_ := ⟨_, rfl⟩
      replace H : (if 0 ≤ a0 then (some (shl .u64 (ji7) a0)) else (none)) = some r := by first | (rw [hji7] at H; exact H) | (simp only [hji7] at H ⊢; exact H)
      (try rw [hji7] at A3)
      have hji7_ : (18446744073709551615 / 2 ^ min (ji5).toNat 64) = ji7 := hji7
      have hji7z : (ji5) ≤ 64 → (18446744073709551615 / 2 ^ (ji5).toNat) = ji7 := shr_small hji7
      by_cases c8 : 0 ≤ a0
      · rw [if_pos c8] at H
        have c8b0 := eq_true c8
        have c8b1 : decide (0 ≤ a0) = true := decide_eq_true c8
        clear c8
        obtain ⟨ji9, hji9⟩ : ∃ j_ : Int, (shl .u64 (ji7) a0) = j_ := ⟨_, rfl⟩
        replace H : (some ji9) = some r := by first | (rw [hji9] at H; exact H) | (simp only [hji9] at H ⊢; exact H)
        (try rw [hji9] at A3)
        have hji9_ : (IntKind.u64.wrap ((ji7) * 2 ^ min a0.toNat 64)) = ji9 := hji9
        have hji9z : a0 ≤ 64 → (IntKind.u64.wrap ((ji7) * 2 ^ a0.toNat)) = ji9 := shl_small hji9
        obtain rfl := Option.some.inj H
        go_enter Try.func110, Try.ntmps110
        go_wp2_with (first | ((with_reducible refine gate_callee (f := 109) rfl ?_); refine goesL_ (some 7) rfl rfl Try.func109 (by kernel_rfl) rfl #[.int .i64 a0, .int .i64 a1] rfl (by (try simp only [List.map_toArray, List.map_cons, List.map_nil]); first | done | rfl | (simp only [List.length_drop, List.length_take]; rfl)) ?_; (with_reducible refine (field_May.calls a0 a1 true _ A3.out).mono ?_); rintro e w' ⟨rfl, ⟨nd, rfl⟩⟩; refine ⟨_, rfl, ?_⟩))
        go_ret
        exact ⟨by first | rfl | (simp; done) | (simp only [← hji5, ← hji7, ← hji9] <;> (first | rfl | simp)) | (simp [*]; done), by repeat (first | exact Drawn0.refl _ | apply Drawn0.step)⟩
      · rw [if_neg c8] at H
        exact absurd H (by simp)
    · rw [if_neg c6] at H
      exact absurd H (by simp)
  · replace c4 := Bool.eq_false_iff.mpr c4
    subst c4
    have H1 : (some 0) = some r := by rw [if_neg (show ¬ (false = true) by decide)] at H; exact H
    clear H
    have H := H1
    clear H1
    obtain rfl := Option.some.inj H
    go_enter Try.func110, Try.ntmps110
    go_wp2_with (first | ((with_reducible refine gate_callee (f := 109) rfl ?_); refine goesL_ (some 7) rfl rfl Try.func109 (by kernel_rfl) rfl #[.int .i64 a0, .int .i64 a1] rfl (by (try simp only [List.map_toArray, List.map_cons, List.map_nil]); first | done | rfl | (simp only [List.length_drop, List.length_take]; rfl)) ?_; (with_reducible refine (field_May.calls a0 a1 false _ A3.out).mono ?_); rintro e w' ⟨rfl, ⟨nd, rfl⟩⟩; refine ⟨_, rfl, ?_⟩))
    go_ret
    exact ⟨by first | rfl | (simp; done) | (simp [*]; done), by repeat (first | exact Drawn0.refl _ | apply Drawn0.step)⟩
/-! ### field_Put: function 99 -/
def field_Put.f (a0 : Int) (a1 : Int) (a2 : Int) (a3 : Int) : Option (Int) := (field_May.f a1 a2).bind fun t111 => (if t111 = true then ((field_Mask.f a1 a2).bind fun t112 => (if 0 ≤ a1 then (some (Go.bits .or .u64 (Go.bits .andNot .u64 a0 t112) (Go.bits .and .u64 (shl .u64 a3 a1) t112))) else (none))) else (some a0))
set_option maxHeartbeats 8000000 in
set_option maxRecDepth 100000 in
theorem field_Put.calls (a0 : Int) (a1 : Int) (a2 : Int) (a3 : Int) (r : Int) (w : World) (h : field_Put.f a0 a1 a2 a3 = some r) :
    Calls Try.prog 99 #[.int .u64 a0, .int .i64 a1, .int .i64 a2, .int .u64 a3] w fun e w' => e = .returned (.int .u64 r) ∧ Drawn0 w w' := by
  have H : ((field_May.f a1 a2).bind fun t111 => (if t111 = true then ((field_Mask.f a1 a2).bind fun t112 => (if 0 ≤ a1 then (some (Go.bits .or .u64 (Go.bits .andNot .u64 a0 t112) (Go.bits .and .u64 (shl .u64 a3 a1) t112))) else (none))) else (some a0))) = some r := h
  clear h
  replace H := Option.bind_eq_some_iff.mp H
  obtain ⟨t111, A50, H⟩ := H
  replace H : (if t111 = true then ((field_Mask.f a1 a2).bind fun t112 => (if 0 ≤ a1 then (some (Go.bits .or .u64 (Go.bits .andNot .u64 a0 t112) (Go.bits .and .u64 (shl .u64 a3 a1) t112))) else (none))) else (some a0)) = some r := H
  have A5 := Aside0.mk A50
  clear A50
  by_cases c6 : t111 = true
  · subst c6
    have H1 : ((field_Mask.f a1 a2).bind fun t112 => (if 0 ≤ a1 then (some (Go.bits .or .u64 (Go.bits .andNot .u64 a0 t112) (Go.bits .and .u64 (shl .u64 a3 a1) t112))) else (none))) = some r := by rw [if_pos rfl] at H; exact H
    clear H
    have H := H1
    clear H1
    replace H := Option.bind_eq_some_iff.mp H
    obtain ⟨t112, A70, H⟩ := H
    replace H : (if 0 ≤ a1 then (some (Go.bits .or .u64 (Go.bits .andNot .u64 a0 t112) (Go.bits .and .u64 (shl .u64 a3 a1) t112))) else (none)) = some r := H
    have A7 := Aside0.mk A70
    clear A70
    by_cases c8 : 0 ≤ a1
    · rw [if_pos c8] at H
      have c8b0 := eq_true c8
      have c8b1 : decide (0 ≤ a1) = true := decide_eq_true c8
      clear c8
      obtain ⟨ji9, hji9⟩ : ∃ j_ : Int, (shl .u64 a3 a1) = j_ := ⟨_, rfl⟩
      replace H : (some (Go.bits .or .u64 (Go.bits .andNot .u64 a0 t112) (Go.bits .and .u64 (ji9) t112))) = some r := by first | (rw [hji9] at H; exact H) | (simp only [hji9] at H ⊢; exact H)
      (try rw [hji9] at A5)
      (try rw [hji9] at A7)
      have hji9_ : (IntKind.u64.wrap (a3 * 2 ^ min a1.toNat 64)) = ji9 := hji9
      have hji9z : a1 ≤ 64 → (IntKind.u64.wrap (a3 * 2 ^ a1.toNat)) = ji9 := shl_small hji9
      obtain rfl := Option.some.inj H
      go_enter Try.func99, Try.ntmps99
      go_wp2_with (first | ((with_reducible refine gate_callee (f := 109) rfl ?_); refine goesL_ (some 12) rfl rfl Try.func109 (by kernel_rfl) rfl #[.int .i64 a1, .int .i64 a2] rfl (by (try simp only [List.map_toArray, List.map_cons, List.map_nil]); first | done | rfl | (simp only [List.length_drop, List.length_take]; rfl)) ?_; (with_reducible refine (field_May.calls a1 a2 true _ A5.out).mono ?_); rintro e w' ⟨rfl, ⟨nd, rfl⟩⟩; refine ⟨_, rfl, ?_⟩) | ((with_reducible refine gate_callee (f := 110) rfl ?_); refine goesL_ (some 17) rfl rfl Try.func110 (by kernel_rfl) rfl #[.int .i64 a1, .int .i64 a2] rfl (by (try simp only [List.map_toArray, List.map_cons, List.map_nil]); first | done | rfl | (simp only [List.length_drop, List.length_take]; rfl)) ?_; (with_reducible refine (field_Mask.calls a1 a2 t112 _ A7.out).mono ?_); rintro e w' ⟨rfl, ⟨nd, rfl⟩⟩; refine ⟨_, rfl, ?_⟩))
      go_ret
      exact ⟨by first | rfl | (simp; done) | (simp only [← hji9] <;> (first | rfl | simp)) | (simp [*]; done), by repeat (first | exact Drawn0.refl _ | apply Drawn0.step)⟩
    · rw [if_neg c8] at H
      exact absurd H (by simp)
  · replace c6 := Bool.eq_false_iff.mpr c6
    subst c6
    have H1 : (some a0) = some r := by rw [if_neg (show ¬ (false = true) by decide)] at H; exact H
    clear H
    have H := H1
    clear H1
    obtain rfl := Option.some.inj H
    go_enter Try.func99, Try.ntmps99
    go_wp2_with (first | ((with_reducible refine gate_callee (f := 109) rfl ?_); refine goesL_ (some 12) rfl rfl Try.func109 (by kernel_rfl) rfl #[.int .i64 a1, .int .i64 a2] rfl (by (try simp only [List.map_toArray, List.map_cons, List.map_nil]); first | done | rfl | (simp only [List.length_drop, List.length_take]; rfl)) ?_; (with_reducible refine (field_May.calls a1 a2 false _ A5.out).mono ?_); rintro e w' ⟨rfl, ⟨nd, rfl⟩⟩; refine ⟨_, rfl, ?_⟩))
    go_ret
    exact ⟨by first | rfl | (simp; done) | (simp [*]; done), by repeat (first | exact Drawn0.refl _ | apply Drawn0.step)⟩
/-! ### field_Get: function 100 -/
def field_Get.f (a0 : Int) (a1 : Int) (a2 : Int) : Option (Int) := (field_May.f a1 a2).bind fun t113 => (if t113 = true then ((field_Mask.f a1 a2).bind fun t114 => (if 0 ≤ a1 then (some (shr .u64 (Go.bits .and .u64 a0 t114) a1)) else (none))) else (some 0))
set_option maxHeartbeats 8000000 in
set_option maxRecDepth 100000 in
theorem field_Get.calls (a0 : Int) (a1 : Int) (a2 : Int) (r : Int) (w : World) (h : field_Get.f a0 a1 a2 = some r) :
    Calls Try.prog 100 #[.int .u64 a0, .int .i64 a1, .int .i64 a2] w fun e w' => e = .returned (.int .u64 r) ∧ Drawn0 w w' := by
  have H : ((field_May.f a1 a2).bind fun t113 => (if t113 = true then ((field_Mask.f a1 a2).bind fun t114 => (if 0 ≤ a1 then (some (shr .u64 (Go.bits .and .u64 a0 t114) a1)) else (none))) else (some 0))) = some r := h
  clear h
  replace H := Option.bind_eq_some_iff.mp H
  obtain ⟨t113, A40, H⟩ := H
  replace H : (if t113 = true then ((field_Mask.f a1 a2).bind fun t114 => (if 0 ≤ a1 then (some (shr .u64 (Go.bits .and .u64 a0 t114) a1)) else (none))) else (some 0)) = some r := H
  have A4 := Aside0.mk A40
  clear A40
  by_cases c5 : t113 = true
  · subst c5
    have H1 : ((field_Mask.f a1 a2).bind fun t114 => (if 0 ≤ a1 then (some (shr .u64 (Go.bits .and .u64 a0 t114) a1)) else (none))) = some r := by rw [if_pos rfl] at H; exact H
    clear H
    have H := H1
    clear H1
    replace H := Option.bind_eq_some_iff.mp H
    obtain ⟨t114, A60, H⟩ := H
    replace H : (if 0 ≤ a1 then (some (shr .u64 (Go.bits .and .u64 a0 t114) a1)) else (none)) = some r := H
    have A6 := Aside0.mk A60
    clear A60
    by_cases c7 : 0 ≤ a1
    · rw [if_pos c7] at H
      have c7b0 := eq_true c7
      have c7b1 : decide (0 ≤ a1) = true := decide_eq_true c7
      clear c7
      obtain ⟨ji8, hji8⟩ : ∃ j_ : Int, (shr .u64 (Go.bits .and .u64 a0 t114) a1) = j_ := ⟨_, rfl⟩
      replace H : (some ji8) = some r := by first | (rw [hji8] at H; exact H) | (simp only [hji8] at H ⊢; exact H)
      (try rw [hji8] at A4)
      (try rw [hji8] at A6)
      have hji8_ : ((Go.bits .and .u64 a0 t114) / 2 ^ min a1.toNat 64) = ji8 := hji8
      have hji8z : a1 ≤ 64 → ((Go.bits .and .u64 a0 t114) / 2 ^ a1.toNat) = ji8 := shr_small hji8
      obtain rfl := Option.some.inj H
      go_enter Try.func100, Try.ntmps100
      go_wp2_with (first | ((with_reducible refine gate_callee (f := 109) rfl ?_); refine goesL_ (some 9) rfl rfl Try.func109 (by kernel_rfl) rfl #[.int .i64 a1, .int .i64 a2] rfl (by (try simp only [List.map_toArray, List.map_cons, List.map_nil]); first | done | rfl | (simp only [List.length_drop, List.length_take]; rfl)) ?_; (with_reducible refine (field_May.calls a1 a2 true _ A4.out).mono ?_); rintro e w' ⟨rfl, ⟨nd, rfl⟩⟩; refine ⟨_, rfl, ?_⟩) | ((with_reducible refine gate_callee (f := 110) rfl ?_); refine goesL_ (some 14) rfl rfl Try.func110 (by kernel_rfl) rfl #[.int .i64 a1, .int .i64 a2] rfl (by (try simp only [List.map_toArray, List.map_cons, List.map_nil]); first | done | rfl | (simp only [List.length_drop, List.length_take]; rfl)) ?_; (with_reducible refine (field_Mask.calls a1 a2 t114 _ A6.out).mono ?_); rintro e w' ⟨rfl, ⟨nd, rfl⟩⟩; refine ⟨_, rfl, ?_⟩))
      go_ret
      exact ⟨by first | rfl | (simp; done) | (simp only [← hji8] <;> (first | rfl | simp)) | (simp [*]; done), by repeat (first | exact Drawn0.refl _ | apply Drawn0.step)⟩
    · rw [if_neg c7] at H
      exact absurd H (by simp)
  · replace c5 := Bool.eq_false_iff.mpr c5
    subst c5
    have H1 : (some 0) = some r := by rw [if_neg (show ¬ (false = true) by decide)] at H; exact H
    clear H
    have H := H1
    clear H1
    obtain rfl := Option.some.inj H
    go_enter Try.func100, Try.ntmps100
    go_wp2_with (first | ((with_reducible refine gate_callee (f := 109) rfl ?_); refine goesL_ (some 9) rfl rfl Try.func109 (by kernel_rfl) rfl #[.int .i64 a1, .int .i64 a2] rfl (by (try simp only [List.map_toArray, List.map_cons, List.map_nil]); first | done | rfl | (simp only [List.length_drop, List.length_take]; rfl)) ?_; (with_reducible refine (field_May.calls a1 a2 false _ A4.out).mono ?_); rintro e w' ⟨rfl, ⟨nd, rfl⟩⟩; refine ⟨_, rfl, ?_⟩))
    go_ret
    exact ⟨by first | rfl | (simp; done) | (simp [*]; done), by repeat (first | exact Drawn0.refl _ | apply Drawn0.step)⟩
/-! ### regs_isUnit: function 101 -/
def regs_isUnit.f (a0 : Int) : Option (Bool) := if a0 = 0 then (some true) else (some (a0 == 1))
set_option maxHeartbeats 8000000 in
set_option maxRecDepth 100000 in
theorem regs_isUnit.calls (a0 : Int) (r : Bool) (w : World) (h : regs_isUnit.f a0 = some r) :
    Calls Try.prog 101 #[.int .i64 a0] w fun e w' => e = .returned (.bool r) ∧ Drawn0 w w' := by
  have H : (if a0 = 0 then (some true) else (some (a0 == 1))) = some r := h
  clear h
  by_cases c2 : a0 = 0
  · rw [if_pos c2] at H
    have c2b0 : (a0 == 0) = true := beq_iff_eq.mpr c2
    have c2b1 : (a0 != 0) = false := bne_eq_false_iff_eq.mpr c2
    clear c2
    obtain rfl := Option.some.inj H
    go_enter Try.func101, Try.ntmps101
    go_wp2
    go_ret
    exact ⟨by first | rfl | (simp; done) | (simp [*]; done), by repeat (first | exact Drawn0.refl _ | apply Drawn0.step)⟩
  · rw [if_neg c2] at H
    have c2b0 : (a0 == 0) = false := beq_eq_false_iff_ne.mpr c2
    have c2b1 : (a0 != 0) = true := bne_iff_ne.mpr c2
    obtain rfl := Option.some.inj H
    go_enter Try.func101, Try.ntmps101
    go_wp2
    go_ret
    exact ⟨by first | rfl | (simp; done) | (simp [*]; done), by repeat (first | exact Drawn0.refl _ | apply Drawn0.step)⟩
/-! ### regs_space: function 102 -/
def regs_space.f (a0 : Int) : Option (Int) := if a0 = 0 then (some 80) else (some 88)
set_option maxHeartbeats 8000000 in
set_option maxRecDepth 100000 in
theorem regs_space.calls (a0 : Int) (r : Int) (w : World) (h : regs_space.f a0 = some r) :
    Calls Try.prog 102 #[.int .i64 a0] w fun e w' => e = .returned (.int .i64 r) ∧ Drawn0 w w' := by
  have H : (if a0 = 0 then (some 80) else (some 88)) = some r := h
  clear h
  by_cases c2 : a0 = 0
  · rw [if_pos c2] at H
    have c2b0 : (a0 == 0) = true := beq_iff_eq.mpr c2
    have c2b1 : (a0 != 0) = false := bne_eq_false_iff_eq.mpr c2
    clear c2
    obtain rfl := Option.some.inj H
    go_enter Try.func102, Try.ntmps102
    go_wp2
    go_ret
    exact ⟨by first | rfl | (simp; done) | (simp [*]; done), by repeat (first | exact Drawn0.refl _ | apply Drawn0.step)⟩
  · rw [if_neg c2] at H
    have c2b0 : (a0 == 0) = false := beq_eq_false_iff_ne.mpr c2
    have c2b1 : (a0 != 0) = true := bne_iff_ne.mpr c2
    obtain rfl := Option.some.inj H
    go_enter Try.func102, Try.ntmps102
    go_wp2
    go_ret
    exact ⟨by first | rfl | (simp; done) | (simp [*]; done), by repeat (first | exact Drawn0.refl _ | apply Drawn0.step)⟩
/-! ### field_Set: function 103 -/
def field_Set.f (a0 : Int) (a1 : Int) (a2 : Bool) : Option (Int) := if a2 = true then ((field_Put.f a0 a1 1 1).bind fun t115 => (some t115)) else ((field_Put.f a0 a1 1 0).bind fun t116 => (some t116))
set_option maxHeartbeats 8000000 in
set_option maxRecDepth 100000 in
theorem field_Set.calls (a0 : Int) (a1 : Int) (a2 : Bool) (r : Int) (w : World) (h : field_Set.f a0 a1 a2 = some r) :
    Calls Try.prog 103 #[.int .u64 a0, .int .i64 a1, .bool a2] w fun e w' => e = .returned (.int .u64 r) ∧ Drawn0 w w' := by
  have H : (if a2 = true then ((field_Put.f a0 a1 1 1).bind fun t115 => (some t115)) else ((field_Put.f a0 a1 1 0).bind fun t116 => (some t116))) = some r := h
  clear h
  by_cases c4 : a2 = true
  · subst c4
    have H1 : ((field_Put.f a0 a1 1 1).bind fun t115 => (some t115)) = some r := by rw [if_pos rfl] at H; exact H
    clear H
    have H := H1
    clear H1
    replace H := Option.bind_eq_some_iff.mp H
    obtain ⟨t115, A50, H⟩ := H
    replace H : (some t115) = some r := H
    have A5 := Aside0.mk A50
    clear A50
    obtain rfl := Option.some.inj H
    go_enter Try.func103, Try.ntmps103
    go_wp2_with (first | ((with_reducible refine gate_callee (f := 99) rfl ?_); refine goesL_ (some 12) rfl rfl Try.func99 (by kernel_rfl) rfl #[.int .u64 a0, .int .i64 a1, .int .i64 1, .int .u64 1] rfl (by (try simp only [List.map_toArray, List.map_cons, List.map_nil]); first | done | rfl | (simp only [List.length_drop, List.length_take]; rfl)) ?_; (with_reducible refine (field_Put.calls a0 a1 1 1 t115 _ A5.out).mono ?_); rintro e w' ⟨rfl, ⟨nd, rfl⟩⟩; refine ⟨_, rfl, ?_⟩))
    go_ret
    exact ⟨by first | rfl | (simp; done) | (simp [*]; done), by repeat (first | exact Drawn0.refl _ | apply Drawn0.step)⟩
  · replace c4 := Bool.eq_false_iff.mpr c4
    subst c4
    have H1 : ((field_Put.f a0 a1 1 0).bind fun t116 => (some t116)) = some r := by rw [if_neg (show ¬ (false = true) by decide)] at H; exact H
    clear H
    have H := H1
    clear H1
    replace H := Option.bind_eq_some_iff.mp H
    obtain ⟨t116, A60, H⟩ := H
    replace H : (some t116) = some r := H
    have A6 := Aside0.mk A60
    clear A60
    obtain rfl := Option.some.inj H
    go_enter Try.func103, Try.ntmps103
    go_wp2_with (first | ((with_reducible refine gate_callee (f := 99) rfl ?_); refine goesL_ (some 12) rfl rfl Try.func99 (by kernel_rfl) rfl #[.int .u64 a0, .int .i64 a1, .int .i64 1, .int .u64 0] rfl (by (try simp only [List.map_toArray, List.map_cons, List.map_nil]); first | done | rfl | (simp only [List.length_drop, List.length_take]; rfl)) ?_; (with_reducible refine (field_Put.calls a0 a1 1 0 t116 _ A6.out).mono ?_); rintro e w' ⟨rfl, ⟨nd, rfl⟩⟩; refine ⟨_, rfl, ?_⟩))
    go_ret
    exact ⟨by first | rfl | (simp; done) | (simp [*]; done), by repeat (first | exact Drawn0.refl _ | apply Drawn0.step)⟩
/-! ### field_Bit: function 104 -/
def field_Bit.f (a0 : Int) (a1 : Int) : Option (Bool) := (field_Get.f a0 a1 1).bind fun t117 => (some (t117 == 1))
set_option maxHeartbeats 8000000 in
set_option maxRecDepth 100000 in
theorem field_Bit.calls (a0 : Int) (a1 : Int) (r : Bool) (w : World) (h : field_Bit.f a0 a1 = some r) :
    Calls Try.prog 104 #[.int .u64 a0, .int .i64 a1] w fun e w' => e = .returned (.bool r) ∧ Drawn0 w w' := by
  have H : ((field_Get.f a0 a1 1).bind fun t117 => (some (t117 == 1))) = some r := h
  clear h
  replace H := Option.bind_eq_some_iff.mp H
  obtain ⟨t117, A30, H⟩ := H
  replace H : (some (t117 == 1)) = some r := H
  have A3 := Aside0.mk A30
  clear A30
  obtain rfl := Option.some.inj H
  go_enter Try.func104, Try.ntmps104
  go_wp2_with (first | ((with_reducible refine gate_callee (f := 100) rfl ?_); refine goesL_ (some 7) rfl rfl Try.func100 (by kernel_rfl) rfl #[.int .u64 a0, .int .i64 a1, .int .i64 1] rfl (by (try simp only [List.map_toArray, List.map_cons, List.map_nil]); first | done | rfl | (simp only [List.length_drop, List.length_take]; rfl)) ?_; (with_reducible refine (field_Get.calls a0 a1 1 t117 _ A3.out).mono ?_); rintro e w' ⟨rfl, ⟨nd, rfl⟩⟩; refine ⟨_, rfl, ?_⟩))
  go_ret
  exact ⟨by first | rfl | (simp; done) | (simp [*]; done), by repeat (first | exact Drawn0.refl _ | apply Drawn0.step)⟩

-- NOT PRINTED: function 18 (tlb_New)

-- NOT PRINTED: function 73 (regs_New)

-- NOT PRINTED: function 32 (cpu_New)
/-! ### fault_of: function 105 -/
/-- All kinds, as fault.kinds makes them: an array's cells. -/
def fault_of.cells : Array Value := #[.string (⟨#[110, 111, 110, 101]⟩ : ByteArray), .int .i64 0, .int .i64 0, .int .i64 0, .int .i64 0,
  .string (⟨#[104, 111, 108, 101]⟩ : ByteArray), .int .i64 48, .int .i64 8, .int .i64 32, .int .i64 6,
  .string (⟨#[110, 111, 116, 104, 105, 110, 103]⟩ : ByteArray), .int .i64 104, .int .i64 100, .int .i64 0, .int .i64 5,
  .string (⟨#[112, 114, 105, 118]⟩ : ByteArray), .int .i64 48, .int .i64 8, .int .i64 1, .int .i64 4,
  .string (⟨#[113, 117, 105, 101, 116]⟩ : ByteArray), .int .i64 48, .int .i64 8, .int .i64 2, .int .i64 3,
  .string (⟨#[119, 114, 105, 116, 101]⟩ : ByteArray), .int .i64 108, .int .i64 108, .int .i64 0, .int .i64 2,
  .string (⟨#[101, 120, 101, 99]⟩ : ByteArray), .int .i64 48, .int .i64 8, .int .i64 16, .int .i64 1]
def fault_of.zero : Array Value := #[.string ⟨#[]⟩, .int .i64 0, .int .i64 0, .int .i64 0, .int .i64 0, .string ⟨#[]⟩, .int .i64 0, .int .i64 0, .int .i64 0, .int .i64 0, .string ⟨#[]⟩, .int .i64 0, .int .i64 0, .int .i64 0, .int .i64 0, .string ⟨#[]⟩, .int .i64 0, .int .i64 0, .int .i64 0, .int .i64 0, .string ⟨#[]⟩, .int .i64 0, .int .i64 0, .int .i64 0, .int .i64 0, .string ⟨#[]⟩, .int .i64 0, .int .i64 0, .int .i64 0, .int .i64 0, .string ⟨#[]⟩, .int .i64 0, .int .i64 0, .int .i64 0, .int .i64 0]
set_option maxHeartbeats 8000000 in
set_option maxRecDepth 100000 in
theorem fault_of.kinds (w : World) : Calls Try.prog 111 #[] w fun e w' => e = .returned (.agg fault_of.cells) ∧ Below w.heap.size w w' := by
  have hu57 := Try.underlying133
  have hu63 := Try.underlying137
  go_enter Try.func111, Try.ntmps111
  go_wp2_with (first | ((with_reducible refine gate_dst (N := 0) rfl ?_); refine box_event ?hg (N := 0) ?hd (cs := #[.string ⟨#[]⟩, .int .i64 0, .int .i64 0, .int .i64 0, .int .i64 0, .string ⟨#[]⟩, .int .i64 0, .int .i64 0, .int .i64 0, .int .i64 0, .string ⟨#[]⟩, .int .i64 0, .int .i64 0, .int .i64 0, .int .i64 0, .string ⟨#[]⟩, .int .i64 0, .int .i64 0, .int .i64 0, .int .i64 0, .string ⟨#[]⟩, .int .i64 0, .int .i64 0, .int .i64 0, .int .i64 0, .string ⟨#[]⟩, .int .i64 0, .int .i64 0, .int .i64 0, .int .i64 0, .string ⟨#[]⟩, .int .i64 0, .int .i64 0, .int .i64 0, .int .i64 0]) (t := 137) ?hr ?_; (case hd => rfl); (case hg => rfl); (case hr => first | (go_simp; done) | (go_simp; rfl)); intro gb hgb w1 hbox0 hb0; have hge := Aside0.mk (Nat.le_of_eq hgb.symm); have hbox := Aside0.mk hbox0; have hb := Aside0.mk hb0; clear hgb hbox0 hb0) | ((with_reducible refine gate_store (t := 137) (p := 0) rfl ?_); refine wpList_store_row rfl 137 (.tmp 0) (.tmp 8) rfl gb fault_of.cells rfl rfl 137 _ hbox.out (by kernel_rfl) rfl (by kernel_rfl) ?_))
  refine bodyPost_ret (results_cell_row rfl _ _ gb 137 fault_of.cells (0, 0) _ rfl (setRow_heap w1 gb _ fault_of.cells _ _ hbox.out) Try.underlying137 rfl (by kernel_rfl)) rfl ?_
  exact ⟨rfl, below_setRow hb.out hge.out _⟩
def fault_of.f (a0 : Int) : Option (ByteArray × Int × Int × Int × Int) := if a0 = 0 then some ((⟨#[110, 111, 110, 101]⟩ : ByteArray), 0, 0, 0, 0) else if a0 = 1 then some ((⟨#[104, 111, 108, 101]⟩ : ByteArray), 48, 8, 32, 6) else if a0 = 2 then some ((⟨#[110, 111, 116, 104, 105, 110, 103]⟩ : ByteArray), 104, 100, 0, 5) else if a0 = 3 then some ((⟨#[112, 114, 105, 118]⟩ : ByteArray), 48, 8, 1, 4) else if a0 = 4 then some ((⟨#[113, 117, 105, 101, 116]⟩ : ByteArray), 48, 8, 2, 3) else if a0 = 5 then some ((⟨#[119, 114, 105, 116, 101]⟩ : ByteArray), 108, 108, 0, 2) else if a0 = 6 then some ((⟨#[101, 120, 101, 99]⟩ : ByteArray), 48, 8, 16, 1) else some (⟨#[]⟩, 0, 0, 0, 0)
theorem fault_of.idx0 : ∀ w, (Instr.index 137 (.agg fault_of.cells) (.int .i64 0)).run Try.prog w = .ok (.agg #[.string (⟨#[110, 111, 110, 101]⟩ : ByteArray), .int .i64 0, .int .i64 0, .int .i64 0, .int .i64 0]) w := fun _ => by kernel_rfl
theorem fault_of.idx1 : ∀ w, (Instr.index 137 (.agg fault_of.cells) (.int .i64 1)).run Try.prog w = .ok (.agg #[.string (⟨#[104, 111, 108, 101]⟩ : ByteArray), .int .i64 48, .int .i64 8, .int .i64 32, .int .i64 6]) w := fun _ => by kernel_rfl
theorem fault_of.idx2 : ∀ w, (Instr.index 137 (.agg fault_of.cells) (.int .i64 2)).run Try.prog w = .ok (.agg #[.string (⟨#[110, 111, 116, 104, 105, 110, 103]⟩ : ByteArray), .int .i64 104, .int .i64 100, .int .i64 0, .int .i64 5]) w := fun _ => by kernel_rfl
theorem fault_of.idx3 : ∀ w, (Instr.index 137 (.agg fault_of.cells) (.int .i64 3)).run Try.prog w = .ok (.agg #[.string (⟨#[112, 114, 105, 118]⟩ : ByteArray), .int .i64 48, .int .i64 8, .int .i64 1, .int .i64 4]) w := fun _ => by kernel_rfl
theorem fault_of.idx4 : ∀ w, (Instr.index 137 (.agg fault_of.cells) (.int .i64 4)).run Try.prog w = .ok (.agg #[.string (⟨#[113, 117, 105, 101, 116]⟩ : ByteArray), .int .i64 48, .int .i64 8, .int .i64 2, .int .i64 3]) w := fun _ => by kernel_rfl
theorem fault_of.idx5 : ∀ w, (Instr.index 137 (.agg fault_of.cells) (.int .i64 5)).run Try.prog w = .ok (.agg #[.string (⟨#[119, 114, 105, 116, 101]⟩ : ByteArray), .int .i64 108, .int .i64 108, .int .i64 0, .int .i64 2]) w := fun _ => by kernel_rfl
theorem fault_of.idx6 : ∀ w, (Instr.index 137 (.agg fault_of.cells) (.int .i64 6)).run Try.prog w = .ok (.agg #[.string (⟨#[101, 120, 101, 99]⟩ : ByteArray), .int .i64 48, .int .i64 8, .int .i64 16, .int .i64 1]) w := fun _ => by kernel_rfl
set_option maxHeartbeats 8000000 in
set_option maxRecDepth 100000 in
theorem fault_of.at0 (w : World) : Calls Try.prog 105 #[.int .i64 0] w fun e w' => e = .returned (.agg #[.string (⟨#[110, 111, 110, 101]⟩ : ByteArray), .int .i64 0, .int .i64 0, .int .i64 0, .int .i64 0]) ∧ Below w.heap.size w w' := by
  have hu57 := Try.underlying133
  have hi := fault_of.idx0
  go_enter Try.func105, Try.ntmps105
  go_wp2_with (first | ((with_reducible refine gate_dst (N := 2) rfl ?_); refine box_event ?hg (N := 2) ?hd (cs := #[.string ⟨#[]⟩, .int .i64 0, .int .i64 0, .int .i64 0, .int .i64 0]) (t := 133) ?hr ?_; (case hd => rfl); (case hg => rfl); (case hr => first | (go_simp; done) | (go_simp; rfl)); intro gb hgb w1 hbox0 hb0; have hge := Aside0.mk (Nat.le_of_eq hgb.symm); have hbox := Aside0.mk hbox0; have hb := Aside0.mk hb0; clear hgb hbox0 hb0) | (go_at_call 111; refine (fault_of.kinds _).mono ?_; rintro e w2 ⟨rfl, hb2⟩; have hbx := Aside0.mk (blk_below hbox.out hb2); have hbb := Aside0.mk (below_step hb.out hb2); clear hb2) | ((with_reducible refine gate_store (t := 133) (p := 2) rfl ?_); refine wpList_store_row rfl 133 (.tmp 2) (.tmp 12) rfl gb #[.string (⟨#[110, 111, 110, 101]⟩ : ByteArray), .int .i64 0, .int .i64 0, .int .i64 0, .int .i64 0] rfl rfl 133 _ hbx.out (by kernel_rfl) rfl (by kernel_rfl) ?_))
  refine bodyPost_ret (results_cell_row rfl _ _ gb 133 #[.string (⟨#[110, 111, 110, 101]⟩ : ByteArray), .int .i64 0, .int .i64 0, .int .i64 0, .int .i64 0] (0, 0) _ rfl (setRow_heap _ gb _ _ _ _ hbx.out) Try.underlying133 rfl (by kernel_rfl)) rfl ?_
  exact ⟨rfl, below_setRow hbb.out hge.out _⟩
set_option maxHeartbeats 8000000 in
set_option maxRecDepth 100000 in
theorem fault_of.at1 (w : World) : Calls Try.prog 105 #[.int .i64 1] w fun e w' => e = .returned (.agg #[.string (⟨#[104, 111, 108, 101]⟩ : ByteArray), .int .i64 48, .int .i64 8, .int .i64 32, .int .i64 6]) ∧ Below w.heap.size w w' := by
  have hu57 := Try.underlying133
  have hi := fault_of.idx1
  go_enter Try.func105, Try.ntmps105
  go_wp2_with (first | ((with_reducible refine gate_dst (N := 2) rfl ?_); refine box_event ?hg (N := 2) ?hd (cs := #[.string ⟨#[]⟩, .int .i64 0, .int .i64 0, .int .i64 0, .int .i64 0]) (t := 133) ?hr ?_; (case hd => rfl); (case hg => rfl); (case hr => first | (go_simp; done) | (go_simp; rfl)); intro gb hgb w1 hbox0 hb0; have hge := Aside0.mk (Nat.le_of_eq hgb.symm); have hbox := Aside0.mk hbox0; have hb := Aside0.mk hb0; clear hgb hbox0 hb0) | (go_at_call 111; refine (fault_of.kinds _).mono ?_; rintro e w2 ⟨rfl, hb2⟩; have hbx := Aside0.mk (blk_below hbox.out hb2); have hbb := Aside0.mk (below_step hb.out hb2); clear hb2) | ((with_reducible refine gate_store (t := 133) (p := 2) rfl ?_); refine wpList_store_row rfl 133 (.tmp 2) (.tmp 12) rfl gb #[.string (⟨#[104, 111, 108, 101]⟩ : ByteArray), .int .i64 48, .int .i64 8, .int .i64 32, .int .i64 6] rfl rfl 133 _ hbx.out (by kernel_rfl) rfl (by kernel_rfl) ?_))
  refine bodyPost_ret (results_cell_row rfl _ _ gb 133 #[.string (⟨#[104, 111, 108, 101]⟩ : ByteArray), .int .i64 48, .int .i64 8, .int .i64 32, .int .i64 6] (0, 0) _ rfl (setRow_heap _ gb _ _ _ _ hbx.out) Try.underlying133 rfl (by kernel_rfl)) rfl ?_
  exact ⟨rfl, below_setRow hbb.out hge.out _⟩
set_option maxHeartbeats 8000000 in
set_option maxRecDepth 100000 in
theorem fault_of.at2 (w : World) : Calls Try.prog 105 #[.int .i64 2] w fun e w' => e = .returned (.agg #[.string (⟨#[110, 111, 116, 104, 105, 110, 103]⟩ : ByteArray), .int .i64 104, .int .i64 100, .int .i64 0, .int .i64 5]) ∧ Below w.heap.size w w' := by
  have hu57 := Try.underlying133
  have hi := fault_of.idx2
  go_enter Try.func105, Try.ntmps105
  go_wp2_with (first | ((with_reducible refine gate_dst (N := 2) rfl ?_); refine box_event ?hg (N := 2) ?hd (cs := #[.string ⟨#[]⟩, .int .i64 0, .int .i64 0, .int .i64 0, .int .i64 0]) (t := 133) ?hr ?_; (case hd => rfl); (case hg => rfl); (case hr => first | (go_simp; done) | (go_simp; rfl)); intro gb hgb w1 hbox0 hb0; have hge := Aside0.mk (Nat.le_of_eq hgb.symm); have hbox := Aside0.mk hbox0; have hb := Aside0.mk hb0; clear hgb hbox0 hb0) | (go_at_call 111; refine (fault_of.kinds _).mono ?_; rintro e w2 ⟨rfl, hb2⟩; have hbx := Aside0.mk (blk_below hbox.out hb2); have hbb := Aside0.mk (below_step hb.out hb2); clear hb2) | ((with_reducible refine gate_store (t := 133) (p := 2) rfl ?_); refine wpList_store_row rfl 133 (.tmp 2) (.tmp 12) rfl gb #[.string (⟨#[110, 111, 116, 104, 105, 110, 103]⟩ : ByteArray), .int .i64 104, .int .i64 100, .int .i64 0, .int .i64 5] rfl rfl 133 _ hbx.out (by kernel_rfl) rfl (by kernel_rfl) ?_))
  refine bodyPost_ret (results_cell_row rfl _ _ gb 133 #[.string (⟨#[110, 111, 116, 104, 105, 110, 103]⟩ : ByteArray), .int .i64 104, .int .i64 100, .int .i64 0, .int .i64 5] (0, 0) _ rfl (setRow_heap _ gb _ _ _ _ hbx.out) Try.underlying133 rfl (by kernel_rfl)) rfl ?_
  exact ⟨rfl, below_setRow hbb.out hge.out _⟩
set_option maxHeartbeats 8000000 in
set_option maxRecDepth 100000 in
theorem fault_of.at3 (w : World) : Calls Try.prog 105 #[.int .i64 3] w fun e w' => e = .returned (.agg #[.string (⟨#[112, 114, 105, 118]⟩ : ByteArray), .int .i64 48, .int .i64 8, .int .i64 1, .int .i64 4]) ∧ Below w.heap.size w w' := by
  have hu57 := Try.underlying133
  have hi := fault_of.idx3
  go_enter Try.func105, Try.ntmps105
  go_wp2_with (first | ((with_reducible refine gate_dst (N := 2) rfl ?_); refine box_event ?hg (N := 2) ?hd (cs := #[.string ⟨#[]⟩, .int .i64 0, .int .i64 0, .int .i64 0, .int .i64 0]) (t := 133) ?hr ?_; (case hd => rfl); (case hg => rfl); (case hr => first | (go_simp; done) | (go_simp; rfl)); intro gb hgb w1 hbox0 hb0; have hge := Aside0.mk (Nat.le_of_eq hgb.symm); have hbox := Aside0.mk hbox0; have hb := Aside0.mk hb0; clear hgb hbox0 hb0) | (go_at_call 111; refine (fault_of.kinds _).mono ?_; rintro e w2 ⟨rfl, hb2⟩; have hbx := Aside0.mk (blk_below hbox.out hb2); have hbb := Aside0.mk (below_step hb.out hb2); clear hb2) | ((with_reducible refine gate_store (t := 133) (p := 2) rfl ?_); refine wpList_store_row rfl 133 (.tmp 2) (.tmp 12) rfl gb #[.string (⟨#[112, 114, 105, 118]⟩ : ByteArray), .int .i64 48, .int .i64 8, .int .i64 1, .int .i64 4] rfl rfl 133 _ hbx.out (by kernel_rfl) rfl (by kernel_rfl) ?_))
  refine bodyPost_ret (results_cell_row rfl _ _ gb 133 #[.string (⟨#[112, 114, 105, 118]⟩ : ByteArray), .int .i64 48, .int .i64 8, .int .i64 1, .int .i64 4] (0, 0) _ rfl (setRow_heap _ gb _ _ _ _ hbx.out) Try.underlying133 rfl (by kernel_rfl)) rfl ?_
  exact ⟨rfl, below_setRow hbb.out hge.out _⟩
set_option maxHeartbeats 8000000 in
set_option maxRecDepth 100000 in
theorem fault_of.at4 (w : World) : Calls Try.prog 105 #[.int .i64 4] w fun e w' => e = .returned (.agg #[.string (⟨#[113, 117, 105, 101, 116]⟩ : ByteArray), .int .i64 48, .int .i64 8, .int .i64 2, .int .i64 3]) ∧ Below w.heap.size w w' := by
  have hu57 := Try.underlying133
  have hi := fault_of.idx4
  go_enter Try.func105, Try.ntmps105
  go_wp2_with (first | ((with_reducible refine gate_dst (N := 2) rfl ?_); refine box_event ?hg (N := 2) ?hd (cs := #[.string ⟨#[]⟩, .int .i64 0, .int .i64 0, .int .i64 0, .int .i64 0]) (t := 133) ?hr ?_; (case hd => rfl); (case hg => rfl); (case hr => first | (go_simp; done) | (go_simp; rfl)); intro gb hgb w1 hbox0 hb0; have hge := Aside0.mk (Nat.le_of_eq hgb.symm); have hbox := Aside0.mk hbox0; have hb := Aside0.mk hb0; clear hgb hbox0 hb0) | (go_at_call 111; refine (fault_of.kinds _).mono ?_; rintro e w2 ⟨rfl, hb2⟩; have hbx := Aside0.mk (blk_below hbox.out hb2); have hbb := Aside0.mk (below_step hb.out hb2); clear hb2) | ((with_reducible refine gate_store (t := 133) (p := 2) rfl ?_); refine wpList_store_row rfl 133 (.tmp 2) (.tmp 12) rfl gb #[.string (⟨#[113, 117, 105, 101, 116]⟩ : ByteArray), .int .i64 48, .int .i64 8, .int .i64 2, .int .i64 3] rfl rfl 133 _ hbx.out (by kernel_rfl) rfl (by kernel_rfl) ?_))
  refine bodyPost_ret (results_cell_row rfl _ _ gb 133 #[.string (⟨#[113, 117, 105, 101, 116]⟩ : ByteArray), .int .i64 48, .int .i64 8, .int .i64 2, .int .i64 3] (0, 0) _ rfl (setRow_heap _ gb _ _ _ _ hbx.out) Try.underlying133 rfl (by kernel_rfl)) rfl ?_
  exact ⟨rfl, below_setRow hbb.out hge.out _⟩
set_option maxHeartbeats 8000000 in
set_option maxRecDepth 100000 in
theorem fault_of.at5 (w : World) : Calls Try.prog 105 #[.int .i64 5] w fun e w' => e = .returned (.agg #[.string (⟨#[119, 114, 105, 116, 101]⟩ : ByteArray), .int .i64 108, .int .i64 108, .int .i64 0, .int .i64 2]) ∧ Below w.heap.size w w' := by
  have hu57 := Try.underlying133
  have hi := fault_of.idx5
  go_enter Try.func105, Try.ntmps105
  go_wp2_with (first | ((with_reducible refine gate_dst (N := 2) rfl ?_); refine box_event ?hg (N := 2) ?hd (cs := #[.string ⟨#[]⟩, .int .i64 0, .int .i64 0, .int .i64 0, .int .i64 0]) (t := 133) ?hr ?_; (case hd => rfl); (case hg => rfl); (case hr => first | (go_simp; done) | (go_simp; rfl)); intro gb hgb w1 hbox0 hb0; have hge := Aside0.mk (Nat.le_of_eq hgb.symm); have hbox := Aside0.mk hbox0; have hb := Aside0.mk hb0; clear hgb hbox0 hb0) | (go_at_call 111; refine (fault_of.kinds _).mono ?_; rintro e w2 ⟨rfl, hb2⟩; have hbx := Aside0.mk (blk_below hbox.out hb2); have hbb := Aside0.mk (below_step hb.out hb2); clear hb2) | ((with_reducible refine gate_store (t := 133) (p := 2) rfl ?_); refine wpList_store_row rfl 133 (.tmp 2) (.tmp 12) rfl gb #[.string (⟨#[119, 114, 105, 116, 101]⟩ : ByteArray), .int .i64 108, .int .i64 108, .int .i64 0, .int .i64 2] rfl rfl 133 _ hbx.out (by kernel_rfl) rfl (by kernel_rfl) ?_))
  refine bodyPost_ret (results_cell_row rfl _ _ gb 133 #[.string (⟨#[119, 114, 105, 116, 101]⟩ : ByteArray), .int .i64 108, .int .i64 108, .int .i64 0, .int .i64 2] (0, 0) _ rfl (setRow_heap _ gb _ _ _ _ hbx.out) Try.underlying133 rfl (by kernel_rfl)) rfl ?_
  exact ⟨rfl, below_setRow hbb.out hge.out _⟩
set_option maxHeartbeats 8000000 in
set_option maxRecDepth 100000 in
theorem fault_of.at6 (w : World) : Calls Try.prog 105 #[.int .i64 6] w fun e w' => e = .returned (.agg #[.string (⟨#[101, 120, 101, 99]⟩ : ByteArray), .int .i64 48, .int .i64 8, .int .i64 16, .int .i64 1]) ∧ Below w.heap.size w w' := by
  have hu57 := Try.underlying133
  have hi := fault_of.idx6
  go_enter Try.func105, Try.ntmps105
  go_wp2_with (first | ((with_reducible refine gate_dst (N := 2) rfl ?_); refine box_event ?hg (N := 2) ?hd (cs := #[.string ⟨#[]⟩, .int .i64 0, .int .i64 0, .int .i64 0, .int .i64 0]) (t := 133) ?hr ?_; (case hd => rfl); (case hg => rfl); (case hr => first | (go_simp; done) | (go_simp; rfl)); intro gb hgb w1 hbox0 hb0; have hge := Aside0.mk (Nat.le_of_eq hgb.symm); have hbox := Aside0.mk hbox0; have hb := Aside0.mk hb0; clear hgb hbox0 hb0) | (go_at_call 111; refine (fault_of.kinds _).mono ?_; rintro e w2 ⟨rfl, hb2⟩; have hbx := Aside0.mk (blk_below hbox.out hb2); have hbb := Aside0.mk (below_step hb.out hb2); clear hb2) | ((with_reducible refine gate_store (t := 133) (p := 2) rfl ?_); refine wpList_store_row rfl 133 (.tmp 2) (.tmp 12) rfl gb #[.string (⟨#[101, 120, 101, 99]⟩ : ByteArray), .int .i64 48, .int .i64 8, .int .i64 16, .int .i64 1] rfl rfl 133 _ hbx.out (by kernel_rfl) rfl (by kernel_rfl) ?_))
  refine bodyPost_ret (results_cell_row rfl _ _ gb 133 #[.string (⟨#[101, 120, 101, 99]⟩ : ByteArray), .int .i64 48, .int .i64 8, .int .i64 16, .int .i64 1] (0, 0) _ rfl (setRow_heap _ gb _ _ _ _ hbx.out) Try.underlying133 rfl (by kernel_rfl)) rfl ?_
  exact ⟨rfl, below_setRow hbb.out hge.out _⟩
set_option maxHeartbeats 8000000 in
set_option maxRecDepth 100000 in
theorem fault_of.lo (a0 : Int) (w : World) (h : a0 < 0) : Calls Try.prog 105 #[.int .i64 a0] w fun e w' => e = .returned (.agg #[.string ⟨#[]⟩, .int .i64 0, .int .i64 0, .int .i64 0, .int .i64 0]) ∧ Below w.heap.size w w' := by
  have hu57 := Try.underlying133
  have h1 : decide (a0 < 0) = true := decide_eq_true h
  go_enter Try.func105, Try.ntmps105
  go_wp2_with (first | ((with_reducible refine gate_dst (N := 2) rfl ?_); refine box_event ?hg (N := 2) ?hd (cs := #[.string ⟨#[]⟩, .int .i64 0, .int .i64 0, .int .i64 0, .int .i64 0]) (t := 133) ?hr ?_; (case hd => rfl); (case hg => rfl); (case hr => first | (go_simp; done) | (go_simp; rfl)); intro gb hgb w1 hbox0 hb0; have hge := Aside0.mk (Nat.le_of_eq hgb.symm); have hbox := Aside0.mk hbox0; have hb := Aside0.mk hb0; clear hgb hbox0 hb0) | ((with_reducible refine gate_store (t := 133) (p := 2) rfl ?_); refine wpList_store_row rfl 133 (.tmp 2) (.tmp 9) rfl gb #[.string ⟨#[]⟩, .int .i64 0, .int .i64 0, .int .i64 0, .int .i64 0] rfl rfl 133 _ hbox.out (by kernel_rfl) rfl (by kernel_rfl) ?_))
  refine bodyPost_ret (results_cell_row rfl _ _ gb 133 #[.string ⟨#[]⟩, .int .i64 0, .int .i64 0, .int .i64 0, .int .i64 0] (0, 0) _ rfl (setRow_heap _ gb _ _ _ _ hbox.out) Try.underlying133 rfl (by kernel_rfl)) rfl ?_
  exact ⟨rfl, below_setRow hb.out hge.out _⟩
set_option maxHeartbeats 8000000 in
set_option maxRecDepth 100000 in
theorem fault_of.hi (a0 : Int) (w : World) (h : 7 ≤ a0) : Calls Try.prog 105 #[.int .i64 a0] w fun e w' => e = .returned (.agg #[.string ⟨#[]⟩, .int .i64 0, .int .i64 0, .int .i64 0, .int .i64 0]) ∧ Below w.heap.size w w' := by
  have hu57 := Try.underlying133
  have h1 : decide (a0 < 0) = false := decide_eq_false (by omega)
  have h2 : decide (7 ≤ a0) = true := decide_eq_true h
  go_enter Try.func105, Try.ntmps105
  go_wp2_with (first | ((with_reducible refine gate_dst (N := 2) rfl ?_); refine box_event ?hg (N := 2) ?hd (cs := #[.string ⟨#[]⟩, .int .i64 0, .int .i64 0, .int .i64 0, .int .i64 0]) (t := 133) ?hr ?_; (case hd => rfl); (case hg => rfl); (case hr => first | (go_simp; done) | (go_simp; rfl)); intro gb hgb w1 hbox0 hb0; have hge := Aside0.mk (Nat.le_of_eq hgb.symm); have hbox := Aside0.mk hbox0; have hb := Aside0.mk hb0; clear hgb hbox0 hb0) | ((with_reducible refine gate_store (t := 133) (p := 2) rfl ?_); refine wpList_store_row rfl 133 (.tmp 2) (.tmp 9) rfl gb #[.string ⟨#[]⟩, .int .i64 0, .int .i64 0, .int .i64 0, .int .i64 0] rfl rfl 133 _ hbox.out (by kernel_rfl) rfl (by kernel_rfl) ?_))
  refine bodyPost_ret (results_cell_row rfl _ _ gb 133 #[.string ⟨#[]⟩, .int .i64 0, .int .i64 0, .int .i64 0, .int .i64 0] (0, 0) _ rfl (setRow_heap _ gb _ _ _ _ hbox.out) Try.underlying133 rfl (by kernel_rfl)) rfl ?_
  exact ⟨rfl, below_setRow hb.out hge.out _⟩
theorem fault_of.calls (a0 : Int) (r1 : ByteArray) (r2 : Int) (r3 : Int) (r4 : Int) (r5 : Int) (w : World) (h : fault_of.f a0 = some (r1, r2, r3, r4, r5)) :
    Calls Try.prog 105 #[.int .i64 a0] w fun e w' => e = .returned (.agg #[.string r1, .int .i64 r2, .int .i64 r3, .int .i64 r4, .int .i64 r5]) ∧ Below w.heap.size w w' := by
  unfold fault_of.f at h
  by_cases c0 : a0 = 0
  · subst c0; rw [if_pos rfl] at h; simp only [Option.some.injEq, Prod.mk.injEq] at h; obtain ⟨rfl, rfl, rfl, rfl, rfl⟩ := h; exact fault_of.at0 w
  rw [if_neg c0] at h
  by_cases c1 : a0 = 1
  · subst c1; rw [if_pos rfl] at h; simp only [Option.some.injEq, Prod.mk.injEq] at h; obtain ⟨rfl, rfl, rfl, rfl, rfl⟩ := h; exact fault_of.at1 w
  rw [if_neg c1] at h
  by_cases c2 : a0 = 2
  · subst c2; rw [if_pos rfl] at h; simp only [Option.some.injEq, Prod.mk.injEq] at h; obtain ⟨rfl, rfl, rfl, rfl, rfl⟩ := h; exact fault_of.at2 w
  rw [if_neg c2] at h
  by_cases c3 : a0 = 3
  · subst c3; rw [if_pos rfl] at h; simp only [Option.some.injEq, Prod.mk.injEq] at h; obtain ⟨rfl, rfl, rfl, rfl, rfl⟩ := h; exact fault_of.at3 w
  rw [if_neg c3] at h
  by_cases c4 : a0 = 4
  · subst c4; rw [if_pos rfl] at h; simp only [Option.some.injEq, Prod.mk.injEq] at h; obtain ⟨rfl, rfl, rfl, rfl, rfl⟩ := h; exact fault_of.at4 w
  rw [if_neg c4] at h
  by_cases c5 : a0 = 5
  · subst c5; rw [if_pos rfl] at h; simp only [Option.some.injEq, Prod.mk.injEq] at h; obtain ⟨rfl, rfl, rfl, rfl, rfl⟩ := h; exact fault_of.at5 w
  rw [if_neg c5] at h
  by_cases c6 : a0 = 6
  · subst c6; rw [if_pos rfl] at h; simp only [Option.some.injEq, Prod.mk.injEq] at h; obtain ⟨rfl, rfl, rfl, rfl, rfl⟩ := h; exact fault_of.at6 w
  rw [if_neg c6] at h
  simp only [Option.some.injEq, Prod.mk.injEq] at h
  obtain ⟨rfl, rfl, rfl, rfl, rfl⟩ := h
  by_cases hl : a0 < 0
  · exact fault_of.lo a0 w hl
  · exact fault_of.hi a0 w (by omega)
/-! ### fault_Type: function 81 -/
def fault_Type.f (a0 : Int) : Option (Int) := (fault_of.f a0).bind fun bt153 => (some bt153.2.2.2.1)
set_option maxHeartbeats 8000000 in
set_option maxRecDepth 100000 in
theorem fault_Type.calls (a0 : Int) (r : Int) (w : World) (h : fault_Type.f a0 = some r) :
    Calls Try.prog 81 #[.int .i64 a0] w fun e w' => e = .returned (.int .i64 r) ∧ Below w.heap.size w w' := by
  have hu133 := Try.underlying133
  have hfv133_3 : ∀ (c0_ c1_ c2_ c3_ c4_ : Value) (W_ : World), (Instr.field 133 (.agg #[c0_, c1_, c2_, c3_, c4_]) 3).run Try.prog W_ = .ok (c3_) W_ := fun _ _ _ _ _ _ => by kernel_rfl
  have HB := Aside0.mk (Below.refl w.heap.size w)
  have H : ((fault_of.f a0).bind fun bt153 => (some bt153.2.2.2.1)) = some r := h
  clear h
  replace H := Option.bind_eq_some_iff.mp H
  obtain ⟨⟨t153, t154, t155, t156, t157⟩, A20, H⟩ := H
  replace H : (some t156) = some r := H
  have A2 := Aside0.mk A20
  clear A20
  obtain rfl := Option.some.inj H
  go_enter Try.func81, Try.ntmps81
  go_wp2_with (first | ((with_reducible refine gate_callee (f := 105) rfl ?_); refine goesL_ (some 4) rfl rfl Try.func105 (by kernel_rfl) rfl #[.int .i64 a0] rfl (by (try simp only [List.map_toArray, List.map_cons, List.map_nil]); first | done | rfl | (simp only [List.length_drop, List.length_take]; rfl)) ?_; (with_reducible refine (fault_of.calls a0 t153 t154 t155 t156 t157 _ A2.out).mono ?_); rintro e w3 ⟨rfl, hb⟩; refine ⟨_, rfl, ?_⟩; have n0_ := Aside0.mk (below_step (by repeat (first | (with_reducible first | exact HB.out | apply below_alloc | apply pw_below_drewN | apply below_drew1) | exact HB.out)) hb); clear HB; have HB := n0_; clear n0_; (try clear hb); (try clear hb2); (try clear hk); (try clear hi)))
  go_ret
  exact ⟨by first | rfl | (simp [errW_none, errW_some] <;> rfl) | (simp [*, errW_none, errW_some] <;> rfl), by repeat (first | (with_reducible first | exact HB.out | apply below_alloc | apply pw_below_drewN | apply below_drew1) | exact HB.out)⟩

-- NOT PRINTED: function 43 (cpu_Cpu_Note)

-- NOT PRINTED: function 12 (lookasidelaw17_CpuNotes)
end Go.Proofs.Ythclbckkfgmbaaa.QRegsPlays
