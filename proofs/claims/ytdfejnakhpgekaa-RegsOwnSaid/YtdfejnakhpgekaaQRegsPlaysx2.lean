-- Printed by a program of this session (wip/print/myprint.py) out of the translation; Lean checks it.
import Derived.Test.YtdfejnakhpgekaaQRegsPlaysx0
import Derived.Test.YtdfejnakhpgekaaQRegsPlaysx1
namespace Go.Proofs.Ytdfejnakhpgekaa.QRegsPlays
open Go.RowKit Go.Proofs.YtdfejnakhpgekaaW.PrintWords Go.Proofs.YtdfejnakhpgekaaW.PrintLast Go.Proofs.YtdfejnakhpgekaaW.PrintMore
attribute [local go_sem] max2_int min2_int max_two min_two max_three min_three max_four min_four   -- for this text's walks alone
set_option linter.unusedVariables false
set_option linter.unusedSimpArgs false

attribute [local go_sem high] eqA102
-- NOT PRINTED: function 15 (regs_New)

/-! ### regs_keys: function 69 -/
def regs_keys.f  : Option ((List (S102))) := some (([(⟨80, 0⟩ : S102), (⟨80, 24⟩ : S102), (⟨80, 40⟩ : S102), (⟨80, 48⟩ : S102), (⟨88, 0⟩ : S102), (⟨88, 8⟩ : S102), (⟨88, 16⟩ : S102), (⟨88, 24⟩ : S102), (⟨88, 32⟩ : S102), (⟨88, 40⟩ : S102), (⟨88, 48⟩ : S102)] : List (S102)))
set_option maxHeartbeats 8000000 in
set_option maxRecDepth 100000 in
theorem regs_keys.calls  (r : List (S102)) (w : World) (h : regs_keys.f  = some r) :
    Calls Try.prog 69 #[] w fun e w' => ∃ v0_ : Value, e = .returned (v0_) ∧ Kd.R k102 102 w' w.heap.size (fun _ => True) v0_ r ∧ Below w.heap.size w w' := by
  have hu102 := Try.underlying102
  have HB := Aside0.mk (Below.refl w.heap.size w)
  have H : (some (([(⟨80, 0⟩ : S102), (⟨80, 24⟩ : S102), (⟨80, 40⟩ : S102), (⟨80, 48⟩ : S102), (⟨88, 0⟩ : S102), (⟨88, 8⟩ : S102), (⟨88, 16⟩ : S102), (⟨88, 24⟩ : S102), (⟨88, 32⟩ : S102), (⟨88, 40⟩ : S102), (⟨88, 48⟩ : S102)] : List (S102)))) = some r := h
  clear h
  obtain ⟨y101, hy101⟩ : ∃ y_ : List (S102), y_ = (([(⟨80, 0⟩ : S102), (⟨80, 24⟩ : S102), (⟨80, 40⟩ : S102), (⟨80, 48⟩ : S102), (⟨88, 0⟩ : S102), (⟨88, 8⟩ : S102), (⟨88, 16⟩ : S102), (⟨88, 24⟩ : S102), (⟨88, 32⟩ : S102), (⟨88, 40⟩ : S102), (⟨88, 48⟩ : S102)] : List (S102))) := ⟨_, rfl⟩
  replace H : (some y101) = some r := by first | (rw [hy101]; with_reducible exact H) | (have H2_ := (Option.bind_some _ _).symm.trans H; rw [hy101]; with_reducible exact H2_) | (have H2_ := (Option.bind_some _ _).symm.trans H; with_reducible exact H2_) | with_reducible exact H | (rw [hy101]; exact H) | exact H
  have Ny101 := Aside0.mk hy101
  clear hy101
  obtain rfl := Option.some.inj H
  go_enter Try.func69, Try.ntmps69
  go_wp2_with (first | ((with_reducible refine gate_dst (N := 12) rfl ?_); refine Kd.R_lit k102 _ 102 ?hg (N := 12) ?hd (xs := ([(⟨80, 0⟩ : S102), (⟨80, 24⟩ : S102), (⟨80, 40⟩ : S102), (⟨80, 48⟩ : S102), (⟨88, 0⟩ : S102), (⟨88, 8⟩ : S102), (⟨88, 16⟩ : S102), (⟨88, 24⟩ : S102), (⟨88, 32⟩ : S102), (⟨88, 40⟩ : S102), (⟨88, 48⟩ : S102)] : List (S102))) (inner := [.int .i64 80, .int .u64 0, .int .i64 80, .int .u64 24, .int .i64 80, .int .u64 40, .int .i64 80, .int .u64 48, .int .i64 88, .int .u64 0, .int .i64 88, .int .u64 8, .int .i64 88, .int .u64 16, .int .i64 88, .int .u64 24, .int .i64 88, .int .u64 32, .int .i64 88, .int .u64 40, .int .i64 88, .int .u64 48]) (ok := fun _ => True) (okp := fun _ => True) ?hr ?hp (fun _ hk => hk) trivial (Below.refl _ _) (Nat.le_refl _) (by simp) ?_; (case hd => rfl); (case hg => rfl); (case hr => first | (go_simp; done) | (go_simp; rfl)); (case hp => exact (Reps.c2 (show Kd.M k102 _ _ _ (⟨80, 0⟩ : S102) [.int .i64 80, .int .u64 0] from (k102_mkM _ _ _ (⟨80, 0⟩ : S102) )) (Reps.c2 (show Kd.M k102 _ _ _ (⟨80, 24⟩ : S102) [.int .i64 80, .int .u64 24] from (k102_mkM _ _ _ (⟨80, 24⟩ : S102) )) (Reps.c2 (show Kd.M k102 _ _ _ (⟨80, 40⟩ : S102) [.int .i64 80, .int .u64 40] from (k102_mkM _ _ _ (⟨80, 40⟩ : S102) )) (Reps.c2 (show Kd.M k102 _ _ _ (⟨80, 48⟩ : S102) [.int .i64 80, .int .u64 48] from (k102_mkM _ _ _ (⟨80, 48⟩ : S102) )) (Reps.c2 (show Kd.M k102 _ _ _ (⟨88, 0⟩ : S102) [.int .i64 88, .int .u64 0] from (k102_mkM _ _ _ (⟨88, 0⟩ : S102) )) (Reps.c2 (show Kd.M k102 _ _ _ (⟨88, 8⟩ : S102) [.int .i64 88, .int .u64 8] from (k102_mkM _ _ _ (⟨88, 8⟩ : S102) )) (Reps.c2 (show Kd.M k102 _ _ _ (⟨88, 16⟩ : S102) [.int .i64 88, .int .u64 16] from (k102_mkM _ _ _ (⟨88, 16⟩ : S102) )) (Reps.c2 (show Kd.M k102 _ _ _ (⟨88, 24⟩ : S102) [.int .i64 88, .int .u64 24] from (k102_mkM _ _ _ (⟨88, 24⟩ : S102) )) (Reps.c2 (show Kd.M k102 _ _ _ (⟨88, 32⟩ : S102) [.int .i64 88, .int .u64 32] from (k102_mkM _ _ _ (⟨88, 32⟩ : S102) )) (Reps.c2 (show Kd.M k102 _ _ _ (⟨88, 40⟩ : S102) [.int .i64 88, .int .u64 40] from (k102_mkM _ _ _ (⟨88, 40⟩ : S102) )) (Reps.c2 (show Kd.M k102 _ _ _ (⟨88, 48⟩ : S102) [.int .i64 88, .int .u64 48] from (k102_mkM _ _ _ (⟨88, 48⟩ : S102) )) (Reps.none _ _))))))))))))); intro v102 w1 ho2 hb hg_ hnew_; clear hg_ hnew_; (first | rw [← Ny101.out] at ho2 | (simp only [Int.reduceToNat] at ho2; rw [← Ny101.out] at ho2)); have n0_ := Aside0.mk (Kd.R_lower ho2 (below_size (by repeat (first | (with_reducible first | exact HB.out | apply below_alloc | apply pw_below_drewN | apply below_drew1) | exact HB.out)))); have n1_ := Aside0.mk (below_step (by repeat (first | (with_reducible first | exact HB.out | apply below_alloc | apply pw_below_drewN | apply below_drew1) | exact HB.out)) hb); clear HB; have HO103 := n0_; have HB := n1_; clear n0_ n1_; clear hb ho2))
  go_ret
  exact ⟨_, by first | rfl | (simp [errW_none, errW_some] <;> rfl) | (simp [*, errW_none, errW_some] <;> rfl), by (with_reducible repeat (first | apply Kd.R_alloc | apply Kd.R_drewN | apply Kd.R_drew)); exact HO103.out, by repeat (first | (with_reducible first | exact HB.out | apply below_alloc | apply pw_below_drewN | apply below_drew1) | exact HB.out)⟩

/-! ### regs_there: function 56 -/
def regs_there.l0 : Nat → List (S102) → Int → Int → Int → Int → Option (Bool)
  | 0, _, _, _, _, _ => none
  | k + 1, x5, x6, x7, x105000, x105001 => if x7 < x6 then (if 0 ≤ x7 then (if x7 < (x5.length : Int) then (if (((rd_T102 x5 x7).f0) == x105000 && (((rd_T102 x5 x7).f1) == x105001)) = true then (some true) else (regs_there.l0 k x5 x6 (wrap64 (x7 + 1)) x105000 x105001)) else (none)) else (none)) else (some false)
def regs_there.f (k : Nat) (a0_0 : Int) (a0_1 : Int) : Option (Bool) := (regs_keys.f).bind fun t105 => (regs_there.l0 k t105 (t105.length : Int) 0 a0_0 a0_1)
theorem regs_there.mono_l : ∀ k, (∀ y0 y1 y2 y3 y4, LeO (regs_there.l0 k y0 y1 y2 y3 y4) (regs_there.l0 (k + 1) y0 y1 y2 y3 y4))
  | 0 => fun _ _ _ _ _ r h => by simp [regs_there.l0] at h
  | k + 1 => by
    have ih0 := regs_there.mono_l k
    · intro y0 y1 y2 y3 y4
      unfold regs_there.l0
      repeat' first
      | (with_reducible exact ih0 _ _ _ _ _)
      | (with_reducible exact LeO.refl _)
      | (with_reducible exact LeO.none _)
      | (with_reducible refine LeO.ite ?_ ?_)
      | (with_reducible refine LeO.bind ?_ (fun _ => ?_))
      | exact ih0 _ _ _ _ _
      | exact LeO.none _
      | refine LeO.ite ?_ ?_
      | refine LeO.bind ?_ (fun _ => ?_)
theorem regs_there.mono : ∀ a0 a1 k, LeO (regs_there.f k a0 a1) (regs_there.f (k + 1) a0 a1) := by
  intro a0 a1 k
  have ih0 := regs_there.mono_l k
  unfold regs_there.f
  repeat' first
      | (with_reducible exact ih0 _ _ _ _ _)
      | (with_reducible exact LeO.refl _)
      | (with_reducible exact LeO.none _)
      | (with_reducible refine LeO.ite ?_ ?_)
      | (with_reducible refine LeO.bind ?_ (fun _ => ?_))
      | exact ih0 _ _ _ _ _
      | exact LeO.none _
      | refine LeO.ite ?_ ?_
      | refine LeO.bind ?_ (fun _ => ?_)
set_option maxHeartbeats 8000000 in
set_option maxRecDepth 100000 in
theorem regs_there.calls (k : Nat) (a0_0 : Int) (a0_1 : Int) (r : Bool) (w : World) (h : regs_there.f k a0_0 a0_1 = some r) :
    Calls Try.prog 56 #[.agg #[.int .i64 a0_0, .int .u64 a0_1]] w fun e w' => e = .returned (.bool r) ∧ Below w.heap.size w w' := by
  have hu102 := Try.underlying102
  have HB := Aside0.mk (Below.refl w.heap.size w)
  have H : ((regs_keys.f).bind fun t105 => (regs_there.l0 k t105 (t105.length : Int) 0 a0_0 a0_1)) = some r := h
  clear h
  replace H := Option.bind_eq_some_iff.mp H
  obtain ⟨t105, A20, H⟩ := H
  replace H : (regs_there.l0 k t105 (t105.length : Int) 0 a0_0 a0_1) = some r := H
  have A2 := Aside0.mk A20
  clear A20
  have H' := Aside0.mk H
  clear H
  go_enter Try.func56, Try.ntmps56
  go_wp2_with (first | ((with_reducible refine gate_dst (N := 1) rfl ?_); refine box_event ?hg (N := 1) ?hd (cs := #[.int .i64 a0_0, .int .u64 a0_1]) (t := 102) ?hr ?_; (case hd => rfl); (case hg => rfl); (case hr => first | (go_simp; done) | (go_simp; rfl)); intro gb104 hg w3 hbox hb; have n0_ := Aside0.mk (below_step (by repeat (first | (with_reducible first | exact HB.out | apply below_alloc | apply pw_below_drewN | apply below_drew1) | exact HB.out)) hb); have n1_ := Aside0.mk (hbox); have n2_ := Aside0.mk ((by rw [hg]; exact (below_size (by repeat (first | (with_reducible first | exact HB.out | apply below_alloc | apply pw_below_drewN | apply below_drew1) | exact HB.out))) : w.heap.size ≤ gb104)); have n3_ := Aside0.mk ((by rw [hg]; exact (below_size (by repeat (first | (with_reducible first | exact HB.out | apply below_alloc | apply pw_below_drewN | apply below_drew1) | exact HB.out))) : w.heap.size ≤ gb104)); clear HB; have HB := n0_; have BK104 := n1_; have GW104 := n2_; have GE104 := n3_; clear n0_ n1_ n2_ n3_; clear hb hbox hg) | ((with_reducible refine gate_callee (f := 69) rfl ?_); refine goesL_ (some 5) rfl rfl Try.func69 (by kernel_rfl) rfl #[] rfl (by (try simp only [List.map_toArray, List.map_cons, List.map_nil]); first | done | rfl | (simp only [List.length_drop, List.length_take]; rfl)) ?_; (with_reducible refine (regs_keys.calls  t105 _ A2.out).mono ?_); rintro e w4 ⟨v106, rfl, ho0, hb⟩; refine ⟨_, rfl, ?_⟩; have n0_ := Aside0.mk (Kd.R_lower (Kd.R_newB ho0 (g := gb104) (o := .cells #[.int .i64 a0_0, .int .u64 a0_1] 102 (0, 0)) (by (with_reducible repeat (first | refine blk_drewN ?_ _ | refine blk_drew ?_ | refine blk_alloc ?_ _)); exact BK104.out)) (below_size (by repeat (first | (with_reducible first | exact HB.out | apply below_alloc | apply pw_below_drewN | apply below_drew1 | refine below_set ?_ GE104.out) | exact HB.out)))); have n1_ := Aside0.mk (blk_below (g := gb104) (o := .cells #[.int .i64 a0_0, .int .u64 a0_1] 102 (0, 0)) (by (with_reducible repeat (first | refine blk_drewN ?_ _ | refine blk_drew ?_ | refine blk_alloc ?_ _)); exact BK104.out) hb); have n2_ := Aside0.mk (below_step (by repeat (first | (with_reducible first | exact HB.out | apply below_alloc | apply pw_below_drewN | apply below_drew1 | refine below_set ?_ GE104.out) | exact HB.out)) hb); clear BK104; clear HB; have HO107 := n0_; have BK104 := n1_; have HB := n2_; clear n0_ n1_ n2_; (try clear hb); (try clear hb2); (try clear hk); (try clear hi); (try clear ho0); obtain ⟨Ao5, co5, eo5⟩ := Kd.R_slice HO107.out; subst eo5))
  go_loopg [7] k (fun kq v7 w' => ∃ (x7_1 : Int), v7 = .int .i64 x7_1 ∧ Aside0 (regs_there.l0 kq t105 (t105.length : Int) x7_1 a0_0 a0_1 = some r) ∧ Aside0 (kq ≤ k) ∧ Aside0 (Kd.R k102 102 w' w.heap.size (fun k_ => k_ ≠ gb104) (.slice Ao5 t105.length co5) t105) ∧ Aside0 (w'.heap[gb104]? = some (.cells #[.int .i64 a0_0, .int .u64 a0_1] 102 (0, 0))) ∧ Aside0 (Below w.heap.size w w'))
  case atStart => exact ⟨(0), (by first | rfl | (simp; done) | (simp [*]; done)), H', ⟨Nat.le_refl _⟩, ⟨by (with_reducible repeat (first | apply Kd.R_alloc | apply Kd.R_drewN | apply Kd.R_drew)); exact Kd.R_mono HO107.out (fun _ hk => hk.2)⟩, ⟨by (with_reducible repeat (first | refine blk_drewN ?_ _ | refine blk_drew ?_ | refine blk_alloc ?_ _)); exact BK104.out⟩, ⟨by repeat (first | (with_reducible first | exact HB.out | apply below_alloc | apply pw_below_drewN | apply below_drew1 | refine below_set ?_ GE104.out) | exact HB.out)⟩⟩
  case round =>
    clear H'
    try clear p2
    try clear c5
    obtain ⟨x7_1, rfl, HA, HK1, HO_5, BK104, HB⟩ := hrel
    cases gk with
    | zero => exact absurd HA.out (by simp [regs_there.l0])
    | succ k1 =>
      have H := HA.out
      clear HA
      simp only [regs_there.l0] at H
      by_cases c6 : x7_1 < (t105.length : Int)
      · rw [if_pos c6] at H
        have c6b0 : decide (x7_1 < (t105.length : Int)) = true := decide_eq_true c6
        clear c6
        by_cases c7 : 0 ≤ x7_1
        · rw [if_pos c7] at H
          have c7b0 : decide (0 ≤ x7_1) = true := decide_eq_true c7
          clear c7
          by_cases c8 : x7_1 < (t105.length : Int)
          · rw [if_pos c8] at H
            have c8b0 : decide (x7_1 < (t105.length : Int)) = true := decide_eq_true c8
            clear c8
            by_cases c9 : (((rd_T102 t105 x7_1).f0) == a0_0 && (((rd_T102 t105 x7_1).f1) == a0_1)) = true
            · rw [if_pos c9] at H
              have c9b0 : (((rd_T102 t105 x7_1).f0) == a0_0 && (((rd_T102 t105 x7_1).f1) == a0_1)) = true := c9
              (try (have c9b1 : decide (((rd_T102 t105 x7_1).f0) = a0_0 && (((rd_T102 t105 x7_1).f1) == a0_1)) = true := by simpa using c9))
              (try (have c9b2 : (((rd_T102 t105 x7_1).f0) == a0_0 && (((rd_T102 t105 x7_1).f1) == a0_1)) = true := by simpa using c9))
              clear c9
              obtain rfl := Option.some.inj H
              have p108 : 0 ≤ (x7_1 : Int) := of_decide_eq_true (by first | (with_reducible assumption) | assumption)
              have q108 : x7_1 < (t105.length : Int) := of_decide_eq_true (by first | (with_reducible assumption) | assumption)
              obtain ⟨ad108, e108, hx108_0, hx108_1⟩ := at_T102 (Kd.R_reads' HO_5.out).2.2 x7_1 p108 q108
              cases e108
              replace p108 := eq_true p108
              replace q108 := eq_true q108
              go_wp2_with (first | ((with_reducible refine gate_dst (N := 4) rfl ?_); refine box_event ?hg (N := 4) ?hd (cs := #[.int .i64 0, .int .u64 0]) (t := 102) ?hr ?_; (case hd => rfl); (case hg => rfl); (case hr => first | (go_simp; done) | (go_simp; rfl)); intro gb109 hg w10 hbox hb; have n0_ := Aside0.mk (Kd.R_below (Kd.R_elderB (by (with_reducible repeat (first | apply Kd.R_alloc | apply Kd.R_drewN | apply Kd.R_drew)); exact HO_5.out) gb109 (Nat.le_of_eq hg.symm)) hb); have n1_ := Aside0.mk (blk_below (g := gb104) (o := .cells #[.int .i64 a0_0, .int .u64 a0_1] 102 (0, 0)) (by (with_reducible repeat (first | refine blk_drewN ?_ _ | refine blk_drew ?_ | refine blk_alloc ?_ _)); exact BK104.out) hb); have n2_ := Aside0.mk (below_step (by repeat (first | (with_reducible first | exact HB.out | apply below_alloc | apply pw_below_drewN | apply below_drew1 | refine below_set ?_ GE104.out) | exact HB.out)) hb); have n3_ := Aside0.mk (hbox); have n4_ := Aside0.mk ((by rw [hg]; exact (below_size (by repeat (first | (with_reducible first | exact HB.out | apply below_alloc | apply pw_below_drewN | apply below_drew1 | refine below_set ?_ GE104.out) | exact HB.out))) : w.heap.size ≤ gb109)); have n5_ := Aside0.mk ((by rw [hg]; exact (below_size (by repeat (first | (with_reducible first | exact HB.out | apply below_alloc | apply pw_below_drewN | apply below_drew1 | refine below_set ?_ GE104.out) | exact HB.out))) : w.heap.size ≤ gb109)); have n6_ := Aside0.mk ((by rw [hg]; exact Nat.ne_of_lt (blk_lt (g := gb104) (o := .cells #[.int .i64 a0_0, .int .u64 a0_1] 102 (0, 0)) (by (with_reducible repeat (first | refine blk_drewN ?_ _ | refine blk_drew ?_ | refine blk_alloc ?_ _)); exact BK104.out)) : gb104 ≠ gb109)); have n7_ := Aside0.mk ((by rw [hg]; exact Nat.ne_of_gt (blk_lt (g := gb104) (o := .cells #[.int .i64 a0_0, .int .u64 a0_1] 102 (0, 0)) (by (with_reducible repeat (first | refine blk_drewN ?_ _ | refine blk_drew ?_ | refine blk_alloc ?_ _)); exact BK104.out)) : gb109 ≠ gb104)); clear HO_5; clear BK104; clear HB; have HO_5 := n0_; have BK104 := n1_; have HB := n2_; have BK109 := n3_; have GW109 := n4_; have GE109 := n5_; have NB104_109 := n6_; have NB109_104 := n7_; clear n0_ n1_ n2_ n3_ n4_ n5_ n6_ n7_; clear hb hbox hg; have hnb11 := NB109_104.out; have hnc11 := NB104_109.out; have hcz12_0 : w10.cell? ⟨gb109, 0, none⟩ = some (.int .i64 0) := (blk_cell BK109.out 0).trans rfl; have hcz12_1 : w10.cell? ⟨gb109, 1, none⟩ = some (.int .u64 0) := (blk_cell BK109.out 1).trans rfl; have hfz12_0 := blk_frozen BK109.out 0; have hfz12_1 := blk_frozen BK109.out 1; have hcz13_0 : w10.cell? ⟨gb104, 0, none⟩ = some (.int .i64 a0_0) := (blk_cell BK104.out 0).trans rfl; have hcz13_1 : w10.cell? ⟨gb104, 1, none⟩ = some (.int .u64 a0_1) := (blk_cell BK104.out 1).trans rfl; have hfz13_0 := blk_frozen BK104.out 0; have hfz13_1 := blk_frozen BK104.out 1))
              go_ret
              exact ⟨by first | rfl | (simp [errW_none, errW_some] <;> rfl) | (simp [*, errW_none, errW_some] <;> rfl), by repeat (first | (with_reducible first | exact HB.out | apply below_alloc | apply pw_below_drewN | apply below_drew1 | refine below_set ?_ GE104.out | refine below_set ?_ GE109.out) | exact HB.out)⟩
            · rw [if_neg c9] at H
              have c9b0 : (((rd_T102 t105 x7_1).f0) == a0_0 && (((rd_T102 t105 x7_1).f1) == a0_1)) = false := by simpa using c9
              (try (have c9b1 : decide (((rd_T102 t105 x7_1).f0) = a0_0 && (((rd_T102 t105 x7_1).f1) == a0_1)) = false := by simpa using c9))
              (try (have c9b2 : (((rd_T102 t105 x7_1).f0) == a0_0 && (((rd_T102 t105 x7_1).f1) == a0_1)) = false := by simpa using c9))
              (try (have c9b3 : ¬ (((rd_T102 t105 x7_1).f0) = a0_0 && (((rd_T102 t105 x7_1).f1) == a0_1)) := by simpa using c9))
              clear c9
              have H' := Aside0.mk H
              clear H
              have p108 : 0 ≤ (x7_1 : Int) := of_decide_eq_true (by first | (with_reducible assumption) | assumption)
              have q108 : x7_1 < (t105.length : Int) := of_decide_eq_true (by first | (with_reducible assumption) | assumption)
              obtain ⟨ad108, e108, hx108_0, hx108_1⟩ := at_T102 (Kd.R_reads' HO_5.out).2.2 x7_1 p108 q108
              cases e108
              replace p108 := eq_true p108
              replace q108 := eq_true q108
              go_wp2_with (first | ((with_reducible refine gate_dst (N := 4) rfl ?_); refine box_event ?hg (N := 4) ?hd (cs := #[.int .i64 0, .int .u64 0]) (t := 102) ?hr ?_; (case hd => rfl); (case hg => rfl); (case hr => first | (go_simp; done) | (go_simp; rfl)); intro gb109 hg w14 hbox hb; have n0_ := Aside0.mk (Kd.R_below (Kd.R_elderB (by (with_reducible repeat (first | apply Kd.R_alloc | apply Kd.R_drewN | apply Kd.R_drew)); exact HO_5.out) gb109 (Nat.le_of_eq hg.symm)) hb); have n1_ := Aside0.mk (blk_below (g := gb104) (o := .cells #[.int .i64 a0_0, .int .u64 a0_1] 102 (0, 0)) (by (with_reducible repeat (first | refine blk_drewN ?_ _ | refine blk_drew ?_ | refine blk_alloc ?_ _)); exact BK104.out) hb); have n2_ := Aside0.mk (below_step (by repeat (first | (with_reducible first | exact HB.out | apply below_alloc | apply pw_below_drewN | apply below_drew1 | refine below_set ?_ GE104.out) | exact HB.out)) hb); have n3_ := Aside0.mk (hbox); have n4_ := Aside0.mk ((by rw [hg]; exact (below_size (by repeat (first | (with_reducible first | exact HB.out | apply below_alloc | apply pw_below_drewN | apply below_drew1 | refine below_set ?_ GE104.out) | exact HB.out))) : w.heap.size ≤ gb109)); have n5_ := Aside0.mk ((by rw [hg]; exact (below_size (by repeat (first | (with_reducible first | exact HB.out | apply below_alloc | apply pw_below_drewN | apply below_drew1 | refine below_set ?_ GE104.out) | exact HB.out))) : w.heap.size ≤ gb109)); have n6_ := Aside0.mk ((by rw [hg]; exact Nat.ne_of_lt (blk_lt (g := gb104) (o := .cells #[.int .i64 a0_0, .int .u64 a0_1] 102 (0, 0)) (by (with_reducible repeat (first | refine blk_drewN ?_ _ | refine blk_drew ?_ | refine blk_alloc ?_ _)); exact BK104.out)) : gb104 ≠ gb109)); have n7_ := Aside0.mk ((by rw [hg]; exact Nat.ne_of_gt (blk_lt (g := gb104) (o := .cells #[.int .i64 a0_0, .int .u64 a0_1] 102 (0, 0)) (by (with_reducible repeat (first | refine blk_drewN ?_ _ | refine blk_drew ?_ | refine blk_alloc ?_ _)); exact BK104.out)) : gb109 ≠ gb104)); clear HO_5; clear BK104; clear HB; have HO_5 := n0_; have BK104 := n1_; have HB := n2_; have BK109 := n3_; have GW109 := n4_; have GE109 := n5_; have NB104_109 := n6_; have NB109_104 := n7_; clear n0_ n1_ n2_ n3_ n4_ n5_ n6_ n7_; clear hb hbox hg; have hnb15 := NB109_104.out; have hnc15 := NB104_109.out; have hcz16_0 : w14.cell? ⟨gb109, 0, none⟩ = some (.int .i64 0) := (blk_cell BK109.out 0).trans rfl; have hcz16_1 : w14.cell? ⟨gb109, 1, none⟩ = some (.int .u64 0) := (blk_cell BK109.out 1).trans rfl; have hfz16_0 := blk_frozen BK109.out 0; have hfz16_1 := blk_frozen BK109.out 1; have hcz17_0 : w14.cell? ⟨gb104, 0, none⟩ = some (.int .i64 a0_0) := (blk_cell BK104.out 0).trans rfl; have hcz17_1 : w14.cell? ⟨gb104, 1, none⟩ = some (.int .u64 a0_1) := (blk_cell BK104.out 1).trans rfl; have hfz17_0 := blk_frozen BK104.out 0; have hfz17_1 := blk_frozen BK104.out 1))
              go_roundg k1
              case measure => have := HK1.out; omega
              case rel => exact ⟨(wrap64 (x7_1 + 1)), (by first | rfl | (simp; done) | (simp [*]; done)), H', ⟨by have := HK1.out; omega⟩, ⟨by (with_reducible repeat (first | apply Kd.R_alloc | apply Kd.R_drewN | apply Kd.R_drew)); exact Kd.R_mono (Kd.R_far (p := ⟨gb109, 1, none⟩) (Kd.R_far (p := ⟨gb109, 0, none⟩) (Kd.R_mono HO_5.out (fun k_ hk => (⟨hk, hk.2⟩ : _ ∧ k_ ≠ gb109))) (fun _ hk => hk.2) (.int .i64 ((rd_T102 t105 x7_1).f0))) (fun _ hk => hk.2) (.int .u64 ((rd_T102 t105 x7_1).f1))) (fun _ hk => hk.1.1)⟩, ⟨by (with_reducible repeat (first | refine blk_drewN ?_ _ | refine blk_drew ?_ | refine blk_alloc ?_ _)); refine blk_far ?_ NB104_109.out _; (with_reducible repeat (first | refine blk_drewN ?_ _ | refine blk_drew ?_ | refine blk_alloc ?_ _)); refine blk_far ?_ NB104_109.out _; (with_reducible repeat (first | refine blk_drewN ?_ _ | refine blk_drew ?_ | refine blk_alloc ?_ _)); exact BK104.out⟩, ⟨by repeat (first | (with_reducible first | exact HB.out | apply below_alloc | apply pw_below_drewN | apply below_drew1 | refine below_set ?_ GE104.out | refine below_set ?_ GE109.out) | exact HB.out)⟩⟩
          · rw [if_neg c8] at H
            exact absurd H (by simp)
        · rw [if_neg c7] at H
          exact absurd H (by simp)
      · rw [if_neg c6] at H
        have c6b0 : decide (x7_1 < (t105.length : Int)) = false := decide_eq_false c6
        clear c6
        obtain rfl := Option.some.inj H
        go_wp2
        go_ret
        exact ⟨by first | rfl | (simp [errW_none, errW_some] <;> rfl) | (simp [*, errW_none, errW_some] <;> rfl), by repeat (first | (with_reducible first | exact HB.out | apply below_alloc | apply pw_below_drewN | apply below_drew1 | refine below_set ?_ GE104.out) | exact HB.out)⟩

/-! ### field_May: function 110 -/
def field_May.f (a0 : Int) (a1 : Int) : Option (Bool) := if a0 ≥ 0 then (if a1 ≥ 1 then (if a1 ≤ 64 then (some (decide (a0 ≤ (wrap64 (64 - a1))))) else (some false)) else (some false)) else (some false)
set_option maxHeartbeats 8000000 in
set_option maxRecDepth 100000 in
theorem field_May.calls (a0 : Int) (a1 : Int) (r : Bool) (w : World) (h : field_May.f a0 a1 = some r) :
    Calls Try.prog 110 #[.int .i64 a0, .int .i64 a1] w fun e w' => e = .returned (.bool r) ∧ Drawn0 w w' := by
  have H : (if a0 ≥ 0 then (if a1 ≥ 1 then (if a1 ≤ 64 then (some (decide (a0 ≤ (wrap64 (64 - a1))))) else (some false)) else (some false)) else (some false)) = some r := h
  clear h
  by_cases c3 : a0 ≥ 0
  · rw [if_pos c3] at H
    have c3b0 : decide (0 ≤ a0) = true := decide_eq_true c3
    clear c3
    by_cases c4 : a1 ≥ 1
    · rw [if_pos c4] at H
      have c4b0 : decide (1 ≤ a1) = true := decide_eq_true c4
      clear c4
      by_cases c5 : a1 ≤ 64
      · rw [if_pos c5] at H
        have c5b0 : decide (a1 ≤ 64) = true := decide_eq_true c5
        clear c5
        obtain rfl := Option.some.inj H
        go_enter Try.func110, Try.ntmps110
        go_wp2
        go_ret
        exact ⟨by first | rfl | (simp; done) | (simp [*]; done), by repeat (first | exact Drawn0.refl _ | apply Drawn0.step)⟩
      · rw [if_neg c5] at H
        have c5b0 : decide (a1 ≤ 64) = false := decide_eq_false c5
        clear c5
        obtain rfl := Option.some.inj H
        go_enter Try.func110, Try.ntmps110
        go_wp2
        go_ret
        exact ⟨by first | rfl | (simp; done) | (simp [*]; done), by repeat (first | exact Drawn0.refl _ | apply Drawn0.step)⟩
    · rw [if_neg c4] at H
      have c4b0 : decide (1 ≤ a1) = false := decide_eq_false c4
      clear c4
      obtain rfl := Option.some.inj H
      go_enter Try.func110, Try.ntmps110
      go_wp2
      go_ret
      exact ⟨by first | rfl | (simp; done) | (simp [*]; done), by repeat (first | exact Drawn0.refl _ | apply Drawn0.step)⟩
  · rw [if_neg c3] at H
    have c3b0 : decide (0 ≤ a0) = false := decide_eq_false c3
    clear c3
    obtain rfl := Option.some.inj H
    go_enter Try.func110, Try.ntmps110
    go_wp2
    go_ret
    exact ⟨by first | rfl | (simp; done) | (simp [*]; done), by repeat (first | exact Drawn0.refl _ | apply Drawn0.step)⟩

/-! ### field_Mask: function 108 -/
def field_Mask.f (a0 : Int) (a1 : Int) : Option (Int) := (field_May.f a0 a1).bind fun t110 => (if t110 = true then (if 0 ≤ (wrap64 (64 - a1)) then (if 0 ≤ a0 then (some (shl .u64 (shr .u64 18446744073709551615 (wrap64 (64 - a1))) a0)) else (none)) else (none)) else (some 0))
set_option maxHeartbeats 8000000 in
set_option maxRecDepth 100000 in
theorem field_Mask.calls (a0 : Int) (a1 : Int) (r : Int) (w : World) (h : field_Mask.f a0 a1 = some r) :
    Calls Try.prog 108 #[.int .i64 a0, .int .i64 a1] w fun e w' => e = .returned (.int .u64 r) ∧ Drawn0 w w' := by
  have H : ((field_May.f a0 a1).bind fun t110 => (if t110 = true then (if 0 ≤ (wrap64 (64 - a1)) then (if 0 ≤ a0 then (some (shl .u64 (shr .u64 18446744073709551615 (wrap64 (64 - a1))) a0)) else (none)) else (none)) else (some 0))) = some r := h
  clear h
  replace H := Option.bind_eq_some_iff.mp H
  obtain ⟨t110, A30, H⟩ := H
  replace H : (if t110 = true then (if 0 ≤ (wrap64 (64 - a1)) then (if 0 ≤ a0 then (some (shl .u64 (shr .u64 18446744073709551615 (wrap64 (64 - a1))) a0)) else (none)) else (none)) else (some 0)) = some r := H
  have A3 := Aside0.mk A30
  clear A30
  by_cases c4 : t110 = true
  · subst c4
    have H1 : (if 0 ≤ (wrap64 (64 - a1)) then (if 0 ≤ a0 then (some (shl .u64 (shr .u64 18446744073709551615 (wrap64 (64 - a1))) a0)) else (none)) else (none)) = some r := by rw [if_pos rfl] at H; exact H
    clear H
    have H := H1
    clear H1
    obtain ⟨ji5, hji5⟩ : ∃ j_ : Int, (wrap64 (64 - a1)) = j_ := ⟨_, rfl⟩
    replace H : (if 0 ≤ (ji5) then (if 0 ≤ a0 then (some (shl .u64 (shr .u64 18446744073709551615 (ji5)) a0)) else (none)) else (none)) = some r := by first | (rw [hji5] at H; exact H) | (simp only [hji5] at H ⊢; exact H)
    (try rw [hji5] at A3)
    have hji5w : (IntKind.i64.wrap (64 - a1)) = ji5 := (i64_w _).trans hji5
    by_cases c6 : 0 ≤ (ji5)
    · rw [if_pos c6] at H
      have c6b0 := eq_true c6
      have c6b1 : decide (0 ≤ (ji5)) = true := decide_eq_true c6
      clear c6
      obtain ⟨ji7, hji7⟩ : ∃ j_ : Int, (shr .u64 18446744073709551615 (ji5)) = j_ := ⟨_, rfl⟩
      replace H : (if 0 ≤ a0 then (some (shl .u64 (ji7) a0)) else (none)) = some r := by first | (rw [hji7] at H; exact H) | (simp only [hji7] at H ⊢; exact H)
      (try rw [hji7] at A3)
      have hji7_ : (18446744073709551615 / 2 ^ min (ji5).toNat 64) = ji7 := hji7
      have hji7z : (ji5) ≤ 64 → (18446744073709551615 / 2 ^ (ji5).toNat) = ji7 := shr_small hji7
      by_cases c8 : 0 ≤ a0
      · rw [if_pos c8] at H
        have c8b0 := eq_true c8
        have c8b1 : decide (0 ≤ a0) = true := decide_eq_true c8
        clear c8
        obtain ⟨ji9, hji9⟩ : ∃ j_ : Int, (shl .u64 (ji7) a0) = j_ := ⟨_, rfl⟩
        replace H : (some ji9) = some r := by first | (rw [hji9] at H; exact H) | (simp only [hji9] at H ⊢; exact H)
        (try rw [hji9] at A3)
        have hji9_ : (IntKind.u64.wrap ((ji7) * 2 ^ min a0.toNat 64)) = ji9 := hji9
        have hji9z : a0 ≤ 64 → (IntKind.u64.wrap ((ji7) * 2 ^ a0.toNat)) = ji9 := shl_small hji9
        obtain rfl := Option.some.inj H
        go_enter Try.func108, Try.ntmps108
        go_wp2_with (first | ((with_reducible refine gate_callee (f := 110) rfl ?_); refine goesL_ (some 7) rfl rfl Try.func110 (by kernel_rfl) rfl #[.int .i64 a0, .int .i64 a1] rfl (by (try simp only [List.map_toArray, List.map_cons, List.map_nil]); first | done | rfl | (simp only [List.length_drop, List.length_take]; rfl)) ?_; (with_reducible refine (field_May.calls a0 a1 true _ A3.out).mono ?_); rintro e w' ⟨rfl, ⟨nd, rfl⟩⟩; refine ⟨_, rfl, ?_⟩))
        go_ret
        exact ⟨by first | rfl | (simp; done) | (simp only [← hji5, ← hji7, ← hji9] <;> (first | rfl | simp)) | (simp [*]; done), by repeat (first | exact Drawn0.refl _ | apply Drawn0.step)⟩
      · rw [if_neg c8] at H
        exact absurd H (by simp)
    · rw [if_neg c6] at H
      exact absurd H (by simp)
  · replace c4 := Bool.eq_false_iff.mpr c4
    subst c4
    have H1 : (some 0) = some r := by rw [if_neg (show ¬ (false = true) by decide)] at H; exact H
    clear H
    have H := H1
    clear H1
    obtain rfl := Option.some.inj H
    go_enter Try.func108, Try.ntmps108
    go_wp2_with (first | ((with_reducible refine gate_callee (f := 110) rfl ?_); refine goesL_ (some 7) rfl rfl Try.func110 (by kernel_rfl) rfl #[.int .i64 a0, .int .i64 a1] rfl (by (try simp only [List.map_toArray, List.map_cons, List.map_nil]); first | done | rfl | (simp only [List.length_drop, List.length_take]; rfl)) ?_; (with_reducible refine (field_May.calls a0 a1 false _ A3.out).mono ?_); rintro e w' ⟨rfl, ⟨nd, rfl⟩⟩; refine ⟨_, rfl, ?_⟩))
    go_ret
    exact ⟨by first | rfl | (simp; done) | (simp [*]; done), by repeat (first | exact Drawn0.refl _ | apply Drawn0.step)⟩

/-! ### field_Put: function 62 -/
def field_Put.f (a0 : Int) (a1 : Int) (a2 : Int) (a3 : Int) : Option (Int) := (field_May.f a1 a2).bind fun t111 => (if t111 = true then ((field_Mask.f a1 a2).bind fun t112 => (if 0 ≤ a1 then (some (Go.bits .or .u64 (Go.bits .andNot .u64 a0 t112) (Go.bits .and .u64 (shl .u64 a3 a1) t112))) else (none))) else (some a0))
set_option maxHeartbeats 8000000 in
set_option maxRecDepth 100000 in
theorem field_Put.calls (a0 : Int) (a1 : Int) (a2 : Int) (a3 : Int) (r : Int) (w : World) (h : field_Put.f a0 a1 a2 a3 = some r) :
    Calls Try.prog 62 #[.int .u64 a0, .int .i64 a1, .int .i64 a2, .int .u64 a3] w fun e w' => e = .returned (.int .u64 r) ∧ Drawn0 w w' := by
  have H : ((field_May.f a1 a2).bind fun t111 => (if t111 = true then ((field_Mask.f a1 a2).bind fun t112 => (if 0 ≤ a1 then (some (Go.bits .or .u64 (Go.bits .andNot .u64 a0 t112) (Go.bits .and .u64 (shl .u64 a3 a1) t112))) else (none))) else (some a0))) = some r := h
  clear h
  replace H := Option.bind_eq_some_iff.mp H
  obtain ⟨t111, A50, H⟩ := H
  replace H : (if t111 = true then ((field_Mask.f a1 a2).bind fun t112 => (if 0 ≤ a1 then (some (Go.bits .or .u64 (Go.bits .andNot .u64 a0 t112) (Go.bits .and .u64 (shl .u64 a3 a1) t112))) else (none))) else (some a0)) = some r := H
  have A5 := Aside0.mk A50
  clear A50
  by_cases c6 : t111 = true
  · subst c6
    have H1 : ((field_Mask.f a1 a2).bind fun t112 => (if 0 ≤ a1 then (some (Go.bits .or .u64 (Go.bits .andNot .u64 a0 t112) (Go.bits .and .u64 (shl .u64 a3 a1) t112))) else (none))) = some r := by rw [if_pos rfl] at H; exact H
    clear H
    have H := H1
    clear H1
    replace H := Option.bind_eq_some_iff.mp H
    obtain ⟨t112, A70, H⟩ := H
    replace H : (if 0 ≤ a1 then (some (Go.bits .or .u64 (Go.bits .andNot .u64 a0 t112) (Go.bits .and .u64 (shl .u64 a3 a1) t112))) else (none)) = some r := H
    have A7 := Aside0.mk A70
    clear A70
    by_cases c8 : 0 ≤ a1
    · rw [if_pos c8] at H
      have c8b0 := eq_true c8
      have c8b1 : decide (0 ≤ a1) = true := decide_eq_true c8
      clear c8
      obtain ⟨ji9, hji9⟩ : ∃ j_ : Int, (shl .u64 a3 a1) = j_ := ⟨_, rfl⟩
      replace H : (some (Go.bits .or .u64 (Go.bits .andNot .u64 a0 t112) (Go.bits .and .u64 (ji9) t112))) = some r := by first | (rw [hji9] at H; exact H) | (simp only [hji9] at H ⊢; exact H)
      (try rw [hji9] at A5)
      (try rw [hji9] at A7)
      have hji9_ : (IntKind.u64.wrap (a3 * 2 ^ min a1.toNat 64)) = ji9 := hji9
      have hji9z : a1 ≤ 64 → (IntKind.u64.wrap (a3 * 2 ^ a1.toNat)) = ji9 := shl_small hji9
      obtain rfl := Option.some.inj H
      go_enter Try.func62, Try.ntmps62
      go_wp2_with (first | ((with_reducible refine gate_callee (f := 110) rfl ?_); refine goesL_ (some 12) rfl rfl Try.func110 (by kernel_rfl) rfl #[.int .i64 a1, .int .i64 a2] rfl (by (try simp only [List.map_toArray, List.map_cons, List.map_nil]); first | done | rfl | (simp only [List.length_drop, List.length_take]; rfl)) ?_; (with_reducible refine (field_May.calls a1 a2 true _ A5.out).mono ?_); rintro e w' ⟨rfl, ⟨nd, rfl⟩⟩; refine ⟨_, rfl, ?_⟩) | ((with_reducible refine gate_callee (f := 108) rfl ?_); refine goesL_ (some 17) rfl rfl Try.func108 (by kernel_rfl) rfl #[.int .i64 a1, .int .i64 a2] rfl (by (try simp only [List.map_toArray, List.map_cons, List.map_nil]); first | done | rfl | (simp only [List.length_drop, List.length_take]; rfl)) ?_; (with_reducible refine (field_Mask.calls a1 a2 t112 _ A7.out).mono ?_); rintro e w' ⟨rfl, ⟨nd, rfl⟩⟩; refine ⟨_, rfl, ?_⟩))
      go_ret
      exact ⟨by first | rfl | (simp; done) | (simp only [← hji9] <;> (first | rfl | simp)) | (simp [*]; done), by repeat (first | exact Drawn0.refl _ | apply Drawn0.step)⟩
    · rw [if_neg c8] at H
      exact absurd H (by simp)
  · replace c6 := Bool.eq_false_iff.mpr c6
    subst c6
    have H1 : (some a0) = some r := by rw [if_neg (show ¬ (false = true) by decide)] at H; exact H
    clear H
    have H := H1
    clear H1
    obtain rfl := Option.some.inj H
    go_enter Try.func62, Try.ntmps62
    go_wp2_with (first | ((with_reducible refine gate_callee (f := 110) rfl ?_); refine goesL_ (some 12) rfl rfl Try.func110 (by kernel_rfl) rfl #[.int .i64 a1, .int .i64 a2] rfl (by (try simp only [List.map_toArray, List.map_cons, List.map_nil]); first | done | rfl | (simp only [List.length_drop, List.length_take]; rfl)) ?_; (with_reducible refine (field_May.calls a1 a2 false _ A5.out).mono ?_); rintro e w' ⟨rfl, ⟨nd, rfl⟩⟩; refine ⟨_, rfl, ?_⟩))
    go_ret
    exact ⟨by first | rfl | (simp; done) | (simp [*]; done), by repeat (first | exact Drawn0.refl _ | apply Drawn0.step)⟩

/-! ### field_Get: function 109 -/
def field_Get.f (a0 : Int) (a1 : Int) (a2 : Int) : Option (Int) := (field_May.f a1 a2).bind fun t113 => (if t113 = true then ((field_Mask.f a1 a2).bind fun t114 => (if 0 ≤ a1 then (some (shr .u64 (Go.bits .and .u64 a0 t114) a1)) else (none))) else (some 0))
set_option maxHeartbeats 8000000 in
set_option maxRecDepth 100000 in
theorem field_Get.calls (a0 : Int) (a1 : Int) (a2 : Int) (r : Int) (w : World) (h : field_Get.f a0 a1 a2 = some r) :
    Calls Try.prog 109 #[.int .u64 a0, .int .i64 a1, .int .i64 a2] w fun e w' => e = .returned (.int .u64 r) ∧ Drawn0 w w' := by
  have H : ((field_May.f a1 a2).bind fun t113 => (if t113 = true then ((field_Mask.f a1 a2).bind fun t114 => (if 0 ≤ a1 then (some (shr .u64 (Go.bits .and .u64 a0 t114) a1)) else (none))) else (some 0))) = some r := h
  clear h
  replace H := Option.bind_eq_some_iff.mp H
  obtain ⟨t113, A40, H⟩ := H
  replace H : (if t113 = true then ((field_Mask.f a1 a2).bind fun t114 => (if 0 ≤ a1 then (some (shr .u64 (Go.bits .and .u64 a0 t114) a1)) else (none))) else (some 0)) = some r := H
  have A4 := Aside0.mk A40
  clear A40
  by_cases c5 : t113 = true
  · subst c5
    have H1 : ((field_Mask.f a1 a2).bind fun t114 => (if 0 ≤ a1 then (some (shr .u64 (Go.bits .and .u64 a0 t114) a1)) else (none))) = some r := by rw [if_pos rfl] at H; exact H
    clear H
    have H := H1
    clear H1
    replace H := Option.bind_eq_some_iff.mp H
    obtain ⟨t114, A60, H⟩ := H
    replace H : (if 0 ≤ a1 then (some (shr .u64 (Go.bits .and .u64 a0 t114) a1)) else (none)) = some r := H
    have A6 := Aside0.mk A60
    clear A60
    by_cases c7 : 0 ≤ a1
    · rw [if_pos c7] at H
      have c7b0 := eq_true c7
      have c7b1 : decide (0 ≤ a1) = true := decide_eq_true c7
      clear c7
      obtain ⟨ji8, hji8⟩ : ∃ j_ : Int, (shr .u64 (Go.bits .and .u64 a0 t114) a1) = j_ := ⟨_, rfl⟩
      replace H : (some ji8) = some r := by first | (rw [hji8] at H; exact H) | (simp only [hji8] at H ⊢; exact H)
      (try rw [hji8] at A4)
      (try rw [hji8] at A6)
      have hji8_ : ((Go.bits .and .u64 a0 t114) / 2 ^ min a1.toNat 64) = ji8 := hji8
      have hji8z : a1 ≤ 64 → ((Go.bits .and .u64 a0 t114) / 2 ^ a1.toNat) = ji8 := shr_small hji8
      obtain rfl := Option.some.inj H
      go_enter Try.func109, Try.ntmps109
      go_wp2_with (first | ((with_reducible refine gate_callee (f := 110) rfl ?_); refine goesL_ (some 9) rfl rfl Try.func110 (by kernel_rfl) rfl #[.int .i64 a1, .int .i64 a2] rfl (by (try simp only [List.map_toArray, List.map_cons, List.map_nil]); first | done | rfl | (simp only [List.length_drop, List.length_take]; rfl)) ?_; (with_reducible refine (field_May.calls a1 a2 true _ A4.out).mono ?_); rintro e w' ⟨rfl, ⟨nd, rfl⟩⟩; refine ⟨_, rfl, ?_⟩) | ((with_reducible refine gate_callee (f := 108) rfl ?_); refine goesL_ (some 14) rfl rfl Try.func108 (by kernel_rfl) rfl #[.int .i64 a1, .int .i64 a2] rfl (by (try simp only [List.map_toArray, List.map_cons, List.map_nil]); first | done | rfl | (simp only [List.length_drop, List.length_take]; rfl)) ?_; (with_reducible refine (field_Mask.calls a1 a2 t114 _ A6.out).mono ?_); rintro e w' ⟨rfl, ⟨nd, rfl⟩⟩; refine ⟨_, rfl, ?_⟩))
      go_ret
      exact ⟨by first | rfl | (simp; done) | (simp only [← hji8] <;> (first | rfl | simp)) | (simp [*]; done), by repeat (first | exact Drawn0.refl _ | apply Drawn0.step)⟩
    · rw [if_neg c7] at H
      exact absurd H (by simp)
  · replace c5 := Bool.eq_false_iff.mpr c5
    subst c5
    have H1 : (some 0) = some r := by rw [if_neg (show ¬ (false = true) by decide)] at H; exact H
    clear H
    have H := H1
    clear H1
    obtain rfl := Option.some.inj H
    go_enter Try.func109, Try.ntmps109
    go_wp2_with (first | ((with_reducible refine gate_callee (f := 110) rfl ?_); refine goesL_ (some 9) rfl rfl Try.func110 (by kernel_rfl) rfl #[.int .i64 a1, .int .i64 a2] rfl (by (try simp only [List.map_toArray, List.map_cons, List.map_nil]); first | done | rfl | (simp only [List.length_drop, List.length_take]; rfl)) ?_; (with_reducible refine (field_May.calls a1 a2 false _ A4.out).mono ?_); rintro e w' ⟨rfl, ⟨nd, rfl⟩⟩; refine ⟨_, rfl, ?_⟩))
    go_ret
    exact ⟨by first | rfl | (simp; done) | (simp [*]; done), by repeat (first | exact Drawn0.refl _ | apply Drawn0.step)⟩

-- NOT PRINTED: function 57 (regs_Regs_get)

-- NOT PRINTED: function 17 (regs_Regs_Read)

-- NOT PRINTED: function 23 (regs_Regs_All)

/-! ### regs_isUnit: function 58 -/
def regs_isUnit.f (a0 : Int) : Option (Bool) := if a0 = 0 then (some true) else (some (a0 == 1))
set_option maxHeartbeats 8000000 in
set_option maxRecDepth 100000 in
theorem regs_isUnit.calls (a0 : Int) (r : Bool) (w : World) (h : regs_isUnit.f a0 = some r) :
    Calls Try.prog 58 #[.int .i64 a0] w fun e w' => e = .returned (.bool r) ∧ Drawn0 w w' := by
  have H : (if a0 = 0 then (some true) else (some (a0 == 1))) = some r := h
  clear h
  by_cases c2 : a0 = 0
  · rw [if_pos c2] at H
    have c2b0 : (a0 == 0) = true := beq_iff_eq.mpr c2
    have c2b1 : (a0 != 0) = false := bne_eq_false_iff_eq.mpr c2
    clear c2
    obtain rfl := Option.some.inj H
    go_enter Try.func58, Try.ntmps58
    go_wp2
    go_ret
    exact ⟨by first | rfl | (simp; done) | (simp [*]; done), by repeat (first | exact Drawn0.refl _ | apply Drawn0.step)⟩
  · rw [if_neg c2] at H
    have c2b0 : (a0 == 0) = false := beq_eq_false_iff_ne.mpr c2
    have c2b1 : (a0 != 0) = true := bne_iff_ne.mpr c2
    obtain rfl := Option.some.inj H
    go_enter Try.func58, Try.ntmps58
    go_wp2
    go_ret
    exact ⟨by first | rfl | (simp; done) | (simp [*]; done), by repeat (first | exact Drawn0.refl _ | apply Drawn0.step)⟩

/-! ### regs_space: function 59 -/
def regs_space.f (a0 : Int) : Option (Int) := if a0 = 0 then (some 80) else (some 88)
set_option maxHeartbeats 8000000 in
set_option maxRecDepth 100000 in
theorem regs_space.calls (a0 : Int) (r : Int) (w : World) (h : regs_space.f a0 = some r) :
    Calls Try.prog 59 #[.int .i64 a0] w fun e w' => e = .returned (.int .i64 r) ∧ Drawn0 w w' := by
  have H : (if a0 = 0 then (some 80) else (some 88)) = some r := h
  clear h
  by_cases c2 : a0 = 0
  · rw [if_pos c2] at H
    have c2b0 : (a0 == 0) = true := beq_iff_eq.mpr c2
    have c2b1 : (a0 != 0) = false := bne_eq_false_iff_eq.mpr c2
    clear c2
    obtain rfl := Option.some.inj H
    go_enter Try.func59, Try.ntmps59
    go_wp2
    go_ret
    exact ⟨by first | rfl | (simp; done) | (simp [*]; done), by repeat (first | exact Drawn0.refl _ | apply Drawn0.step)⟩
  · rw [if_neg c2] at H
    have c2b0 : (a0 == 0) = false := beq_eq_false_iff_ne.mpr c2
    have c2b1 : (a0 != 0) = true := bne_iff_ne.mpr c2
    obtain rfl := Option.some.inj H
    go_enter Try.func59, Try.ntmps59
    go_wp2
    go_ret
    exact ⟨by first | rfl | (simp; done) | (simp [*]; done), by repeat (first | exact Drawn0.refl _ | apply Drawn0.step)⟩

-- NOT PRINTED: function 25 (regs_Regs_Miss)

-- NOT PRINTED: function 18 (lookasidelaw07_lives)

-- NOT PRINTED: function 55 (regs_stays)

-- NOT PRINTED: function 16 (regs_Regs_Write)

/-! ### field_Set: function 60 -/
def field_Set.f (a0 : Int) (a1 : Int) (a2 : Bool) : Option (Int) := if a2 = true then ((field_Put.f a0 a1 1 1).bind fun t115 => (some t115)) else ((field_Put.f a0 a1 1 0).bind fun t116 => (some t116))
set_option maxHeartbeats 8000000 in
set_option maxRecDepth 100000 in
theorem field_Set.calls (a0 : Int) (a1 : Int) (a2 : Bool) (r : Int) (w : World) (h : field_Set.f a0 a1 a2 = some r) :
    Calls Try.prog 60 #[.int .u64 a0, .int .i64 a1, .bool a2] w fun e w' => e = .returned (.int .u64 r) ∧ Drawn0 w w' := by
  have H : (if a2 = true then ((field_Put.f a0 a1 1 1).bind fun t115 => (some t115)) else ((field_Put.f a0 a1 1 0).bind fun t116 => (some t116))) = some r := h
  clear h
  by_cases c4 : a2 = true
  · subst c4
    have H1 : ((field_Put.f a0 a1 1 1).bind fun t115 => (some t115)) = some r := by rw [if_pos rfl] at H; exact H
    clear H
    have H := H1
    clear H1
    replace H := Option.bind_eq_some_iff.mp H
    obtain ⟨t115, A50, H⟩ := H
    replace H : (some t115) = some r := H
    have A5 := Aside0.mk A50
    clear A50
    obtain rfl := Option.some.inj H
    go_enter Try.func60, Try.ntmps60
    go_wp2_with (first | ((with_reducible refine gate_callee (f := 62) rfl ?_); refine goesL_ (some 12) rfl rfl Try.func62 (by kernel_rfl) rfl #[.int .u64 a0, .int .i64 a1, .int .i64 1, .int .u64 1] rfl (by (try simp only [List.map_toArray, List.map_cons, List.map_nil]); first | done | rfl | (simp only [List.length_drop, List.length_take]; rfl)) ?_; (with_reducible refine (field_Put.calls a0 a1 1 1 t115 _ A5.out).mono ?_); rintro e w' ⟨rfl, ⟨nd, rfl⟩⟩; refine ⟨_, rfl, ?_⟩))
    go_ret
    exact ⟨by first | rfl | (simp; done) | (simp [*]; done), by repeat (first | exact Drawn0.refl _ | apply Drawn0.step)⟩
  · replace c4 := Bool.eq_false_iff.mpr c4
    subst c4
    have H1 : ((field_Put.f a0 a1 1 0).bind fun t116 => (some t116)) = some r := by rw [if_neg (show ¬ (false = true) by decide)] at H; exact H
    clear H
    have H := H1
    clear H1
    replace H := Option.bind_eq_some_iff.mp H
    obtain ⟨t116, A60, H⟩ := H
    replace H : (some t116) = some r := H
    have A6 := Aside0.mk A60
    clear A60
    obtain rfl := Option.some.inj H
    go_enter Try.func60, Try.ntmps60
    go_wp2_with (first | ((with_reducible refine gate_callee (f := 62) rfl ?_); refine goesL_ (some 12) rfl rfl Try.func62 (by kernel_rfl) rfl #[.int .u64 a0, .int .i64 a1, .int .i64 1, .int .u64 0] rfl (by (try simp only [List.map_toArray, List.map_cons, List.map_nil]); first | done | rfl | (simp only [List.length_drop, List.length_take]; rfl)) ?_; (with_reducible refine (field_Put.calls a0 a1 1 0 t116 _ A6.out).mono ?_); rintro e w' ⟨rfl, ⟨nd, rfl⟩⟩; refine ⟨_, rfl, ?_⟩))
    go_ret
    exact ⟨by first | rfl | (simp; done) | (simp [*]; done), by repeat (first | exact Drawn0.refl _ | apply Drawn0.step)⟩

/-! ### field_Bit: function 61 -/
def field_Bit.f (a0 : Int) (a1 : Int) : Option (Bool) := (field_Get.f a0 a1 1).bind fun t117 => (some (t117 == 1))
set_option maxHeartbeats 8000000 in
set_option maxRecDepth 100000 in
theorem field_Bit.calls (a0 : Int) (a1 : Int) (r : Bool) (w : World) (h : field_Bit.f a0 a1 = some r) :
    Calls Try.prog 61 #[.int .u64 a0, .int .i64 a1] w fun e w' => e = .returned (.bool r) ∧ Drawn0 w w' := by
  have H : ((field_Get.f a0 a1 1).bind fun t117 => (some (t117 == 1))) = some r := h
  clear h
  replace H := Option.bind_eq_some_iff.mp H
  obtain ⟨t117, A30, H⟩ := H
  replace H : (some (t117 == 1)) = some r := H
  have A3 := Aside0.mk A30
  clear A30
  obtain rfl := Option.some.inj H
  go_enter Try.func61, Try.ntmps61
  go_wp2_with (first | ((with_reducible refine gate_callee (f := 109) rfl ?_); refine goesL_ (some 7) rfl rfl Try.func109 (by kernel_rfl) rfl #[.int .u64 a0, .int .i64 a1, .int .i64 1] rfl (by (try simp only [List.map_toArray, List.map_cons, List.map_nil]); first | done | rfl | (simp only [List.length_drop, List.length_take]; rfl)) ?_; (with_reducible refine (field_Get.calls a0 a1 1 t117 _ A3.out).mono ?_); rintro e w' ⟨rfl, ⟨nd, rfl⟩⟩; refine ⟨_, rfl, ?_⟩))
  go_ret
  exact ⟨by first | rfl | (simp; done) | (simp [*]; done), by repeat (first | exact Drawn0.refl _ | apply Drawn0.step)⟩

-- NOT PRINTED: function 19 (regs_Regs_Fault)

-- NOT PRINTED: function 20 (regs_Regs_Clear)

/-! ### lookasideref07_Target: function 70 -/
def lookasideref07_Target.f (a0 : Int) : Option (Int) := some (IntKind.u64.wrap ((IntKind.u64.wrap ((Int.tmod a0 8192) * 281474976710656)) + (IntKind.u64.wrap (Int.tdiv a0 4194304))))
set_option maxHeartbeats 8000000 in
set_option maxRecDepth 100000 in
theorem lookasideref07_Target.calls (a0 : Int) (r : Int) (w : World) (h : lookasideref07_Target.f a0 = some r) :
    Calls Try.prog 70 #[.int .u64 a0] w fun e w' => e = .returned (.int .u64 r) ∧ Drawn0 w w' := by
  have H : (some (IntKind.u64.wrap ((IntKind.u64.wrap ((Int.tmod a0 8192) * 281474976710656)) + (IntKind.u64.wrap (Int.tdiv a0 4194304))))) = some r := h
  clear h
  obtain rfl := Option.some.inj H
  go_enter Try.func70, Try.ntmps70
  go_wp2
  go_ret
  exact ⟨by first | rfl | (simp; done) | (simp [*]; done), by repeat (first | exact Drawn0.refl _ | apply Drawn0.step)⟩

/-! ### lookasideref07_Read: function 68 -/
def lookasideref07_Read.f (a0_0 : Int) (a0_1 : Int) (a0_2 : Int) (a0_3 : Int) (a0_4 : Int) (a0_5 : Int) (a0_6 : Int) (a0_7 : Int) (a0_8 : Int) (a1 : Int) (a2 : Int) : Option (Int × Int) := if a1 = 80 then (if a2 = 0 then ((lookasideref07_Target.f a0_2).bind fun t119 => (some (t119, 0))) else (if a2 = 24 then (some (a0_0, 0)) else (if a2 = 40 then (some (a0_1, 0)) else (if a2 = 48 then (some (a0_2, 0)) else (some (0, 10)))))) else (if a1 = 88 then (if a2 = 0 then ((lookasideref07_Target.f a0_8).bind fun t120 => (some (t120, 0))) else (if a2 = 8 then (some (a0_3, 0)) else (if a2 = 16 then (some (a0_4, 0)) else (if a2 = 24 then (some (a0_5, 0)) else (if a2 = 32 then (some (a0_6, 0)) else (if a2 = 40 then (some (a0_7, 0)) else (if a2 = 48 then (some (a0_8, 0)) else (some (0, 10))))))))) else (some (0, 10)))
set_option maxHeartbeats 8000000 in
set_option maxRecDepth 100000 in
theorem lookasideref07_Read.calls (a0_0 : Int) (a0_1 : Int) (a0_2 : Int) (a0_3 : Int) (a0_4 : Int) (a0_5 : Int) (a0_6 : Int) (a0_7 : Int) (a0_8 : Int) (a1 : Int) (a2 : Int) (r1 : Int) (r2 : Int) (w : World) (h : lookasideref07_Read.f a0_0 a0_1 a0_2 a0_3 a0_4 a0_5 a0_6 a0_7 a0_8 a1 a2 = some (r1, r2)) :
    Calls Try.prog 68 #[.agg #[.int .u64 a0_0, .int .u64 a0_1, .int .u64 a0_2, .int .u64 a0_3, .int .u64 a0_4, .int .u64 a0_5, .int .u64 a0_6, .int .u64 a0_7, .int .u64 a0_8], .int .i64 a1, .int .u64 a2] w fun e w' => e = .returned (.tuple #[.int .u64 r1, .int .i64 r2]) ∧ Below w.heap.size w w' := by
  have hu38 := Try.underlying38
  have HB := Aside0.mk (Below.refl w.heap.size w)
  have H : (if a1 = 80 then (if a2 = 0 then ((lookasideref07_Target.f a0_2).bind fun t119 => (some (t119, 0))) else (if a2 = 24 then (some (a0_0, 0)) else (if a2 = 40 then (some (a0_1, 0)) else (if a2 = 48 then (some (a0_2, 0)) else (some (0, 10)))))) else (if a1 = 88 then (if a2 = 0 then ((lookasideref07_Target.f a0_8).bind fun t120 => (some (t120, 0))) else (if a2 = 8 then (some (a0_3, 0)) else (if a2 = 16 then (some (a0_4, 0)) else (if a2 = 24 then (some (a0_5, 0)) else (if a2 = 32 then (some (a0_6, 0)) else (if a2 = 40 then (some (a0_7, 0)) else (if a2 = 48 then (some (a0_8, 0)) else (some (0, 10))))))))) else (some (0, 10)))) = some (r1, r2) := h
  clear h
  by_cases c4 : a1 = 80
  · rw [if_pos c4] at H
    have c4b0 : (a1 == 80) = true := beq_iff_eq.mpr c4
    have c4b1 : (a1 != 80) = false := bne_eq_false_iff_eq.mpr c4
    clear c4
    by_cases c5 : a2 = 0
    · rw [if_pos c5] at H
      have c5b0 : (a2 == 0) = true := beq_iff_eq.mpr c5
      have c5b1 : (a2 != 0) = false := bne_eq_false_iff_eq.mpr c5
      clear c5
      replace H := Option.bind_eq_some_iff.mp H
      obtain ⟨t119, A60, H⟩ := H
      replace H : (some (t119, 0)) = some (r1, r2) := H
      have A6 := Aside0.mk A60
      clear A60
      simp only [Option.some.injEq, Prod.mk.injEq] at H
      obtain ⟨rfl, rfl⟩ := H
      go_enter Try.func68, Try.ntmps68
      go_wp2_with (first | ((with_reducible refine gate_dst (N := 3) rfl ?_); refine box_event ?hg (N := 3) ?hd (cs := #[.int .u64 a0_0, .int .u64 a0_1, .int .u64 a0_2, .int .u64 a0_3, .int .u64 a0_4, .int .u64 a0_5, .int .u64 a0_6, .int .u64 a0_7, .int .u64 a0_8]) (t := 38) ?hr ?_; (case hd => rfl); (case hg => rfl); (case hr => first | (go_simp; done) | (go_simp; rfl)); intro gb118 hg w7 hbox hb; have n0_ := Aside0.mk (below_step (by repeat (first | (with_reducible first | exact HB.out | apply below_alloc | apply pw_below_drewN | apply below_drew1) | exact HB.out)) hb); have n1_ := Aside0.mk (hbox); have n2_ := Aside0.mk ((by rw [hg]; exact (below_size (by repeat (first | (with_reducible first | exact HB.out | apply below_alloc | apply pw_below_drewN | apply below_drew1) | exact HB.out))) : w.heap.size ≤ gb118)); have n3_ := Aside0.mk ((by rw [hg]; exact (below_size (by repeat (first | (with_reducible first | exact HB.out | apply below_alloc | apply pw_below_drewN | apply below_drew1) | exact HB.out))) : w.heap.size ≤ gb118)); clear HB; have HB := n0_; have BK118 := n1_; have GW118 := n2_; have GE118 := n3_; clear n0_ n1_ n2_ n3_; clear hb hbox hg; have hcz8_0 : w7.cell? ⟨gb118, 0, none⟩ = some (.int .u64 a0_0) := (blk_cell BK118.out 0).trans rfl; have hcz8_1 : w7.cell? ⟨gb118, 1, none⟩ = some (.int .u64 a0_1) := (blk_cell BK118.out 1).trans rfl; have hcz8_2 : w7.cell? ⟨gb118, 2, none⟩ = some (.int .u64 a0_2) := (blk_cell BK118.out 2).trans rfl; have hcz8_3 : w7.cell? ⟨gb118, 3, none⟩ = some (.int .u64 a0_3) := (blk_cell BK118.out 3).trans rfl; have hcz8_4 : w7.cell? ⟨gb118, 4, none⟩ = some (.int .u64 a0_4) := (blk_cell BK118.out 4).trans rfl; have hcz8_5 : w7.cell? ⟨gb118, 5, none⟩ = some (.int .u64 a0_5) := (blk_cell BK118.out 5).trans rfl; have hcz8_6 : w7.cell? ⟨gb118, 6, none⟩ = some (.int .u64 a0_6) := (blk_cell BK118.out 6).trans rfl; have hcz8_7 : w7.cell? ⟨gb118, 7, none⟩ = some (.int .u64 a0_7) := (blk_cell BK118.out 7).trans rfl; have hcz8_8 : w7.cell? ⟨gb118, 8, none⟩ = some (.int .u64 a0_8) := (blk_cell BK118.out 8).trans rfl; have hfz8_0 := blk_frozen BK118.out 0; have hfz8_1 := blk_frozen BK118.out 1; have hfz8_2 := blk_frozen BK118.out 2; have hfz8_3 := blk_frozen BK118.out 3; have hfz8_4 := blk_frozen BK118.out 4; have hfz8_5 := blk_frozen BK118.out 5; have hfz8_6 := blk_frozen BK118.out 6; have hfz8_7 := blk_frozen BK118.out 7; have hfz8_8 := blk_frozen BK118.out 8) | ((with_reducible refine gate_callee (f := 70) rfl ?_); refine goesL_ (some 15) rfl rfl Try.func70 (by kernel_rfl) rfl #[.int .u64 a0_2] rfl (by (try simp only [List.map_toArray, List.map_cons, List.map_nil]); first | done | rfl | (simp only [List.length_drop, List.length_take]; rfl)) ?_; (with_reducible refine (lookasideref07_Target.calls a0_2 t119 _ A6.out).mono ?_); rintro e w' ⟨rfl, ⟨nd, rfl⟩⟩; refine ⟨_, rfl, ?_⟩))
      go_ret2
      exact ⟨by first | rfl | (simp [errW_none, errW_some] <;> rfl) | (simp [*, errW_none, errW_some] <;> rfl), by repeat (first | (with_reducible first | exact HB.out | apply below_alloc | apply pw_below_drewN | apply below_drew1 | refine below_set ?_ GE118.out) | exact HB.out)⟩
    · rw [if_neg c5] at H
      have c5b0 : (a2 == 0) = false := beq_eq_false_iff_ne.mpr c5
      have c5b1 : (a2 != 0) = true := bne_iff_ne.mpr c5
      by_cases c9 : a2 = 24
      · rw [if_pos c9] at H
        have c9b0 : (a2 == 24) = true := beq_iff_eq.mpr c9
        have c9b1 : (a2 != 24) = false := bne_eq_false_iff_eq.mpr c9
        clear c9
        simp only [Option.some.injEq, Prod.mk.injEq] at H
        obtain ⟨rfl, rfl⟩ := H
        go_enter Try.func68, Try.ntmps68
        go_wp2_with (first | ((with_reducible refine gate_dst (N := 3) rfl ?_); refine box_event ?hg (N := 3) ?hd (cs := #[.int .u64 a0_0, .int .u64 a0_1, .int .u64 a0_2, .int .u64 a0_3, .int .u64 a0_4, .int .u64 a0_5, .int .u64 a0_6, .int .u64 a0_7, .int .u64 a0_8]) (t := 38) ?hr ?_; (case hd => rfl); (case hg => rfl); (case hr => first | (go_simp; done) | (go_simp; rfl)); intro gb118 hg w10 hbox hb; have n0_ := Aside0.mk (below_step (by repeat (first | (with_reducible first | exact HB.out | apply below_alloc | apply pw_below_drewN | apply below_drew1) | exact HB.out)) hb); have n1_ := Aside0.mk (hbox); have n2_ := Aside0.mk ((by rw [hg]; exact (below_size (by repeat (first | (with_reducible first | exact HB.out | apply below_alloc | apply pw_below_drewN | apply below_drew1) | exact HB.out))) : w.heap.size ≤ gb118)); have n3_ := Aside0.mk ((by rw [hg]; exact (below_size (by repeat (first | (with_reducible first | exact HB.out | apply below_alloc | apply pw_below_drewN | apply below_drew1) | exact HB.out))) : w.heap.size ≤ gb118)); clear HB; have HB := n0_; have BK118 := n1_; have GW118 := n2_; have GE118 := n3_; clear n0_ n1_ n2_ n3_; clear hb hbox hg; have hcz11_0 : w10.cell? ⟨gb118, 0, none⟩ = some (.int .u64 a0_0) := (blk_cell BK118.out 0).trans rfl; have hcz11_1 : w10.cell? ⟨gb118, 1, none⟩ = some (.int .u64 a0_1) := (blk_cell BK118.out 1).trans rfl; have hcz11_2 : w10.cell? ⟨gb118, 2, none⟩ = some (.int .u64 a0_2) := (blk_cell BK118.out 2).trans rfl; have hcz11_3 : w10.cell? ⟨gb118, 3, none⟩ = some (.int .u64 a0_3) := (blk_cell BK118.out 3).trans rfl; have hcz11_4 : w10.cell? ⟨gb118, 4, none⟩ = some (.int .u64 a0_4) := (blk_cell BK118.out 4).trans rfl; have hcz11_5 : w10.cell? ⟨gb118, 5, none⟩ = some (.int .u64 a0_5) := (blk_cell BK118.out 5).trans rfl; have hcz11_6 : w10.cell? ⟨gb118, 6, none⟩ = some (.int .u64 a0_6) := (blk_cell BK118.out 6).trans rfl; have hcz11_7 : w10.cell? ⟨gb118, 7, none⟩ = some (.int .u64 a0_7) := (blk_cell BK118.out 7).trans rfl; have hcz11_8 : w10.cell? ⟨gb118, 8, none⟩ = some (.int .u64 a0_8) := (blk_cell BK118.out 8).trans rfl; have hfz11_0 := blk_frozen BK118.out 0; have hfz11_1 := blk_frozen BK118.out 1; have hfz11_2 := blk_frozen BK118.out 2; have hfz11_3 := blk_frozen BK118.out 3; have hfz11_4 := blk_frozen BK118.out 4; have hfz11_5 := blk_frozen BK118.out 5; have hfz11_6 := blk_frozen BK118.out 6; have hfz11_7 := blk_frozen BK118.out 7; have hfz11_8 := blk_frozen BK118.out 8))
        go_ret2
        exact ⟨by first | rfl | (simp [errW_none, errW_some] <;> rfl) | (simp [*, errW_none, errW_some] <;> rfl), by repeat (first | (with_reducible first | exact HB.out | apply below_alloc | apply pw_below_drewN | apply below_drew1 | refine below_set ?_ GE118.out) | exact HB.out)⟩
      · rw [if_neg c9] at H
        have c9b0 : (a2 == 24) = false := beq_eq_false_iff_ne.mpr c9
        have c9b1 : (a2 != 24) = true := bne_iff_ne.mpr c9
        by_cases c12 : a2 = 40
        · rw [if_pos c12] at H
          have c12b0 : (a2 == 40) = true := beq_iff_eq.mpr c12
          have c12b1 : (a2 != 40) = false := bne_eq_false_iff_eq.mpr c12
          clear c12
          simp only [Option.some.injEq, Prod.mk.injEq] at H
          obtain ⟨rfl, rfl⟩ := H
          go_enter Try.func68, Try.ntmps68
          go_wp2_with (first | ((with_reducible refine gate_dst (N := 3) rfl ?_); refine box_event ?hg (N := 3) ?hd (cs := #[.int .u64 a0_0, .int .u64 a0_1, .int .u64 a0_2, .int .u64 a0_3, .int .u64 a0_4, .int .u64 a0_5, .int .u64 a0_6, .int .u64 a0_7, .int .u64 a0_8]) (t := 38) ?hr ?_; (case hd => rfl); (case hg => rfl); (case hr => first | (go_simp; done) | (go_simp; rfl)); intro gb118 hg w13 hbox hb; have n0_ := Aside0.mk (below_step (by repeat (first | (with_reducible first | exact HB.out | apply below_alloc | apply pw_below_drewN | apply below_drew1) | exact HB.out)) hb); have n1_ := Aside0.mk (hbox); have n2_ := Aside0.mk ((by rw [hg]; exact (below_size (by repeat (first | (with_reducible first | exact HB.out | apply below_alloc | apply pw_below_drewN | apply below_drew1) | exact HB.out))) : w.heap.size ≤ gb118)); have n3_ := Aside0.mk ((by rw [hg]; exact (below_size (by repeat (first | (with_reducible first | exact HB.out | apply below_alloc | apply pw_below_drewN | apply below_drew1) | exact HB.out))) : w.heap.size ≤ gb118)); clear HB; have HB := n0_; have BK118 := n1_; have GW118 := n2_; have GE118 := n3_; clear n0_ n1_ n2_ n3_; clear hb hbox hg; have hcz14_0 : w13.cell? ⟨gb118, 0, none⟩ = some (.int .u64 a0_0) := (blk_cell BK118.out 0).trans rfl; have hcz14_1 : w13.cell? ⟨gb118, 1, none⟩ = some (.int .u64 a0_1) := (blk_cell BK118.out 1).trans rfl; have hcz14_2 : w13.cell? ⟨gb118, 2, none⟩ = some (.int .u64 a0_2) := (blk_cell BK118.out 2).trans rfl; have hcz14_3 : w13.cell? ⟨gb118, 3, none⟩ = some (.int .u64 a0_3) := (blk_cell BK118.out 3).trans rfl; have hcz14_4 : w13.cell? ⟨gb118, 4, none⟩ = some (.int .u64 a0_4) := (blk_cell BK118.out 4).trans rfl; have hcz14_5 : w13.cell? ⟨gb118, 5, none⟩ = some (.int .u64 a0_5) := (blk_cell BK118.out 5).trans rfl; have hcz14_6 : w13.cell? ⟨gb118, 6, none⟩ = some (.int .u64 a0_6) := (blk_cell BK118.out 6).trans rfl; have hcz14_7 : w13.cell? ⟨gb118, 7, none⟩ = some (.int .u64 a0_7) := (blk_cell BK118.out 7).trans rfl; have hcz14_8 : w13.cell? ⟨gb118, 8, none⟩ = some (.int .u64 a0_8) := (blk_cell BK118.out 8).trans rfl; have hfz14_0 := blk_frozen BK118.out 0; have hfz14_1 := blk_frozen BK118.out 1; have hfz14_2 := blk_frozen BK118.out 2; have hfz14_3 := blk_frozen BK118.out 3; have hfz14_4 := blk_frozen BK118.out 4; have hfz14_5 := blk_frozen BK118.out 5; have hfz14_6 := blk_frozen BK118.out 6; have hfz14_7 := blk_frozen BK118.out 7; have hfz14_8 := blk_frozen BK118.out 8))
          go_ret2
          exact ⟨by first | rfl | (simp [errW_none, errW_some] <;> rfl) | (simp [*, errW_none, errW_some] <;> rfl), by repeat (first | (with_reducible first | exact HB.out | apply below_alloc | apply pw_below_drewN | apply below_drew1 | refine below_set ?_ GE118.out) | exact HB.out)⟩
        · rw [if_neg c12] at H
          have c12b0 : (a2 == 40) = false := beq_eq_false_iff_ne.mpr c12
          have c12b1 : (a2 != 40) = true := bne_iff_ne.mpr c12
          by_cases c15 : a2 = 48
          · rw [if_pos c15] at H
            have c15b0 : (a2 == 48) = true := beq_iff_eq.mpr c15
            have c15b1 : (a2 != 48) = false := bne_eq_false_iff_eq.mpr c15
            clear c15
            simp only [Option.some.injEq, Prod.mk.injEq] at H
            obtain ⟨rfl, rfl⟩ := H
            go_enter Try.func68, Try.ntmps68
            go_wp2_with (first | ((with_reducible refine gate_dst (N := 3) rfl ?_); refine box_event ?hg (N := 3) ?hd (cs := #[.int .u64 a0_0, .int .u64 a0_1, .int .u64 a0_2, .int .u64 a0_3, .int .u64 a0_4, .int .u64 a0_5, .int .u64 a0_6, .int .u64 a0_7, .int .u64 a0_8]) (t := 38) ?hr ?_; (case hd => rfl); (case hg => rfl); (case hr => first | (go_simp; done) | (go_simp; rfl)); intro gb118 hg w16 hbox hb; have n0_ := Aside0.mk (below_step (by repeat (first | (with_reducible first | exact HB.out | apply below_alloc | apply pw_below_drewN | apply below_drew1) | exact HB.out)) hb); have n1_ := Aside0.mk (hbox); have n2_ := Aside0.mk ((by rw [hg]; exact (below_size (by repeat (first | (with_reducible first | exact HB.out | apply below_alloc | apply pw_below_drewN | apply below_drew1) | exact HB.out))) : w.heap.size ≤ gb118)); have n3_ := Aside0.mk ((by rw [hg]; exact (below_size (by repeat (first | (with_reducible first | exact HB.out | apply below_alloc | apply pw_below_drewN | apply below_drew1) | exact HB.out))) : w.heap.size ≤ gb118)); clear HB; have HB := n0_; have BK118 := n1_; have GW118 := n2_; have GE118 := n3_; clear n0_ n1_ n2_ n3_; clear hb hbox hg; have hcz17_0 : w16.cell? ⟨gb118, 0, none⟩ = some (.int .u64 a0_0) := (blk_cell BK118.out 0).trans rfl; have hcz17_1 : w16.cell? ⟨gb118, 1, none⟩ = some (.int .u64 a0_1) := (blk_cell BK118.out 1).trans rfl; have hcz17_2 : w16.cell? ⟨gb118, 2, none⟩ = some (.int .u64 a0_2) := (blk_cell BK118.out 2).trans rfl; have hcz17_3 : w16.cell? ⟨gb118, 3, none⟩ = some (.int .u64 a0_3) := (blk_cell BK118.out 3).trans rfl; have hcz17_4 : w16.cell? ⟨gb118, 4, none⟩ = some (.int .u64 a0_4) := (blk_cell BK118.out 4).trans rfl; have hcz17_5 : w16.cell? ⟨gb118, 5, none⟩ = some (.int .u64 a0_5) := (blk_cell BK118.out 5).trans rfl; have hcz17_6 : w16.cell? ⟨gb118, 6, none⟩ = some (.int .u64 a0_6) := (blk_cell BK118.out 6).trans rfl; have hcz17_7 : w16.cell? ⟨gb118, 7, none⟩ = some (.int .u64 a0_7) := (blk_cell BK118.out 7).trans rfl; have hcz17_8 : w16.cell? ⟨gb118, 8, none⟩ = some (.int .u64 a0_8) := (blk_cell BK118.out 8).trans rfl; have hfz17_0 := blk_frozen BK118.out 0; have hfz17_1 := blk_frozen BK118.out 1; have hfz17_2 := blk_frozen BK118.out 2; have hfz17_3 := blk_frozen BK118.out 3; have hfz17_4 := blk_frozen BK118.out 4; have hfz17_5 := blk_frozen BK118.out 5; have hfz17_6 := blk_frozen BK118.out 6; have hfz17_7 := blk_frozen BK118.out 7; have hfz17_8 := blk_frozen BK118.out 8))
            go_ret2
            exact ⟨by first | rfl | (simp [errW_none, errW_some] <;> rfl) | (simp [*, errW_none, errW_some] <;> rfl), by repeat (first | (with_reducible first | exact HB.out | apply below_alloc | apply pw_below_drewN | apply below_drew1 | refine below_set ?_ GE118.out) | exact HB.out)⟩
          · rw [if_neg c15] at H
            have c15b0 : (a2 == 48) = false := beq_eq_false_iff_ne.mpr c15
            have c15b1 : (a2 != 48) = true := bne_iff_ne.mpr c15
            simp only [Option.some.injEq, Prod.mk.injEq] at H
            obtain ⟨rfl, rfl⟩ := H
            go_enter Try.func68, Try.ntmps68
            go_wp2_with (first | ((with_reducible refine gate_dst (N := 3) rfl ?_); refine box_event ?hg (N := 3) ?hd (cs := #[.int .u64 a0_0, .int .u64 a0_1, .int .u64 a0_2, .int .u64 a0_3, .int .u64 a0_4, .int .u64 a0_5, .int .u64 a0_6, .int .u64 a0_7, .int .u64 a0_8]) (t := 38) ?hr ?_; (case hd => rfl); (case hg => rfl); (case hr => first | (go_simp; done) | (go_simp; rfl)); intro gb118 hg w18 hbox hb; have n0_ := Aside0.mk (below_step (by repeat (first | (with_reducible first | exact HB.out | apply below_alloc | apply pw_below_drewN | apply below_drew1) | exact HB.out)) hb); have n1_ := Aside0.mk (hbox); have n2_ := Aside0.mk ((by rw [hg]; exact (below_size (by repeat (first | (with_reducible first | exact HB.out | apply below_alloc | apply pw_below_drewN | apply below_drew1) | exact HB.out))) : w.heap.size ≤ gb118)); have n3_ := Aside0.mk ((by rw [hg]; exact (below_size (by repeat (first | (with_reducible first | exact HB.out | apply below_alloc | apply pw_below_drewN | apply below_drew1) | exact HB.out))) : w.heap.size ≤ gb118)); clear HB; have HB := n0_; have BK118 := n1_; have GW118 := n2_; have GE118 := n3_; clear n0_ n1_ n2_ n3_; clear hb hbox hg))
            go_ret2
            exact ⟨by first | rfl | (simp [errW_none, errW_some] <;> rfl) | (simp [*, errW_none, errW_some] <;> rfl), by repeat (first | (with_reducible first | exact HB.out | apply below_alloc | apply pw_below_drewN | apply below_drew1 | refine below_set ?_ GE118.out) | exact HB.out)⟩
  · rw [if_neg c4] at H
    have c4b0 : (a1 == 80) = false := beq_eq_false_iff_ne.mpr c4
    have c4b1 : (a1 != 80) = true := bne_iff_ne.mpr c4
    by_cases c19 : a1 = 88
    · rw [if_pos c19] at H
      have c19b0 : (a1 == 88) = true := beq_iff_eq.mpr c19
      have c19b1 : (a1 != 88) = false := bne_eq_false_iff_eq.mpr c19
      clear c19
      by_cases c20 : a2 = 0
      · rw [if_pos c20] at H
        have c20b0 : (a2 == 0) = true := beq_iff_eq.mpr c20
        have c20b1 : (a2 != 0) = false := bne_eq_false_iff_eq.mpr c20
        clear c20
        replace H := Option.bind_eq_some_iff.mp H
        obtain ⟨t120, A210, H⟩ := H
        replace H : (some (t120, 0)) = some (r1, r2) := H
        have A21 := Aside0.mk A210
        clear A210
        simp only [Option.some.injEq, Prod.mk.injEq] at H
        obtain ⟨rfl, rfl⟩ := H
        go_enter Try.func68, Try.ntmps68
        go_wp2_with (first | ((with_reducible refine gate_dst (N := 3) rfl ?_); refine box_event ?hg (N := 3) ?hd (cs := #[.int .u64 a0_0, .int .u64 a0_1, .int .u64 a0_2, .int .u64 a0_3, .int .u64 a0_4, .int .u64 a0_5, .int .u64 a0_6, .int .u64 a0_7, .int .u64 a0_8]) (t := 38) ?hr ?_; (case hd => rfl); (case hg => rfl); (case hr => first | (go_simp; done) | (go_simp; rfl)); intro gb118 hg w22 hbox hb; have n0_ := Aside0.mk (below_step (by repeat (first | (with_reducible first | exact HB.out | apply below_alloc | apply pw_below_drewN | apply below_drew1) | exact HB.out)) hb); have n1_ := Aside0.mk (hbox); have n2_ := Aside0.mk ((by rw [hg]; exact (below_size (by repeat (first | (with_reducible first | exact HB.out | apply below_alloc | apply pw_below_drewN | apply below_drew1) | exact HB.out))) : w.heap.size ≤ gb118)); have n3_ := Aside0.mk ((by rw [hg]; exact (below_size (by repeat (first | (with_reducible first | exact HB.out | apply below_alloc | apply pw_below_drewN | apply below_drew1) | exact HB.out))) : w.heap.size ≤ gb118)); clear HB; have HB := n0_; have BK118 := n1_; have GW118 := n2_; have GE118 := n3_; clear n0_ n1_ n2_ n3_; clear hb hbox hg; have hcz23_0 : w22.cell? ⟨gb118, 0, none⟩ = some (.int .u64 a0_0) := (blk_cell BK118.out 0).trans rfl; have hcz23_1 : w22.cell? ⟨gb118, 1, none⟩ = some (.int .u64 a0_1) := (blk_cell BK118.out 1).trans rfl; have hcz23_2 : w22.cell? ⟨gb118, 2, none⟩ = some (.int .u64 a0_2) := (blk_cell BK118.out 2).trans rfl; have hcz23_3 : w22.cell? ⟨gb118, 3, none⟩ = some (.int .u64 a0_3) := (blk_cell BK118.out 3).trans rfl; have hcz23_4 : w22.cell? ⟨gb118, 4, none⟩ = some (.int .u64 a0_4) := (blk_cell BK118.out 4).trans rfl; have hcz23_5 : w22.cell? ⟨gb118, 5, none⟩ = some (.int .u64 a0_5) := (blk_cell BK118.out 5).trans rfl; have hcz23_6 : w22.cell? ⟨gb118, 6, none⟩ = some (.int .u64 a0_6) := (blk_cell BK118.out 6).trans rfl; have hcz23_7 : w22.cell? ⟨gb118, 7, none⟩ = some (.int .u64 a0_7) := (blk_cell BK118.out 7).trans rfl; have hcz23_8 : w22.cell? ⟨gb118, 8, none⟩ = some (.int .u64 a0_8) := (blk_cell BK118.out 8).trans rfl; have hfz23_0 := blk_frozen BK118.out 0; have hfz23_1 := blk_frozen BK118.out 1; have hfz23_2 := blk_frozen BK118.out 2; have hfz23_3 := blk_frozen BK118.out 3; have hfz23_4 := blk_frozen BK118.out 4; have hfz23_5 := blk_frozen BK118.out 5; have hfz23_6 := blk_frozen BK118.out 6; have hfz23_7 := blk_frozen BK118.out 7; have hfz23_8 := blk_frozen BK118.out 8) | ((with_reducible refine gate_callee (f := 70) rfl ?_); refine goesL_ (some 35) rfl rfl Try.func70 (by kernel_rfl) rfl #[.int .u64 a0_8] rfl (by (try simp only [List.map_toArray, List.map_cons, List.map_nil]); first | done | rfl | (simp only [List.length_drop, List.length_take]; rfl)) ?_; (with_reducible refine (lookasideref07_Target.calls a0_8 t120 _ A21.out).mono ?_); rintro e w' ⟨rfl, ⟨nd, rfl⟩⟩; refine ⟨_, rfl, ?_⟩))
        go_ret2
        exact ⟨by first | rfl | (simp [errW_none, errW_some] <;> rfl) | (simp [*, errW_none, errW_some] <;> rfl), by repeat (first | (with_reducible first | exact HB.out | apply below_alloc | apply pw_below_drewN | apply below_drew1 | refine below_set ?_ GE118.out) | exact HB.out)⟩
      · rw [if_neg c20] at H
        have c20b0 : (a2 == 0) = false := beq_eq_false_iff_ne.mpr c20
        have c20b1 : (a2 != 0) = true := bne_iff_ne.mpr c20
        by_cases c24 : a2 = 8
        · rw [if_pos c24] at H
          have c24b0 : (a2 == 8) = true := beq_iff_eq.mpr c24
          have c24b1 : (a2 != 8) = false := bne_eq_false_iff_eq.mpr c24
          clear c24
          simp only [Option.some.injEq, Prod.mk.injEq] at H
          obtain ⟨rfl, rfl⟩ := H
          go_enter Try.func68, Try.ntmps68
          go_wp2_with (first | ((with_reducible refine gate_dst (N := 3) rfl ?_); refine box_event ?hg (N := 3) ?hd (cs := #[.int .u64 a0_0, .int .u64 a0_1, .int .u64 a0_2, .int .u64 a0_3, .int .u64 a0_4, .int .u64 a0_5, .int .u64 a0_6, .int .u64 a0_7, .int .u64 a0_8]) (t := 38) ?hr ?_; (case hd => rfl); (case hg => rfl); (case hr => first | (go_simp; done) | (go_simp; rfl)); intro gb118 hg w25 hbox hb; have n0_ := Aside0.mk (below_step (by repeat (first | (with_reducible first | exact HB.out | apply below_alloc | apply pw_below_drewN | apply below_drew1) | exact HB.out)) hb); have n1_ := Aside0.mk (hbox); have n2_ := Aside0.mk ((by rw [hg]; exact (below_size (by repeat (first | (with_reducible first | exact HB.out | apply below_alloc | apply pw_below_drewN | apply below_drew1) | exact HB.out))) : w.heap.size ≤ gb118)); have n3_ := Aside0.mk ((by rw [hg]; exact (below_size (by repeat (first | (with_reducible first | exact HB.out | apply below_alloc | apply pw_below_drewN | apply below_drew1) | exact HB.out))) : w.heap.size ≤ gb118)); clear HB; have HB := n0_; have BK118 := n1_; have GW118 := n2_; have GE118 := n3_; clear n0_ n1_ n2_ n3_; clear hb hbox hg; have hcz26_0 : w25.cell? ⟨gb118, 0, none⟩ = some (.int .u64 a0_0) := (blk_cell BK118.out 0).trans rfl; have hcz26_1 : w25.cell? ⟨gb118, 1, none⟩ = some (.int .u64 a0_1) := (blk_cell BK118.out 1).trans rfl; have hcz26_2 : w25.cell? ⟨gb118, 2, none⟩ = some (.int .u64 a0_2) := (blk_cell BK118.out 2).trans rfl; have hcz26_3 : w25.cell? ⟨gb118, 3, none⟩ = some (.int .u64 a0_3) := (blk_cell BK118.out 3).trans rfl; have hcz26_4 : w25.cell? ⟨gb118, 4, none⟩ = some (.int .u64 a0_4) := (blk_cell BK118.out 4).trans rfl; have hcz26_5 : w25.cell? ⟨gb118, 5, none⟩ = some (.int .u64 a0_5) := (blk_cell BK118.out 5).trans rfl; have hcz26_6 : w25.cell? ⟨gb118, 6, none⟩ = some (.int .u64 a0_6) := (blk_cell BK118.out 6).trans rfl; have hcz26_7 : w25.cell? ⟨gb118, 7, none⟩ = some (.int .u64 a0_7) := (blk_cell BK118.out 7).trans rfl; have hcz26_8 : w25.cell? ⟨gb118, 8, none⟩ = some (.int .u64 a0_8) := (blk_cell BK118.out 8).trans rfl; have hfz26_0 := blk_frozen BK118.out 0; have hfz26_1 := blk_frozen BK118.out 1; have hfz26_2 := blk_frozen BK118.out 2; have hfz26_3 := blk_frozen BK118.out 3; have hfz26_4 := blk_frozen BK118.out 4; have hfz26_5 := blk_frozen BK118.out 5; have hfz26_6 := blk_frozen BK118.out 6; have hfz26_7 := blk_frozen BK118.out 7; have hfz26_8 := blk_frozen BK118.out 8))
          go_ret2
          exact ⟨by first | rfl | (simp [errW_none, errW_some] <;> rfl) | (simp [*, errW_none, errW_some] <;> rfl), by repeat (first | (with_reducible first | exact HB.out | apply below_alloc | apply pw_below_drewN | apply below_drew1 | refine below_set ?_ GE118.out) | exact HB.out)⟩
        · rw [if_neg c24] at H
          have c24b0 : (a2 == 8) = false := beq_eq_false_iff_ne.mpr c24
          have c24b1 : (a2 != 8) = true := bne_iff_ne.mpr c24
          by_cases c27 : a2 = 16
          · rw [if_pos c27] at H
            have c27b0 : (a2 == 16) = true := beq_iff_eq.mpr c27
            have c27b1 : (a2 != 16) = false := bne_eq_false_iff_eq.mpr c27
            clear c27
            simp only [Option.some.injEq, Prod.mk.injEq] at H
            obtain ⟨rfl, rfl⟩ := H
            go_enter Try.func68, Try.ntmps68
            go_wp2_with (first | ((with_reducible refine gate_dst (N := 3) rfl ?_); refine box_event ?hg (N := 3) ?hd (cs := #[.int .u64 a0_0, .int .u64 a0_1, .int .u64 a0_2, .int .u64 a0_3, .int .u64 a0_4, .int .u64 a0_5, .int .u64 a0_6, .int .u64 a0_7, .int .u64 a0_8]) (t := 38) ?hr ?_; (case hd => rfl); (case hg => rfl); (case hr => first | (go_simp; done) | (go_simp; rfl)); intro gb118 hg w28 hbox hb; have n0_ := Aside0.mk (below_step (by repeat (first | (with_reducible first | exact HB.out | apply below_alloc | apply pw_below_drewN | apply below_drew1) | exact HB.out)) hb); have n1_ := Aside0.mk (hbox); have n2_ := Aside0.mk ((by rw [hg]; exact (below_size (by repeat (first | (with_reducible first | exact HB.out | apply below_alloc | apply pw_below_drewN | apply below_drew1) | exact HB.out))) : w.heap.size ≤ gb118)); have n3_ := Aside0.mk ((by rw [hg]; exact (below_size (by repeat (first | (with_reducible first | exact HB.out | apply below_alloc | apply pw_below_drewN | apply below_drew1) | exact HB.out))) : w.heap.size ≤ gb118)); clear HB; have HB := n0_; have BK118 := n1_; have GW118 := n2_; have GE118 := n3_; clear n0_ n1_ n2_ n3_; clear hb hbox hg; have hcz29_0 : w28.cell? ⟨gb118, 0, none⟩ = some (.int .u64 a0_0) := (blk_cell BK118.out 0).trans rfl; have hcz29_1 : w28.cell? ⟨gb118, 1, none⟩ = some (.int .u64 a0_1) := (blk_cell BK118.out 1).trans rfl; have hcz29_2 : w28.cell? ⟨gb118, 2, none⟩ = some (.int .u64 a0_2) := (blk_cell BK118.out 2).trans rfl; have hcz29_3 : w28.cell? ⟨gb118, 3, none⟩ = some (.int .u64 a0_3) := (blk_cell BK118.out 3).trans rfl; have hcz29_4 : w28.cell? ⟨gb118, 4, none⟩ = some (.int .u64 a0_4) := (blk_cell BK118.out 4).trans rfl; have hcz29_5 : w28.cell? ⟨gb118, 5, none⟩ = some (.int .u64 a0_5) := (blk_cell BK118.out 5).trans rfl; have hcz29_6 : w28.cell? ⟨gb118, 6, none⟩ = some (.int .u64 a0_6) := (blk_cell BK118.out 6).trans rfl; have hcz29_7 : w28.cell? ⟨gb118, 7, none⟩ = some (.int .u64 a0_7) := (blk_cell BK118.out 7).trans rfl; have hcz29_8 : w28.cell? ⟨gb118, 8, none⟩ = some (.int .u64 a0_8) := (blk_cell BK118.out 8).trans rfl; have hfz29_0 := blk_frozen BK118.out 0; have hfz29_1 := blk_frozen BK118.out 1; have hfz29_2 := blk_frozen BK118.out 2; have hfz29_3 := blk_frozen BK118.out 3; have hfz29_4 := blk_frozen BK118.out 4; have hfz29_5 := blk_frozen BK118.out 5; have hfz29_6 := blk_frozen BK118.out 6; have hfz29_7 := blk_frozen BK118.out 7; have hfz29_8 := blk_frozen BK118.out 8))
            go_ret2
            exact ⟨by first | rfl | (simp [errW_none, errW_some] <;> rfl) | (simp [*, errW_none, errW_some] <;> rfl), by repeat (first | (with_reducible first | exact HB.out | apply below_alloc | apply pw_below_drewN | apply below_drew1 | refine below_set ?_ GE118.out) | exact HB.out)⟩
          · rw [if_neg c27] at H
            have c27b0 : (a2 == 16) = false := beq_eq_false_iff_ne.mpr c27
            have c27b1 : (a2 != 16) = true := bne_iff_ne.mpr c27
            by_cases c30 : a2 = 24
            · rw [if_pos c30] at H
              have c30b0 : (a2 == 24) = true := beq_iff_eq.mpr c30
              have c30b1 : (a2 != 24) = false := bne_eq_false_iff_eq.mpr c30
              clear c30
              simp only [Option.some.injEq, Prod.mk.injEq] at H
              obtain ⟨rfl, rfl⟩ := H
              go_enter Try.func68, Try.ntmps68
              go_wp2_with (first | ((with_reducible refine gate_dst (N := 3) rfl ?_); refine box_event ?hg (N := 3) ?hd (cs := #[.int .u64 a0_0, .int .u64 a0_1, .int .u64 a0_2, .int .u64 a0_3, .int .u64 a0_4, .int .u64 a0_5, .int .u64 a0_6, .int .u64 a0_7, .int .u64 a0_8]) (t := 38) ?hr ?_; (case hd => rfl); (case hg => rfl); (case hr => first | (go_simp; done) | (go_simp; rfl)); intro gb118 hg w31 hbox hb; have n0_ := Aside0.mk (below_step (by repeat (first | (with_reducible first | exact HB.out | apply below_alloc | apply pw_below_drewN | apply below_drew1) | exact HB.out)) hb); have n1_ := Aside0.mk (hbox); have n2_ := Aside0.mk ((by rw [hg]; exact (below_size (by repeat (first | (with_reducible first | exact HB.out | apply below_alloc | apply pw_below_drewN | apply below_drew1) | exact HB.out))) : w.heap.size ≤ gb118)); have n3_ := Aside0.mk ((by rw [hg]; exact (below_size (by repeat (first | (with_reducible first | exact HB.out | apply below_alloc | apply pw_below_drewN | apply below_drew1) | exact HB.out))) : w.heap.size ≤ gb118)); clear HB; have HB := n0_; have BK118 := n1_; have GW118 := n2_; have GE118 := n3_; clear n0_ n1_ n2_ n3_; clear hb hbox hg; have hcz32_0 : w31.cell? ⟨gb118, 0, none⟩ = some (.int .u64 a0_0) := (blk_cell BK118.out 0).trans rfl; have hcz32_1 : w31.cell? ⟨gb118, 1, none⟩ = some (.int .u64 a0_1) := (blk_cell BK118.out 1).trans rfl; have hcz32_2 : w31.cell? ⟨gb118, 2, none⟩ = some (.int .u64 a0_2) := (blk_cell BK118.out 2).trans rfl; have hcz32_3 : w31.cell? ⟨gb118, 3, none⟩ = some (.int .u64 a0_3) := (blk_cell BK118.out 3).trans rfl; have hcz32_4 : w31.cell? ⟨gb118, 4, none⟩ = some (.int .u64 a0_4) := (blk_cell BK118.out 4).trans rfl; have hcz32_5 : w31.cell? ⟨gb118, 5, none⟩ = some (.int .u64 a0_5) := (blk_cell BK118.out 5).trans rfl; have hcz32_6 : w31.cell? ⟨gb118, 6, none⟩ = some (.int .u64 a0_6) := (blk_cell BK118.out 6).trans rfl; have hcz32_7 : w31.cell? ⟨gb118, 7, none⟩ = some (.int .u64 a0_7) := (blk_cell BK118.out 7).trans rfl; have hcz32_8 : w31.cell? ⟨gb118, 8, none⟩ = some (.int .u64 a0_8) := (blk_cell BK118.out 8).trans rfl; have hfz32_0 := blk_frozen BK118.out 0; have hfz32_1 := blk_frozen BK118.out 1; have hfz32_2 := blk_frozen BK118.out 2; have hfz32_3 := blk_frozen BK118.out 3; have hfz32_4 := blk_frozen BK118.out 4; have hfz32_5 := blk_frozen BK118.out 5; have hfz32_6 := blk_frozen BK118.out 6; have hfz32_7 := blk_frozen BK118.out 7; have hfz32_8 := blk_frozen BK118.out 8))
              go_ret2
              exact ⟨by first | rfl | (simp [errW_none, errW_some] <;> rfl) | (simp [*, errW_none, errW_some] <;> rfl), by repeat (first | (with_reducible first | exact HB.out | apply below_alloc | apply pw_below_drewN | apply below_drew1 | refine below_set ?_ GE118.out) | exact HB.out)⟩
            · rw [if_neg c30] at H
              have c30b0 : (a2 == 24) = false := beq_eq_false_iff_ne.mpr c30
              have c30b1 : (a2 != 24) = true := bne_iff_ne.mpr c30
              by_cases c33 : a2 = 32
              · rw [if_pos c33] at H
                have c33b0 : (a2 == 32) = true := beq_iff_eq.mpr c33
                have c33b1 : (a2 != 32) = false := bne_eq_false_iff_eq.mpr c33
                clear c33
                simp only [Option.some.injEq, Prod.mk.injEq] at H
                obtain ⟨rfl, rfl⟩ := H
                go_enter Try.func68, Try.ntmps68
                go_wp2_with (first | ((with_reducible refine gate_dst (N := 3) rfl ?_); refine box_event ?hg (N := 3) ?hd (cs := #[.int .u64 a0_0, .int .u64 a0_1, .int .u64 a0_2, .int .u64 a0_3, .int .u64 a0_4, .int .u64 a0_5, .int .u64 a0_6, .int .u64 a0_7, .int .u64 a0_8]) (t := 38) ?hr ?_; (case hd => rfl); (case hg => rfl); (case hr => first | (go_simp; done) | (go_simp; rfl)); intro gb118 hg w34 hbox hb; have n0_ := Aside0.mk (below_step (by repeat (first | (with_reducible first | exact HB.out | apply below_alloc | apply pw_below_drewN | apply below_drew1) | exact HB.out)) hb); have n1_ := Aside0.mk (hbox); have n2_ := Aside0.mk ((by rw [hg]; exact (below_size (by repeat (first | (with_reducible first | exact HB.out | apply below_alloc | apply pw_below_drewN | apply below_drew1) | exact HB.out))) : w.heap.size ≤ gb118)); have n3_ := Aside0.mk ((by rw [hg]; exact (below_size (by repeat (first | (with_reducible first | exact HB.out | apply below_alloc | apply pw_below_drewN | apply below_drew1) | exact HB.out))) : w.heap.size ≤ gb118)); clear HB; have HB := n0_; have BK118 := n1_; have GW118 := n2_; have GE118 := n3_; clear n0_ n1_ n2_ n3_; clear hb hbox hg; have hcz35_0 : w34.cell? ⟨gb118, 0, none⟩ = some (.int .u64 a0_0) := (blk_cell BK118.out 0).trans rfl; have hcz35_1 : w34.cell? ⟨gb118, 1, none⟩ = some (.int .u64 a0_1) := (blk_cell BK118.out 1).trans rfl; have hcz35_2 : w34.cell? ⟨gb118, 2, none⟩ = some (.int .u64 a0_2) := (blk_cell BK118.out 2).trans rfl; have hcz35_3 : w34.cell? ⟨gb118, 3, none⟩ = some (.int .u64 a0_3) := (blk_cell BK118.out 3).trans rfl; have hcz35_4 : w34.cell? ⟨gb118, 4, none⟩ = some (.int .u64 a0_4) := (blk_cell BK118.out 4).trans rfl; have hcz35_5 : w34.cell? ⟨gb118, 5, none⟩ = some (.int .u64 a0_5) := (blk_cell BK118.out 5).trans rfl; have hcz35_6 : w34.cell? ⟨gb118, 6, none⟩ = some (.int .u64 a0_6) := (blk_cell BK118.out 6).trans rfl; have hcz35_7 : w34.cell? ⟨gb118, 7, none⟩ = some (.int .u64 a0_7) := (blk_cell BK118.out 7).trans rfl; have hcz35_8 : w34.cell? ⟨gb118, 8, none⟩ = some (.int .u64 a0_8) := (blk_cell BK118.out 8).trans rfl; have hfz35_0 := blk_frozen BK118.out 0; have hfz35_1 := blk_frozen BK118.out 1; have hfz35_2 := blk_frozen BK118.out 2; have hfz35_3 := blk_frozen BK118.out 3; have hfz35_4 := blk_frozen BK118.out 4; have hfz35_5 := blk_frozen BK118.out 5; have hfz35_6 := blk_frozen BK118.out 6; have hfz35_7 := blk_frozen BK118.out 7; have hfz35_8 := blk_frozen BK118.out 8))
                go_ret2
                exact ⟨by first | rfl | (simp [errW_none, errW_some] <;> rfl) | (simp [*, errW_none, errW_some] <;> rfl), by repeat (first | (with_reducible first | exact HB.out | apply below_alloc | apply pw_below_drewN | apply below_drew1 | refine below_set ?_ GE118.out) | exact HB.out)⟩
              · rw [if_neg c33] at H
                have c33b0 : (a2 == 32) = false := beq_eq_false_iff_ne.mpr c33
                have c33b1 : (a2 != 32) = true := bne_iff_ne.mpr c33
                by_cases c36 : a2 = 40
                · rw [if_pos c36] at H
                  have c36b0 : (a2 == 40) = true := beq_iff_eq.mpr c36
                  have c36b1 : (a2 != 40) = false := bne_eq_false_iff_eq.mpr c36
                  clear c36
                  simp only [Option.some.injEq, Prod.mk.injEq] at H
                  obtain ⟨rfl, rfl⟩ := H
                  go_enter Try.func68, Try.ntmps68
                  go_wp2_with (first | ((with_reducible refine gate_dst (N := 3) rfl ?_); refine box_event ?hg (N := 3) ?hd (cs := #[.int .u64 a0_0, .int .u64 a0_1, .int .u64 a0_2, .int .u64 a0_3, .int .u64 a0_4, .int .u64 a0_5, .int .u64 a0_6, .int .u64 a0_7, .int .u64 a0_8]) (t := 38) ?hr ?_; (case hd => rfl); (case hg => rfl); (case hr => first | (go_simp; done) | (go_simp; rfl)); intro gb118 hg w37 hbox hb; have n0_ := Aside0.mk (below_step (by repeat (first | (with_reducible first | exact HB.out | apply below_alloc | apply pw_below_drewN | apply below_drew1) | exact HB.out)) hb); have n1_ := Aside0.mk (hbox); have n2_ := Aside0.mk ((by rw [hg]; exact (below_size (by repeat (first | (with_reducible first | exact HB.out | apply below_alloc | apply pw_below_drewN | apply below_drew1) | exact HB.out))) : w.heap.size ≤ gb118)); have n3_ := Aside0.mk ((by rw [hg]; exact (below_size (by repeat (first | (with_reducible first | exact HB.out | apply below_alloc | apply pw_below_drewN | apply below_drew1) | exact HB.out))) : w.heap.size ≤ gb118)); clear HB; have HB := n0_; have BK118 := n1_; have GW118 := n2_; have GE118 := n3_; clear n0_ n1_ n2_ n3_; clear hb hbox hg; have hcz38_0 : w37.cell? ⟨gb118, 0, none⟩ = some (.int .u64 a0_0) := (blk_cell BK118.out 0).trans rfl; have hcz38_1 : w37.cell? ⟨gb118, 1, none⟩ = some (.int .u64 a0_1) := (blk_cell BK118.out 1).trans rfl; have hcz38_2 : w37.cell? ⟨gb118, 2, none⟩ = some (.int .u64 a0_2) := (blk_cell BK118.out 2).trans rfl; have hcz38_3 : w37.cell? ⟨gb118, 3, none⟩ = some (.int .u64 a0_3) := (blk_cell BK118.out 3).trans rfl; have hcz38_4 : w37.cell? ⟨gb118, 4, none⟩ = some (.int .u64 a0_4) := (blk_cell BK118.out 4).trans rfl; have hcz38_5 : w37.cell? ⟨gb118, 5, none⟩ = some (.int .u64 a0_5) := (blk_cell BK118.out 5).trans rfl; have hcz38_6 : w37.cell? ⟨gb118, 6, none⟩ = some (.int .u64 a0_6) := (blk_cell BK118.out 6).trans rfl; have hcz38_7 : w37.cell? ⟨gb118, 7, none⟩ = some (.int .u64 a0_7) := (blk_cell BK118.out 7).trans rfl; have hcz38_8 : w37.cell? ⟨gb118, 8, none⟩ = some (.int .u64 a0_8) := (blk_cell BK118.out 8).trans rfl; have hfz38_0 := blk_frozen BK118.out 0; have hfz38_1 := blk_frozen BK118.out 1; have hfz38_2 := blk_frozen BK118.out 2; have hfz38_3 := blk_frozen BK118.out 3; have hfz38_4 := blk_frozen BK118.out 4; have hfz38_5 := blk_frozen BK118.out 5; have hfz38_6 := blk_frozen BK118.out 6; have hfz38_7 := blk_frozen BK118.out 7; have hfz38_8 := blk_frozen BK118.out 8))
                  go_ret2
                  exact ⟨by first | rfl | (simp [errW_none, errW_some] <;> rfl) | (simp [*, errW_none, errW_some] <;> rfl), by repeat (first | (with_reducible first | exact HB.out | apply below_alloc | apply pw_below_drewN | apply below_drew1 | refine below_set ?_ GE118.out) | exact HB.out)⟩
                · rw [if_neg c36] at H
                  have c36b0 : (a2 == 40) = false := beq_eq_false_iff_ne.mpr c36
                  have c36b1 : (a2 != 40) = true := bne_iff_ne.mpr c36
                  by_cases c39 : a2 = 48
                  · rw [if_pos c39] at H
                    have c39b0 : (a2 == 48) = true := beq_iff_eq.mpr c39
                    have c39b1 : (a2 != 48) = false := bne_eq_false_iff_eq.mpr c39
                    clear c39
                    simp only [Option.some.injEq, Prod.mk.injEq] at H
                    obtain ⟨rfl, rfl⟩ := H
                    go_enter Try.func68, Try.ntmps68
                    go_wp2_with (first | ((with_reducible refine gate_dst (N := 3) rfl ?_); refine box_event ?hg (N := 3) ?hd (cs := #[.int .u64 a0_0, .int .u64 a0_1, .int .u64 a0_2, .int .u64 a0_3, .int .u64 a0_4, .int .u64 a0_5, .int .u64 a0_6, .int .u64 a0_7, .int .u64 a0_8]) (t := 38) ?hr ?_; (case hd => rfl); (case hg => rfl); (case hr => first | (go_simp; done) | (go_simp; rfl)); intro gb118 hg w40 hbox hb; have n0_ := Aside0.mk (below_step (by repeat (first | (with_reducible first | exact HB.out | apply below_alloc | apply pw_below_drewN | apply below_drew1) | exact HB.out)) hb); have n1_ := Aside0.mk (hbox); have n2_ := Aside0.mk ((by rw [hg]; exact (below_size (by repeat (first | (with_reducible first | exact HB.out | apply below_alloc | apply pw_below_drewN | apply below_drew1) | exact HB.out))) : w.heap.size ≤ gb118)); have n3_ := Aside0.mk ((by rw [hg]; exact (below_size (by repeat (first | (with_reducible first | exact HB.out | apply below_alloc | apply pw_below_drewN | apply below_drew1) | exact HB.out))) : w.heap.size ≤ gb118)); clear HB; have HB := n0_; have BK118 := n1_; have GW118 := n2_; have GE118 := n3_; clear n0_ n1_ n2_ n3_; clear hb hbox hg; have hcz41_0 : w40.cell? ⟨gb118, 0, none⟩ = some (.int .u64 a0_0) := (blk_cell BK118.out 0).trans rfl; have hcz41_1 : w40.cell? ⟨gb118, 1, none⟩ = some (.int .u64 a0_1) := (blk_cell BK118.out 1).trans rfl; have hcz41_2 : w40.cell? ⟨gb118, 2, none⟩ = some (.int .u64 a0_2) := (blk_cell BK118.out 2).trans rfl; have hcz41_3 : w40.cell? ⟨gb118, 3, none⟩ = some (.int .u64 a0_3) := (blk_cell BK118.out 3).trans rfl; have hcz41_4 : w40.cell? ⟨gb118, 4, none⟩ = some (.int .u64 a0_4) := (blk_cell BK118.out 4).trans rfl; have hcz41_5 : w40.cell? ⟨gb118, 5, none⟩ = some (.int .u64 a0_5) := (blk_cell BK118.out 5).trans rfl; have hcz41_6 : w40.cell? ⟨gb118, 6, none⟩ = some (.int .u64 a0_6) := (blk_cell BK118.out 6).trans rfl; have hcz41_7 : w40.cell? ⟨gb118, 7, none⟩ = some (.int .u64 a0_7) := (blk_cell BK118.out 7).trans rfl; have hcz41_8 : w40.cell? ⟨gb118, 8, none⟩ = some (.int .u64 a0_8) := (blk_cell BK118.out 8).trans rfl; have hfz41_0 := blk_frozen BK118.out 0; have hfz41_1 := blk_frozen BK118.out 1; have hfz41_2 := blk_frozen BK118.out 2; have hfz41_3 := blk_frozen BK118.out 3; have hfz41_4 := blk_frozen BK118.out 4; have hfz41_5 := blk_frozen BK118.out 5; have hfz41_6 := blk_frozen BK118.out 6; have hfz41_7 := blk_frozen BK118.out 7; have hfz41_8 := blk_frozen BK118.out 8))
                    go_ret2
                    exact ⟨by first | rfl | (simp [errW_none, errW_some] <;> rfl) | (simp [*, errW_none, errW_some] <;> rfl), by repeat (first | (with_reducible first | exact HB.out | apply below_alloc | apply pw_below_drewN | apply below_drew1 | refine below_set ?_ GE118.out) | exact HB.out)⟩
                  · rw [if_neg c39] at H
                    have c39b0 : (a2 == 48) = false := beq_eq_false_iff_ne.mpr c39
                    have c39b1 : (a2 != 48) = true := bne_iff_ne.mpr c39
                    simp only [Option.some.injEq, Prod.mk.injEq] at H
                    obtain ⟨rfl, rfl⟩ := H
                    go_enter Try.func68, Try.ntmps68
                    go_wp2_with (first | ((with_reducible refine gate_dst (N := 3) rfl ?_); refine box_event ?hg (N := 3) ?hd (cs := #[.int .u64 a0_0, .int .u64 a0_1, .int .u64 a0_2, .int .u64 a0_3, .int .u64 a0_4, .int .u64 a0_5, .int .u64 a0_6, .int .u64 a0_7, .int .u64 a0_8]) (t := 38) ?hr ?_; (case hd => rfl); (case hg => rfl); (case hr => first | (go_simp; done) | (go_simp; rfl)); intro gb118 hg w42 hbox hb; have n0_ := Aside0.mk (below_step (by repeat (first | (with_reducible first | exact HB.out | apply below_alloc | apply pw_below_drewN | apply below_drew1) | exact HB.out)) hb); have n1_ := Aside0.mk (hbox); have n2_ := Aside0.mk ((by rw [hg]; exact (below_size (by repeat (first | (with_reducible first | exact HB.out | apply below_alloc | apply pw_below_drewN | apply below_drew1) | exact HB.out))) : w.heap.size ≤ gb118)); have n3_ := Aside0.mk ((by rw [hg]; exact (below_size (by repeat (first | (with_reducible first | exact HB.out | apply below_alloc | apply pw_below_drewN | apply below_drew1) | exact HB.out))) : w.heap.size ≤ gb118)); clear HB; have HB := n0_; have BK118 := n1_; have GW118 := n2_; have GE118 := n3_; clear n0_ n1_ n2_ n3_; clear hb hbox hg))
                    go_ret2
                    exact ⟨by first | rfl | (simp [errW_none, errW_some] <;> rfl) | (simp [*, errW_none, errW_some] <;> rfl), by repeat (first | (with_reducible first | exact HB.out | apply below_alloc | apply pw_below_drewN | apply below_drew1 | refine below_set ?_ GE118.out) | exact HB.out)⟩
    · rw [if_neg c19] at H
      have c19b0 : (a1 == 88) = false := beq_eq_false_iff_ne.mpr c19
      have c19b1 : (a1 != 88) = true := bne_iff_ne.mpr c19
      simp only [Option.some.injEq, Prod.mk.injEq] at H
      obtain ⟨rfl, rfl⟩ := H
      go_enter Try.func68, Try.ntmps68
      go_wp2_with (first | ((with_reducible refine gate_dst (N := 3) rfl ?_); refine box_event ?hg (N := 3) ?hd (cs := #[.int .u64 a0_0, .int .u64 a0_1, .int .u64 a0_2, .int .u64 a0_3, .int .u64 a0_4, .int .u64 a0_5, .int .u64 a0_6, .int .u64 a0_7, .int .u64 a0_8]) (t := 38) ?hr ?_; (case hd => rfl); (case hg => rfl); (case hr => first | (go_simp; done) | (go_simp; rfl)); intro gb118 hg w43 hbox hb; have n0_ := Aside0.mk (below_step (by repeat (first | (with_reducible first | exact HB.out | apply below_alloc | apply pw_below_drewN | apply below_drew1) | exact HB.out)) hb); have n1_ := Aside0.mk (hbox); have n2_ := Aside0.mk ((by rw [hg]; exact (below_size (by repeat (first | (with_reducible first | exact HB.out | apply below_alloc | apply pw_below_drewN | apply below_drew1) | exact HB.out))) : w.heap.size ≤ gb118)); have n3_ := Aside0.mk ((by rw [hg]; exact (below_size (by repeat (first | (with_reducible first | exact HB.out | apply below_alloc | apply pw_below_drewN | apply below_drew1) | exact HB.out))) : w.heap.size ≤ gb118)); clear HB; have HB := n0_; have BK118 := n1_; have GW118 := n2_; have GE118 := n3_; clear n0_ n1_ n2_ n3_; clear hb hbox hg))
      go_ret2
      exact ⟨by first | rfl | (simp [errW_none, errW_some] <;> rfl) | (simp [*, errW_none, errW_some] <;> rfl), by repeat (first | (with_reducible first | exact HB.out | apply below_alloc | apply pw_below_drewN | apply below_drew1 | refine below_set ?_ GE118.out) | exact HB.out)⟩

/-! ### lookasideref07_status: function 111 -/
def lookasideref07_status.f (a0 : Int) : Option (Int) := some (IntKind.u64.wrap ((Int.tmod a0 16384) + (IntKind.u64.wrap ((Int.tmod (IntKind.u64.wrap (Int.tdiv a0 65536)) 256) * 65536))))
set_option maxHeartbeats 8000000 in
set_option maxRecDepth 100000 in
theorem lookasideref07_status.calls (a0 : Int) (r : Int) (w : World) (h : lookasideref07_status.f a0 = some r) :
    Calls Try.prog 111 #[.int .u64 a0] w fun e w' => e = .returned (.int .u64 r) ∧ Drawn0 w w' := by
  have H : (some (IntKind.u64.wrap ((Int.tmod a0 16384) + (IntKind.u64.wrap ((Int.tmod (IntKind.u64.wrap (Int.tdiv a0 65536)) 256) * 65536))))) = some r := h
  clear h
  obtain rfl := Option.some.inj H
  go_enter Try.func111, Try.ntmps111
  go_wp2
  go_ret
  exact ⟨by first | rfl | (simp; done) | (simp [*]; done), by repeat (first | exact Drawn0.refl _ | apply Drawn0.step)⟩

/-! ### lookasideref07_tsb: function 112 -/
def lookasideref07_tsb.f (a0 : Int) : Option (Int) := some (IntKind.u64.wrap ((IntKind.u64.wrap ((IntKind.u64.wrap (Int.tdiv a0 4096)) * 4096)) + (Int.tmod a0 8)))
set_option maxHeartbeats 8000000 in
set_option maxRecDepth 100000 in
theorem lookasideref07_tsb.calls (a0 : Int) (r : Int) (w : World) (h : lookasideref07_tsb.f a0 = some r) :
    Calls Try.prog 112 #[.int .u64 a0] w fun e w' => e = .returned (.int .u64 r) ∧ Drawn0 w w' := by
  have H : (some (IntKind.u64.wrap ((IntKind.u64.wrap ((IntKind.u64.wrap (Int.tdiv a0 4096)) * 4096)) + (Int.tmod a0 8)))) = some r := h
  clear h
  obtain rfl := Option.some.inj H
  go_enter Try.func112, Try.ntmps112
  go_wp2
  go_ret
  exact ⟨by first | rfl | (simp; done) | (simp [*]; done), by repeat (first | exact Drawn0.refl _ | apply Drawn0.step)⟩

end Go.Proofs.Ytdfejnakhpgekaa.QRegsPlays
