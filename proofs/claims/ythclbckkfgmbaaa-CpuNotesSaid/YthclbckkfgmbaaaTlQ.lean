-- Taken out of a text that a program of this session printed (wip/print/myprint.py, wip/print/take.py); Lean checks it.
import Derived.Test.YthclbckkfgmbaaaQTlbPlaysx3
namespace Go.Proofs.Ythclbckkfgmbaaa.QTlbPlays
open Go.RowKit Go.Proofs.YthclbckkfgmbaaaW.PrintWords Go.Proofs.YthclbckkfgmbaaaW.PrintLast Go.Proofs.YthclbckkfgmbaaaW.PrintMore
attribute [local go_sem] max2_int min2_int max_two min_two max_three min_three max_four min_four   -- for this text's walks alone
set_option linter.unusedVariables false
set_option linter.unusedSimpArgs false
theorem bb_ {w2 w' : World} {g : Nat} {o : Obj} (hb : Below w2.heap.size w2 w') (h : w2.heap[g]? = some o) : w'.heap[g]? = some o := blk_below h hb
/-! ### lookasideref09_Good: function 33 -/
def lookasideref09_Good.f (k : Nat) (a0_0 : Int) (a0_1 : Bool) (a0_2 : Int) (a1 : Bool) : Option (Int × Bool × Int) := if a0_0 < 0 then (if a1 = true then ((lookasideref02_Va.f k a0_2).bind fun t115 => (some (Int.tmod (wrap64 (-(wrap64 (a0_0 + 1)))) 4, a0_1, t115))) else (some (Int.tmod (wrap64 (-(wrap64 (a0_0 + 1)))) 4, a0_1, a0_2))) else (if a1 = true then ((lookasideref02_Va.f k a0_2).bind fun t116 => (some (Int.tmod a0_0 4, a0_1, t116))) else (some (Int.tmod a0_0 4, a0_1, a0_2)))
theorem lookasideref09_Good.mono : ∀ a0 a1 a2 a3 k, LeO (lookasideref09_Good.f k a0 a1 a2 a3) (lookasideref09_Good.f (k + 1) a0 a1 a2 a3) := by
  intro a0 a1 a2 a3 k
  unfold lookasideref09_Good.f
  repeat' first
      | (with_reducible exact lookasideref02_Va.mono _ _)
      | (with_reducible exact LeO.refl _)
      | (with_reducible exact LeO.none _)
      | (with_reducible refine LeO.ite ?_ ?_)
      | (with_reducible refine LeO.bind ?_ (fun _ => ?_))
      | exact lookasideref02_Va.mono _ _
      | exact LeO.none _
      | refine LeO.ite ?_ ?_
      | refine LeO.bind ?_ (fun _ => ?_)
set_option maxHeartbeats 8000000 in
set_option maxRecDepth 100000 in
theorem lookasideref09_Good.calls (k : Nat) (a0_0 : Int) (a0_1 : Bool) (a0_2 : Int) (a1 : Bool) (r1 : Int) (r2 : Bool) (r3 : Int) (w : World) (h : lookasideref09_Good.f k a0_0 a0_1 a0_2 a1 = some (r1, r2, r3)) :
    Calls Try.prog 33 #[.agg #[.int .i64 a0_0, .bool a0_1, .int .u64 a0_2], .bool a1] w fun e w' => e = .returned (.agg #[.int .i64 r1, .bool r2, .int .u64 r3]) ∧ Below w.heap.size w w' := by
  have hu61 := Try.underlying61
  have HB := Aside0.mk (Below.refl w.heap.size w)
  have H : (if a0_0 < 0 then (if a1 = true then ((lookasideref02_Va.f k a0_2).bind fun t115 => (some (Int.tmod (wrap64 (-(wrap64 (a0_0 + 1)))) 4, a0_1, t115))) else (some (Int.tmod (wrap64 (-(wrap64 (a0_0 + 1)))) 4, a0_1, a0_2))) else (if a1 = true then ((lookasideref02_Va.f k a0_2).bind fun t116 => (some (Int.tmod a0_0 4, a0_1, t116))) else (some (Int.tmod a0_0 4, a0_1, a0_2)))) = some (r1, r2, r3) := h
  clear h
  by_cases c3 : a0_0 < 0
  · rw [if_pos c3] at H
    have c3b0 : decide (a0_0 < 0) = true := decide_eq_true c3
    clear c3
    by_cases c4 : a1 = true
    · subst c4
      have H1 : ((lookasideref02_Va.f k a0_2).bind fun t115 => (some (Int.tmod (wrap64 (-(wrap64 (a0_0 + 1)))) 4, a0_1, t115))) = some (r1, r2, r3) := by rw [if_pos rfl] at H; exact H
      clear H
      have H := H1
      clear H1
      replace H := Option.bind_eq_some_iff.mp H
      obtain ⟨t115, A50, H⟩ := H
      replace H : (some (Int.tmod (wrap64 (-(wrap64 (a0_0 + 1)))) 4, a0_1, t115)) = some (r1, r2, r3) := H
      have A5 := Aside0.mk A50
      clear A50
      simp only [Option.some.injEq, Prod.mk.injEq] at H
      obtain ⟨rfl, rfl, rfl⟩ := H
      go_enter Try.func33, Try.ntmps33
      go_wp2_with (first | ((with_reducible refine gate_dst (N := 2) rfl ?_); refine box_event ?hg (N := 2) ?hd (cs := #[.int .i64 a0_0, .bool a0_1, .int .u64 a0_2]) (t := 61) ?hr ?_; (case hd => rfl); (case hg => rfl); (case hr => first | (go_simp; done) | (go_simp; rfl)); intro gb113 hg w6 hbox hb; have n0_ := Aside0.mk (below_step (by repeat (first | (with_reducible first | exact HB.out | apply below_alloc | apply pw_below_drewN | apply below_drew1) | exact HB.out)) hb); have n1_ := Aside0.mk (hbox); have n2_ := Aside0.mk ((by rw [hg]; exact (below_size (by repeat (first | (with_reducible first | exact HB.out | apply below_alloc | apply pw_below_drewN | apply below_drew1) | exact HB.out))) : w.heap.size ≤ gb113)); have n3_ := Aside0.mk ((by rw [hg]; exact (below_size (by repeat (first | (with_reducible first | exact HB.out | apply below_alloc | apply pw_below_drewN | apply below_drew1) | exact HB.out))) : w.heap.size ≤ gb113)); clear HB; have HB := n0_; have BK113 := n1_; have GW113 := n2_; have GE113 := n3_; clear n0_ n1_ n2_ n3_; clear hb hbox hg) | ((with_reducible refine gate_dst (N := 4) rfl ?_); refine box_event ?hg (N := 4) ?hd (cs := #[.int .i64 0, .bool false, .int .u64 0]) (t := 61) ?hr ?_; (case hd => rfl); (case hg => rfl); (case hr => first | (go_simp; done) | (go_simp; rfl)); intro gb114 hg w7 hbox hb; have n0_ := Aside0.mk (bb_ hb BK113.out); have n1_ := Aside0.mk (below_step (by repeat (first | (with_reducible first | exact HB.out | apply below_alloc | apply pw_below_drewN | apply below_drew1 | refine below_set ?_ GE113.out) | exact HB.out)) hb); have n2_ := Aside0.mk (hbox); have n3_ := Aside0.mk ((by rw [hg]; exact (below_size (by repeat (first | (with_reducible first | exact HB.out | apply below_alloc | apply pw_below_drewN | apply below_drew1 | refine below_set ?_ GE113.out) | exact HB.out))) : w.heap.size ≤ gb114)); have n4_ := Aside0.mk ((by rw [hg]; exact (below_size (by repeat (first | (with_reducible first | exact HB.out | apply below_alloc | apply pw_below_drewN | apply below_drew1 | refine below_set ?_ GE113.out) | exact HB.out))) : w.heap.size ≤ gb114)); have n5_ := Aside0.mk ((by rw [hg]; exact Nat.ne_of_lt (blk_lt BK113.out) : gb113 ≠ gb114)); have n6_ := Aside0.mk ((by rw [hg]; exact Nat.ne_of_gt (blk_lt BK113.out) : gb114 ≠ gb113)); clear BK113; clear HB; have BK113 := n0_; have HB := n1_; have BK114 := n2_; have GW114 := n3_; have GE114 := n4_; have NB113_114 := n5_; have NB114_113 := n6_; clear n0_ n1_ n2_ n3_ n4_ n5_ n6_; clear hb hbox hg; have hnb8 := NB113_114.out; have hnc8 := NB114_113.out; have hcz9_0 : w7.cell? ⟨gb113, 0, none⟩ = some (.int .i64 a0_0) := (blk_cell BK113.out 0).trans rfl; have hcz9_1 : w7.cell? ⟨gb113, 1, none⟩ = some (.bool a0_1) := (blk_cell BK113.out 1).trans rfl; have hcz9_2 : w7.cell? ⟨gb113, 2, none⟩ = some (.int .u64 a0_2) := (blk_cell BK113.out 2).trans rfl; have hfz9_0 := blk_frozen BK113.out 0; have hfz9_1 := blk_frozen BK113.out 1; have hfz9_2 := blk_frozen BK113.out 2) | ((with_reducible refine gate_callee (f := 45) rfl ?_); refine goesL_ (some 19) rfl rfl Try.func45 (by kernel_rfl) rfl #[.int .u64 a0_2] rfl (by (try simp only [List.map_toArray, List.map_cons, List.map_nil]); first | done | rfl | (simp only [List.length_drop, List.length_take]; rfl)) ?_; (with_reducible refine (lookasideref02_Va.calls k a0_2 t115 _ A5.out).mono ?_); rintro e w' ⟨rfl, ⟨nd, rfl⟩⟩; refine ⟨_, rfl, ?_⟩; have hcz10_0 : w7.cell? ⟨gb114, 0, none⟩ = some (.int .i64 0) := (blk_cell BK114.out 0).trans rfl; have hcz10_1 : w7.cell? ⟨gb114, 1, none⟩ = some (.bool false) := (blk_cell BK114.out 1).trans rfl; have hcz10_2 : w7.cell? ⟨gb114, 2, none⟩ = some (.int .u64 0) := (blk_cell BK114.out 2).trans rfl; have hfz10_0 := blk_frozen BK114.out 0; have hfz10_1 := blk_frozen BK114.out 1; have hfz10_2 := blk_frozen BK114.out 2))
      refine bodyPost_ret (results_cell_row rfl _ _ gb114 61 #[.int .i64 (Int.tmod (wrap64 (-(wrap64 (a0_0 + 1)))) 4), .bool a0_1, .int .u64 t115] (0, 0) _ rfl (by (with_reducible repeat (first | refine blk_drewN ?_ _ | refine blk_drew ?_ | refine blk_alloc ?_ _)); refine blk_put (cs := #[.int .i64 (Int.tmod (wrap64 (-(wrap64 (a0_0 + 1)))) 4), .bool a0_1, .int .u64 0]) ?_ 2 _ rfl; refine blk_put (cs := #[.int .i64 (Int.tmod (wrap64 (-(wrap64 (a0_0 + 1)))) 4), .bool false, .int .u64 0]) ?_ 1 _ rfl; refine blk_put (cs := #[.int .i64 0, .bool false, .int .u64 0]) ?_ 0 _ rfl; refine blk_far ?_ NB114_113.out _; refine blk_far ?_ NB114_113.out _; (with_reducible repeat (first | refine blk_drewN ?_ _ | refine blk_drew ?_ | refine blk_alloc ?_ _)); exact BK114.out) Try.underlying61 rfl (by kernel_rfl)) rfl ?_
      exact ⟨by first | rfl | (simp [errW_none, errW_some] <;> rfl) | (simp [*, errW_none, errW_some] <;> rfl), by repeat (first | (with_reducible first | exact HB.out | apply below_alloc | apply pw_below_drewN | apply below_drew1 | refine below_set ?_ GE113.out | refine below_set ?_ GE114.out) | exact HB.out)⟩
    · replace c4 := Bool.eq_false_iff.mpr c4
      subst c4
      have H1 : (some (Int.tmod (wrap64 (-(wrap64 (a0_0 + 1)))) 4, a0_1, a0_2)) = some (r1, r2, r3) := by rw [if_neg (show ¬ (false = true) by decide)] at H; exact H
      clear H
      have H := H1
      clear H1
      simp only [Option.some.injEq, Prod.mk.injEq] at H
      obtain ⟨rfl, rfl, rfl⟩ := H
      go_enter Try.func33, Try.ntmps33
      go_wp2_with (first | ((with_reducible refine gate_dst (N := 2) rfl ?_); refine box_event ?hg (N := 2) ?hd (cs := #[.int .i64 a0_0, .bool a0_1, .int .u64 a0_2]) (t := 61) ?hr ?_; (case hd => rfl); (case hg => rfl); (case hr => first | (go_simp; done) | (go_simp; rfl)); intro gb113 hg w11 hbox hb; have n0_ := Aside0.mk (below_step (by repeat (first | (with_reducible first | exact HB.out | apply below_alloc | apply pw_below_drewN | apply below_drew1) | exact HB.out)) hb); have n1_ := Aside0.mk (hbox); have n2_ := Aside0.mk ((by rw [hg]; exact (below_size (by repeat (first | (with_reducible first | exact HB.out | apply below_alloc | apply pw_below_drewN | apply below_drew1) | exact HB.out))) : w.heap.size ≤ gb113)); have n3_ := Aside0.mk ((by rw [hg]; exact (below_size (by repeat (first | (with_reducible first | exact HB.out | apply below_alloc | apply pw_below_drewN | apply below_drew1) | exact HB.out))) : w.heap.size ≤ gb113)); clear HB; have HB := n0_; have BK113 := n1_; have GW113 := n2_; have GE113 := n3_; clear n0_ n1_ n2_ n3_; clear hb hbox hg) | ((with_reducible refine gate_dst (N := 4) rfl ?_); refine box_event ?hg (N := 4) ?hd (cs := #[.int .i64 0, .bool false, .int .u64 0]) (t := 61) ?hr ?_; (case hd => rfl); (case hg => rfl); (case hr => first | (go_simp; done) | (go_simp; rfl)); intro gb114 hg w12 hbox hb; have n0_ := Aside0.mk (bb_ hb BK113.out); have n1_ := Aside0.mk (below_step (by repeat (first | (with_reducible first | exact HB.out | apply below_alloc | apply pw_below_drewN | apply below_drew1 | refine below_set ?_ GE113.out) | exact HB.out)) hb); have n2_ := Aside0.mk (hbox); have n3_ := Aside0.mk ((by rw [hg]; exact (below_size (by repeat (first | (with_reducible first | exact HB.out | apply below_alloc | apply pw_below_drewN | apply below_drew1 | refine below_set ?_ GE113.out) | exact HB.out))) : w.heap.size ≤ gb114)); have n4_ := Aside0.mk ((by rw [hg]; exact (below_size (by repeat (first | (with_reducible first | exact HB.out | apply below_alloc | apply pw_below_drewN | apply below_drew1 | refine below_set ?_ GE113.out) | exact HB.out))) : w.heap.size ≤ gb114)); have n5_ := Aside0.mk ((by rw [hg]; exact Nat.ne_of_lt (blk_lt BK113.out) : gb113 ≠ gb114)); have n6_ := Aside0.mk ((by rw [hg]; exact Nat.ne_of_gt (blk_lt BK113.out) : gb114 ≠ gb113)); clear BK113; clear HB; have BK113 := n0_; have HB := n1_; have BK114 := n2_; have GW114 := n3_; have GE114 := n4_; have NB113_114 := n5_; have NB114_113 := n6_; clear n0_ n1_ n2_ n3_ n4_ n5_ n6_; clear hb hbox hg; have hnb13 := NB113_114.out; have hnc13 := NB114_113.out; have hcz14_0 : w12.cell? ⟨gb113, 0, none⟩ = some (.int .i64 a0_0) := (blk_cell BK113.out 0).trans rfl; have hcz14_1 : w12.cell? ⟨gb113, 1, none⟩ = some (.bool a0_1) := (blk_cell BK113.out 1).trans rfl; have hcz14_2 : w12.cell? ⟨gb113, 2, none⟩ = some (.int .u64 a0_2) := (blk_cell BK113.out 2).trans rfl; have hfz14_0 := blk_frozen BK113.out 0; have hfz14_1 := blk_frozen BK113.out 1; have hfz14_2 := blk_frozen BK113.out 2; have hcz15_0 : w12.cell? ⟨gb114, 0, none⟩ = some (.int .i64 0) := (blk_cell BK114.out 0).trans rfl; have hcz15_1 : w12.cell? ⟨gb114, 1, none⟩ = some (.bool false) := (blk_cell BK114.out 1).trans rfl; have hcz15_2 : w12.cell? ⟨gb114, 2, none⟩ = some (.int .u64 0) := (blk_cell BK114.out 2).trans rfl; have hfz15_0 := blk_frozen BK114.out 0; have hfz15_1 := blk_frozen BK114.out 1; have hfz15_2 := blk_frozen BK114.out 2))
      refine bodyPost_ret (results_cell_row rfl _ _ gb114 61 #[.int .i64 (Int.tmod (wrap64 (-(wrap64 (a0_0 + 1)))) 4), .bool a0_1, .int .u64 a0_2] (0, 0) _ rfl (by (with_reducible repeat (first | refine blk_drewN ?_ _ | refine blk_drew ?_ | refine blk_alloc ?_ _)); refine blk_put (cs := #[.int .i64 (Int.tmod (wrap64 (-(wrap64 (a0_0 + 1)))) 4), .bool a0_1, .int .u64 0]) ?_ 2 _ rfl; refine blk_put (cs := #[.int .i64 (Int.tmod (wrap64 (-(wrap64 (a0_0 + 1)))) 4), .bool false, .int .u64 0]) ?_ 1 _ rfl; refine blk_put (cs := #[.int .i64 0, .bool false, .int .u64 0]) ?_ 0 _ rfl; refine blk_far ?_ NB114_113.out _; (with_reducible repeat (first | refine blk_drewN ?_ _ | refine blk_drew ?_ | refine blk_alloc ?_ _)); exact BK114.out) Try.underlying61 rfl (by kernel_rfl)) rfl ?_
      exact ⟨by first | rfl | (simp [errW_none, errW_some] <;> rfl) | (simp [*, errW_none, errW_some] <;> rfl), by repeat (first | (with_reducible first | exact HB.out | apply below_alloc | apply pw_below_drewN | apply below_drew1 | refine below_set ?_ GE113.out | refine below_set ?_ GE114.out) | exact HB.out)⟩
  · rw [if_neg c3] at H
    have c3b0 : decide (a0_0 < 0) = false := decide_eq_false c3
    clear c3
    by_cases c16 : a1 = true
    · subst c16
      have H1 : ((lookasideref02_Va.f k a0_2).bind fun t116 => (some (Int.tmod a0_0 4, a0_1, t116))) = some (r1, r2, r3) := by rw [if_pos rfl] at H; exact H
      clear H
      have H := H1
      clear H1
      replace H := Option.bind_eq_some_iff.mp H
      obtain ⟨t116, A170, H⟩ := H
      replace H : (some (Int.tmod a0_0 4, a0_1, t116)) = some (r1, r2, r3) := H
      have A17 := Aside0.mk A170
      clear A170
      simp only [Option.some.injEq, Prod.mk.injEq] at H
      obtain ⟨rfl, rfl, rfl⟩ := H
      go_enter Try.func33, Try.ntmps33
      go_wp2_with (first | ((with_reducible refine gate_dst (N := 2) rfl ?_); refine box_event ?hg (N := 2) ?hd (cs := #[.int .i64 a0_0, .bool a0_1, .int .u64 a0_2]) (t := 61) ?hr ?_; (case hd => rfl); (case hg => rfl); (case hr => first | (go_simp; done) | (go_simp; rfl)); intro gb113 hg w18 hbox hb; have n0_ := Aside0.mk (below_step (by repeat (first | (with_reducible first | exact HB.out | apply below_alloc | apply pw_below_drewN | apply below_drew1) | exact HB.out)) hb); have n1_ := Aside0.mk (hbox); have n2_ := Aside0.mk ((by rw [hg]; exact (below_size (by repeat (first | (with_reducible first | exact HB.out | apply below_alloc | apply pw_below_drewN | apply below_drew1) | exact HB.out))) : w.heap.size ≤ gb113)); have n3_ := Aside0.mk ((by rw [hg]; exact (below_size (by repeat (first | (with_reducible first | exact HB.out | apply below_alloc | apply pw_below_drewN | apply below_drew1) | exact HB.out))) : w.heap.size ≤ gb113)); clear HB; have HB := n0_; have BK113 := n1_; have GW113 := n2_; have GE113 := n3_; clear n0_ n1_ n2_ n3_; clear hb hbox hg) | ((with_reducible refine gate_dst (N := 4) rfl ?_); refine box_event ?hg (N := 4) ?hd (cs := #[.int .i64 0, .bool false, .int .u64 0]) (t := 61) ?hr ?_; (case hd => rfl); (case hg => rfl); (case hr => first | (go_simp; done) | (go_simp; rfl)); intro gb114 hg w19 hbox hb; have n0_ := Aside0.mk (bb_ hb BK113.out); have n1_ := Aside0.mk (below_step (by repeat (first | (with_reducible first | exact HB.out | apply below_alloc | apply pw_below_drewN | apply below_drew1 | refine below_set ?_ GE113.out) | exact HB.out)) hb); have n2_ := Aside0.mk (hbox); have n3_ := Aside0.mk ((by rw [hg]; exact (below_size (by repeat (first | (with_reducible first | exact HB.out | apply below_alloc | apply pw_below_drewN | apply below_drew1 | refine below_set ?_ GE113.out) | exact HB.out))) : w.heap.size ≤ gb114)); have n4_ := Aside0.mk ((by rw [hg]; exact (below_size (by repeat (first | (with_reducible first | exact HB.out | apply below_alloc | apply pw_below_drewN | apply below_drew1 | refine below_set ?_ GE113.out) | exact HB.out))) : w.heap.size ≤ gb114)); have n5_ := Aside0.mk ((by rw [hg]; exact Nat.ne_of_lt (blk_lt BK113.out) : gb113 ≠ gb114)); have n6_ := Aside0.mk ((by rw [hg]; exact Nat.ne_of_gt (blk_lt BK113.out) : gb114 ≠ gb113)); clear BK113; clear HB; have BK113 := n0_; have HB := n1_; have BK114 := n2_; have GW114 := n3_; have GE114 := n4_; have NB113_114 := n5_; have NB114_113 := n6_; clear n0_ n1_ n2_ n3_ n4_ n5_ n6_; clear hb hbox hg; have hnb20 := NB113_114.out; have hnc20 := NB114_113.out; have hcz21_0 : w19.cell? ⟨gb113, 0, none⟩ = some (.int .i64 a0_0) := (blk_cell BK113.out 0).trans rfl; have hcz21_1 : w19.cell? ⟨gb113, 1, none⟩ = some (.bool a0_1) := (blk_cell BK113.out 1).trans rfl; have hcz21_2 : w19.cell? ⟨gb113, 2, none⟩ = some (.int .u64 a0_2) := (blk_cell BK113.out 2).trans rfl; have hfz21_0 := blk_frozen BK113.out 0; have hfz21_1 := blk_frozen BK113.out 1; have hfz21_2 := blk_frozen BK113.out 2) | ((with_reducible refine gate_callee (f := 45) rfl ?_); refine goesL_ (some 19) rfl rfl Try.func45 (by kernel_rfl) rfl #[.int .u64 a0_2] rfl (by (try simp only [List.map_toArray, List.map_cons, List.map_nil]); first | done | rfl | (simp only [List.length_drop, List.length_take]; rfl)) ?_; (with_reducible refine (lookasideref02_Va.calls k a0_2 t116 _ A17.out).mono ?_); rintro e w' ⟨rfl, ⟨nd, rfl⟩⟩; refine ⟨_, rfl, ?_⟩; have hcz22_0 : w19.cell? ⟨gb114, 0, none⟩ = some (.int .i64 0) := (blk_cell BK114.out 0).trans rfl; have hcz22_1 : w19.cell? ⟨gb114, 1, none⟩ = some (.bool false) := (blk_cell BK114.out 1).trans rfl; have hcz22_2 : w19.cell? ⟨gb114, 2, none⟩ = some (.int .u64 0) := (blk_cell BK114.out 2).trans rfl; have hfz22_0 := blk_frozen BK114.out 0; have hfz22_1 := blk_frozen BK114.out 1; have hfz22_2 := blk_frozen BK114.out 2))
      refine bodyPost_ret (results_cell_row rfl _ _ gb114 61 #[.int .i64 (Int.tmod a0_0 4), .bool a0_1, .int .u64 t116] (0, 0) _ rfl (by (with_reducible repeat (first | refine blk_drewN ?_ _ | refine blk_drew ?_ | refine blk_alloc ?_ _)); refine blk_put (cs := #[.int .i64 (Int.tmod a0_0 4), .bool a0_1, .int .u64 0]) ?_ 2 _ rfl; refine blk_put (cs := #[.int .i64 (Int.tmod a0_0 4), .bool false, .int .u64 0]) ?_ 1 _ rfl; refine blk_put (cs := #[.int .i64 0, .bool false, .int .u64 0]) ?_ 0 _ rfl; refine blk_far ?_ NB114_113.out _; refine blk_far ?_ NB114_113.out _; (with_reducible repeat (first | refine blk_drewN ?_ _ | refine blk_drew ?_ | refine blk_alloc ?_ _)); exact BK114.out) Try.underlying61 rfl (by kernel_rfl)) rfl ?_
      exact ⟨by first | rfl | (simp [errW_none, errW_some] <;> rfl) | (simp [*, errW_none, errW_some] <;> rfl), by repeat (first | (with_reducible first | exact HB.out | apply below_alloc | apply pw_below_drewN | apply below_drew1 | refine below_set ?_ GE113.out | refine below_set ?_ GE114.out) | exact HB.out)⟩
    · replace c16 := Bool.eq_false_iff.mpr c16
      subst c16
      have H1 : (some (Int.tmod a0_0 4, a0_1, a0_2)) = some (r1, r2, r3) := by rw [if_neg (show ¬ (false = true) by decide)] at H; exact H
      clear H
      have H := H1
      clear H1
      simp only [Option.some.injEq, Prod.mk.injEq] at H
      obtain ⟨rfl, rfl, rfl⟩ := H
      go_enter Try.func33, Try.ntmps33
      go_wp2_with (first | ((with_reducible refine gate_dst (N := 2) rfl ?_); refine box_event ?hg (N := 2) ?hd (cs := #[.int .i64 a0_0, .bool a0_1, .int .u64 a0_2]) (t := 61) ?hr ?_; (case hd => rfl); (case hg => rfl); (case hr => first | (go_simp; done) | (go_simp; rfl)); intro gb113 hg w23 hbox hb; have n0_ := Aside0.mk (below_step (by repeat (first | (with_reducible first | exact HB.out | apply below_alloc | apply pw_below_drewN | apply below_drew1) | exact HB.out)) hb); have n1_ := Aside0.mk (hbox); have n2_ := Aside0.mk ((by rw [hg]; exact (below_size (by repeat (first | (with_reducible first | exact HB.out | apply below_alloc | apply pw_below_drewN | apply below_drew1) | exact HB.out))) : w.heap.size ≤ gb113)); have n3_ := Aside0.mk ((by rw [hg]; exact (below_size (by repeat (first | (with_reducible first | exact HB.out | apply below_alloc | apply pw_below_drewN | apply below_drew1) | exact HB.out))) : w.heap.size ≤ gb113)); clear HB; have HB := n0_; have BK113 := n1_; have GW113 := n2_; have GE113 := n3_; clear n0_ n1_ n2_ n3_; clear hb hbox hg) | ((with_reducible refine gate_dst (N := 4) rfl ?_); refine box_event ?hg (N := 4) ?hd (cs := #[.int .i64 0, .bool false, .int .u64 0]) (t := 61) ?hr ?_; (case hd => rfl); (case hg => rfl); (case hr => first | (go_simp; done) | (go_simp; rfl)); intro gb114 hg w24 hbox hb; have n0_ := Aside0.mk (bb_ hb BK113.out); have n1_ := Aside0.mk (below_step (by repeat (first | (with_reducible first | exact HB.out | apply below_alloc | apply pw_below_drewN | apply below_drew1 | refine below_set ?_ GE113.out) | exact HB.out)) hb); have n2_ := Aside0.mk (hbox); have n3_ := Aside0.mk ((by rw [hg]; exact (below_size (by repeat (first | (with_reducible first | exact HB.out | apply below_alloc | apply pw_below_drewN | apply below_drew1 | refine below_set ?_ GE113.out) | exact HB.out))) : w.heap.size ≤ gb114)); have n4_ := Aside0.mk ((by rw [hg]; exact (below_size (by repeat (first | (with_reducible first | exact HB.out | apply below_alloc | apply pw_below_drewN | apply below_drew1 | refine below_set ?_ GE113.out) | exact HB.out))) : w.heap.size ≤ gb114)); have n5_ := Aside0.mk ((by rw [hg]; exact Nat.ne_of_lt (blk_lt BK113.out) : gb113 ≠ gb114)); have n6_ := Aside0.mk ((by rw [hg]; exact Nat.ne_of_gt (blk_lt BK113.out) : gb114 ≠ gb113)); clear BK113; clear HB; have BK113 := n0_; have HB := n1_; have BK114 := n2_; have GW114 := n3_; have GE114 := n4_; have NB113_114 := n5_; have NB114_113 := n6_; clear n0_ n1_ n2_ n3_ n4_ n5_ n6_; clear hb hbox hg; have hnb25 := NB113_114.out; have hnc25 := NB114_113.out; have hcz26_0 : w24.cell? ⟨gb113, 0, none⟩ = some (.int .i64 a0_0) := (blk_cell BK113.out 0).trans rfl; have hcz26_1 : w24.cell? ⟨gb113, 1, none⟩ = some (.bool a0_1) := (blk_cell BK113.out 1).trans rfl; have hcz26_2 : w24.cell? ⟨gb113, 2, none⟩ = some (.int .u64 a0_2) := (blk_cell BK113.out 2).trans rfl; have hfz26_0 := blk_frozen BK113.out 0; have hfz26_1 := blk_frozen BK113.out 1; have hfz26_2 := blk_frozen BK113.out 2; have hcz27_0 : w24.cell? ⟨gb114, 0, none⟩ = some (.int .i64 0) := (blk_cell BK114.out 0).trans rfl; have hcz27_1 : w24.cell? ⟨gb114, 1, none⟩ = some (.bool false) := (blk_cell BK114.out 1).trans rfl; have hcz27_2 : w24.cell? ⟨gb114, 2, none⟩ = some (.int .u64 0) := (blk_cell BK114.out 2).trans rfl; have hfz27_0 := blk_frozen BK114.out 0; have hfz27_1 := blk_frozen BK114.out 1; have hfz27_2 := blk_frozen BK114.out 2))
      refine bodyPost_ret (results_cell_row rfl _ _ gb114 61 #[.int .i64 (Int.tmod a0_0 4), .bool a0_1, .int .u64 a0_2] (0, 0) _ rfl (by (with_reducible repeat (first | refine blk_drewN ?_ _ | refine blk_drew ?_ | refine blk_alloc ?_ _)); refine blk_put (cs := #[.int .i64 (Int.tmod a0_0 4), .bool a0_1, .int .u64 0]) ?_ 2 _ rfl; refine blk_put (cs := #[.int .i64 (Int.tmod a0_0 4), .bool false, .int .u64 0]) ?_ 1 _ rfl; refine blk_put (cs := #[.int .i64 0, .bool false, .int .u64 0]) ?_ 0 _ rfl; refine blk_far ?_ NB114_113.out _; (with_reducible repeat (first | refine blk_drewN ?_ _ | refine blk_drew ?_ | refine blk_alloc ?_ _)); exact BK114.out) Try.underlying61 rfl (by kernel_rfl)) rfl ?_
      exact ⟨by first | rfl | (simp [errW_none, errW_some] <;> rfl) | (simp [*, errW_none, errW_some] <;> rfl), by repeat (first | (with_reducible first | exact HB.out | apply below_alloc | apply pw_below_drewN | apply below_drew1 | refine below_set ?_ GE113.out | refine below_set ?_ GE114.out) | exact HB.out)⟩
/-! ### cpu_Unit: function 34 -/
def cpu_Unit.f (a0 : Int) : Option (Int) := if a0 = 2 then (some 0) else (some 1)
set_option maxHeartbeats 8000000 in
set_option maxRecDepth 100000 in
theorem cpu_Unit.calls (a0 : Int) (r : Int) (w : World) (h : cpu_Unit.f a0 = some r) :
    Calls Try.prog 34 #[.int .i64 a0] w fun e w' => e = .returned (.int .i64 r) ∧ Drawn0 w w' := by
  have H : (if a0 = 2 then (some 0) else (some 1)) = some r := h
  clear h
  by_cases c2 : a0 = 2
  · rw [if_pos c2] at H
    have c2b0 : (a0 == 2) = true := beq_iff_eq.mpr c2
    have c2b1 : (a0 != 2) = false := bne_eq_false_iff_eq.mpr c2
    clear c2
    obtain rfl := Option.some.inj H
    go_enter Try.func34, Try.ntmps34
    go_wp2
    go_ret
    exact ⟨by first | rfl | (simp; done) | (simp [*]; done), by repeat (first | exact Drawn0.refl _ | apply Drawn0.step)⟩
  · rw [if_neg c2] at H
    have c2b0 : (a0 == 2) = false := beq_eq_false_iff_ne.mpr c2
    have c2b1 : (a0 != 2) = true := bne_iff_ne.mpr c2
    obtain rfl := Option.some.inj H
    go_enter Try.func34, Try.ntmps34
    go_wp2
    go_ret
    exact ⟨by first | rfl | (simp; done) | (simp [*]; done), by repeat (first | exact Drawn0.refl _ | apply Drawn0.step)⟩
/-! ### cpu_is: function 74 -/
def cpu_is.f (a0 : Int) : Option (Bool) := if a0 ≥ 0 then (some (decide (a0 < 2))) else (some false)
set_option maxHeartbeats 8000000 in
set_option maxRecDepth 100000 in
theorem cpu_is.calls (a0 : Int) (r : Bool) (w : World) (h : cpu_is.f a0 = some r) :
    Calls Try.prog 74 #[.int .i64 a0] w fun e w' => e = .returned (.bool r) ∧ Drawn0 w w' := by
  have H : (if a0 ≥ 0 then (some (decide (a0 < 2))) else (some false)) = some r := h
  clear h
  by_cases c2 : a0 ≥ 0
  · rw [if_pos c2] at H
    have c2b0 : decide (0 ≤ a0) = true := decide_eq_true c2
    clear c2
    obtain rfl := Option.some.inj H
    go_enter Try.func74, Try.ntmps74
    go_wp2
    go_ret
    exact ⟨by first | rfl | (simp; done) | (simp [*]; done), by repeat (first | exact Drawn0.refl _ | apply Drawn0.step)⟩
  · rw [if_neg c2] at H
    have c2b0 : decide (0 ≤ a0) = false := decide_eq_false c2
    clear c2
    obtain rfl := Option.some.inj H
    go_enter Try.func74, Try.ntmps74
    go_wp2
    go_ret
    exact ⟨by first | rfl | (simp; done) | (simp [*]; done), by repeat (first | exact Drawn0.refl _ | apply Drawn0.step)⟩

-- NOT PRINTED: function 35 (cpu_Cpu_Insert)

-- NOT PRINTED: function 20 (tlb_Tlb_Find)

-- NOT PRINTED: function 39 (cpu_Cpu_Find)
/-! ### fault_Judge: function 96 -/
mutual
def fault_Judge.j0 : Nat → Bool → Bool → Bool → Bool → Bool → Bool → Bool → Int → Bool → Int → Option (Int)
  | 0, _, _, _, _, _, _, _, _, _, _ => none
  | k + 1, x5, x141000, x141001, x141002, x141003, x141004, x141005, x142000, x142001, x142002 => if x5 = true then (some 3) else (if x141005 = true then (fault_Judge.j1 k (x142000 != 3) x141000 x141001 x141002 x141003 x141004 x141005 x142000 x142001 x142002) else (fault_Judge.j1 k false x141000 x141001 x141002 x141003 x141004 x141005 x142000 x142001 x142002))
def fault_Judge.j1 : Nat → Bool → Bool → Bool → Bool → Bool → Bool → Bool → Int → Bool → Int → Option (Int)
  | 0, _, _, _, _, _, _, _, _, _, _ => none
  | k + 1, x13, x141000, x141001, x141002, x141003, x141004, x141005, x142000, x142001, x142002 => if x13 = true then (some 4) else (if x142000 = 1 then (fault_Judge.j2 k (!x141000) x141000 x141001 x141002 x141003 x141004 x141005 x142000 x142001 x142002) else (fault_Judge.j2 k false x141000 x141001 x141002 x141003 x141004 x141005 x142000 x142001 x142002))
def fault_Judge.j2 : Nat → Bool → Bool → Bool → Bool → Bool → Bool → Bool → Int → Bool → Int → Option (Int)
  | 0, _, _, _, _, _, _, _, _, _, _ => none
  | k + 1, x21, x141000, x141001, x141002, x141003, x141004, x141005, x142000, x142001, x142002 => if x21 = true then (some 5) else (if x142000 = 2 then (if x141002 = true then (some 0) else (some 6)) else (some 0))
end
def fault_Judge.f (k : Nat) (a0_0 : Bool) (a0_1 : Bool) (a0_2 : Bool) (a0_3 : Bool) (a0_4 : Bool) (a0_5 : Bool) (a1_0 : Int) (a1_1 : Bool) (a1_2 : Int) : Option (Int) := if a0_1 = true then (fault_Judge.j0 k (!a1_1) a0_0 a0_1 a0_2 a0_3 a0_4 a0_5 a1_0 a1_1 a1_2) else (fault_Judge.j0 k false a0_0 a0_1 a0_2 a0_3 a0_4 a0_5 a1_0 a1_1 a1_2)
theorem fault_Judge.mono_l : ∀ k, (∀ y0 y1 y2 y3 y4 y5 y6 y7 y8 y9, LeO (fault_Judge.j0 k y0 y1 y2 y3 y4 y5 y6 y7 y8 y9) (fault_Judge.j0 (k + 1) y0 y1 y2 y3 y4 y5 y6 y7 y8 y9)) ∧ (∀ y0 y1 y2 y3 y4 y5 y6 y7 y8 y9, LeO (fault_Judge.j1 k y0 y1 y2 y3 y4 y5 y6 y7 y8 y9) (fault_Judge.j1 (k + 1) y0 y1 y2 y3 y4 y5 y6 y7 y8 y9)) ∧ (∀ y0 y1 y2 y3 y4 y5 y6 y7 y8 y9, LeO (fault_Judge.j2 k y0 y1 y2 y3 y4 y5 y6 y7 y8 y9) (fault_Judge.j2 (k + 1) y0 y1 y2 y3 y4 y5 y6 y7 y8 y9))
  | 0 => ⟨fun _ _ _ _ _ _ _ _ _ _ r h => by simp [fault_Judge.j0] at h, fun _ _ _ _ _ _ _ _ _ _ r h => by simp [fault_Judge.j1] at h, fun _ _ _ _ _ _ _ _ _ _ r h => by simp [fault_Judge.j2] at h⟩
  | k + 1 => by
    obtain ⟨ih0, ih1, ih2⟩ := fault_Judge.mono_l k
    refine ⟨?_, ?_, ?_⟩
    · intro y0 y1 y2 y3 y4 y5 y6 y7 y8 y9
      unfold fault_Judge.j0
      repeat' first
      | (with_reducible exact ih0 _ _ _ _ _ _ _ _ _ _)
      | (with_reducible exact ih1 _ _ _ _ _ _ _ _ _ _)
      | (with_reducible exact ih2 _ _ _ _ _ _ _ _ _ _)
      | (with_reducible exact LeO.refl _)
      | (with_reducible exact LeO.none _)
      | (with_reducible refine LeO.ite ?_ ?_)
      | (with_reducible refine LeO.bind ?_ (fun _ => ?_))
      | exact ih0 _ _ _ _ _ _ _ _ _ _
      | exact ih1 _ _ _ _ _ _ _ _ _ _
      | exact ih2 _ _ _ _ _ _ _ _ _ _
      | exact LeO.none _
      | refine LeO.ite ?_ ?_
      | refine LeO.bind ?_ (fun _ => ?_)
    · intro y0 y1 y2 y3 y4 y5 y6 y7 y8 y9
      unfold fault_Judge.j1
      repeat' first
      | (with_reducible exact ih0 _ _ _ _ _ _ _ _ _ _)
      | (with_reducible exact ih1 _ _ _ _ _ _ _ _ _ _)
      | (with_reducible exact ih2 _ _ _ _ _ _ _ _ _ _)
      | (with_reducible exact LeO.refl _)
      | (with_reducible exact LeO.none _)
      | (with_reducible refine LeO.ite ?_ ?_)
      | (with_reducible refine LeO.bind ?_ (fun _ => ?_))
      | exact ih0 _ _ _ _ _ _ _ _ _ _
      | exact ih1 _ _ _ _ _ _ _ _ _ _
      | exact ih2 _ _ _ _ _ _ _ _ _ _
      | exact LeO.none _
      | refine LeO.ite ?_ ?_
      | refine LeO.bind ?_ (fun _ => ?_)
    · intro y0 y1 y2 y3 y4 y5 y6 y7 y8 y9
      unfold fault_Judge.j2
      repeat' first
      | (with_reducible exact ih0 _ _ _ _ _ _ _ _ _ _)
      | (with_reducible exact ih1 _ _ _ _ _ _ _ _ _ _)
      | (with_reducible exact ih2 _ _ _ _ _ _ _ _ _ _)
      | (with_reducible exact LeO.refl _)
      | (with_reducible exact LeO.none _)
      | (with_reducible refine LeO.ite ?_ ?_)
      | (with_reducible refine LeO.bind ?_ (fun _ => ?_))
      | exact ih0 _ _ _ _ _ _ _ _ _ _
      | exact ih1 _ _ _ _ _ _ _ _ _ _
      | exact ih2 _ _ _ _ _ _ _ _ _ _
      | exact LeO.none _
      | refine LeO.ite ?_ ?_
      | refine LeO.bind ?_ (fun _ => ?_)
theorem fault_Judge.mono : ∀ a0 a1 a2 a3 a4 a5 a6 a7 a8 k, LeO (fault_Judge.f k a0 a1 a2 a3 a4 a5 a6 a7 a8) (fault_Judge.f (k + 1) a0 a1 a2 a3 a4 a5 a6 a7 a8) := by
  intro a0 a1 a2 a3 a4 a5 a6 a7 a8 k
  obtain ⟨ih0, ih1, ih2⟩ := fault_Judge.mono_l k
  unfold fault_Judge.f
  repeat' first
      | (with_reducible exact ih0 _ _ _ _ _ _ _ _ _ _)
      | (with_reducible exact ih1 _ _ _ _ _ _ _ _ _ _)
      | (with_reducible exact ih2 _ _ _ _ _ _ _ _ _ _)
      | (with_reducible exact LeO.refl _)
      | (with_reducible exact LeO.none _)
      | (with_reducible refine LeO.ite ?_ ?_)
      | (with_reducible refine LeO.bind ?_ (fun _ => ?_))
      | exact ih0 _ _ _ _ _ _ _ _ _ _
      | exact ih1 _ _ _ _ _ _ _ _ _ _
      | exact ih2 _ _ _ _ _ _ _ _ _ _
      | exact LeO.none _
      | refine LeO.ite ?_ ?_
      | refine LeO.bind ?_ (fun _ => ?_)
set_option maxHeartbeats 8000000 in
set_option maxRecDepth 100000 in
theorem fault_Judge.calls (k : Nat) (a0_0 : Bool) (a0_1 : Bool) (a0_2 : Bool) (a0_3 : Bool) (a0_4 : Bool) (a0_5 : Bool) (a1_0 : Int) (a1_1 : Bool) (a1_2 : Int) (r : Int) (w : World) (h : fault_Judge.f k a0_0 a0_1 a0_2 a0_3 a0_4 a0_5 a1_0 a1_1 a1_2 = some r) :
    Calls Try.prog 96 #[.agg #[.bool a0_0, .bool a0_1, .bool a0_2, .bool a0_3, .bool a0_4, .bool a0_5], .agg #[.int .i64 a1_0, .bool a1_1, .int .u64 a1_2]] w fun e w' => e = .returned (.int .i64 r) ∧ Below w.heap.size w w' := by
  have hu24 := Try.underlying24
  have hu61 := Try.underlying61
  have HB := Aside0.mk (Below.refl w.heap.size w)
  have H : (if a0_1 = true then (fault_Judge.j0 k (!a1_1) a0_0 a0_1 a0_2 a0_3 a0_4 a0_5 a1_0 a1_1 a1_2) else (fault_Judge.j0 k false a0_0 a0_1 a0_2 a0_3 a0_4 a0_5 a1_0 a1_1 a1_2)) = some r := h
  clear h
  have HC3 := Aside0.mk H
  clear H
  go_enter Try.func96, Try.ntmps96
  go_upto_region 1 with (first | ((with_reducible refine gate_dst (N := 2) rfl ?_); refine box_event ?hg (N := 2) ?hd (cs := #[.bool a0_0, .bool a0_1, .bool a0_2, .bool a0_3, .bool a0_4, .bool a0_5]) (t := 24) ?hr ?_; (case hd => rfl); (case hg => rfl); (case hr => first | (go_simp; done) | (go_simp; rfl)); intro gb140 hg w4 hbox hb; have n0_ := Aside0.mk (below_step (by repeat (first | (with_reducible first | exact HB.out | apply below_alloc | apply pw_below_drewN | apply below_drew1) | exact HB.out)) hb); have n1_ := Aside0.mk (hbox); have n2_ := Aside0.mk ((by rw [hg]; exact (below_size (by repeat (first | (with_reducible first | exact HB.out | apply below_alloc | apply pw_below_drewN | apply below_drew1) | exact HB.out))) : w.heap.size ≤ gb140)); have n3_ := Aside0.mk ((by rw [hg]; exact (below_size (by repeat (first | (with_reducible first | exact HB.out | apply below_alloc | apply pw_below_drewN | apply below_drew1) | exact HB.out))) : w.heap.size ≤ gb140)); clear HB; have HB := n0_; have BK140 := n1_; have GW140 := n2_; have GE140 := n3_; clear n0_ n1_ n2_ n3_; clear hb hbox hg) | ((with_reducible refine gate_dst (N := 3) rfl ?_); refine box_event ?hg (N := 3) ?hd (cs := #[.int .i64 a1_0, .bool a1_1, .int .u64 a1_2]) (t := 61) ?hr ?_; (case hd => rfl); (case hg => rfl); (case hr => first | (go_simp; done) | (go_simp; rfl)); intro gb141 hg w5 hbox hb; have n0_ := Aside0.mk (bb_ hb BK140.out); have n1_ := Aside0.mk (below_step (by repeat (first | (with_reducible first | exact HB.out | apply below_alloc | apply pw_below_drewN | apply below_drew1 | refine below_set ?_ GE140.out) | exact HB.out)) hb); have n2_ := Aside0.mk (hbox); have n3_ := Aside0.mk ((by rw [hg]; exact (below_size (by repeat (first | (with_reducible first | exact HB.out | apply below_alloc | apply pw_below_drewN | apply below_drew1 | refine below_set ?_ GE140.out) | exact HB.out))) : w.heap.size ≤ gb141)); have n4_ := Aside0.mk ((by rw [hg]; exact (below_size (by repeat (first | (with_reducible first | exact HB.out | apply below_alloc | apply pw_below_drewN | apply below_drew1 | refine below_set ?_ GE140.out) | exact HB.out))) : w.heap.size ≤ gb141)); have n5_ := Aside0.mk ((by rw [hg]; exact Nat.ne_of_lt (blk_lt BK140.out) : gb140 ≠ gb141)); have n6_ := Aside0.mk ((by rw [hg]; exact Nat.ne_of_gt (blk_lt BK140.out) : gb141 ≠ gb140)); clear BK140; clear HB; have BK140 := n0_; have HB := n1_; have BK141 := n2_; have GW141 := n3_; have GE141 := n4_; have NB140_141 := n5_; have NB141_140 := n6_; clear n0_ n1_ n2_ n3_ n4_ n5_ n6_; clear hb hbox hg))
  (try simp only [Act.put, List.setIfInBounds_toArray, List.set_cons_zero, List.set_cons_succ])
  go_cut [5] (fun v5 wc => ∃ (kq : Nat) (x5_2 : Bool), v5 = .bool x5_2 ∧ Aside0 (fault_Judge.j0 kq x5_2 a0_0 a0_1 a0_2 a0_3 a0_4 a0_5 a1_0 a1_1 a1_2 = some r) ∧ Aside0 (kq ≤ k) ∧ Aside0 (wc.heap[gb140]? = some (.cells #[.bool a0_0, .bool a0_1, .bool a0_2, .bool a0_3, .bool a0_4, .bool a0_5] 24 (0, 0))) ∧ Aside0 (wc.heap[gb141]? = some (.cells #[.int .i64 a1_0, .bool a1_1, .int .u64 a1_2] 61 (0, 0))) ∧ Aside0 (Below w.heap.size w wc))
  case first =>
    have H := HC3.out
    clear HC3
    by_cases c6 : a0_1 = true
    · subst c6
      have H1 : (fault_Judge.j0 k (!a1_1) a0_0 true a0_2 a0_3 a0_4 a0_5 a1_0 a1_1 a1_2) = some r := by rw [if_pos rfl] at H; exact H
      clear H
      have H := H1
      clear H1
      have H' := Aside0.mk H
      clear H
      have hnb7 := NB140_141.out
      have hnc7 := NB141_140.out
      have hcz8_0 : w5.cell? ⟨gb140, 0, none⟩ = some (.bool a0_0) := (blk_cell BK140.out 0).trans rfl
      have hcz8_1 : w5.cell? ⟨gb140, 1, none⟩ = some (.bool true) := (blk_cell BK140.out 1).trans rfl
      have hcz8_2 : w5.cell? ⟨gb140, 2, none⟩ = some (.bool a0_2) := (blk_cell BK140.out 2).trans rfl
      have hcz8_3 : w5.cell? ⟨gb140, 3, none⟩ = some (.bool a0_3) := (blk_cell BK140.out 3).trans rfl
      have hcz8_4 : w5.cell? ⟨gb140, 4, none⟩ = some (.bool a0_4) := (blk_cell BK140.out 4).trans rfl
      have hcz8_5 : w5.cell? ⟨gb140, 5, none⟩ = some (.bool a0_5) := (blk_cell BK140.out 5).trans rfl
      have hfz8_0 := blk_frozen BK140.out 0
      have hfz8_1 := blk_frozen BK140.out 1
      have hfz8_2 := blk_frozen BK140.out 2
      have hfz8_3 := blk_frozen BK140.out 3
      have hfz8_4 := blk_frozen BK140.out 4
      have hfz8_5 := blk_frozen BK140.out 5
      have hcz9_0 : w5.cell? ⟨gb141, 0, none⟩ = some (.int .i64 a1_0) := (blk_cell BK141.out 0).trans rfl
      have hcz9_1 : w5.cell? ⟨gb141, 1, none⟩ = some (.bool a1_1) := (blk_cell BK141.out 1).trans rfl
      have hcz9_2 : w5.cell? ⟨gb141, 2, none⟩ = some (.int .u64 a1_2) := (blk_cell BK141.out 2).trans rfl
      have hfz9_0 := blk_frozen BK141.out 0
      have hfz9_1 := blk_frozen BK141.out 1
      have hfz9_2 := blk_frozen BK141.out 2
      go_wp2
      go_meet
      case rel => exact ⟨_, (!a1_1), (by first | rfl | (simp; done) | (simp [*]; done)), H', ⟨by first | omega | exact Nat.le_refl _⟩, ⟨by (with_reducible repeat (first | refine blk_drewN ?_ _ | refine blk_drew ?_ | refine blk_alloc ?_ _)); exact BK140.out⟩, ⟨by (with_reducible repeat (first | refine blk_drewN ?_ _ | refine blk_drew ?_ | refine blk_alloc ?_ _)); exact BK141.out⟩, ⟨by repeat (first | (with_reducible first | exact HB.out | apply below_alloc | apply pw_below_drewN | apply below_drew1 | refine below_set ?_ GE140.out | refine below_set ?_ GE141.out) | exact HB.out)⟩⟩
    · replace c6 := Bool.eq_false_iff.mpr c6
      subst c6
      have H1 : (fault_Judge.j0 k false a0_0 false a0_2 a0_3 a0_4 a0_5 a1_0 a1_1 a1_2) = some r := by rw [if_neg (show ¬ (false = true) by decide)] at H; exact H
      clear H
      have H := H1
      clear H1
      have H' := Aside0.mk H
      clear H
      have hnb10 := NB140_141.out
      have hnc10 := NB141_140.out
      have hcz11_0 : w5.cell? ⟨gb140, 0, none⟩ = some (.bool a0_0) := (blk_cell BK140.out 0).trans rfl
      have hcz11_1 : w5.cell? ⟨gb140, 1, none⟩ = some (.bool false) := (blk_cell BK140.out 1).trans rfl
      have hcz11_2 : w5.cell? ⟨gb140, 2, none⟩ = some (.bool a0_2) := (blk_cell BK140.out 2).trans rfl
      have hcz11_3 : w5.cell? ⟨gb140, 3, none⟩ = some (.bool a0_3) := (blk_cell BK140.out 3).trans rfl
      have hcz11_4 : w5.cell? ⟨gb140, 4, none⟩ = some (.bool a0_4) := (blk_cell BK140.out 4).trans rfl
      have hcz11_5 : w5.cell? ⟨gb140, 5, none⟩ = some (.bool a0_5) := (blk_cell BK140.out 5).trans rfl
      have hfz11_0 := blk_frozen BK140.out 0
      have hfz11_1 := blk_frozen BK140.out 1
      have hfz11_2 := blk_frozen BK140.out 2
      have hfz11_3 := blk_frozen BK140.out 3
      have hfz11_4 := blk_frozen BK140.out 4
      have hfz11_5 := blk_frozen BK140.out 5
      go_wp2
      go_meet
      case rel => exact ⟨_, (false), (by first | rfl | (simp; done) | (simp [*]; done)), H', ⟨by first | omega | exact Nat.le_refl _⟩, ⟨by (with_reducible repeat (first | refine blk_drewN ?_ _ | refine blk_drew ?_ | refine blk_alloc ?_ _)); exact BK140.out⟩, ⟨by (with_reducible repeat (first | refine blk_drewN ?_ _ | refine blk_drew ?_ | refine blk_alloc ?_ _)); exact BK141.out⟩, ⟨by repeat (first | (with_reducible first | exact HB.out | apply below_alloc | apply pw_below_drewN | apply below_drew1 | refine below_set ?_ GE140.out | refine below_set ?_ GE141.out) | exact HB.out)⟩⟩
  case rest =>
    clear HC3
    try clear c1
    try clear p2
    try clear c6
    try clear c7
    try clear c9
    try clear c10
    try clear hcz11_0
    try clear hcz11_1
    try clear hcz11_2
    try clear hcz11_3
    try clear hcz11_4
    try clear hcz11_5
    try clear hcz8_0
    try clear hcz8_1
    try clear hcz8_2
    try clear hcz8_3
    try clear hcz8_4
    try clear hcz8_5
    try clear hcz9_0
    try clear hcz9_1
    try clear hcz9_2
    try clear hfz11_0
    try clear hfz11_1
    try clear hfz11_2
    try clear hfz11_3
    try clear hfz11_4
    try clear hfz11_5
    try clear hfz8_0
    try clear hfz8_1
    try clear hfz8_2
    try clear hfz8_3
    try clear hfz8_4
    try clear hfz8_5
    try clear hfz9_0
    try clear hfz9_1
    try clear hfz9_2
    obtain ⟨kq, x5_2, rfl, HA, HJ2, BK140, BK141, HB⟩ := hcut
    cases kq with
    | zero => exact absurd HA.out (by simp [fault_Judge.j0])
    | succ kj2 =>
      have H := HA.out
      clear HA
      simp only [fault_Judge.j0] at H
      by_cases c12 : x5_2 = true
      · subst c12
        have H1 : (some 3) = some r := by rw [if_pos rfl] at H; exact H
        clear H
        have H := H1
        clear H1
        obtain rfl := Option.some.inj H
        go_wp2
        go_ret
        exact ⟨by first | rfl | (simp [errW_none, errW_some] <;> rfl) | (simp [*, errW_none, errW_some] <;> rfl), by repeat (first | (with_reducible first | exact HB.out | apply below_alloc | apply pw_below_drewN | apply below_drew1 | refine below_set ?_ GE140.out | refine below_set ?_ GE141.out) | exact HB.out)⟩
      · replace c12 := Bool.eq_false_iff.mpr c12
        subst c12
        have H1 : (if a0_5 = true then (fault_Judge.j1 kj2 (a1_0 != 3) a0_0 a0_1 a0_2 a0_3 a0_4 a0_5 a1_0 a1_1 a1_2) else (fault_Judge.j1 kj2 false a0_0 a0_1 a0_2 a0_3 a0_4 a0_5 a1_0 a1_1 a1_2)) = some r := by rw [if_neg (show ¬ (false = true) by decide)] at H; exact H
        clear H
        have H := H1
        clear H1
        have HC13 := Aside0.mk H
        clear H
        go_upto_region 3 with (fail)
        go_cut [13] (fun v13 wc => ∃ (kq : Nat) (x13_12 : Bool), v13 = .bool x13_12 ∧ Aside0 (fault_Judge.j1 kq x13_12 a0_0 a0_1 a0_2 a0_3 a0_4 a0_5 a1_0 a1_1 a1_2 = some r) ∧ Aside0 (kq ≤ kj2) ∧ Aside0 (wc.heap[gb140]? = some (.cells #[.bool a0_0, .bool a0_1, .bool a0_2, .bool a0_3, .bool a0_4, .bool a0_5] 24 (0, 0))) ∧ Aside0 (wc.heap[gb141]? = some (.cells #[.int .i64 a1_0, .bool a1_1, .int .u64 a1_2] 61 (0, 0))) ∧ Aside0 (Below w.heap.size w wc))
        case first =>
          have H := HC13.out
          clear HC13
          by_cases c14 : a0_5 = true
          · subst c14
            have H1 : (fault_Judge.j1 kj2 (a1_0 != 3) a0_0 a0_1 a0_2 a0_3 a0_4 true a1_0 a1_1 a1_2) = some r := by rw [if_pos rfl] at H; exact H
            clear H
            have H := H1
            clear H1
            have H' := Aside0.mk H
            clear H
            have hnb15 := NB140_141.out
            have hnc15 := NB141_140.out
            have hcz16_0 : wc.cell? ⟨gb140, 0, none⟩ = some (.bool a0_0) := (blk_cell BK140.out 0).trans rfl
            have hcz16_1 : wc.cell? ⟨gb140, 1, none⟩ = some (.bool a0_1) := (blk_cell BK140.out 1).trans rfl
            have hcz16_2 : wc.cell? ⟨gb140, 2, none⟩ = some (.bool a0_2) := (blk_cell BK140.out 2).trans rfl
            have hcz16_3 : wc.cell? ⟨gb140, 3, none⟩ = some (.bool a0_3) := (blk_cell BK140.out 3).trans rfl
            have hcz16_4 : wc.cell? ⟨gb140, 4, none⟩ = some (.bool a0_4) := (blk_cell BK140.out 4).trans rfl
            have hcz16_5 : wc.cell? ⟨gb140, 5, none⟩ = some (.bool true) := (blk_cell BK140.out 5).trans rfl
            have hfz16_0 := blk_frozen BK140.out 0
            have hfz16_1 := blk_frozen BK140.out 1
            have hfz16_2 := blk_frozen BK140.out 2
            have hfz16_3 := blk_frozen BK140.out 3
            have hfz16_4 := blk_frozen BK140.out 4
            have hfz16_5 := blk_frozen BK140.out 5
            have hcz17_0 : wc.cell? ⟨gb141, 0, none⟩ = some (.int .i64 a1_0) := (blk_cell BK141.out 0).trans rfl
            have hcz17_1 : wc.cell? ⟨gb141, 1, none⟩ = some (.bool a1_1) := (blk_cell BK141.out 1).trans rfl
            have hcz17_2 : wc.cell? ⟨gb141, 2, none⟩ = some (.int .u64 a1_2) := (blk_cell BK141.out 2).trans rfl
            have hfz17_0 := blk_frozen BK141.out 0
            have hfz17_1 := blk_frozen BK141.out 1
            have hfz17_2 := blk_frozen BK141.out 2
            go_wp2
            go_meet
            case rel => exact ⟨_, ((a1_0 != 3)), (by first | rfl | (simp; done) | (simp [*]; done)), H', ⟨by have := HJ2.out; first | omega | exact Nat.le_refl _⟩, ⟨by (with_reducible repeat (first | refine blk_drewN ?_ _ | refine blk_drew ?_ | refine blk_alloc ?_ _)); exact BK140.out⟩, ⟨by (with_reducible repeat (first | refine blk_drewN ?_ _ | refine blk_drew ?_ | refine blk_alloc ?_ _)); exact BK141.out⟩, ⟨by repeat (first | (with_reducible first | exact HB.out | apply below_alloc | apply pw_below_drewN | apply below_drew1 | refine below_set ?_ GE140.out | refine below_set ?_ GE141.out) | exact HB.out)⟩⟩
          · replace c14 := Bool.eq_false_iff.mpr c14
            subst c14
            have H1 : (fault_Judge.j1 kj2 false a0_0 a0_1 a0_2 a0_3 a0_4 false a1_0 a1_1 a1_2) = some r := by rw [if_neg (show ¬ (false = true) by decide)] at H; exact H
            clear H
            have H := H1
            clear H1
            have H' := Aside0.mk H
            clear H
            have hnb18 := NB140_141.out
            have hnc18 := NB141_140.out
            have hcz19_0 : wc.cell? ⟨gb140, 0, none⟩ = some (.bool a0_0) := (blk_cell BK140.out 0).trans rfl
            have hcz19_1 : wc.cell? ⟨gb140, 1, none⟩ = some (.bool a0_1) := (blk_cell BK140.out 1).trans rfl
            have hcz19_2 : wc.cell? ⟨gb140, 2, none⟩ = some (.bool a0_2) := (blk_cell BK140.out 2).trans rfl
            have hcz19_3 : wc.cell? ⟨gb140, 3, none⟩ = some (.bool a0_3) := (blk_cell BK140.out 3).trans rfl
            have hcz19_4 : wc.cell? ⟨gb140, 4, none⟩ = some (.bool a0_4) := (blk_cell BK140.out 4).trans rfl
            have hcz19_5 : wc.cell? ⟨gb140, 5, none⟩ = some (.bool false) := (blk_cell BK140.out 5).trans rfl
            have hfz19_0 := blk_frozen BK140.out 0
            have hfz19_1 := blk_frozen BK140.out 1
            have hfz19_2 := blk_frozen BK140.out 2
            have hfz19_3 := blk_frozen BK140.out 3
            have hfz19_4 := blk_frozen BK140.out 4
            have hfz19_5 := blk_frozen BK140.out 5
            go_wp2
            go_meet
            case rel => exact ⟨_, (false), (by first | rfl | (simp; done) | (simp [*]; done)), H', ⟨by have := HJ2.out; first | omega | exact Nat.le_refl _⟩, ⟨by (with_reducible repeat (first | refine blk_drewN ?_ _ | refine blk_drew ?_ | refine blk_alloc ?_ _)); exact BK140.out⟩, ⟨by (with_reducible repeat (first | refine blk_drewN ?_ _ | refine blk_drew ?_ | refine blk_alloc ?_ _)); exact BK141.out⟩, ⟨by repeat (first | (with_reducible first | exact HB.out | apply below_alloc | apply pw_below_drewN | apply below_drew1 | refine below_set ?_ GE140.out | refine below_set ?_ GE141.out) | exact HB.out)⟩⟩
        case rest =>
          clear HC13
          try clear c1
          try clear p2
          try clear c6
          try clear c7
          try clear c9
          try clear c10
          try clear c12
          try clear c14
          try clear c15
          try clear c18
          try clear hcz11_0
          try clear hcz11_1
          try clear hcz11_2
          try clear hcz11_3
          try clear hcz11_4
          try clear hcz11_5
          try clear hcz16_0
          try clear hcz16_1
          try clear hcz16_2
          try clear hcz16_3
          try clear hcz16_4
          try clear hcz16_5
          try clear hcz17_0
          try clear hcz17_1
          try clear hcz17_2
          try clear hcz19_0
          try clear hcz19_1
          try clear hcz19_2
          try clear hcz19_3
          try clear hcz19_4
          try clear hcz19_5
          try clear hcz8_0
          try clear hcz8_1
          try clear hcz8_2
          try clear hcz8_3
          try clear hcz8_4
          try clear hcz8_5
          try clear hcz9_0
          try clear hcz9_1
          try clear hcz9_2
          try clear hfz11_0
          try clear hfz11_1
          try clear hfz11_2
          try clear hfz11_3
          try clear hfz11_4
          try clear hfz11_5
          try clear hfz16_0
          try clear hfz16_1
          try clear hfz16_2
          try clear hfz16_3
          try clear hfz16_4
          try clear hfz16_5
          try clear hfz17_0
          try clear hfz17_1
          try clear hfz17_2
          try clear hfz19_0
          try clear hfz19_1
          try clear hfz19_2
          try clear hfz19_3
          try clear hfz19_4
          try clear hfz19_5
          try clear hfz8_0
          try clear hfz8_1
          try clear hfz8_2
          try clear hfz8_3
          try clear hfz8_4
          try clear hfz8_5
          try clear hfz9_0
          try clear hfz9_1
          try clear hfz9_2
          try clear p2
          obtain ⟨kq, x13_12, rfl, HA, HJ12, BK140, BK141, HB⟩ := hcut
          cases kq with
          | zero => exact absurd HA.out (by simp [fault_Judge.j1])
          | succ kj12 =>
            have H := HA.out
            clear HA
            simp only [fault_Judge.j1] at H
            by_cases c20 : x13_12 = true
            · subst c20
              have H1 : (some 4) = some r := by rw [if_pos rfl] at H; exact H
              clear H
              have H := H1
              clear H1
              obtain rfl := Option.some.inj H
              go_wp2
              go_ret
              exact ⟨by first | rfl | (simp [errW_none, errW_some] <;> rfl) | (simp [*, errW_none, errW_some] <;> rfl), by repeat (first | (with_reducible first | exact HB.out | apply below_alloc | apply pw_below_drewN | apply below_drew1 | refine below_set ?_ GE140.out | refine below_set ?_ GE141.out) | exact HB.out)⟩
            · replace c20 := Bool.eq_false_iff.mpr c20
              subst c20
              have H1 : (if a1_0 = 1 then (fault_Judge.j2 kj12 (!a0_0) a0_0 a0_1 a0_2 a0_3 a0_4 a0_5 a1_0 a1_1 a1_2) else (fault_Judge.j2 kj12 false a0_0 a0_1 a0_2 a0_3 a0_4 a0_5 a1_0 a1_1 a1_2)) = some r := by rw [if_neg (show ¬ (false = true) by decide)] at H; exact H
              clear H
              have H := H1
              clear H1
              have HC21 := Aside0.mk H
              clear H
              go_upto_region 5 with (fail)
              go_cut [21] (fun v21 wc => ∃ (kq : Nat) (x21_20 : Bool), v21 = .bool x21_20 ∧ Aside0 (fault_Judge.j2 kq x21_20 a0_0 a0_1 a0_2 a0_3 a0_4 a0_5 a1_0 a1_1 a1_2 = some r) ∧ Aside0 (kq ≤ kj12) ∧ Aside0 (wc.heap[gb140]? = some (.cells #[.bool a0_0, .bool a0_1, .bool a0_2, .bool a0_3, .bool a0_4, .bool a0_5] 24 (0, 0))) ∧ Aside0 (wc.heap[gb141]? = some (.cells #[.int .i64 a1_0, .bool a1_1, .int .u64 a1_2] 61 (0, 0))) ∧ Aside0 (Below w.heap.size w wc))
              case first =>
                have H := HC21.out
                clear HC21
                by_cases c22 : a1_0 = 1
                · rw [if_pos c22] at H
                  have c22b0 : (a1_0 == 1) = true := beq_iff_eq.mpr c22
                  have c22b1 : (a1_0 != 1) = false := bne_eq_false_iff_eq.mpr c22
                  clear c22
                  (first | rw [c22b0] | (simp only [i64_w, i32_w]; rw [c22b0]) | skip)
                  have H' := Aside0.mk H
                  clear H
                  have hnb23 := NB141_140.out
                  have hnc23 := NB140_141.out
                  have hcz24_0 : wc.cell? ⟨gb141, 0, none⟩ = some (.int .i64 a1_0) := (blk_cell BK141.out 0).trans rfl
                  have hcz24_1 : wc.cell? ⟨gb141, 1, none⟩ = some (.bool a1_1) := (blk_cell BK141.out 1).trans rfl
                  have hcz24_2 : wc.cell? ⟨gb141, 2, none⟩ = some (.int .u64 a1_2) := (blk_cell BK141.out 2).trans rfl
                  have hfz24_0 := blk_frozen BK141.out 0
                  have hfz24_1 := blk_frozen BK141.out 1
                  have hfz24_2 := blk_frozen BK141.out 2
                  have hcz25_0 : wc.cell? ⟨gb140, 0, none⟩ = some (.bool a0_0) := (blk_cell BK140.out 0).trans rfl
                  have hcz25_1 : wc.cell? ⟨gb140, 1, none⟩ = some (.bool a0_1) := (blk_cell BK140.out 1).trans rfl
                  have hcz25_2 : wc.cell? ⟨gb140, 2, none⟩ = some (.bool a0_2) := (blk_cell BK140.out 2).trans rfl
                  have hcz25_3 : wc.cell? ⟨gb140, 3, none⟩ = some (.bool a0_3) := (blk_cell BK140.out 3).trans rfl
                  have hcz25_4 : wc.cell? ⟨gb140, 4, none⟩ = some (.bool a0_4) := (blk_cell BK140.out 4).trans rfl
                  have hcz25_5 : wc.cell? ⟨gb140, 5, none⟩ = some (.bool a0_5) := (blk_cell BK140.out 5).trans rfl
                  have hfz25_0 := blk_frozen BK140.out 0
                  have hfz25_1 := blk_frozen BK140.out 1
                  have hfz25_2 := blk_frozen BK140.out 2
                  have hfz25_3 := blk_frozen BK140.out 3
                  have hfz25_4 := blk_frozen BK140.out 4
                  have hfz25_5 := blk_frozen BK140.out 5
                  go_wp2
                  go_meet
                  case rel => exact ⟨_, (!a0_0), (by first | rfl | (simp; done) | (simp [*]; done)), H', ⟨by have := HJ2.out; have := HJ12.out; first | omega | exact Nat.le_refl _⟩, ⟨by (with_reducible repeat (first | refine blk_drewN ?_ _ | refine blk_drew ?_ | refine blk_alloc ?_ _)); exact BK140.out⟩, ⟨by (with_reducible repeat (first | refine blk_drewN ?_ _ | refine blk_drew ?_ | refine blk_alloc ?_ _)); exact BK141.out⟩, ⟨by repeat (first | (with_reducible first | exact HB.out | apply below_alloc | apply pw_below_drewN | apply below_drew1 | refine below_set ?_ GE140.out | refine below_set ?_ GE141.out) | exact HB.out)⟩⟩
                · rw [if_neg c22] at H
                  have c22b0 : (a1_0 == 1) = false := beq_eq_false_iff_ne.mpr c22
                  have c22b1 : (a1_0 != 1) = true := bne_iff_ne.mpr c22
                  (first | rw [c22b0] | (simp only [i64_w, i32_w]; rw [c22b0]) | skip)
                  have H' := Aside0.mk H
                  clear H
                  have hnb26 := NB141_140.out
                  have hnc26 := NB140_141.out
                  have hcz27_0 : wc.cell? ⟨gb141, 0, none⟩ = some (.int .i64 a1_0) := (blk_cell BK141.out 0).trans rfl
                  have hcz27_1 : wc.cell? ⟨gb141, 1, none⟩ = some (.bool a1_1) := (blk_cell BK141.out 1).trans rfl
                  have hcz27_2 : wc.cell? ⟨gb141, 2, none⟩ = some (.int .u64 a1_2) := (blk_cell BK141.out 2).trans rfl
                  have hfz27_0 := blk_frozen BK141.out 0
                  have hfz27_1 := blk_frozen BK141.out 1
                  have hfz27_2 := blk_frozen BK141.out 2
                  go_wp2
                  go_meet
                  case rel => exact ⟨_, (false), (by first | rfl | (simp; done) | (simp [*]; done)), H', ⟨by have := HJ2.out; have := HJ12.out; first | omega | exact Nat.le_refl _⟩, ⟨by (with_reducible repeat (first | refine blk_drewN ?_ _ | refine blk_drew ?_ | refine blk_alloc ?_ _)); exact BK140.out⟩, ⟨by (with_reducible repeat (first | refine blk_drewN ?_ _ | refine blk_drew ?_ | refine blk_alloc ?_ _)); exact BK141.out⟩, ⟨by repeat (first | (with_reducible first | exact HB.out | apply below_alloc | apply pw_below_drewN | apply below_drew1 | refine below_set ?_ GE140.out | refine below_set ?_ GE141.out) | exact HB.out)⟩⟩
              case rest =>
                clear HC21
                try clear c1
                try clear c2
                try clear p2
                try clear c6
                try clear c7
                try clear c9
                try clear c10
                try clear c12
                try clear c14
                try clear c15
                try clear c18
                try clear c20
                try clear c22
                try clear c22b0
                try clear c22b1
                try clear c23
                try clear c26
                try clear hcz11_0
                try clear hcz11_1
                try clear hcz11_2
                try clear hcz11_3
                try clear hcz11_4
                try clear hcz11_5
                try clear hcz16_0
                try clear hcz16_1
                try clear hcz16_2
                try clear hcz16_3
                try clear hcz16_4
                try clear hcz16_5
                try clear hcz17_0
                try clear hcz17_1
                try clear hcz17_2
                try clear hcz19_0
                try clear hcz19_1
                try clear hcz19_2
                try clear hcz19_3
                try clear hcz19_4
                try clear hcz19_5
                try clear hcz24_0
                try clear hcz24_1
                try clear hcz24_2
                try clear hcz25_0
                try clear hcz25_1
                try clear hcz25_2
                try clear hcz25_3
                try clear hcz25_4
                try clear hcz25_5
                try clear hcz27_0
                try clear hcz27_1
                try clear hcz27_2
                try clear hcz8_0
                try clear hcz8_1
                try clear hcz8_2
                try clear hcz8_3
                try clear hcz8_4
                try clear hcz8_5
                try clear hcz9_0
                try clear hcz9_1
                try clear hcz9_2
                try clear hfz11_0
                try clear hfz11_1
                try clear hfz11_2
                try clear hfz11_3
                try clear hfz11_4
                try clear hfz11_5
                try clear hfz16_0
                try clear hfz16_1
                try clear hfz16_2
                try clear hfz16_3
                try clear hfz16_4
                try clear hfz16_5
                try clear hfz17_0
                try clear hfz17_1
                try clear hfz17_2
                try clear hfz19_0
                try clear hfz19_1
                try clear hfz19_2
                try clear hfz19_3
                try clear hfz19_4
                try clear hfz19_5
                try clear hfz24_0
                try clear hfz24_1
                try clear hfz24_2
                try clear hfz25_0
                try clear hfz25_1
                try clear hfz25_2
                try clear hfz25_3
                try clear hfz25_4
                try clear hfz25_5
                try clear hfz27_0
                try clear hfz27_1
                try clear hfz27_2
                try clear hfz8_0
                try clear hfz8_1
                try clear hfz8_2
                try clear hfz8_3
                try clear hfz8_4
                try clear hfz8_5
                try clear hfz9_0
                try clear hfz9_1
                try clear hfz9_2
                try clear p2
                obtain ⟨kq, x21_20, rfl, HA, HJ20, BK140, BK141, HB⟩ := hcut
                cases kq with
                | zero => exact absurd HA.out (by simp [fault_Judge.j2])
                | succ kj20 =>
                  have H := HA.out
                  clear HA
                  simp only [fault_Judge.j2] at H
                  by_cases c28 : x21_20 = true
                  · subst c28
                    have H1 : (some 5) = some r := by rw [if_pos rfl] at H; exact H
                    clear H
                    have H := H1
                    clear H1
                    obtain rfl := Option.some.inj H
                    go_wp2
                    go_ret
                    exact ⟨by first | rfl | (simp [errW_none, errW_some] <;> rfl) | (simp [*, errW_none, errW_some] <;> rfl), by repeat (first | (with_reducible first | exact HB.out | apply below_alloc | apply pw_below_drewN | apply below_drew1 | refine below_set ?_ GE140.out | refine below_set ?_ GE141.out) | exact HB.out)⟩
                  · replace c28 := Bool.eq_false_iff.mpr c28
                    subst c28
                    have H1 : (if a1_0 = 2 then (if a0_2 = true then (some 0) else (some 6)) else (some 0)) = some r := by rw [if_neg (show ¬ (false = true) by decide)] at H; exact H
                    clear H
                    have H := H1
                    clear H1
                    by_cases c29 : a1_0 = 2
                    · rw [if_pos c29] at H
                      have c29b0 : (a1_0 == 2) = true := beq_iff_eq.mpr c29
                      have c29b1 : (a1_0 != 2) = false := bne_eq_false_iff_eq.mpr c29
                      clear c29
                      by_cases c30 : a0_2 = true
                      · subst c30
                        have H1 : (some 0) = some r := by rw [if_pos rfl] at H; exact H
                        clear H
                        have H := H1
                        clear H1
                        obtain rfl := Option.some.inj H
                        have hnb31 := NB141_140.out
                        have hnc31 := NB140_141.out
                        have hcz32_0 : wc.cell? ⟨gb141, 0, none⟩ = some (.int .i64 a1_0) := (blk_cell BK141.out 0).trans rfl
                        have hcz32_1 : wc.cell? ⟨gb141, 1, none⟩ = some (.bool a1_1) := (blk_cell BK141.out 1).trans rfl
                        have hcz32_2 : wc.cell? ⟨gb141, 2, none⟩ = some (.int .u64 a1_2) := (blk_cell BK141.out 2).trans rfl
                        have hfz32_0 := blk_frozen BK141.out 0
                        have hfz32_1 := blk_frozen BK141.out 1
                        have hfz32_2 := blk_frozen BK141.out 2
                        have hcz33_0 : wc.cell? ⟨gb140, 0, none⟩ = some (.bool a0_0) := (blk_cell BK140.out 0).trans rfl
                        have hcz33_1 : wc.cell? ⟨gb140, 1, none⟩ = some (.bool a0_1) := (blk_cell BK140.out 1).trans rfl
                        have hcz33_2 : wc.cell? ⟨gb140, 2, none⟩ = some (.bool true) := (blk_cell BK140.out 2).trans rfl
                        have hcz33_3 : wc.cell? ⟨gb140, 3, none⟩ = some (.bool a0_3) := (blk_cell BK140.out 3).trans rfl
                        have hcz33_4 : wc.cell? ⟨gb140, 4, none⟩ = some (.bool a0_4) := (blk_cell BK140.out 4).trans rfl
                        have hcz33_5 : wc.cell? ⟨gb140, 5, none⟩ = some (.bool a0_5) := (blk_cell BK140.out 5).trans rfl
                        have hfz33_0 := blk_frozen BK140.out 0
                        have hfz33_1 := blk_frozen BK140.out 1
                        have hfz33_2 := blk_frozen BK140.out 2
                        have hfz33_3 := blk_frozen BK140.out 3
                        have hfz33_4 := blk_frozen BK140.out 4
                        have hfz33_5 := blk_frozen BK140.out 5
                        go_wp2
                        go_ret
                        exact ⟨by first | rfl | (simp [errW_none, errW_some] <;> rfl) | (simp [*, errW_none, errW_some] <;> rfl), by repeat (first | (with_reducible first | exact HB.out | apply below_alloc | apply pw_below_drewN | apply below_drew1 | refine below_set ?_ GE140.out | refine below_set ?_ GE141.out) | exact HB.out)⟩
                      · replace c30 := Bool.eq_false_iff.mpr c30
                        subst c30
                        have H1 : (some 6) = some r := by rw [if_neg (show ¬ (false = true) by decide)] at H; exact H
                        clear H
                        have H := H1
                        clear H1
                        obtain rfl := Option.some.inj H
                        have hnb34 := NB141_140.out
                        have hnc34 := NB140_141.out
                        have hcz35_0 : wc.cell? ⟨gb141, 0, none⟩ = some (.int .i64 a1_0) := (blk_cell BK141.out 0).trans rfl
                        have hcz35_1 : wc.cell? ⟨gb141, 1, none⟩ = some (.bool a1_1) := (blk_cell BK141.out 1).trans rfl
                        have hcz35_2 : wc.cell? ⟨gb141, 2, none⟩ = some (.int .u64 a1_2) := (blk_cell BK141.out 2).trans rfl
                        have hfz35_0 := blk_frozen BK141.out 0
                        have hfz35_1 := blk_frozen BK141.out 1
                        have hfz35_2 := blk_frozen BK141.out 2
                        have hcz36_0 : wc.cell? ⟨gb140, 0, none⟩ = some (.bool a0_0) := (blk_cell BK140.out 0).trans rfl
                        have hcz36_1 : wc.cell? ⟨gb140, 1, none⟩ = some (.bool a0_1) := (blk_cell BK140.out 1).trans rfl
                        have hcz36_2 : wc.cell? ⟨gb140, 2, none⟩ = some (.bool false) := (blk_cell BK140.out 2).trans rfl
                        have hcz36_3 : wc.cell? ⟨gb140, 3, none⟩ = some (.bool a0_3) := (blk_cell BK140.out 3).trans rfl
                        have hcz36_4 : wc.cell? ⟨gb140, 4, none⟩ = some (.bool a0_4) := (blk_cell BK140.out 4).trans rfl
                        have hcz36_5 : wc.cell? ⟨gb140, 5, none⟩ = some (.bool a0_5) := (blk_cell BK140.out 5).trans rfl
                        have hfz36_0 := blk_frozen BK140.out 0
                        have hfz36_1 := blk_frozen BK140.out 1
                        have hfz36_2 := blk_frozen BK140.out 2
                        have hfz36_3 := blk_frozen BK140.out 3
                        have hfz36_4 := blk_frozen BK140.out 4
                        have hfz36_5 := blk_frozen BK140.out 5
                        go_wp2
                        go_ret
                        exact ⟨by first | rfl | (simp [errW_none, errW_some] <;> rfl) | (simp [*, errW_none, errW_some] <;> rfl), by repeat (first | (with_reducible first | exact HB.out | apply below_alloc | apply pw_below_drewN | apply below_drew1 | refine below_set ?_ GE140.out | refine below_set ?_ GE141.out) | exact HB.out)⟩
                    · rw [if_neg c29] at H
                      have c29b0 : (a1_0 == 2) = false := beq_eq_false_iff_ne.mpr c29
                      have c29b1 : (a1_0 != 2) = true := bne_iff_ne.mpr c29
                      obtain rfl := Option.some.inj H
                      have hnb37 := NB141_140.out
                      have hnc37 := NB140_141.out
                      have hcz38_0 : wc.cell? ⟨gb141, 0, none⟩ = some (.int .i64 a1_0) := (blk_cell BK141.out 0).trans rfl
                      have hcz38_1 : wc.cell? ⟨gb141, 1, none⟩ = some (.bool a1_1) := (blk_cell BK141.out 1).trans rfl
                      have hcz38_2 : wc.cell? ⟨gb141, 2, none⟩ = some (.int .u64 a1_2) := (blk_cell BK141.out 2).trans rfl
                      have hfz38_0 := blk_frozen BK141.out 0
                      have hfz38_1 := blk_frozen BK141.out 1
                      have hfz38_2 := blk_frozen BK141.out 2
                      go_wp2
                      go_ret
                      exact ⟨by first | rfl | (simp [errW_none, errW_some] <;> rfl) | (simp [*, errW_none, errW_some] <;> rfl), by repeat (first | (with_reducible first | exact HB.out | apply below_alloc | apply pw_below_drewN | apply below_drew1 | refine below_set ?_ GE140.out | refine below_set ?_ GE141.out) | exact HB.out)⟩
/-! ### fault_Of: function 75 -/
def fault_Of.f (k : Nat) (a0_0 : Int) (a0_1 : Int) (a0_2 : Int) (a0_3 : Int) (a0_4 : Bool) (a0_5 : Bool) (a0_6 : Bool) (a0_7 : Bool) (a0_8 : Bool) (a0_9 : Bool) (a0_10 : Bool) (a1 : Int) (a2_0 : Int) (a2_1 : Bool) (a2_2 : Int) : Option (Int) := (page_Hole.f a2_2).bind fun t144 => (if t144 = true then (some 1) else ((tte_Hits.f a0_0 a0_1 a0_2 a0_3 a0_4 a0_5 a0_6 a0_7 a0_8 a0_9 a0_10 a2_2 a1).bind fun t145 => (if t145 = true then ((fault_Judge.f k a0_4 a0_5 a0_6 a0_7 a0_8 a0_9 a2_0 a2_1 a2_2).bind fun t146 => (some t146)) else (some 2))))
theorem fault_Of.mono : ∀ a0 a1 a2 a3 a4 a5 a6 a7 a8 a9 a10 a11 a12 a13 a14 k, LeO (fault_Of.f k a0 a1 a2 a3 a4 a5 a6 a7 a8 a9 a10 a11 a12 a13 a14) (fault_Of.f (k + 1) a0 a1 a2 a3 a4 a5 a6 a7 a8 a9 a10 a11 a12 a13 a14) := by
  intro a0 a1 a2 a3 a4 a5 a6 a7 a8 a9 a10 a11 a12 a13 a14 k
  unfold fault_Of.f
  repeat' first
      | (with_reducible exact fault_Judge.mono _ _ _ _ _ _ _ _ _ _)
      | (with_reducible exact LeO.refl _)
      | (with_reducible exact LeO.none _)
      | (with_reducible refine LeO.ite ?_ ?_)
      | (with_reducible refine LeO.bind ?_ (fun _ => ?_))
      | exact fault_Judge.mono _ _ _ _ _ _ _ _ _ _
      | exact LeO.none _
      | refine LeO.ite ?_ ?_
      | refine LeO.bind ?_ (fun _ => ?_)
set_option maxHeartbeats 8000000 in
set_option maxRecDepth 100000 in
theorem fault_Of.calls (k : Nat) (a0_0 : Int) (a0_1 : Int) (a0_2 : Int) (a0_3 : Int) (a0_4 : Bool) (a0_5 : Bool) (a0_6 : Bool) (a0_7 : Bool) (a0_8 : Bool) (a0_9 : Bool) (a0_10 : Bool) (a1 : Int) (a2_0 : Int) (a2_1 : Bool) (a2_2 : Int) (r : Int) (w : World) (h : fault_Of.f k a0_0 a0_1 a0_2 a0_3 a0_4 a0_5 a0_6 a0_7 a0_8 a0_9 a0_10 a1 a2_0 a2_1 a2_2 = some r) :
    Calls Try.prog 75 #[.agg #[.int .i64 a0_0, .int .i64 a0_1, .int .u64 a0_2, .int .u64 a0_3, .bool a0_4, .bool a0_5, .bool a0_6, .bool a0_7, .bool a0_8, .bool a0_9, .bool a0_10], .int .i64 a1, .agg #[.int .i64 a2_0, .bool a2_1, .int .u64 a2_2]] w fun e w' => e = .returned (.int .i64 r) ∧ Below w.heap.size w w' := by
  have hu26 := Try.underlying26
  have hu61 := Try.underlying61
  have hu24 := Try.underlying24
  have HB := Aside0.mk (Below.refl w.heap.size w)
  have H : ((page_Hole.f a2_2).bind fun t144 => (if t144 = true then (some 1) else ((tte_Hits.f a0_0 a0_1 a0_2 a0_3 a0_4 a0_5 a0_6 a0_7 a0_8 a0_9 a0_10 a2_2 a1).bind fun t145 => (if t145 = true then ((fault_Judge.f k a0_4 a0_5 a0_6 a0_7 a0_8 a0_9 a2_0 a2_1 a2_2).bind fun t146 => (some t146)) else (some 2))))) = some r := h
  clear h
  replace H := Option.bind_eq_some_iff.mp H
  obtain ⟨t144, A40, H⟩ := H
  replace H : (if t144 = true then (some 1) else ((tte_Hits.f a0_0 a0_1 a0_2 a0_3 a0_4 a0_5 a0_6 a0_7 a0_8 a0_9 a0_10 a2_2 a1).bind fun t145 => (if t145 = true then ((fault_Judge.f k a0_4 a0_5 a0_6 a0_7 a0_8 a0_9 a2_0 a2_1 a2_2).bind fun t146 => (some t146)) else (some 2)))) = some r := H
  have A4 := Aside0.mk A40
  clear A40
  by_cases c5 : t144 = true
  · subst c5
    have H1 : (some 1) = some r := by rw [if_pos rfl] at H; exact H
    clear H
    have H := H1
    clear H1
    obtain rfl := Option.some.inj H
    go_enter Try.func75, Try.ntmps75
    go_wp2_with (first | ((with_reducible refine gate_dst (N := 3) rfl ?_); refine box_event ?hg (N := 3) ?hd (cs := #[.int .i64 a0_0, .int .i64 a0_1, .int .u64 a0_2, .int .u64 a0_3, .bool a0_4, .bool a0_5, .bool a0_6, .bool a0_7, .bool a0_8, .bool a0_9, .bool a0_10]) (t := 26) ?hr ?_; (case hd => rfl); (case hg => rfl); (case hr => first | (go_simp; done) | (go_simp; rfl)); intro gb142 hg w6 hbox hb; have n0_ := Aside0.mk (below_step (by repeat (first | (with_reducible first | exact HB.out | apply below_alloc | apply pw_below_drewN | apply below_drew1) | exact HB.out)) hb); have n1_ := Aside0.mk (hbox); have n2_ := Aside0.mk ((by rw [hg]; exact (below_size (by repeat (first | (with_reducible first | exact HB.out | apply below_alloc | apply pw_below_drewN | apply below_drew1) | exact HB.out))) : w.heap.size ≤ gb142)); have n3_ := Aside0.mk ((by rw [hg]; exact (below_size (by repeat (first | (with_reducible first | exact HB.out | apply below_alloc | apply pw_below_drewN | apply below_drew1) | exact HB.out))) : w.heap.size ≤ gb142)); clear HB; have HB := n0_; have BK142 := n1_; have GW142 := n2_; have GE142 := n3_; clear n0_ n1_ n2_ n3_; clear hb hbox hg) | ((with_reducible refine gate_dst (N := 5) rfl ?_); refine box_event ?hg (N := 5) ?hd (cs := #[.int .i64 a2_0, .bool a2_1, .int .u64 a2_2]) (t := 61) ?hr ?_; (case hd => rfl); (case hg => rfl); (case hr => first | (go_simp; done) | (go_simp; rfl)); intro gb143 hg w7 hbox hb; have n0_ := Aside0.mk (bb_ hb BK142.out); have n1_ := Aside0.mk (below_step (by repeat (first | (with_reducible first | exact HB.out | apply below_alloc | apply pw_below_drewN | apply below_drew1 | refine below_set ?_ GE142.out) | exact HB.out)) hb); have n2_ := Aside0.mk (hbox); have n3_ := Aside0.mk ((by rw [hg]; exact (below_size (by repeat (first | (with_reducible first | exact HB.out | apply below_alloc | apply pw_below_drewN | apply below_drew1 | refine below_set ?_ GE142.out) | exact HB.out))) : w.heap.size ≤ gb143)); have n4_ := Aside0.mk ((by rw [hg]; exact (below_size (by repeat (first | (with_reducible first | exact HB.out | apply below_alloc | apply pw_below_drewN | apply below_drew1 | refine below_set ?_ GE142.out) | exact HB.out))) : w.heap.size ≤ gb143)); have n5_ := Aside0.mk ((by rw [hg]; exact Nat.ne_of_lt (blk_lt BK142.out) : gb142 ≠ gb143)); have n6_ := Aside0.mk ((by rw [hg]; exact Nat.ne_of_gt (blk_lt BK142.out) : gb143 ≠ gb142)); clear BK142; clear HB; have BK142 := n0_; have HB := n1_; have BK143 := n2_; have GW143 := n3_; have GE143 := n4_; have NB142_143 := n5_; have NB143_142 := n6_; clear n0_ n1_ n2_ n3_ n4_ n5_ n6_; clear hb hbox hg; have hnb8 := NB143_142.out; have hnc8 := NB142_143.out; have hcz9_0 : w7.cell? ⟨gb143, 0, none⟩ = some (.int .i64 a2_0) := (blk_cell BK143.out 0).trans rfl; have hcz9_1 : w7.cell? ⟨gb143, 1, none⟩ = some (.bool a2_1) := (blk_cell BK143.out 1).trans rfl; have hcz9_2 : w7.cell? ⟨gb143, 2, none⟩ = some (.int .u64 a2_2) := (blk_cell BK143.out 2).trans rfl; have hfz9_0 := blk_frozen BK143.out 0; have hfz9_1 := blk_frozen BK143.out 1; have hfz9_2 := blk_frozen BK143.out 2) | ((with_reducible refine gate_callee (f := 85) rfl ?_); refine goesL_ (some 10) rfl rfl Try.func85 (by kernel_rfl) rfl #[.int .u64 a2_2] rfl (by (try simp only [List.map_toArray, List.map_cons, List.map_nil]); first | done | rfl | (simp only [List.length_drop, List.length_take]; rfl)) ?_; (with_reducible refine (page_Hole.calls a2_2 true _ A4.out).mono ?_); rintro e w' ⟨rfl, ⟨nd, rfl⟩⟩; refine ⟨_, rfl, ?_⟩))
    go_ret
    exact ⟨by first | rfl | (simp [errW_none, errW_some] <;> rfl) | (simp [*, errW_none, errW_some] <;> rfl), by repeat (first | (with_reducible first | exact HB.out | apply below_alloc | apply pw_below_drewN | apply below_drew1 | refine below_set ?_ GE142.out | refine below_set ?_ GE143.out) | exact HB.out)⟩
  · replace c5 := Bool.eq_false_iff.mpr c5
    subst c5
    have H1 : ((tte_Hits.f a0_0 a0_1 a0_2 a0_3 a0_4 a0_5 a0_6 a0_7 a0_8 a0_9 a0_10 a2_2 a1).bind fun t145 => (if t145 = true then ((fault_Judge.f k a0_4 a0_5 a0_6 a0_7 a0_8 a0_9 a2_0 a2_1 a2_2).bind fun t146 => (some t146)) else (some 2))) = some r := by rw [if_neg (show ¬ (false = true) by decide)] at H; exact H
    clear H
    have H := H1
    clear H1
    replace H := Option.bind_eq_some_iff.mp H
    obtain ⟨t145, A100, H⟩ := H
    replace H : (if t145 = true then ((fault_Judge.f k a0_4 a0_5 a0_6 a0_7 a0_8 a0_9 a2_0 a2_1 a2_2).bind fun t146 => (some t146)) else (some 2)) = some r := H
    have A10 := Aside0.mk A100
    clear A100
    by_cases c11 : t145 = true
    · subst c11
      have H1 : ((fault_Judge.f k a0_4 a0_5 a0_6 a0_7 a0_8 a0_9 a2_0 a2_1 a2_2).bind fun t146 => (some t146)) = some r := by rw [if_pos rfl] at H; exact H
      clear H
      have H := H1
      clear H1
      replace H := Option.bind_eq_some_iff.mp H
      obtain ⟨t146, A120, H⟩ := H
      replace H : (some t146) = some r := H
      have A12 := Aside0.mk A120
      clear A120
      obtain rfl := Option.some.inj H
      go_enter Try.func75, Try.ntmps75
      go_wp2_with (first | ((with_reducible refine gate_dst (N := 3) rfl ?_); refine box_event ?hg (N := 3) ?hd (cs := #[.int .i64 a0_0, .int .i64 a0_1, .int .u64 a0_2, .int .u64 a0_3, .bool a0_4, .bool a0_5, .bool a0_6, .bool a0_7, .bool a0_8, .bool a0_9, .bool a0_10]) (t := 26) ?hr ?_; (case hd => rfl); (case hg => rfl); (case hr => first | (go_simp; done) | (go_simp; rfl)); intro gb142 hg w13 hbox hb; have n0_ := Aside0.mk (below_step (by repeat (first | (with_reducible first | exact HB.out | apply below_alloc | apply pw_below_drewN | apply below_drew1) | exact HB.out)) hb); have n1_ := Aside0.mk (hbox); have n2_ := Aside0.mk ((by rw [hg]; exact (below_size (by repeat (first | (with_reducible first | exact HB.out | apply below_alloc | apply pw_below_drewN | apply below_drew1) | exact HB.out))) : w.heap.size ≤ gb142)); have n3_ := Aside0.mk ((by rw [hg]; exact (below_size (by repeat (first | (with_reducible first | exact HB.out | apply below_alloc | apply pw_below_drewN | apply below_drew1) | exact HB.out))) : w.heap.size ≤ gb142)); clear HB; have HB := n0_; have BK142 := n1_; have GW142 := n2_; have GE142 := n3_; clear n0_ n1_ n2_ n3_; clear hb hbox hg) | ((with_reducible refine gate_dst (N := 5) rfl ?_); refine box_event ?hg (N := 5) ?hd (cs := #[.int .i64 a2_0, .bool a2_1, .int .u64 a2_2]) (t := 61) ?hr ?_; (case hd => rfl); (case hg => rfl); (case hr => first | (go_simp; done) | (go_simp; rfl)); intro gb143 hg w14 hbox hb; have n0_ := Aside0.mk (bb_ hb BK142.out); have n1_ := Aside0.mk (below_step (by repeat (first | (with_reducible first | exact HB.out | apply below_alloc | apply pw_below_drewN | apply below_drew1 | refine below_set ?_ GE142.out) | exact HB.out)) hb); have n2_ := Aside0.mk (hbox); have n3_ := Aside0.mk ((by rw [hg]; exact (below_size (by repeat (first | (with_reducible first | exact HB.out | apply below_alloc | apply pw_below_drewN | apply below_drew1 | refine below_set ?_ GE142.out) | exact HB.out))) : w.heap.size ≤ gb143)); have n4_ := Aside0.mk ((by rw [hg]; exact (below_size (by repeat (first | (with_reducible first | exact HB.out | apply below_alloc | apply pw_below_drewN | apply below_drew1 | refine below_set ?_ GE142.out) | exact HB.out))) : w.heap.size ≤ gb143)); have n5_ := Aside0.mk ((by rw [hg]; exact Nat.ne_of_lt (blk_lt BK142.out) : gb142 ≠ gb143)); have n6_ := Aside0.mk ((by rw [hg]; exact Nat.ne_of_gt (blk_lt BK142.out) : gb143 ≠ gb142)); clear BK142; clear HB; have BK142 := n0_; have HB := n1_; have BK143 := n2_; have GW143 := n3_; have GE143 := n4_; have NB142_143 := n5_; have NB143_142 := n6_; clear n0_ n1_ n2_ n3_ n4_ n5_ n6_; clear hb hbox hg; have hnb15 := NB143_142.out; have hnc15 := NB142_143.out; have hcz16_0 : w14.cell? ⟨gb143, 0, none⟩ = some (.int .i64 a2_0) := (blk_cell BK143.out 0).trans rfl; have hcz16_1 : w14.cell? ⟨gb143, 1, none⟩ = some (.bool a2_1) := (blk_cell BK143.out 1).trans rfl; have hcz16_2 : w14.cell? ⟨gb143, 2, none⟩ = some (.int .u64 a2_2) := (blk_cell BK143.out 2).trans rfl; have hfz16_0 := blk_frozen BK143.out 0; have hfz16_1 := blk_frozen BK143.out 1; have hfz16_2 := blk_frozen BK143.out 2) | ((with_reducible refine gate_callee (f := 85) rfl ?_); refine goesL_ (some 10) rfl rfl Try.func85 (by kernel_rfl) rfl #[.int .u64 a2_2] rfl (by (try simp only [List.map_toArray, List.map_cons, List.map_nil]); first | done | rfl | (simp only [List.length_drop, List.length_take]; rfl)) ?_; (with_reducible refine (page_Hole.calls a2_2 false _ A4.out).mono ?_); rintro e w' ⟨rfl, ⟨nd, rfl⟩⟩; refine ⟨_, rfl, ?_⟩; have hcz17_0 : w14.cell? ⟨gb142, 0, none⟩ = some (.int .i64 a0_0) := (blk_cell BK142.out 0).trans rfl; have hcz17_1 : w14.cell? ⟨gb142, 1, none⟩ = some (.int .i64 a0_1) := (blk_cell BK142.out 1).trans rfl; have hcz17_2 : w14.cell? ⟨gb142, 2, none⟩ = some (.int .u64 a0_2) := (blk_cell BK142.out 2).trans rfl; have hcz17_3 : w14.cell? ⟨gb142, 3, none⟩ = some (.int .u64 a0_3) := (blk_cell BK142.out 3).trans rfl; have hcz17_4 : w14.cell? ⟨gb142, 4, none⟩ = some (.bool a0_4) := (blk_cell BK142.out 4).trans rfl; have hcz17_5 : w14.cell? ⟨gb142, 5, none⟩ = some (.bool a0_5) := (blk_cell BK142.out 5).trans rfl; have hcz17_6 : w14.cell? ⟨gb142, 6, none⟩ = some (.bool a0_6) := (blk_cell BK142.out 6).trans rfl; have hcz17_7 : w14.cell? ⟨gb142, 7, none⟩ = some (.bool a0_7) := (blk_cell BK142.out 7).trans rfl; have hcz17_8 : w14.cell? ⟨gb142, 8, none⟩ = some (.bool a0_8) := (blk_cell BK142.out 8).trans rfl; have hcz17_9 : w14.cell? ⟨gb142, 9, none⟩ = some (.bool a0_9) := (blk_cell BK142.out 9).trans rfl; have hcz17_10 : w14.cell? ⟨gb142, 10, none⟩ = some (.bool a0_10) := (blk_cell BK142.out 10).trans rfl; have hfz17_0 := blk_frozen BK142.out 0; have hfz17_1 := blk_frozen BK142.out 1; have hfz17_2 := blk_frozen BK142.out 2; have hfz17_3 := blk_frozen BK142.out 3; have hfz17_4 := blk_frozen BK142.out 4; have hfz17_5 := blk_frozen BK142.out 5; have hfz17_6 := blk_frozen BK142.out 6; have hfz17_7 := blk_frozen BK142.out 7; have hfz17_8 := blk_frozen BK142.out 8; have hfz17_9 := blk_frozen BK142.out 9; have hfz17_10 := blk_frozen BK142.out 10) | ((with_reducible refine gate_callee (f := 57) rfl ?_); refine goesL_ (some 16) rfl rfl Try.func57 (by kernel_rfl) rfl #[.agg #[.int .i64 a0_0, .int .i64 a0_1, .int .u64 a0_2, .int .u64 a0_3, .bool a0_4, .bool a0_5, .bool a0_6, .bool a0_7, .bool a0_8, .bool a0_9, .bool a0_10], .int .u64 a2_2, .int .i64 a1] rfl (by (try simp only [List.map_toArray, List.map_cons, List.map_nil]); first | done | rfl | (simp only [List.length_drop, List.length_take]; rfl)) ?_; (with_reducible refine (tte_Hits.calls a0_0 a0_1 a0_2 a0_3 a0_4 a0_5 a0_6 a0_7 a0_8 a0_9 a0_10 a2_2 a1 true _ A10.out).mono ?_); rintro e w18 ⟨rfl, hb⟩; refine ⟨_, rfl, ?_⟩; have n0_ := Aside0.mk (bb_ hb BK142.out); have n1_ := Aside0.mk (bb_ hb BK143.out); have n2_ := Aside0.mk (below_step (by repeat (first | (with_reducible first | exact HB.out | apply below_alloc | apply pw_below_drewN | apply below_drew1 | refine below_set ?_ GE142.out | refine below_set ?_ GE143.out) | exact HB.out)) hb); clear BK142; clear BK143; clear HB; have BK142 := n0_; have BK143 := n1_; have HB := n2_; clear n0_ n1_ n2_; (try clear hb); (try clear hb2); (try clear hk); (try clear hi); have hcz19_0 : w18.cell? ⟨gb142, 0, none⟩ = some (.int .i64 a0_0) := (blk_cell BK142.out 0).trans rfl; have hcz19_1 : w18.cell? ⟨gb142, 1, none⟩ = some (.int .i64 a0_1) := (blk_cell BK142.out 1).trans rfl; have hcz19_2 : w18.cell? ⟨gb142, 2, none⟩ = some (.int .u64 a0_2) := (blk_cell BK142.out 2).trans rfl; have hcz19_3 : w18.cell? ⟨gb142, 3, none⟩ = some (.int .u64 a0_3) := (blk_cell BK142.out 3).trans rfl; have hcz19_4 : w18.cell? ⟨gb142, 4, none⟩ = some (.bool a0_4) := (blk_cell BK142.out 4).trans rfl; have hcz19_5 : w18.cell? ⟨gb142, 5, none⟩ = some (.bool a0_5) := (blk_cell BK142.out 5).trans rfl; have hcz19_6 : w18.cell? ⟨gb142, 6, none⟩ = some (.bool a0_6) := (blk_cell BK142.out 6).trans rfl; have hcz19_7 : w18.cell? ⟨gb142, 7, none⟩ = some (.bool a0_7) := (blk_cell BK142.out 7).trans rfl; have hcz19_8 : w18.cell? ⟨gb142, 8, none⟩ = some (.bool a0_8) := (blk_cell BK142.out 8).trans rfl; have hcz19_9 : w18.cell? ⟨gb142, 9, none⟩ = some (.bool a0_9) := (blk_cell BK142.out 9).trans rfl; have hcz19_10 : w18.cell? ⟨gb142, 10, none⟩ = some (.bool a0_10) := (blk_cell BK142.out 10).trans rfl; have hfz19_0 := blk_frozen BK142.out 0; have hfz19_1 := blk_frozen BK142.out 1; have hfz19_2 := blk_frozen BK142.out 2; have hfz19_3 := blk_frozen BK142.out 3; have hfz19_4 := blk_frozen BK142.out 4; have hfz19_5 := blk_frozen BK142.out 5; have hfz19_6 := blk_frozen BK142.out 6; have hfz19_7 := blk_frozen BK142.out 7; have hfz19_8 := blk_frozen BK142.out 8; have hfz19_9 := blk_frozen BK142.out 9; have hfz19_10 := blk_frozen BK142.out 10; have hcz20_0 : w18.cell? ⟨gb143, 0, none⟩ = some (.int .i64 a2_0) := (blk_cell BK143.out 0).trans rfl; have hcz20_1 : w18.cell? ⟨gb143, 1, none⟩ = some (.bool a2_1) := (blk_cell BK143.out 1).trans rfl; have hcz20_2 : w18.cell? ⟨gb143, 2, none⟩ = some (.int .u64 a2_2) := (blk_cell BK143.out 2).trans rfl; have hfz20_0 := blk_frozen BK143.out 0; have hfz20_1 := blk_frozen BK143.out 1; have hfz20_2 := blk_frozen BK143.out 2) | ((with_reducible refine gate_callee (f := 96) rfl ?_); refine goesL_ (some 21) rfl rfl Try.func96 (by kernel_rfl) rfl #[.agg #[.bool a0_4, .bool a0_5, .bool a0_6, .bool a0_7, .bool a0_8, .bool a0_9], .agg #[.int .i64 a2_0, .bool a2_1, .int .u64 a2_2]] rfl (by (try simp only [List.map_toArray, List.map_cons, List.map_nil]); first | done | rfl | (simp only [List.length_drop, List.length_take]; rfl)) ?_; (with_reducible refine (fault_Judge.calls k a0_4 a0_5 a0_6 a0_7 a0_8 a0_9 a2_0 a2_1 a2_2 t146 _ A12.out).mono ?_); rintro e w21 ⟨rfl, hb⟩; refine ⟨_, rfl, ?_⟩; have n0_ := Aside0.mk (bb_ hb BK142.out); have n1_ := Aside0.mk (bb_ hb BK143.out); have n2_ := Aside0.mk (below_step (by repeat (first | (with_reducible first | exact HB.out | apply below_alloc | apply pw_below_drewN | apply below_drew1 | refine below_set ?_ GE142.out | refine below_set ?_ GE143.out) | exact HB.out)) hb); clear BK142; clear BK143; clear HB; have BK142 := n0_; have BK143 := n1_; have HB := n2_; clear n0_ n1_ n2_; (try clear hb); (try clear hb2); (try clear hk); (try clear hi)))
      go_ret
      exact ⟨by first | rfl | (simp [errW_none, errW_some] <;> rfl) | (simp [*, errW_none, errW_some] <;> rfl), by repeat (first | (with_reducible first | exact HB.out | apply below_alloc | apply pw_below_drewN | apply below_drew1 | refine below_set ?_ GE142.out | refine below_set ?_ GE143.out) | exact HB.out)⟩
    · replace c11 := Bool.eq_false_iff.mpr c11
      subst c11
      have H1 : (some 2) = some r := by rw [if_neg (show ¬ (false = true) by decide)] at H; exact H
      clear H
      have H := H1
      clear H1
      obtain rfl := Option.some.inj H
      go_enter Try.func75, Try.ntmps75
      go_wp2_with (first | ((with_reducible refine gate_dst (N := 3) rfl ?_); refine box_event ?hg (N := 3) ?hd (cs := #[.int .i64 a0_0, .int .i64 a0_1, .int .u64 a0_2, .int .u64 a0_3, .bool a0_4, .bool a0_5, .bool a0_6, .bool a0_7, .bool a0_8, .bool a0_9, .bool a0_10]) (t := 26) ?hr ?_; (case hd => rfl); (case hg => rfl); (case hr => first | (go_simp; done) | (go_simp; rfl)); intro gb142 hg w22 hbox hb; have n0_ := Aside0.mk (below_step (by repeat (first | (with_reducible first | exact HB.out | apply below_alloc | apply pw_below_drewN | apply below_drew1) | exact HB.out)) hb); have n1_ := Aside0.mk (hbox); have n2_ := Aside0.mk ((by rw [hg]; exact (below_size (by repeat (first | (with_reducible first | exact HB.out | apply below_alloc | apply pw_below_drewN | apply below_drew1) | exact HB.out))) : w.heap.size ≤ gb142)); have n3_ := Aside0.mk ((by rw [hg]; exact (below_size (by repeat (first | (with_reducible first | exact HB.out | apply below_alloc | apply pw_below_drewN | apply below_drew1) | exact HB.out))) : w.heap.size ≤ gb142)); clear HB; have HB := n0_; have BK142 := n1_; have GW142 := n2_; have GE142 := n3_; clear n0_ n1_ n2_ n3_; clear hb hbox hg) | ((with_reducible refine gate_dst (N := 5) rfl ?_); refine box_event ?hg (N := 5) ?hd (cs := #[.int .i64 a2_0, .bool a2_1, .int .u64 a2_2]) (t := 61) ?hr ?_; (case hd => rfl); (case hg => rfl); (case hr => first | (go_simp; done) | (go_simp; rfl)); intro gb143 hg w23 hbox hb; have n0_ := Aside0.mk (bb_ hb BK142.out); have n1_ := Aside0.mk (below_step (by repeat (first | (with_reducible first | exact HB.out | apply below_alloc | apply pw_below_drewN | apply below_drew1 | refine below_set ?_ GE142.out) | exact HB.out)) hb); have n2_ := Aside0.mk (hbox); have n3_ := Aside0.mk ((by rw [hg]; exact (below_size (by repeat (first | (with_reducible first | exact HB.out | apply below_alloc | apply pw_below_drewN | apply below_drew1 | refine below_set ?_ GE142.out) | exact HB.out))) : w.heap.size ≤ gb143)); have n4_ := Aside0.mk ((by rw [hg]; exact (below_size (by repeat (first | (with_reducible first | exact HB.out | apply below_alloc | apply pw_below_drewN | apply below_drew1 | refine below_set ?_ GE142.out) | exact HB.out))) : w.heap.size ≤ gb143)); have n5_ := Aside0.mk ((by rw [hg]; exact Nat.ne_of_lt (blk_lt BK142.out) : gb142 ≠ gb143)); have n6_ := Aside0.mk ((by rw [hg]; exact Nat.ne_of_gt (blk_lt BK142.out) : gb143 ≠ gb142)); clear BK142; clear HB; have BK142 := n0_; have HB := n1_; have BK143 := n2_; have GW143 := n3_; have GE143 := n4_; have NB142_143 := n5_; have NB143_142 := n6_; clear n0_ n1_ n2_ n3_ n4_ n5_ n6_; clear hb hbox hg; have hnb24 := NB143_142.out; have hnc24 := NB142_143.out; have hcz25_0 : w23.cell? ⟨gb143, 0, none⟩ = some (.int .i64 a2_0) := (blk_cell BK143.out 0).trans rfl; have hcz25_1 : w23.cell? ⟨gb143, 1, none⟩ = some (.bool a2_1) := (blk_cell BK143.out 1).trans rfl; have hcz25_2 : w23.cell? ⟨gb143, 2, none⟩ = some (.int .u64 a2_2) := (blk_cell BK143.out 2).trans rfl; have hfz25_0 := blk_frozen BK143.out 0; have hfz25_1 := blk_frozen BK143.out 1; have hfz25_2 := blk_frozen BK143.out 2) | ((with_reducible refine gate_callee (f := 85) rfl ?_); refine goesL_ (some 10) rfl rfl Try.func85 (by kernel_rfl) rfl #[.int .u64 a2_2] rfl (by (try simp only [List.map_toArray, List.map_cons, List.map_nil]); first | done | rfl | (simp only [List.length_drop, List.length_take]; rfl)) ?_; (with_reducible refine (page_Hole.calls a2_2 false _ A4.out).mono ?_); rintro e w' ⟨rfl, ⟨nd, rfl⟩⟩; refine ⟨_, rfl, ?_⟩; have hcz26_0 : w23.cell? ⟨gb142, 0, none⟩ = some (.int .i64 a0_0) := (blk_cell BK142.out 0).trans rfl; have hcz26_1 : w23.cell? ⟨gb142, 1, none⟩ = some (.int .i64 a0_1) := (blk_cell BK142.out 1).trans rfl; have hcz26_2 : w23.cell? ⟨gb142, 2, none⟩ = some (.int .u64 a0_2) := (blk_cell BK142.out 2).trans rfl; have hcz26_3 : w23.cell? ⟨gb142, 3, none⟩ = some (.int .u64 a0_3) := (blk_cell BK142.out 3).trans rfl; have hcz26_4 : w23.cell? ⟨gb142, 4, none⟩ = some (.bool a0_4) := (blk_cell BK142.out 4).trans rfl; have hcz26_5 : w23.cell? ⟨gb142, 5, none⟩ = some (.bool a0_5) := (blk_cell BK142.out 5).trans rfl; have hcz26_6 : w23.cell? ⟨gb142, 6, none⟩ = some (.bool a0_6) := (blk_cell BK142.out 6).trans rfl; have hcz26_7 : w23.cell? ⟨gb142, 7, none⟩ = some (.bool a0_7) := (blk_cell BK142.out 7).trans rfl; have hcz26_8 : w23.cell? ⟨gb142, 8, none⟩ = some (.bool a0_8) := (blk_cell BK142.out 8).trans rfl; have hcz26_9 : w23.cell? ⟨gb142, 9, none⟩ = some (.bool a0_9) := (blk_cell BK142.out 9).trans rfl; have hcz26_10 : w23.cell? ⟨gb142, 10, none⟩ = some (.bool a0_10) := (blk_cell BK142.out 10).trans rfl; have hfz26_0 := blk_frozen BK142.out 0; have hfz26_1 := blk_frozen BK142.out 1; have hfz26_2 := blk_frozen BK142.out 2; have hfz26_3 := blk_frozen BK142.out 3; have hfz26_4 := blk_frozen BK142.out 4; have hfz26_5 := blk_frozen BK142.out 5; have hfz26_6 := blk_frozen BK142.out 6; have hfz26_7 := blk_frozen BK142.out 7; have hfz26_8 := blk_frozen BK142.out 8; have hfz26_9 := blk_frozen BK142.out 9; have hfz26_10 := blk_frozen BK142.out 10) | ((with_reducible refine gate_callee (f := 57) rfl ?_); refine goesL_ (some 16) rfl rfl Try.func57 (by kernel_rfl) rfl #[.agg #[.int .i64 a0_0, .int .i64 a0_1, .int .u64 a0_2, .int .u64 a0_3, .bool a0_4, .bool a0_5, .bool a0_6, .bool a0_7, .bool a0_8, .bool a0_9, .bool a0_10], .int .u64 a2_2, .int .i64 a1] rfl (by (try simp only [List.map_toArray, List.map_cons, List.map_nil]); first | done | rfl | (simp only [List.length_drop, List.length_take]; rfl)) ?_; (with_reducible refine (tte_Hits.calls a0_0 a0_1 a0_2 a0_3 a0_4 a0_5 a0_6 a0_7 a0_8 a0_9 a0_10 a2_2 a1 false _ A10.out).mono ?_); rintro e w27 ⟨rfl, hb⟩; refine ⟨_, rfl, ?_⟩; have n0_ := Aside0.mk (bb_ hb BK142.out); have n1_ := Aside0.mk (bb_ hb BK143.out); have n2_ := Aside0.mk (below_step (by repeat (first | (with_reducible first | exact HB.out | apply below_alloc | apply pw_below_drewN | apply below_drew1 | refine below_set ?_ GE142.out | refine below_set ?_ GE143.out) | exact HB.out)) hb); clear BK142; clear BK143; clear HB; have BK142 := n0_; have BK143 := n1_; have HB := n2_; clear n0_ n1_ n2_; (try clear hb); (try clear hb2); (try clear hk); (try clear hi)))
      go_ret
      exact ⟨by first | rfl | (simp [errW_none, errW_some] <;> rfl) | (simp [*, errW_none, errW_some] <;> rfl), by repeat (first | (with_reducible first | exact HB.out | apply below_alloc | apply pw_below_drewN | apply below_drew1 | refine below_set ?_ GE142.out | refine below_set ?_ GE143.out) | exact HB.out)⟩
/-! ### tte_Frame: function 76 -/
def tte_Frame.f (a0_0 : Int) (a0_1 : Int) (a0_2 : Int) (a0_3 : Int) (a0_4 : Bool) (a0_5 : Bool) (a0_6 : Bool) (a0_7 : Bool) (a0_8 : Bool) (a0_9 : Bool) (a0_10 : Bool) (a1 : Int) : Option (Int × Bool) := if a0_10 = true then ((page_In.f a1 a0_2 a0_0).bind fun t148 => (if t148 = true then ((page_Offset.f a1 a0_0).bind fun t149 => (some (IntKind.u64.wrap (a0_3 + t149), true))) else (some (0, false)))) else (some (0, false))
set_option maxHeartbeats 8000000 in
set_option maxRecDepth 100000 in
theorem tte_Frame.calls (a0_0 : Int) (a0_1 : Int) (a0_2 : Int) (a0_3 : Int) (a0_4 : Bool) (a0_5 : Bool) (a0_6 : Bool) (a0_7 : Bool) (a0_8 : Bool) (a0_9 : Bool) (a0_10 : Bool) (a1 : Int) (r1 : Int) (r2 : Bool) (w : World) (h : tte_Frame.f a0_0 a0_1 a0_2 a0_3 a0_4 a0_5 a0_6 a0_7 a0_8 a0_9 a0_10 a1 = some (r1, r2)) :
    Calls Try.prog 76 #[.agg #[.int .i64 a0_0, .int .i64 a0_1, .int .u64 a0_2, .int .u64 a0_3, .bool a0_4, .bool a0_5, .bool a0_6, .bool a0_7, .bool a0_8, .bool a0_9, .bool a0_10], .int .u64 a1] w fun e w' => e = .returned (.tuple #[.int .u64 r1, .bool r2]) ∧ Below w.heap.size w w' := by
  have hu26 := Try.underlying26
  have HB := Aside0.mk (Below.refl w.heap.size w)
  have H : (if a0_10 = true then ((page_In.f a1 a0_2 a0_0).bind fun t148 => (if t148 = true then ((page_Offset.f a1 a0_0).bind fun t149 => (some (IntKind.u64.wrap (a0_3 + t149), true))) else (some (0, false)))) else (some (0, false))) = some (r1, r2) := h
  clear h
  by_cases c3 : a0_10 = true
  · subst c3
    have H1 : ((page_In.f a1 a0_2 a0_0).bind fun t148 => (if t148 = true then ((page_Offset.f a1 a0_0).bind fun t149 => (some (IntKind.u64.wrap (a0_3 + t149), true))) else (some (0, false)))) = some (r1, r2) := by rw [if_pos rfl] at H; exact H
    clear H
    have H := H1
    clear H1
    replace H := Option.bind_eq_some_iff.mp H
    obtain ⟨t148, A40, H⟩ := H
    replace H : (if t148 = true then ((page_Offset.f a1 a0_0).bind fun t149 => (some (IntKind.u64.wrap (a0_3 + t149), true))) else (some (0, false))) = some (r1, r2) := H
    have A4 := Aside0.mk A40
    clear A40
    by_cases c5 : t148 = true
    · subst c5
      have H1 : ((page_Offset.f a1 a0_0).bind fun t149 => (some (IntKind.u64.wrap (a0_3 + t149), true))) = some (r1, r2) := by rw [if_pos rfl] at H; exact H
      clear H
      have H := H1
      clear H1
      replace H := Option.bind_eq_some_iff.mp H
      obtain ⟨t149, A60, H⟩ := H
      replace H : (some (IntKind.u64.wrap (a0_3 + t149), true)) = some (r1, r2) := H
      have A6 := Aside0.mk A60
      clear A60
      simp only [Option.some.injEq, Prod.mk.injEq] at H
      obtain ⟨rfl, rfl⟩ := H
      go_enter Try.func76, Try.ntmps76
      go_wp2_with (first | ((with_reducible refine gate_dst (N := 2) rfl ?_); refine box_event ?hg (N := 2) ?hd (cs := #[.int .i64 a0_0, .int .i64 a0_1, .int .u64 a0_2, .int .u64 a0_3, .bool a0_4, .bool a0_5, .bool a0_6, .bool a0_7, .bool a0_8, .bool a0_9, .bool true]) (t := 26) ?hr ?_; (case hd => rfl); (case hg => rfl); (case hr => first | (go_simp; done) | (go_simp; rfl)); intro gb147 hg w7 hbox hb; have n0_ := Aside0.mk (below_step (by repeat (first | (with_reducible first | exact HB.out | apply below_alloc | apply pw_below_drewN | apply below_drew1) | exact HB.out)) hb); have n1_ := Aside0.mk (hbox); have n2_ := Aside0.mk ((by rw [hg]; exact (below_size (by repeat (first | (with_reducible first | exact HB.out | apply below_alloc | apply pw_below_drewN | apply below_drew1) | exact HB.out))) : w.heap.size ≤ gb147)); have n3_ := Aside0.mk ((by rw [hg]; exact (below_size (by repeat (first | (with_reducible first | exact HB.out | apply below_alloc | apply pw_below_drewN | apply below_drew1) | exact HB.out))) : w.heap.size ≤ gb147)); clear HB; have HB := n0_; have BK147 := n1_; have GW147 := n2_; have GE147 := n3_; clear n0_ n1_ n2_ n3_; clear hb hbox hg; have hcz8_0 : w7.cell? ⟨gb147, 0, none⟩ = some (.int .i64 a0_0) := (blk_cell BK147.out 0).trans rfl; have hcz8_1 : w7.cell? ⟨gb147, 1, none⟩ = some (.int .i64 a0_1) := (blk_cell BK147.out 1).trans rfl; have hcz8_2 : w7.cell? ⟨gb147, 2, none⟩ = some (.int .u64 a0_2) := (blk_cell BK147.out 2).trans rfl; have hcz8_3 : w7.cell? ⟨gb147, 3, none⟩ = some (.int .u64 a0_3) := (blk_cell BK147.out 3).trans rfl; have hcz8_4 : w7.cell? ⟨gb147, 4, none⟩ = some (.bool a0_4) := (blk_cell BK147.out 4).trans rfl; have hcz8_5 : w7.cell? ⟨gb147, 5, none⟩ = some (.bool a0_5) := (blk_cell BK147.out 5).trans rfl; have hcz8_6 : w7.cell? ⟨gb147, 6, none⟩ = some (.bool a0_6) := (blk_cell BK147.out 6).trans rfl; have hcz8_7 : w7.cell? ⟨gb147, 7, none⟩ = some (.bool a0_7) := (blk_cell BK147.out 7).trans rfl; have hcz8_8 : w7.cell? ⟨gb147, 8, none⟩ = some (.bool a0_8) := (blk_cell BK147.out 8).trans rfl; have hcz8_9 : w7.cell? ⟨gb147, 9, none⟩ = some (.bool a0_9) := (blk_cell BK147.out 9).trans rfl; have hcz8_10 : w7.cell? ⟨gb147, 10, none⟩ = some (.bool true) := (blk_cell BK147.out 10).trans rfl; have hfz8_0 := blk_frozen BK147.out 0; have hfz8_1 := blk_frozen BK147.out 1; have hfz8_2 := blk_frozen BK147.out 2; have hfz8_3 := blk_frozen BK147.out 3; have hfz8_4 := blk_frozen BK147.out 4; have hfz8_5 := blk_frozen BK147.out 5; have hfz8_6 := blk_frozen BK147.out 6; have hfz8_7 := blk_frozen BK147.out 7; have hfz8_8 := blk_frozen BK147.out 8; have hfz8_9 := blk_frozen BK147.out 9; have hfz8_10 := blk_frozen BK147.out 10) | (go_at_call 84; (with_reducible refine (page_In.calls a1 a0_2 a0_0 true _ A4.out).mono ?_); rintro e w' ⟨rfl, ⟨nd, rfl⟩⟩; (try first | exact ⟨rfl, _, World.drewN_drewN _ _ _⟩ | exact ⟨rfl, _, Eq.trans (World.drewN_drewN _ _ _) (congrArg (World.drewN _) (Nat.add_assoc _ _ _))⟩)) | (go_at_call 97; (with_reducible refine (page_Offset.calls a1 a0_0 t149 _ A6.out).mono ?_); rintro e w' ⟨rfl, ⟨nd, rfl⟩⟩; (try first | exact ⟨rfl, _, World.drewN_drewN _ _ _⟩ | exact ⟨rfl, _, Eq.trans (World.drewN_drewN _ _ _) (congrArg (World.drewN _) (Nat.add_assoc _ _ _))⟩)))
      repeat (go_quiet (first | ((with_reducible refine gate_dst (N := 2) rfl ?_); refine box_event ?hg (N := 2) ?hd (cs := #[.int .i64 a0_0, .int .i64 a0_1, .int .u64 a0_2, .int .u64 a0_3, .bool a0_4, .bool a0_5, .bool a0_6, .bool a0_7, .bool a0_8, .bool a0_9, .bool true]) (t := 26) ?hr ?_; (case hd => rfl); (case hg => rfl); (case hr => first | (go_simp; done) | (go_simp; rfl)); intro gb147 hg w7 hbox hb; have n0_ := Aside0.mk (below_step (by repeat (first | (with_reducible first | exact HB.out | apply below_alloc | apply pw_below_drewN | apply below_drew1) | exact HB.out)) hb); have n1_ := Aside0.mk (hbox); have n2_ := Aside0.mk ((by rw [hg]; exact (below_size (by repeat (first | (with_reducible first | exact HB.out | apply below_alloc | apply pw_below_drewN | apply below_drew1) | exact HB.out))) : w.heap.size ≤ gb147)); have n3_ := Aside0.mk ((by rw [hg]; exact (below_size (by repeat (first | (with_reducible first | exact HB.out | apply below_alloc | apply pw_below_drewN | apply below_drew1) | exact HB.out))) : w.heap.size ≤ gb147)); clear HB; have HB := n0_; have BK147 := n1_; have GW147 := n2_; have GE147 := n3_; clear n0_ n1_ n2_ n3_; clear hb hbox hg; have hcz8_0 : w7.cell? ⟨gb147, 0, none⟩ = some (.int .i64 a0_0) := (blk_cell BK147.out 0).trans rfl; have hcz8_1 : w7.cell? ⟨gb147, 1, none⟩ = some (.int .i64 a0_1) := (blk_cell BK147.out 1).trans rfl; have hcz8_2 : w7.cell? ⟨gb147, 2, none⟩ = some (.int .u64 a0_2) := (blk_cell BK147.out 2).trans rfl; have hcz8_3 : w7.cell? ⟨gb147, 3, none⟩ = some (.int .u64 a0_3) := (blk_cell BK147.out 3).trans rfl; have hcz8_4 : w7.cell? ⟨gb147, 4, none⟩ = some (.bool a0_4) := (blk_cell BK147.out 4).trans rfl; have hcz8_5 : w7.cell? ⟨gb147, 5, none⟩ = some (.bool a0_5) := (blk_cell BK147.out 5).trans rfl; have hcz8_6 : w7.cell? ⟨gb147, 6, none⟩ = some (.bool a0_6) := (blk_cell BK147.out 6).trans rfl; have hcz8_7 : w7.cell? ⟨gb147, 7, none⟩ = some (.bool a0_7) := (blk_cell BK147.out 7).trans rfl; have hcz8_8 : w7.cell? ⟨gb147, 8, none⟩ = some (.bool a0_8) := (blk_cell BK147.out 8).trans rfl; have hcz8_9 : w7.cell? ⟨gb147, 9, none⟩ = some (.bool a0_9) := (blk_cell BK147.out 9).trans rfl; have hcz8_10 : w7.cell? ⟨gb147, 10, none⟩ = some (.bool true) := (blk_cell BK147.out 10).trans rfl; have hfz8_0 := blk_frozen BK147.out 0; have hfz8_1 := blk_frozen BK147.out 1; have hfz8_2 := blk_frozen BK147.out 2; have hfz8_3 := blk_frozen BK147.out 3; have hfz8_4 := blk_frozen BK147.out 4; have hfz8_5 := blk_frozen BK147.out 5; have hfz8_6 := blk_frozen BK147.out 6; have hfz8_7 := blk_frozen BK147.out 7; have hfz8_8 := blk_frozen BK147.out 8; have hfz8_9 := blk_frozen BK147.out 9; have hfz8_10 := blk_frozen BK147.out 10) | (go_at_call 84; (with_reducible refine (page_In.calls a1 a0_2 a0_0 true _ A4.out).mono ?_); rintro e w' ⟨rfl, ⟨nd, rfl⟩⟩; (try first | exact ⟨rfl, _, World.drewN_drewN _ _ _⟩ | exact ⟨rfl, _, Eq.trans (World.drewN_drewN _ _ _) (congrArg (World.drewN _) (Nat.add_assoc _ _ _))⟩)) | (go_at_call 97; (with_reducible refine (page_Offset.calls a1 a0_0 t149 _ A6.out).mono ?_); rintro e w' ⟨rfl, ⟨nd, rfl⟩⟩; (try first | exact ⟨rfl, _, World.drewN_drewN _ _ _⟩ | exact ⟨rfl, _, Eq.trans (World.drewN_drewN _ _ _) (congrArg (World.drewN _) (Nat.add_assoc _ _ _))⟩))); try go_wp2_with (first | ((with_reducible refine gate_dst (N := 2) rfl ?_); refine box_event ?hg (N := 2) ?hd (cs := #[.int .i64 a0_0, .int .i64 a0_1, .int .u64 a0_2, .int .u64 a0_3, .bool a0_4, .bool a0_5, .bool a0_6, .bool a0_7, .bool a0_8, .bool a0_9, .bool true]) (t := 26) ?hr ?_; (case hd => rfl); (case hg => rfl); (case hr => first | (go_simp; done) | (go_simp; rfl)); intro gb147 hg w7 hbox hb; have n0_ := Aside0.mk (below_step (by repeat (first | (with_reducible first | exact HB.out | apply below_alloc | apply pw_below_drewN | apply below_drew1) | exact HB.out)) hb); have n1_ := Aside0.mk (hbox); have n2_ := Aside0.mk ((by rw [hg]; exact (below_size (by repeat (first | (with_reducible first | exact HB.out | apply below_alloc | apply pw_below_drewN | apply below_drew1) | exact HB.out))) : w.heap.size ≤ gb147)); have n3_ := Aside0.mk ((by rw [hg]; exact (below_size (by repeat (first | (with_reducible first | exact HB.out | apply below_alloc | apply pw_below_drewN | apply below_drew1) | exact HB.out))) : w.heap.size ≤ gb147)); clear HB; have HB := n0_; have BK147 := n1_; have GW147 := n2_; have GE147 := n3_; clear n0_ n1_ n2_ n3_; clear hb hbox hg; have hcz8_0 : w7.cell? ⟨gb147, 0, none⟩ = some (.int .i64 a0_0) := (blk_cell BK147.out 0).trans rfl; have hcz8_1 : w7.cell? ⟨gb147, 1, none⟩ = some (.int .i64 a0_1) := (blk_cell BK147.out 1).trans rfl; have hcz8_2 : w7.cell? ⟨gb147, 2, none⟩ = some (.int .u64 a0_2) := (blk_cell BK147.out 2).trans rfl; have hcz8_3 : w7.cell? ⟨gb147, 3, none⟩ = some (.int .u64 a0_3) := (blk_cell BK147.out 3).trans rfl; have hcz8_4 : w7.cell? ⟨gb147, 4, none⟩ = some (.bool a0_4) := (blk_cell BK147.out 4).trans rfl; have hcz8_5 : w7.cell? ⟨gb147, 5, none⟩ = some (.bool a0_5) := (blk_cell BK147.out 5).trans rfl; have hcz8_6 : w7.cell? ⟨gb147, 6, none⟩ = some (.bool a0_6) := (blk_cell BK147.out 6).trans rfl; have hcz8_7 : w7.cell? ⟨gb147, 7, none⟩ = some (.bool a0_7) := (blk_cell BK147.out 7).trans rfl; have hcz8_8 : w7.cell? ⟨gb147, 8, none⟩ = some (.bool a0_8) := (blk_cell BK147.out 8).trans rfl; have hcz8_9 : w7.cell? ⟨gb147, 9, none⟩ = some (.bool a0_9) := (blk_cell BK147.out 9).trans rfl; have hcz8_10 : w7.cell? ⟨gb147, 10, none⟩ = some (.bool true) := (blk_cell BK147.out 10).trans rfl; have hfz8_0 := blk_frozen BK147.out 0; have hfz8_1 := blk_frozen BK147.out 1; have hfz8_2 := blk_frozen BK147.out 2; have hfz8_3 := blk_frozen BK147.out 3; have hfz8_4 := blk_frozen BK147.out 4; have hfz8_5 := blk_frozen BK147.out 5; have hfz8_6 := blk_frozen BK147.out 6; have hfz8_7 := blk_frozen BK147.out 7; have hfz8_8 := blk_frozen BK147.out 8; have hfz8_9 := blk_frozen BK147.out 9; have hfz8_10 := blk_frozen BK147.out 10) | (go_at_call 84; (with_reducible refine (page_In.calls a1 a0_2 a0_0 true _ A4.out).mono ?_); rintro e w' ⟨rfl, ⟨nd, rfl⟩⟩; (try first | exact ⟨rfl, _, World.drewN_drewN _ _ _⟩ | exact ⟨rfl, _, Eq.trans (World.drewN_drewN _ _ _) (congrArg (World.drewN _) (Nat.add_assoc _ _ _))⟩)) | (go_at_call 97; (with_reducible refine (page_Offset.calls a1 a0_0 t149 _ A6.out).mono ?_); rintro e w' ⟨rfl, ⟨nd, rfl⟩⟩; (try first | exact ⟨rfl, _, World.drewN_drewN _ _ _⟩ | exact ⟨rfl, _, Eq.trans (World.drewN_drewN _ _ _) (congrArg (World.drewN _) (Nat.add_assoc _ _ _))⟩))))
      go_ret2
      exact ⟨by first | rfl | (simp [errW_none, errW_some] <;> rfl) | (simp [*, errW_none, errW_some] <;> rfl), by repeat (first | (with_reducible first | exact HB.out | apply below_alloc | apply pw_below_drewN | apply below_drew1 | refine below_set ?_ GE147.out) | exact HB.out)⟩
    · replace c5 := Bool.eq_false_iff.mpr c5
      subst c5
      have H1 : (some (0, false)) = some (r1, r2) := by rw [if_neg (show ¬ (false = true) by decide)] at H; exact H
      clear H
      have H := H1
      clear H1
      simp only [Option.some.injEq, Prod.mk.injEq] at H
      obtain ⟨rfl, rfl⟩ := H
      go_enter Try.func76, Try.ntmps76
      go_wp2_with (first | ((with_reducible refine gate_dst (N := 2) rfl ?_); refine box_event ?hg (N := 2) ?hd (cs := #[.int .i64 a0_0, .int .i64 a0_1, .int .u64 a0_2, .int .u64 a0_3, .bool a0_4, .bool a0_5, .bool a0_6, .bool a0_7, .bool a0_8, .bool a0_9, .bool true]) (t := 26) ?hr ?_; (case hd => rfl); (case hg => rfl); (case hr => first | (go_simp; done) | (go_simp; rfl)); intro gb147 hg w9 hbox hb; have n0_ := Aside0.mk (below_step (by repeat (first | (with_reducible first | exact HB.out | apply below_alloc | apply pw_below_drewN | apply below_drew1) | exact HB.out)) hb); have n1_ := Aside0.mk (hbox); have n2_ := Aside0.mk ((by rw [hg]; exact (below_size (by repeat (first | (with_reducible first | exact HB.out | apply below_alloc | apply pw_below_drewN | apply below_drew1) | exact HB.out))) : w.heap.size ≤ gb147)); have n3_ := Aside0.mk ((by rw [hg]; exact (below_size (by repeat (first | (with_reducible first | exact HB.out | apply below_alloc | apply pw_below_drewN | apply below_drew1) | exact HB.out))) : w.heap.size ≤ gb147)); clear HB; have HB := n0_; have BK147 := n1_; have GW147 := n2_; have GE147 := n3_; clear n0_ n1_ n2_ n3_; clear hb hbox hg; have hcz10_0 : w9.cell? ⟨gb147, 0, none⟩ = some (.int .i64 a0_0) := (blk_cell BK147.out 0).trans rfl; have hcz10_1 : w9.cell? ⟨gb147, 1, none⟩ = some (.int .i64 a0_1) := (blk_cell BK147.out 1).trans rfl; have hcz10_2 : w9.cell? ⟨gb147, 2, none⟩ = some (.int .u64 a0_2) := (blk_cell BK147.out 2).trans rfl; have hcz10_3 : w9.cell? ⟨gb147, 3, none⟩ = some (.int .u64 a0_3) := (blk_cell BK147.out 3).trans rfl; have hcz10_4 : w9.cell? ⟨gb147, 4, none⟩ = some (.bool a0_4) := (blk_cell BK147.out 4).trans rfl; have hcz10_5 : w9.cell? ⟨gb147, 5, none⟩ = some (.bool a0_5) := (blk_cell BK147.out 5).trans rfl; have hcz10_6 : w9.cell? ⟨gb147, 6, none⟩ = some (.bool a0_6) := (blk_cell BK147.out 6).trans rfl; have hcz10_7 : w9.cell? ⟨gb147, 7, none⟩ = some (.bool a0_7) := (blk_cell BK147.out 7).trans rfl; have hcz10_8 : w9.cell? ⟨gb147, 8, none⟩ = some (.bool a0_8) := (blk_cell BK147.out 8).trans rfl; have hcz10_9 : w9.cell? ⟨gb147, 9, none⟩ = some (.bool a0_9) := (blk_cell BK147.out 9).trans rfl; have hcz10_10 : w9.cell? ⟨gb147, 10, none⟩ = some (.bool true) := (blk_cell BK147.out 10).trans rfl; have hfz10_0 := blk_frozen BK147.out 0; have hfz10_1 := blk_frozen BK147.out 1; have hfz10_2 := blk_frozen BK147.out 2; have hfz10_3 := blk_frozen BK147.out 3; have hfz10_4 := blk_frozen BK147.out 4; have hfz10_5 := blk_frozen BK147.out 5; have hfz10_6 := blk_frozen BK147.out 6; have hfz10_7 := blk_frozen BK147.out 7; have hfz10_8 := blk_frozen BK147.out 8; have hfz10_9 := blk_frozen BK147.out 9; have hfz10_10 := blk_frozen BK147.out 10) | (go_at_call 84; (with_reducible refine (page_In.calls a1 a0_2 a0_0 false _ A4.out).mono ?_); rintro e w' ⟨rfl, ⟨nd, rfl⟩⟩; (try first | exact ⟨rfl, _, World.drewN_drewN _ _ _⟩ | exact ⟨rfl, _, Eq.trans (World.drewN_drewN _ _ _) (congrArg (World.drewN _) (Nat.add_assoc _ _ _))⟩)))
      repeat (go_quiet (first | ((with_reducible refine gate_dst (N := 2) rfl ?_); refine box_event ?hg (N := 2) ?hd (cs := #[.int .i64 a0_0, .int .i64 a0_1, .int .u64 a0_2, .int .u64 a0_3, .bool a0_4, .bool a0_5, .bool a0_6, .bool a0_7, .bool a0_8, .bool a0_9, .bool true]) (t := 26) ?hr ?_; (case hd => rfl); (case hg => rfl); (case hr => first | (go_simp; done) | (go_simp; rfl)); intro gb147 hg w9 hbox hb; have n0_ := Aside0.mk (below_step (by repeat (first | (with_reducible first | exact HB.out | apply below_alloc | apply pw_below_drewN | apply below_drew1) | exact HB.out)) hb); have n1_ := Aside0.mk (hbox); have n2_ := Aside0.mk ((by rw [hg]; exact (below_size (by repeat (first | (with_reducible first | exact HB.out | apply below_alloc | apply pw_below_drewN | apply below_drew1) | exact HB.out))) : w.heap.size ≤ gb147)); have n3_ := Aside0.mk ((by rw [hg]; exact (below_size (by repeat (first | (with_reducible first | exact HB.out | apply below_alloc | apply pw_below_drewN | apply below_drew1) | exact HB.out))) : w.heap.size ≤ gb147)); clear HB; have HB := n0_; have BK147 := n1_; have GW147 := n2_; have GE147 := n3_; clear n0_ n1_ n2_ n3_; clear hb hbox hg; have hcz10_0 : w9.cell? ⟨gb147, 0, none⟩ = some (.int .i64 a0_0) := (blk_cell BK147.out 0).trans rfl; have hcz10_1 : w9.cell? ⟨gb147, 1, none⟩ = some (.int .i64 a0_1) := (blk_cell BK147.out 1).trans rfl; have hcz10_2 : w9.cell? ⟨gb147, 2, none⟩ = some (.int .u64 a0_2) := (blk_cell BK147.out 2).trans rfl; have hcz10_3 : w9.cell? ⟨gb147, 3, none⟩ = some (.int .u64 a0_3) := (blk_cell BK147.out 3).trans rfl; have hcz10_4 : w9.cell? ⟨gb147, 4, none⟩ = some (.bool a0_4) := (blk_cell BK147.out 4).trans rfl; have hcz10_5 : w9.cell? ⟨gb147, 5, none⟩ = some (.bool a0_5) := (blk_cell BK147.out 5).trans rfl; have hcz10_6 : w9.cell? ⟨gb147, 6, none⟩ = some (.bool a0_6) := (blk_cell BK147.out 6).trans rfl; have hcz10_7 : w9.cell? ⟨gb147, 7, none⟩ = some (.bool a0_7) := (blk_cell BK147.out 7).trans rfl; have hcz10_8 : w9.cell? ⟨gb147, 8, none⟩ = some (.bool a0_8) := (blk_cell BK147.out 8).trans rfl; have hcz10_9 : w9.cell? ⟨gb147, 9, none⟩ = some (.bool a0_9) := (blk_cell BK147.out 9).trans rfl; have hcz10_10 : w9.cell? ⟨gb147, 10, none⟩ = some (.bool true) := (blk_cell BK147.out 10).trans rfl; have hfz10_0 := blk_frozen BK147.out 0; have hfz10_1 := blk_frozen BK147.out 1; have hfz10_2 := blk_frozen BK147.out 2; have hfz10_3 := blk_frozen BK147.out 3; have hfz10_4 := blk_frozen BK147.out 4; have hfz10_5 := blk_frozen BK147.out 5; have hfz10_6 := blk_frozen BK147.out 6; have hfz10_7 := blk_frozen BK147.out 7; have hfz10_8 := blk_frozen BK147.out 8; have hfz10_9 := blk_frozen BK147.out 9; have hfz10_10 := blk_frozen BK147.out 10) | (go_at_call 84; (with_reducible refine (page_In.calls a1 a0_2 a0_0 false _ A4.out).mono ?_); rintro e w' ⟨rfl, ⟨nd, rfl⟩⟩; (try first | exact ⟨rfl, _, World.drewN_drewN _ _ _⟩ | exact ⟨rfl, _, Eq.trans (World.drewN_drewN _ _ _) (congrArg (World.drewN _) (Nat.add_assoc _ _ _))⟩))); try go_wp2_with (first | ((with_reducible refine gate_dst (N := 2) rfl ?_); refine box_event ?hg (N := 2) ?hd (cs := #[.int .i64 a0_0, .int .i64 a0_1, .int .u64 a0_2, .int .u64 a0_3, .bool a0_4, .bool a0_5, .bool a0_6, .bool a0_7, .bool a0_8, .bool a0_9, .bool true]) (t := 26) ?hr ?_; (case hd => rfl); (case hg => rfl); (case hr => first | (go_simp; done) | (go_simp; rfl)); intro gb147 hg w9 hbox hb; have n0_ := Aside0.mk (below_step (by repeat (first | (with_reducible first | exact HB.out | apply below_alloc | apply pw_below_drewN | apply below_drew1) | exact HB.out)) hb); have n1_ := Aside0.mk (hbox); have n2_ := Aside0.mk ((by rw [hg]; exact (below_size (by repeat (first | (with_reducible first | exact HB.out | apply below_alloc | apply pw_below_drewN | apply below_drew1) | exact HB.out))) : w.heap.size ≤ gb147)); have n3_ := Aside0.mk ((by rw [hg]; exact (below_size (by repeat (first | (with_reducible first | exact HB.out | apply below_alloc | apply pw_below_drewN | apply below_drew1) | exact HB.out))) : w.heap.size ≤ gb147)); clear HB; have HB := n0_; have BK147 := n1_; have GW147 := n2_; have GE147 := n3_; clear n0_ n1_ n2_ n3_; clear hb hbox hg; have hcz10_0 : w9.cell? ⟨gb147, 0, none⟩ = some (.int .i64 a0_0) := (blk_cell BK147.out 0).trans rfl; have hcz10_1 : w9.cell? ⟨gb147, 1, none⟩ = some (.int .i64 a0_1) := (blk_cell BK147.out 1).trans rfl; have hcz10_2 : w9.cell? ⟨gb147, 2, none⟩ = some (.int .u64 a0_2) := (blk_cell BK147.out 2).trans rfl; have hcz10_3 : w9.cell? ⟨gb147, 3, none⟩ = some (.int .u64 a0_3) := (blk_cell BK147.out 3).trans rfl; have hcz10_4 : w9.cell? ⟨gb147, 4, none⟩ = some (.bool a0_4) := (blk_cell BK147.out 4).trans rfl; have hcz10_5 : w9.cell? ⟨gb147, 5, none⟩ = some (.bool a0_5) := (blk_cell BK147.out 5).trans rfl; have hcz10_6 : w9.cell? ⟨gb147, 6, none⟩ = some (.bool a0_6) := (blk_cell BK147.out 6).trans rfl; have hcz10_7 : w9.cell? ⟨gb147, 7, none⟩ = some (.bool a0_7) := (blk_cell BK147.out 7).trans rfl; have hcz10_8 : w9.cell? ⟨gb147, 8, none⟩ = some (.bool a0_8) := (blk_cell BK147.out 8).trans rfl; have hcz10_9 : w9.cell? ⟨gb147, 9, none⟩ = some (.bool a0_9) := (blk_cell BK147.out 9).trans rfl; have hcz10_10 : w9.cell? ⟨gb147, 10, none⟩ = some (.bool true) := (blk_cell BK147.out 10).trans rfl; have hfz10_0 := blk_frozen BK147.out 0; have hfz10_1 := blk_frozen BK147.out 1; have hfz10_2 := blk_frozen BK147.out 2; have hfz10_3 := blk_frozen BK147.out 3; have hfz10_4 := blk_frozen BK147.out 4; have hfz10_5 := blk_frozen BK147.out 5; have hfz10_6 := blk_frozen BK147.out 6; have hfz10_7 := blk_frozen BK147.out 7; have hfz10_8 := blk_frozen BK147.out 8; have hfz10_9 := blk_frozen BK147.out 9; have hfz10_10 := blk_frozen BK147.out 10) | (go_at_call 84; (with_reducible refine (page_In.calls a1 a0_2 a0_0 false _ A4.out).mono ?_); rintro e w' ⟨rfl, ⟨nd, rfl⟩⟩; (try first | exact ⟨rfl, _, World.drewN_drewN _ _ _⟩ | exact ⟨rfl, _, Eq.trans (World.drewN_drewN _ _ _) (congrArg (World.drewN _) (Nat.add_assoc _ _ _))⟩))))
      go_ret2
      exact ⟨by first | rfl | (simp [errW_none, errW_some] <;> rfl) | (simp [*, errW_none, errW_some] <;> rfl), by repeat (first | (with_reducible first | exact HB.out | apply below_alloc | apply pw_below_drewN | apply below_drew1 | refine below_set ?_ GE147.out) | exact HB.out)⟩
  · replace c3 := Bool.eq_false_iff.mpr c3
    subst c3
    have H1 : (some (0, false)) = some (r1, r2) := by rw [if_neg (show ¬ (false = true) by decide)] at H; exact H
    clear H
    have H := H1
    clear H1
    simp only [Option.some.injEq, Prod.mk.injEq] at H
    obtain ⟨rfl, rfl⟩ := H
    go_enter Try.func76, Try.ntmps76
    go_wp2_with (first | ((with_reducible refine gate_dst (N := 2) rfl ?_); refine box_event ?hg (N := 2) ?hd (cs := #[.int .i64 a0_0, .int .i64 a0_1, .int .u64 a0_2, .int .u64 a0_3, .bool a0_4, .bool a0_5, .bool a0_6, .bool a0_7, .bool a0_8, .bool a0_9, .bool false]) (t := 26) ?hr ?_; (case hd => rfl); (case hg => rfl); (case hr => first | (go_simp; done) | (go_simp; rfl)); intro gb147 hg w11 hbox hb; have n0_ := Aside0.mk (below_step (by repeat (first | (with_reducible first | exact HB.out | apply below_alloc | apply pw_below_drewN | apply below_drew1) | exact HB.out)) hb); have n1_ := Aside0.mk (hbox); have n2_ := Aside0.mk ((by rw [hg]; exact (below_size (by repeat (first | (with_reducible first | exact HB.out | apply below_alloc | apply pw_below_drewN | apply below_drew1) | exact HB.out))) : w.heap.size ≤ gb147)); have n3_ := Aside0.mk ((by rw [hg]; exact (below_size (by repeat (first | (with_reducible first | exact HB.out | apply below_alloc | apply pw_below_drewN | apply below_drew1) | exact HB.out))) : w.heap.size ≤ gb147)); clear HB; have HB := n0_; have BK147 := n1_; have GW147 := n2_; have GE147 := n3_; clear n0_ n1_ n2_ n3_; clear hb hbox hg; have hcz12_0 : w11.cell? ⟨gb147, 0, none⟩ = some (.int .i64 a0_0) := (blk_cell BK147.out 0).trans rfl; have hcz12_1 : w11.cell? ⟨gb147, 1, none⟩ = some (.int .i64 a0_1) := (blk_cell BK147.out 1).trans rfl; have hcz12_2 : w11.cell? ⟨gb147, 2, none⟩ = some (.int .u64 a0_2) := (blk_cell BK147.out 2).trans rfl; have hcz12_3 : w11.cell? ⟨gb147, 3, none⟩ = some (.int .u64 a0_3) := (blk_cell BK147.out 3).trans rfl; have hcz12_4 : w11.cell? ⟨gb147, 4, none⟩ = some (.bool a0_4) := (blk_cell BK147.out 4).trans rfl; have hcz12_5 : w11.cell? ⟨gb147, 5, none⟩ = some (.bool a0_5) := (blk_cell BK147.out 5).trans rfl; have hcz12_6 : w11.cell? ⟨gb147, 6, none⟩ = some (.bool a0_6) := (blk_cell BK147.out 6).trans rfl; have hcz12_7 : w11.cell? ⟨gb147, 7, none⟩ = some (.bool a0_7) := (blk_cell BK147.out 7).trans rfl; have hcz12_8 : w11.cell? ⟨gb147, 8, none⟩ = some (.bool a0_8) := (blk_cell BK147.out 8).trans rfl; have hcz12_9 : w11.cell? ⟨gb147, 9, none⟩ = some (.bool a0_9) := (blk_cell BK147.out 9).trans rfl; have hcz12_10 : w11.cell? ⟨gb147, 10, none⟩ = some (.bool false) := (blk_cell BK147.out 10).trans rfl; have hfz12_0 := blk_frozen BK147.out 0; have hfz12_1 := blk_frozen BK147.out 1; have hfz12_2 := blk_frozen BK147.out 2; have hfz12_3 := blk_frozen BK147.out 3; have hfz12_4 := blk_frozen BK147.out 4; have hfz12_5 := blk_frozen BK147.out 5; have hfz12_6 := blk_frozen BK147.out 6; have hfz12_7 := blk_frozen BK147.out 7; have hfz12_8 := blk_frozen BK147.out 8; have hfz12_9 := blk_frozen BK147.out 9; have hfz12_10 := blk_frozen BK147.out 10))
    repeat (go_quiet (first | ((with_reducible refine gate_dst (N := 2) rfl ?_); refine box_event ?hg (N := 2) ?hd (cs := #[.int .i64 a0_0, .int .i64 a0_1, .int .u64 a0_2, .int .u64 a0_3, .bool a0_4, .bool a0_5, .bool a0_6, .bool a0_7, .bool a0_8, .bool a0_9, .bool false]) (t := 26) ?hr ?_; (case hd => rfl); (case hg => rfl); (case hr => first | (go_simp; done) | (go_simp; rfl)); intro gb147 hg w11 hbox hb; have n0_ := Aside0.mk (below_step (by repeat (first | (with_reducible first | exact HB.out | apply below_alloc | apply pw_below_drewN | apply below_drew1) | exact HB.out)) hb); have n1_ := Aside0.mk (hbox); have n2_ := Aside0.mk ((by rw [hg]; exact (below_size (by repeat (first | (with_reducible first | exact HB.out | apply below_alloc | apply pw_below_drewN | apply below_drew1) | exact HB.out))) : w.heap.size ≤ gb147)); have n3_ := Aside0.mk ((by rw [hg]; exact (below_size (by repeat (first | (with_reducible first | exact HB.out | apply below_alloc | apply pw_below_drewN | apply below_drew1) | exact HB.out))) : w.heap.size ≤ gb147)); clear HB; have HB := n0_; have BK147 := n1_; have GW147 := n2_; have GE147 := n3_; clear n0_ n1_ n2_ n3_; clear hb hbox hg; have hcz12_0 : w11.cell? ⟨gb147, 0, none⟩ = some (.int .i64 a0_0) := (blk_cell BK147.out 0).trans rfl; have hcz12_1 : w11.cell? ⟨gb147, 1, none⟩ = some (.int .i64 a0_1) := (blk_cell BK147.out 1).trans rfl; have hcz12_2 : w11.cell? ⟨gb147, 2, none⟩ = some (.int .u64 a0_2) := (blk_cell BK147.out 2).trans rfl; have hcz12_3 : w11.cell? ⟨gb147, 3, none⟩ = some (.int .u64 a0_3) := (blk_cell BK147.out 3).trans rfl; have hcz12_4 : w11.cell? ⟨gb147, 4, none⟩ = some (.bool a0_4) := (blk_cell BK147.out 4).trans rfl; have hcz12_5 : w11.cell? ⟨gb147, 5, none⟩ = some (.bool a0_5) := (blk_cell BK147.out 5).trans rfl; have hcz12_6 : w11.cell? ⟨gb147, 6, none⟩ = some (.bool a0_6) := (blk_cell BK147.out 6).trans rfl; have hcz12_7 : w11.cell? ⟨gb147, 7, none⟩ = some (.bool a0_7) := (blk_cell BK147.out 7).trans rfl; have hcz12_8 : w11.cell? ⟨gb147, 8, none⟩ = some (.bool a0_8) := (blk_cell BK147.out 8).trans rfl; have hcz12_9 : w11.cell? ⟨gb147, 9, none⟩ = some (.bool a0_9) := (blk_cell BK147.out 9).trans rfl; have hcz12_10 : w11.cell? ⟨gb147, 10, none⟩ = some (.bool false) := (blk_cell BK147.out 10).trans rfl; have hfz12_0 := blk_frozen BK147.out 0; have hfz12_1 := blk_frozen BK147.out 1; have hfz12_2 := blk_frozen BK147.out 2; have hfz12_3 := blk_frozen BK147.out 3; have hfz12_4 := blk_frozen BK147.out 4; have hfz12_5 := blk_frozen BK147.out 5; have hfz12_6 := blk_frozen BK147.out 6; have hfz12_7 := blk_frozen BK147.out 7; have hfz12_8 := blk_frozen BK147.out 8; have hfz12_9 := blk_frozen BK147.out 9; have hfz12_10 := blk_frozen BK147.out 10)); try go_wp2_with (first | ((with_reducible refine gate_dst (N := 2) rfl ?_); refine box_event ?hg (N := 2) ?hd (cs := #[.int .i64 a0_0, .int .i64 a0_1, .int .u64 a0_2, .int .u64 a0_3, .bool a0_4, .bool a0_5, .bool a0_6, .bool a0_7, .bool a0_8, .bool a0_9, .bool false]) (t := 26) ?hr ?_; (case hd => rfl); (case hg => rfl); (case hr => first | (go_simp; done) | (go_simp; rfl)); intro gb147 hg w11 hbox hb; have n0_ := Aside0.mk (below_step (by repeat (first | (with_reducible first | exact HB.out | apply below_alloc | apply pw_below_drewN | apply below_drew1) | exact HB.out)) hb); have n1_ := Aside0.mk (hbox); have n2_ := Aside0.mk ((by rw [hg]; exact (below_size (by repeat (first | (with_reducible first | exact HB.out | apply below_alloc | apply pw_below_drewN | apply below_drew1) | exact HB.out))) : w.heap.size ≤ gb147)); have n3_ := Aside0.mk ((by rw [hg]; exact (below_size (by repeat (first | (with_reducible first | exact HB.out | apply below_alloc | apply pw_below_drewN | apply below_drew1) | exact HB.out))) : w.heap.size ≤ gb147)); clear HB; have HB := n0_; have BK147 := n1_; have GW147 := n2_; have GE147 := n3_; clear n0_ n1_ n2_ n3_; clear hb hbox hg; have hcz12_0 : w11.cell? ⟨gb147, 0, none⟩ = some (.int .i64 a0_0) := (blk_cell BK147.out 0).trans rfl; have hcz12_1 : w11.cell? ⟨gb147, 1, none⟩ = some (.int .i64 a0_1) := (blk_cell BK147.out 1).trans rfl; have hcz12_2 : w11.cell? ⟨gb147, 2, none⟩ = some (.int .u64 a0_2) := (blk_cell BK147.out 2).trans rfl; have hcz12_3 : w11.cell? ⟨gb147, 3, none⟩ = some (.int .u64 a0_3) := (blk_cell BK147.out 3).trans rfl; have hcz12_4 : w11.cell? ⟨gb147, 4, none⟩ = some (.bool a0_4) := (blk_cell BK147.out 4).trans rfl; have hcz12_5 : w11.cell? ⟨gb147, 5, none⟩ = some (.bool a0_5) := (blk_cell BK147.out 5).trans rfl; have hcz12_6 : w11.cell? ⟨gb147, 6, none⟩ = some (.bool a0_6) := (blk_cell BK147.out 6).trans rfl; have hcz12_7 : w11.cell? ⟨gb147, 7, none⟩ = some (.bool a0_7) := (blk_cell BK147.out 7).trans rfl; have hcz12_8 : w11.cell? ⟨gb147, 8, none⟩ = some (.bool a0_8) := (blk_cell BK147.out 8).trans rfl; have hcz12_9 : w11.cell? ⟨gb147, 9, none⟩ = some (.bool a0_9) := (blk_cell BK147.out 9).trans rfl; have hcz12_10 : w11.cell? ⟨gb147, 10, none⟩ = some (.bool false) := (blk_cell BK147.out 10).trans rfl; have hfz12_0 := blk_frozen BK147.out 0; have hfz12_1 := blk_frozen BK147.out 1; have hfz12_2 := blk_frozen BK147.out 2; have hfz12_3 := blk_frozen BK147.out 3; have hfz12_4 := blk_frozen BK147.out 4; have hfz12_5 := blk_frozen BK147.out 5; have hfz12_6 := blk_frozen BK147.out 6; have hfz12_7 := blk_frozen BK147.out 7; have hfz12_8 := blk_frozen BK147.out 8; have hfz12_9 := blk_frozen BK147.out 9; have hfz12_10 := blk_frozen BK147.out 10)))
    go_ret2
    exact ⟨by first | rfl | (simp [errW_none, errW_some] <;> rfl) | (simp [*, errW_none, errW_some] <;> rfl), by repeat (first | (with_reducible first | exact HB.out | apply below_alloc | apply pw_below_drewN | apply below_drew1 | refine below_set ?_ GE147.out) | exact HB.out)⟩

-- NOT PRINTED: function 36 (cpu_Cpu_Look)
/-! ### lookasideref09_Judge: function 37 -/
mutual
def lookasideref09_Judge.j0 : Nat → Bool → Bool → Bool → Bool → Bool → Bool → Bool → Int → Bool → Int → Option (Int)
  | 0, _, _, _, _, _, _, _, _, _, _ => none
  | k + 1, x11, x151000, x151001, x151002, x151003, x151004, x151005, x152000, x152001, x152002 => if x11 = true then (some 3) else (if x151005 = true then (lookasideref09_Judge.j1 k (x152000 != 3) x151000 x151001 x151002 x151003 x151004 x151005 x152000 x152001 x152002) else (lookasideref09_Judge.j1 k false x151000 x151001 x151002 x151003 x151004 x151005 x152000 x152001 x152002))
def lookasideref09_Judge.j1 : Nat → Bool → Bool → Bool → Bool → Bool → Bool → Bool → Int → Bool → Int → Option (Int)
  | 0, _, _, _, _, _, _, _, _, _, _ => none
  | k + 1, x18, x151000, x151001, x151002, x151003, x151004, x151005, x152000, x152001, x152002 => if x18 = true then (some 4) else (if x152000 = 1 then (lookasideref09_Judge.j2 k (!x151000) x151000 x151001 x151002 x151003 x151004 x151005 x152000 x152001 x152002) else (lookasideref09_Judge.j2 k false x151000 x151001 x151002 x151003 x151004 x151005 x152000 x152001 x152002))
def lookasideref09_Judge.j2 : Nat → Bool → Bool → Bool → Bool → Bool → Bool → Bool → Int → Bool → Int → Option (Int)
  | 0, _, _, _, _, _, _, _, _, _, _ => none
  | k + 1, x26, x151000, x151001, x151002, x151003, x151004, x151005, x152000, x152001, x152002 => if x26 = true then (some 5) else (if x152000 = 2 then (if x151002 = true then (some 0) else (some 6)) else (some 0))
end
def lookasideref09_Judge.f (k : Nat) (a0_0 : Bool) (a0_1 : Bool) (a0_2 : Bool) (a0_3 : Bool) (a0_4 : Bool) (a0_5 : Bool) (a1_0 : Int) (a1_1 : Bool) (a1_2 : Int) : Option (Int) := if a0_1 = true then (lookasideref09_Judge.j0 k (!a1_1) a0_0 a0_1 a0_2 a0_3 a0_4 a0_5 a1_0 a1_1 a1_2) else (lookasideref09_Judge.j0 k false a0_0 a0_1 a0_2 a0_3 a0_4 a0_5 a1_0 a1_1 a1_2)
theorem lookasideref09_Judge.mono_l : ∀ k, (∀ y0 y1 y2 y3 y4 y5 y6 y7 y8 y9, LeO (lookasideref09_Judge.j0 k y0 y1 y2 y3 y4 y5 y6 y7 y8 y9) (lookasideref09_Judge.j0 (k + 1) y0 y1 y2 y3 y4 y5 y6 y7 y8 y9)) ∧ (∀ y0 y1 y2 y3 y4 y5 y6 y7 y8 y9, LeO (lookasideref09_Judge.j1 k y0 y1 y2 y3 y4 y5 y6 y7 y8 y9) (lookasideref09_Judge.j1 (k + 1) y0 y1 y2 y3 y4 y5 y6 y7 y8 y9)) ∧ (∀ y0 y1 y2 y3 y4 y5 y6 y7 y8 y9, LeO (lookasideref09_Judge.j2 k y0 y1 y2 y3 y4 y5 y6 y7 y8 y9) (lookasideref09_Judge.j2 (k + 1) y0 y1 y2 y3 y4 y5 y6 y7 y8 y9))
  | 0 => ⟨fun _ _ _ _ _ _ _ _ _ _ r h => by simp [lookasideref09_Judge.j0] at h, fun _ _ _ _ _ _ _ _ _ _ r h => by simp [lookasideref09_Judge.j1] at h, fun _ _ _ _ _ _ _ _ _ _ r h => by simp [lookasideref09_Judge.j2] at h⟩
  | k + 1 => by
    obtain ⟨ih0, ih1, ih2⟩ := lookasideref09_Judge.mono_l k
    refine ⟨?_, ?_, ?_⟩
    · intro y0 y1 y2 y3 y4 y5 y6 y7 y8 y9
      unfold lookasideref09_Judge.j0
      repeat' first
      | (with_reducible exact ih0 _ _ _ _ _ _ _ _ _ _)
      | (with_reducible exact ih1 _ _ _ _ _ _ _ _ _ _)
      | (with_reducible exact ih2 _ _ _ _ _ _ _ _ _ _)
      | (with_reducible exact LeO.refl _)
      | (with_reducible exact LeO.none _)
      | (with_reducible refine LeO.ite ?_ ?_)
      | (with_reducible refine LeO.bind ?_ (fun _ => ?_))
      | exact ih0 _ _ _ _ _ _ _ _ _ _
      | exact ih1 _ _ _ _ _ _ _ _ _ _
      | exact ih2 _ _ _ _ _ _ _ _ _ _
      | exact LeO.none _
      | refine LeO.ite ?_ ?_
      | refine LeO.bind ?_ (fun _ => ?_)
    · intro y0 y1 y2 y3 y4 y5 y6 y7 y8 y9
      unfold lookasideref09_Judge.j1
      repeat' first
      | (with_reducible exact ih0 _ _ _ _ _ _ _ _ _ _)
      | (with_reducible exact ih1 _ _ _ _ _ _ _ _ _ _)
      | (with_reducible exact ih2 _ _ _ _ _ _ _ _ _ _)
      | (with_reducible exact LeO.refl _)
      | (with_reducible exact LeO.none _)
      | (with_reducible refine LeO.ite ?_ ?_)
      | (with_reducible refine LeO.bind ?_ (fun _ => ?_))
      | exact ih0 _ _ _ _ _ _ _ _ _ _
      | exact ih1 _ _ _ _ _ _ _ _ _ _
      | exact ih2 _ _ _ _ _ _ _ _ _ _
      | exact LeO.none _
      | refine LeO.ite ?_ ?_
      | refine LeO.bind ?_ (fun _ => ?_)
    · intro y0 y1 y2 y3 y4 y5 y6 y7 y8 y9
      unfold lookasideref09_Judge.j2
      repeat' first
      | (with_reducible exact ih0 _ _ _ _ _ _ _ _ _ _)
      | (with_reducible exact ih1 _ _ _ _ _ _ _ _ _ _)
      | (with_reducible exact ih2 _ _ _ _ _ _ _ _ _ _)
      | (with_reducible exact LeO.refl _)
      | (with_reducible exact LeO.none _)
      | (with_reducible refine LeO.ite ?_ ?_)
      | (with_reducible refine LeO.bind ?_ (fun _ => ?_))
      | exact ih0 _ _ _ _ _ _ _ _ _ _
      | exact ih1 _ _ _ _ _ _ _ _ _ _
      | exact ih2 _ _ _ _ _ _ _ _ _ _
      | exact LeO.none _
      | refine LeO.ite ?_ ?_
      | refine LeO.bind ?_ (fun _ => ?_)
theorem lookasideref09_Judge.mono : ∀ a0 a1 a2 a3 a4 a5 a6 a7 a8 k, LeO (lookasideref09_Judge.f k a0 a1 a2 a3 a4 a5 a6 a7 a8) (lookasideref09_Judge.f (k + 1) a0 a1 a2 a3 a4 a5 a6 a7 a8) := by
  intro a0 a1 a2 a3 a4 a5 a6 a7 a8 k
  obtain ⟨ih0, ih1, ih2⟩ := lookasideref09_Judge.mono_l k
  unfold lookasideref09_Judge.f
  repeat' first
      | (with_reducible exact ih0 _ _ _ _ _ _ _ _ _ _)
      | (with_reducible exact ih1 _ _ _ _ _ _ _ _ _ _)
      | (with_reducible exact ih2 _ _ _ _ _ _ _ _ _ _)
      | (with_reducible exact LeO.refl _)
      | (with_reducible exact LeO.none _)
      | (with_reducible refine LeO.ite ?_ ?_)
      | (with_reducible refine LeO.bind ?_ (fun _ => ?_))
      | exact ih0 _ _ _ _ _ _ _ _ _ _
      | exact ih1 _ _ _ _ _ _ _ _ _ _
      | exact ih2 _ _ _ _ _ _ _ _ _ _
      | exact LeO.none _
      | refine LeO.ite ?_ ?_
      | refine LeO.bind ?_ (fun _ => ?_)
set_option maxHeartbeats 8000000 in
set_option maxRecDepth 100000 in
theorem lookasideref09_Judge.calls (k : Nat) (a0_0 : Bool) (a0_1 : Bool) (a0_2 : Bool) (a0_3 : Bool) (a0_4 : Bool) (a0_5 : Bool) (a1_0 : Int) (a1_1 : Bool) (a1_2 : Int) (r : Int) (w : World) (h : lookasideref09_Judge.f k a0_0 a0_1 a0_2 a0_3 a0_4 a0_5 a1_0 a1_1 a1_2 = some r) :
    Calls Try.prog 37 #[.agg #[.bool a0_0, .bool a0_1, .bool a0_2, .bool a0_3, .bool a0_4, .bool a0_5], .agg #[.int .i64 a1_0, .bool a1_1, .int .u64 a1_2]] w fun e w' => e = .returned (.int .i64 r) ∧ Below w.heap.size w w' := by
  have hu24 := Try.underlying24
  have hu61 := Try.underlying61
  have HB := Aside0.mk (Below.refl w.heap.size w)
  have H : (if a0_1 = true then (lookasideref09_Judge.j0 k (!a1_1) a0_0 a0_1 a0_2 a0_3 a0_4 a0_5 a1_0 a1_1 a1_2) else (lookasideref09_Judge.j0 k false a0_0 a0_1 a0_2 a0_3 a0_4 a0_5 a1_0 a1_1 a1_2)) = some r := h
  clear h
  have HC3 := Aside0.mk H
  clear H
  go_enter Try.func37, Try.ntmps37
  go_upto_region 1 with (first | ((with_reducible refine gate_dst (N := 2) rfl ?_); refine box_event ?hg (N := 2) ?hd (cs := #[.bool a0_0, .bool a0_1, .bool a0_2, .bool a0_3, .bool a0_4, .bool a0_5]) (t := 24) ?hr ?_; (case hd => rfl); (case hg => rfl); (case hr => first | (go_simp; done) | (go_simp; rfl)); intro gb150 hg w4 hbox hb; have n0_ := Aside0.mk (below_step (by repeat (first | (with_reducible first | exact HB.out | apply below_alloc | apply pw_below_drewN | apply below_drew1) | exact HB.out)) hb); have n1_ := Aside0.mk (hbox); have n2_ := Aside0.mk ((by rw [hg]; exact (below_size (by repeat (first | (with_reducible first | exact HB.out | apply below_alloc | apply pw_below_drewN | apply below_drew1) | exact HB.out))) : w.heap.size ≤ gb150)); have n3_ := Aside0.mk ((by rw [hg]; exact (below_size (by repeat (first | (with_reducible first | exact HB.out | apply below_alloc | apply pw_below_drewN | apply below_drew1) | exact HB.out))) : w.heap.size ≤ gb150)); clear HB; have HB := n0_; have BK150 := n1_; have GW150 := n2_; have GE150 := n3_; clear n0_ n1_ n2_ n3_; clear hb hbox hg) | ((with_reducible refine gate_dst (N := 3) rfl ?_); refine box_event ?hg (N := 3) ?hd (cs := #[.int .i64 a1_0, .bool a1_1, .int .u64 a1_2]) (t := 61) ?hr ?_; (case hd => rfl); (case hg => rfl); (case hr => first | (go_simp; done) | (go_simp; rfl)); intro gb151 hg w5 hbox hb; have n0_ := Aside0.mk (bb_ hb BK150.out); have n1_ := Aside0.mk (below_step (by repeat (first | (with_reducible first | exact HB.out | apply below_alloc | apply pw_below_drewN | apply below_drew1 | refine below_set ?_ GE150.out) | exact HB.out)) hb); have n2_ := Aside0.mk (hbox); have n3_ := Aside0.mk ((by rw [hg]; exact (below_size (by repeat (first | (with_reducible first | exact HB.out | apply below_alloc | apply pw_below_drewN | apply below_drew1 | refine below_set ?_ GE150.out) | exact HB.out))) : w.heap.size ≤ gb151)); have n4_ := Aside0.mk ((by rw [hg]; exact (below_size (by repeat (first | (with_reducible first | exact HB.out | apply below_alloc | apply pw_below_drewN | apply below_drew1 | refine below_set ?_ GE150.out) | exact HB.out))) : w.heap.size ≤ gb151)); have n5_ := Aside0.mk ((by rw [hg]; exact Nat.ne_of_lt (blk_lt BK150.out) : gb150 ≠ gb151)); have n6_ := Aside0.mk ((by rw [hg]; exact Nat.ne_of_gt (blk_lt BK150.out) : gb151 ≠ gb150)); clear BK150; clear HB; have BK150 := n0_; have HB := n1_; have BK151 := n2_; have GW151 := n3_; have GE151 := n4_; have NB150_151 := n5_; have NB151_150 := n6_; clear n0_ n1_ n2_ n3_ n4_ n5_ n6_; clear hb hbox hg))
  (try simp only [Act.put, List.setIfInBounds_toArray, List.set_cons_zero, List.set_cons_succ])
  go_cut [11] (fun v11 wc => ∃ (kq : Nat) (x11_2 : Bool), v11 = .bool x11_2 ∧ Aside0 (lookasideref09_Judge.j0 kq x11_2 a0_0 a0_1 a0_2 a0_3 a0_4 a0_5 a1_0 a1_1 a1_2 = some r) ∧ Aside0 (kq ≤ k) ∧ Aside0 (wc.heap[gb150]? = some (.cells #[.bool a0_0, .bool a0_1, .bool a0_2, .bool a0_3, .bool a0_4, .bool a0_5] 24 (0, 0))) ∧ Aside0 (wc.heap[gb151]? = some (.cells #[.int .i64 a1_0, .bool a1_1, .int .u64 a1_2] 61 (0, 0))) ∧ Aside0 (Below w.heap.size w wc))
  case first =>
    have H := HC3.out
    clear HC3
    by_cases c6 : a0_1 = true
    · subst c6
      have H1 : (lookasideref09_Judge.j0 k (!a1_1) a0_0 true a0_2 a0_3 a0_4 a0_5 a1_0 a1_1 a1_2) = some r := by rw [if_pos rfl] at H; exact H
      clear H
      have H := H1
      clear H1
      have H' := Aside0.mk H
      clear H
      have hnb7 := NB150_151.out
      have hnc7 := NB151_150.out
      have hcz8_0 : w5.cell? ⟨gb150, 0, none⟩ = some (.bool a0_0) := (blk_cell BK150.out 0).trans rfl
      have hcz8_1 : w5.cell? ⟨gb150, 1, none⟩ = some (.bool true) := (blk_cell BK150.out 1).trans rfl
      have hcz8_2 : w5.cell? ⟨gb150, 2, none⟩ = some (.bool a0_2) := (blk_cell BK150.out 2).trans rfl
      have hcz8_3 : w5.cell? ⟨gb150, 3, none⟩ = some (.bool a0_3) := (blk_cell BK150.out 3).trans rfl
      have hcz8_4 : w5.cell? ⟨gb150, 4, none⟩ = some (.bool a0_4) := (blk_cell BK150.out 4).trans rfl
      have hcz8_5 : w5.cell? ⟨gb150, 5, none⟩ = some (.bool a0_5) := (blk_cell BK150.out 5).trans rfl
      have hfz8_0 := blk_frozen BK150.out 0
      have hfz8_1 := blk_frozen BK150.out 1
      have hfz8_2 := blk_frozen BK150.out 2
      have hfz8_3 := blk_frozen BK150.out 3
      have hfz8_4 := blk_frozen BK150.out 4
      have hfz8_5 := blk_frozen BK150.out 5
      have hcz9_0 : w5.cell? ⟨gb151, 0, none⟩ = some (.int .i64 a1_0) := (blk_cell BK151.out 0).trans rfl
      have hcz9_1 : w5.cell? ⟨gb151, 1, none⟩ = some (.bool a1_1) := (blk_cell BK151.out 1).trans rfl
      have hcz9_2 : w5.cell? ⟨gb151, 2, none⟩ = some (.int .u64 a1_2) := (blk_cell BK151.out 2).trans rfl
      have hfz9_0 := blk_frozen BK151.out 0
      have hfz9_1 := blk_frozen BK151.out 1
      have hfz9_2 := blk_frozen BK151.out 2
      go_wp2
      go_meet
      case rel => exact ⟨_, (!a1_1), (by first | rfl | (simp; done) | (simp [*]; done)), H', ⟨by first | omega | exact Nat.le_refl _⟩, ⟨by (with_reducible repeat (first | refine blk_drewN ?_ _ | refine blk_drew ?_ | refine blk_alloc ?_ _)); exact BK150.out⟩, ⟨by (with_reducible repeat (first | refine blk_drewN ?_ _ | refine blk_drew ?_ | refine blk_alloc ?_ _)); exact BK151.out⟩, ⟨by repeat (first | (with_reducible first | exact HB.out | apply below_alloc | apply pw_below_drewN | apply below_drew1 | refine below_set ?_ GE150.out | refine below_set ?_ GE151.out) | exact HB.out)⟩⟩
    · replace c6 := Bool.eq_false_iff.mpr c6
      subst c6
      have H1 : (lookasideref09_Judge.j0 k false a0_0 false a0_2 a0_3 a0_4 a0_5 a1_0 a1_1 a1_2) = some r := by rw [if_neg (show ¬ (false = true) by decide)] at H; exact H
      clear H
      have H := H1
      clear H1
      have H' := Aside0.mk H
      clear H
      have hnb10 := NB150_151.out
      have hnc10 := NB151_150.out
      have hcz11_0 : w5.cell? ⟨gb150, 0, none⟩ = some (.bool a0_0) := (blk_cell BK150.out 0).trans rfl
      have hcz11_1 : w5.cell? ⟨gb150, 1, none⟩ = some (.bool false) := (blk_cell BK150.out 1).trans rfl
      have hcz11_2 : w5.cell? ⟨gb150, 2, none⟩ = some (.bool a0_2) := (blk_cell BK150.out 2).trans rfl
      have hcz11_3 : w5.cell? ⟨gb150, 3, none⟩ = some (.bool a0_3) := (blk_cell BK150.out 3).trans rfl
      have hcz11_4 : w5.cell? ⟨gb150, 4, none⟩ = some (.bool a0_4) := (blk_cell BK150.out 4).trans rfl
      have hcz11_5 : w5.cell? ⟨gb150, 5, none⟩ = some (.bool a0_5) := (blk_cell BK150.out 5).trans rfl
      have hfz11_0 := blk_frozen BK150.out 0
      have hfz11_1 := blk_frozen BK150.out 1
      have hfz11_2 := blk_frozen BK150.out 2
      have hfz11_3 := blk_frozen BK150.out 3
      have hfz11_4 := blk_frozen BK150.out 4
      have hfz11_5 := blk_frozen BK150.out 5
      go_wp2
      go_meet
      case rel => exact ⟨_, (false), (by first | rfl | (simp; done) | (simp [*]; done)), H', ⟨by first | omega | exact Nat.le_refl _⟩, ⟨by (with_reducible repeat (first | refine blk_drewN ?_ _ | refine blk_drew ?_ | refine blk_alloc ?_ _)); exact BK150.out⟩, ⟨by (with_reducible repeat (first | refine blk_drewN ?_ _ | refine blk_drew ?_ | refine blk_alloc ?_ _)); exact BK151.out⟩, ⟨by repeat (first | (with_reducible first | exact HB.out | apply below_alloc | apply pw_below_drewN | apply below_drew1 | refine below_set ?_ GE150.out | refine below_set ?_ GE151.out) | exact HB.out)⟩⟩
  case rest =>
    clear HC3
    try clear c1
    try clear p2
    try clear c3
    try clear c6
    try clear c7
    try clear c10
    try clear hcz11_0
    try clear hcz11_1
    try clear hcz11_2
    try clear hcz11_3
    try clear hcz11_4
    try clear hcz11_5
    try clear hcz8_0
    try clear hcz8_1
    try clear hcz8_2
    try clear hcz8_3
    try clear hcz8_4
    try clear hcz8_5
    try clear hcz9_0
    try clear hcz9_1
    try clear hcz9_2
    try clear hfz11_0
    try clear hfz11_1
    try clear hfz11_2
    try clear hfz11_3
    try clear hfz11_4
    try clear hfz11_5
    try clear hfz8_0
    try clear hfz8_1
    try clear hfz8_2
    try clear hfz8_3
    try clear hfz8_4
    try clear hfz8_5
    try clear hfz9_0
    try clear hfz9_1
    try clear hfz9_2
    obtain ⟨kq, x11_2, rfl, HA, HJ2, BK150, BK151, HB⟩ := hcut
    cases kq with
    | zero => exact absurd HA.out (by simp [lookasideref09_Judge.j0])
    | succ kj2 =>
      have H := HA.out
      clear HA
      simp only [lookasideref09_Judge.j0] at H
      by_cases c12 : x11_2 = true
      · subst c12
        have H1 : (some 3) = some r := by rw [if_pos rfl] at H; exact H
        clear H
        have H := H1
        clear H1
        obtain rfl := Option.some.inj H
        go_wp2
        go_ret
        exact ⟨by first | rfl | (simp [errW_none, errW_some] <;> rfl) | (simp [*, errW_none, errW_some] <;> rfl), by repeat (first | (with_reducible first | exact HB.out | apply below_alloc | apply pw_below_drewN | apply below_drew1 | refine below_set ?_ GE150.out | refine below_set ?_ GE151.out) | exact HB.out)⟩
      · replace c12 := Bool.eq_false_iff.mpr c12
        subst c12
        have H1 : (if a0_5 = true then (lookasideref09_Judge.j1 kj2 (a1_0 != 3) a0_0 a0_1 a0_2 a0_3 a0_4 a0_5 a1_0 a1_1 a1_2) else (lookasideref09_Judge.j1 kj2 false a0_0 a0_1 a0_2 a0_3 a0_4 a0_5 a1_0 a1_1 a1_2)) = some r := by rw [if_neg (show ¬ (false = true) by decide)] at H; exact H
        clear H
        have H := H1
        clear H1
        have HC13 := Aside0.mk H
        clear H
        go_upto_region 3 with (fail)
        go_cut [18] (fun v18 wc => ∃ (kq : Nat) (x18_12 : Bool), v18 = .bool x18_12 ∧ Aside0 (lookasideref09_Judge.j1 kq x18_12 a0_0 a0_1 a0_2 a0_3 a0_4 a0_5 a1_0 a1_1 a1_2 = some r) ∧ Aside0 (kq ≤ kj2) ∧ Aside0 (wc.heap[gb150]? = some (.cells #[.bool a0_0, .bool a0_1, .bool a0_2, .bool a0_3, .bool a0_4, .bool a0_5] 24 (0, 0))) ∧ Aside0 (wc.heap[gb151]? = some (.cells #[.int .i64 a1_0, .bool a1_1, .int .u64 a1_2] 61 (0, 0))) ∧ Aside0 (Below w.heap.size w wc))
        case first =>
          have H := HC13.out
          clear HC13
          by_cases c14 : a0_5 = true
          · subst c14
            have H1 : (lookasideref09_Judge.j1 kj2 (a1_0 != 3) a0_0 a0_1 a0_2 a0_3 a0_4 true a1_0 a1_1 a1_2) = some r := by rw [if_pos rfl] at H; exact H
            clear H
            have H := H1
            clear H1
            have H' := Aside0.mk H
            clear H
            have hnb15 := NB150_151.out
            have hnc15 := NB151_150.out
            have hcz16_0 : wc.cell? ⟨gb150, 0, none⟩ = some (.bool a0_0) := (blk_cell BK150.out 0).trans rfl
            have hcz16_1 : wc.cell? ⟨gb150, 1, none⟩ = some (.bool a0_1) := (blk_cell BK150.out 1).trans rfl
            have hcz16_2 : wc.cell? ⟨gb150, 2, none⟩ = some (.bool a0_2) := (blk_cell BK150.out 2).trans rfl
            have hcz16_3 : wc.cell? ⟨gb150, 3, none⟩ = some (.bool a0_3) := (blk_cell BK150.out 3).trans rfl
            have hcz16_4 : wc.cell? ⟨gb150, 4, none⟩ = some (.bool a0_4) := (blk_cell BK150.out 4).trans rfl
            have hcz16_5 : wc.cell? ⟨gb150, 5, none⟩ = some (.bool true) := (blk_cell BK150.out 5).trans rfl
            have hfz16_0 := blk_frozen BK150.out 0
            have hfz16_1 := blk_frozen BK150.out 1
            have hfz16_2 := blk_frozen BK150.out 2
            have hfz16_3 := blk_frozen BK150.out 3
            have hfz16_4 := blk_frozen BK150.out 4
            have hfz16_5 := blk_frozen BK150.out 5
            have hcz17_0 : wc.cell? ⟨gb151, 0, none⟩ = some (.int .i64 a1_0) := (blk_cell BK151.out 0).trans rfl
            have hcz17_1 : wc.cell? ⟨gb151, 1, none⟩ = some (.bool a1_1) := (blk_cell BK151.out 1).trans rfl
            have hcz17_2 : wc.cell? ⟨gb151, 2, none⟩ = some (.int .u64 a1_2) := (blk_cell BK151.out 2).trans rfl
            have hfz17_0 := blk_frozen BK151.out 0
            have hfz17_1 := blk_frozen BK151.out 1
            have hfz17_2 := blk_frozen BK151.out 2
            go_wp2
            go_meet
            case rel => exact ⟨_, ((a1_0 != 3)), (by first | rfl | (simp; done) | (simp [*]; done)), H', ⟨by have := HJ2.out; first | omega | exact Nat.le_refl _⟩, ⟨by (with_reducible repeat (first | refine blk_drewN ?_ _ | refine blk_drew ?_ | refine blk_alloc ?_ _)); exact BK150.out⟩, ⟨by (with_reducible repeat (first | refine blk_drewN ?_ _ | refine blk_drew ?_ | refine blk_alloc ?_ _)); exact BK151.out⟩, ⟨by repeat (first | (with_reducible first | exact HB.out | apply below_alloc | apply pw_below_drewN | apply below_drew1 | refine below_set ?_ GE150.out | refine below_set ?_ GE151.out) | exact HB.out)⟩⟩
          · replace c14 := Bool.eq_false_iff.mpr c14
            subst c14
            have H1 : (lookasideref09_Judge.j1 kj2 false a0_0 a0_1 a0_2 a0_3 a0_4 false a1_0 a1_1 a1_2) = some r := by rw [if_neg (show ¬ (false = true) by decide)] at H; exact H
            clear H
            have H := H1
            clear H1
            have H' := Aside0.mk H
            clear H
            have hnb18 := NB150_151.out
            have hnc18 := NB151_150.out
            have hcz19_0 : wc.cell? ⟨gb150, 0, none⟩ = some (.bool a0_0) := (blk_cell BK150.out 0).trans rfl
            have hcz19_1 : wc.cell? ⟨gb150, 1, none⟩ = some (.bool a0_1) := (blk_cell BK150.out 1).trans rfl
            have hcz19_2 : wc.cell? ⟨gb150, 2, none⟩ = some (.bool a0_2) := (blk_cell BK150.out 2).trans rfl
            have hcz19_3 : wc.cell? ⟨gb150, 3, none⟩ = some (.bool a0_3) := (blk_cell BK150.out 3).trans rfl
            have hcz19_4 : wc.cell? ⟨gb150, 4, none⟩ = some (.bool a0_4) := (blk_cell BK150.out 4).trans rfl
            have hcz19_5 : wc.cell? ⟨gb150, 5, none⟩ = some (.bool false) := (blk_cell BK150.out 5).trans rfl
            have hfz19_0 := blk_frozen BK150.out 0
            have hfz19_1 := blk_frozen BK150.out 1
            have hfz19_2 := blk_frozen BK150.out 2
            have hfz19_3 := blk_frozen BK150.out 3
            have hfz19_4 := blk_frozen BK150.out 4
            have hfz19_5 := blk_frozen BK150.out 5
            go_wp2
            go_meet
            case rel => exact ⟨_, (false), (by first | rfl | (simp; done) | (simp [*]; done)), H', ⟨by have := HJ2.out; first | omega | exact Nat.le_refl _⟩, ⟨by (with_reducible repeat (first | refine blk_drewN ?_ _ | refine blk_drew ?_ | refine blk_alloc ?_ _)); exact BK150.out⟩, ⟨by (with_reducible repeat (first | refine blk_drewN ?_ _ | refine blk_drew ?_ | refine blk_alloc ?_ _)); exact BK151.out⟩, ⟨by repeat (first | (with_reducible first | exact HB.out | apply below_alloc | apply pw_below_drewN | apply below_drew1 | refine below_set ?_ GE150.out | refine below_set ?_ GE151.out) | exact HB.out)⟩⟩
        case rest =>
          clear HC13
          try clear c1
          try clear p2
          try clear c3
          try clear c6
          try clear c7
          try clear c10
          try clear c12
          try clear c14
          try clear c15
          try clear c18
          try clear hcz11_0
          try clear hcz11_1
          try clear hcz11_2
          try clear hcz11_3
          try clear hcz11_4
          try clear hcz11_5
          try clear hcz16_0
          try clear hcz16_1
          try clear hcz16_2
          try clear hcz16_3
          try clear hcz16_4
          try clear hcz16_5
          try clear hcz17_0
          try clear hcz17_1
          try clear hcz17_2
          try clear hcz19_0
          try clear hcz19_1
          try clear hcz19_2
          try clear hcz19_3
          try clear hcz19_4
          try clear hcz19_5
          try clear hcz8_0
          try clear hcz8_1
          try clear hcz8_2
          try clear hcz8_3
          try clear hcz8_4
          try clear hcz8_5
          try clear hcz9_0
          try clear hcz9_1
          try clear hcz9_2
          try clear hfz11_0
          try clear hfz11_1
          try clear hfz11_2
          try clear hfz11_3
          try clear hfz11_4
          try clear hfz11_5
          try clear hfz16_0
          try clear hfz16_1
          try clear hfz16_2
          try clear hfz16_3
          try clear hfz16_4
          try clear hfz16_5
          try clear hfz17_0
          try clear hfz17_1
          try clear hfz17_2
          try clear hfz19_0
          try clear hfz19_1
          try clear hfz19_2
          try clear hfz19_3
          try clear hfz19_4
          try clear hfz19_5
          try clear hfz8_0
          try clear hfz8_1
          try clear hfz8_2
          try clear hfz8_3
          try clear hfz8_4
          try clear hfz8_5
          try clear hfz9_0
          try clear hfz9_1
          try clear hfz9_2
          try clear p2
          obtain ⟨kq, x18_12, rfl, HA, HJ12, BK150, BK151, HB⟩ := hcut
          cases kq with
          | zero => exact absurd HA.out (by simp [lookasideref09_Judge.j1])
          | succ kj12 =>
            have H := HA.out
            clear HA
            simp only [lookasideref09_Judge.j1] at H
            by_cases c20 : x18_12 = true
            · subst c20
              have H1 : (some 4) = some r := by rw [if_pos rfl] at H; exact H
              clear H
              have H := H1
              clear H1
              obtain rfl := Option.some.inj H
              go_wp2
              go_ret
              exact ⟨by first | rfl | (simp [errW_none, errW_some] <;> rfl) | (simp [*, errW_none, errW_some] <;> rfl), by repeat (first | (with_reducible first | exact HB.out | apply below_alloc | apply pw_below_drewN | apply below_drew1 | refine below_set ?_ GE150.out | refine below_set ?_ GE151.out) | exact HB.out)⟩
            · replace c20 := Bool.eq_false_iff.mpr c20
              subst c20
              have H1 : (if a1_0 = 1 then (lookasideref09_Judge.j2 kj12 (!a0_0) a0_0 a0_1 a0_2 a0_3 a0_4 a0_5 a1_0 a1_1 a1_2) else (lookasideref09_Judge.j2 kj12 false a0_0 a0_1 a0_2 a0_3 a0_4 a0_5 a1_0 a1_1 a1_2)) = some r := by rw [if_neg (show ¬ (false = true) by decide)] at H; exact H
              clear H
              have H := H1
              clear H1
              have HC21 := Aside0.mk H
              clear H
              go_upto_region 5 with (fail)
              go_cut [26] (fun v26 wc => ∃ (kq : Nat) (x26_20 : Bool), v26 = .bool x26_20 ∧ Aside0 (lookasideref09_Judge.j2 kq x26_20 a0_0 a0_1 a0_2 a0_3 a0_4 a0_5 a1_0 a1_1 a1_2 = some r) ∧ Aside0 (kq ≤ kj12) ∧ Aside0 (wc.heap[gb150]? = some (.cells #[.bool a0_0, .bool a0_1, .bool a0_2, .bool a0_3, .bool a0_4, .bool a0_5] 24 (0, 0))) ∧ Aside0 (wc.heap[gb151]? = some (.cells #[.int .i64 a1_0, .bool a1_1, .int .u64 a1_2] 61 (0, 0))) ∧ Aside0 (Below w.heap.size w wc))
              case first =>
                have H := HC21.out
                clear HC21
                by_cases c22 : a1_0 = 1
                · rw [if_pos c22] at H
                  have c22b0 : (a1_0 == 1) = true := beq_iff_eq.mpr c22
                  have c22b1 : (a1_0 != 1) = false := bne_eq_false_iff_eq.mpr c22
                  clear c22
                  (first | rw [c22b0] | (simp only [i64_w, i32_w]; rw [c22b0]) | skip)
                  have H' := Aside0.mk H
                  clear H
                  have hnb23 := NB151_150.out
                  have hnc23 := NB150_151.out
                  have hcz24_0 : wc.cell? ⟨gb151, 0, none⟩ = some (.int .i64 a1_0) := (blk_cell BK151.out 0).trans rfl
                  have hcz24_1 : wc.cell? ⟨gb151, 1, none⟩ = some (.bool a1_1) := (blk_cell BK151.out 1).trans rfl
                  have hcz24_2 : wc.cell? ⟨gb151, 2, none⟩ = some (.int .u64 a1_2) := (blk_cell BK151.out 2).trans rfl
                  have hfz24_0 := blk_frozen BK151.out 0
                  have hfz24_1 := blk_frozen BK151.out 1
                  have hfz24_2 := blk_frozen BK151.out 2
                  have hcz25_0 : wc.cell? ⟨gb150, 0, none⟩ = some (.bool a0_0) := (blk_cell BK150.out 0).trans rfl
                  have hcz25_1 : wc.cell? ⟨gb150, 1, none⟩ = some (.bool a0_1) := (blk_cell BK150.out 1).trans rfl
                  have hcz25_2 : wc.cell? ⟨gb150, 2, none⟩ = some (.bool a0_2) := (blk_cell BK150.out 2).trans rfl
                  have hcz25_3 : wc.cell? ⟨gb150, 3, none⟩ = some (.bool a0_3) := (blk_cell BK150.out 3).trans rfl
                  have hcz25_4 : wc.cell? ⟨gb150, 4, none⟩ = some (.bool a0_4) := (blk_cell BK150.out 4).trans rfl
                  have hcz25_5 : wc.cell? ⟨gb150, 5, none⟩ = some (.bool a0_5) := (blk_cell BK150.out 5).trans rfl
                  have hfz25_0 := blk_frozen BK150.out 0
                  have hfz25_1 := blk_frozen BK150.out 1
                  have hfz25_2 := blk_frozen BK150.out 2
                  have hfz25_3 := blk_frozen BK150.out 3
                  have hfz25_4 := blk_frozen BK150.out 4
                  have hfz25_5 := blk_frozen BK150.out 5
                  go_wp2
                  go_meet
                  case rel => exact ⟨_, (!a0_0), (by first | rfl | (simp; done) | (simp [*]; done)), H', ⟨by have := HJ2.out; have := HJ12.out; first | omega | exact Nat.le_refl _⟩, ⟨by (with_reducible repeat (first | refine blk_drewN ?_ _ | refine blk_drew ?_ | refine blk_alloc ?_ _)); exact BK150.out⟩, ⟨by (with_reducible repeat (first | refine blk_drewN ?_ _ | refine blk_drew ?_ | refine blk_alloc ?_ _)); exact BK151.out⟩, ⟨by repeat (first | (with_reducible first | exact HB.out | apply below_alloc | apply pw_below_drewN | apply below_drew1 | refine below_set ?_ GE150.out | refine below_set ?_ GE151.out) | exact HB.out)⟩⟩
                · rw [if_neg c22] at H
                  have c22b0 : (a1_0 == 1) = false := beq_eq_false_iff_ne.mpr c22
                  have c22b1 : (a1_0 != 1) = true := bne_iff_ne.mpr c22
                  (first | rw [c22b0] | (simp only [i64_w, i32_w]; rw [c22b0]) | skip)
                  have H' := Aside0.mk H
                  clear H
                  have hnb26 := NB151_150.out
                  have hnc26 := NB150_151.out
                  have hcz27_0 : wc.cell? ⟨gb151, 0, none⟩ = some (.int .i64 a1_0) := (blk_cell BK151.out 0).trans rfl
                  have hcz27_1 : wc.cell? ⟨gb151, 1, none⟩ = some (.bool a1_1) := (blk_cell BK151.out 1).trans rfl
                  have hcz27_2 : wc.cell? ⟨gb151, 2, none⟩ = some (.int .u64 a1_2) := (blk_cell BK151.out 2).trans rfl
                  have hfz27_0 := blk_frozen BK151.out 0
                  have hfz27_1 := blk_frozen BK151.out 1
                  have hfz27_2 := blk_frozen BK151.out 2
                  go_wp2
                  go_meet
                  case rel => exact ⟨_, (false), (by first | rfl | (simp; done) | (simp [*]; done)), H', ⟨by have := HJ2.out; have := HJ12.out; first | omega | exact Nat.le_refl _⟩, ⟨by (with_reducible repeat (first | refine blk_drewN ?_ _ | refine blk_drew ?_ | refine blk_alloc ?_ _)); exact BK150.out⟩, ⟨by (with_reducible repeat (first | refine blk_drewN ?_ _ | refine blk_drew ?_ | refine blk_alloc ?_ _)); exact BK151.out⟩, ⟨by repeat (first | (with_reducible first | exact HB.out | apply below_alloc | apply pw_below_drewN | apply below_drew1 | refine below_set ?_ GE150.out | refine below_set ?_ GE151.out) | exact HB.out)⟩⟩
              case rest =>
                clear HC21
                try clear c1
                try clear c2
                try clear p2
                try clear c3
                try clear c6
                try clear c7
                try clear c10
                try clear c12
                try clear c14
                try clear c15
                try clear c18
                try clear c20
                try clear c22
                try clear c22b0
                try clear c22b1
                try clear c23
                try clear c26
                try clear hcz11_0
                try clear hcz11_1
                try clear hcz11_2
                try clear hcz11_3
                try clear hcz11_4
                try clear hcz11_5
                try clear hcz16_0
                try clear hcz16_1
                try clear hcz16_2
                try clear hcz16_3
                try clear hcz16_4
                try clear hcz16_5
                try clear hcz17_0
                try clear hcz17_1
                try clear hcz17_2
                try clear hcz19_0
                try clear hcz19_1
                try clear hcz19_2
                try clear hcz19_3
                try clear hcz19_4
                try clear hcz19_5
                try clear hcz24_0
                try clear hcz24_1
                try clear hcz24_2
                try clear hcz25_0
                try clear hcz25_1
                try clear hcz25_2
                try clear hcz25_3
                try clear hcz25_4
                try clear hcz25_5
                try clear hcz27_0
                try clear hcz27_1
                try clear hcz27_2
                try clear hcz8_0
                try clear hcz8_1
                try clear hcz8_2
                try clear hcz8_3
                try clear hcz8_4
                try clear hcz8_5
                try clear hcz9_0
                try clear hcz9_1
                try clear hcz9_2
                try clear hfz11_0
                try clear hfz11_1
                try clear hfz11_2
                try clear hfz11_3
                try clear hfz11_4
                try clear hfz11_5
                try clear hfz16_0
                try clear hfz16_1
                try clear hfz16_2
                try clear hfz16_3
                try clear hfz16_4
                try clear hfz16_5
                try clear hfz17_0
                try clear hfz17_1
                try clear hfz17_2
                try clear hfz19_0
                try clear hfz19_1
                try clear hfz19_2
                try clear hfz19_3
                try clear hfz19_4
                try clear hfz19_5
                try clear hfz24_0
                try clear hfz24_1
                try clear hfz24_2
                try clear hfz25_0
                try clear hfz25_1
                try clear hfz25_2
                try clear hfz25_3
                try clear hfz25_4
                try clear hfz25_5
                try clear hfz27_0
                try clear hfz27_1
                try clear hfz27_2
                try clear hfz8_0
                try clear hfz8_1
                try clear hfz8_2
                try clear hfz8_3
                try clear hfz8_4
                try clear hfz8_5
                try clear hfz9_0
                try clear hfz9_1
                try clear hfz9_2
                try clear p2
                obtain ⟨kq, x26_20, rfl, HA, HJ20, BK150, BK151, HB⟩ := hcut
                cases kq with
                | zero => exact absurd HA.out (by simp [lookasideref09_Judge.j2])
                | succ kj20 =>
                  have H := HA.out
                  clear HA
                  simp only [lookasideref09_Judge.j2] at H
                  by_cases c28 : x26_20 = true
                  · subst c28
                    have H1 : (some 5) = some r := by rw [if_pos rfl] at H; exact H
                    clear H
                    have H := H1
                    clear H1
                    obtain rfl := Option.some.inj H
                    go_wp2
                    go_ret
                    exact ⟨by first | rfl | (simp [errW_none, errW_some] <;> rfl) | (simp [*, errW_none, errW_some] <;> rfl), by repeat (first | (with_reducible first | exact HB.out | apply below_alloc | apply pw_below_drewN | apply below_drew1 | refine below_set ?_ GE150.out | refine below_set ?_ GE151.out) | exact HB.out)⟩
                  · replace c28 := Bool.eq_false_iff.mpr c28
                    subst c28
                    have H1 : (if a1_0 = 2 then (if a0_2 = true then (some 0) else (some 6)) else (some 0)) = some r := by rw [if_neg (show ¬ (false = true) by decide)] at H; exact H
                    clear H
                    have H := H1
                    clear H1
                    by_cases c29 : a1_0 = 2
                    · rw [if_pos c29] at H
                      have c29b0 : (a1_0 == 2) = true := beq_iff_eq.mpr c29
                      have c29b1 : (a1_0 != 2) = false := bne_eq_false_iff_eq.mpr c29
                      clear c29
                      by_cases c30 : a0_2 = true
                      · subst c30
                        have H1 : (some 0) = some r := by rw [if_pos rfl] at H; exact H
                        clear H
                        have H := H1
                        clear H1
                        obtain rfl := Option.some.inj H
                        have hnb31 := NB151_150.out
                        have hnc31 := NB150_151.out
                        have hcz32_0 : wc.cell? ⟨gb151, 0, none⟩ = some (.int .i64 a1_0) := (blk_cell BK151.out 0).trans rfl
                        have hcz32_1 : wc.cell? ⟨gb151, 1, none⟩ = some (.bool a1_1) := (blk_cell BK151.out 1).trans rfl
                        have hcz32_2 : wc.cell? ⟨gb151, 2, none⟩ = some (.int .u64 a1_2) := (blk_cell BK151.out 2).trans rfl
                        have hfz32_0 := blk_frozen BK151.out 0
                        have hfz32_1 := blk_frozen BK151.out 1
                        have hfz32_2 := blk_frozen BK151.out 2
                        have hcz33_0 : wc.cell? ⟨gb150, 0, none⟩ = some (.bool a0_0) := (blk_cell BK150.out 0).trans rfl
                        have hcz33_1 : wc.cell? ⟨gb150, 1, none⟩ = some (.bool a0_1) := (blk_cell BK150.out 1).trans rfl
                        have hcz33_2 : wc.cell? ⟨gb150, 2, none⟩ = some (.bool true) := (blk_cell BK150.out 2).trans rfl
                        have hcz33_3 : wc.cell? ⟨gb150, 3, none⟩ = some (.bool a0_3) := (blk_cell BK150.out 3).trans rfl
                        have hcz33_4 : wc.cell? ⟨gb150, 4, none⟩ = some (.bool a0_4) := (blk_cell BK150.out 4).trans rfl
                        have hcz33_5 : wc.cell? ⟨gb150, 5, none⟩ = some (.bool a0_5) := (blk_cell BK150.out 5).trans rfl
                        have hfz33_0 := blk_frozen BK150.out 0
                        have hfz33_1 := blk_frozen BK150.out 1
                        have hfz33_2 := blk_frozen BK150.out 2
                        have hfz33_3 := blk_frozen BK150.out 3
                        have hfz33_4 := blk_frozen BK150.out 4
                        have hfz33_5 := blk_frozen BK150.out 5
                        go_wp2
                        go_ret
                        exact ⟨by first | rfl | (simp [errW_none, errW_some] <;> rfl) | (simp [*, errW_none, errW_some] <;> rfl), by repeat (first | (with_reducible first | exact HB.out | apply below_alloc | apply pw_below_drewN | apply below_drew1 | refine below_set ?_ GE150.out | refine below_set ?_ GE151.out) | exact HB.out)⟩
                      · replace c30 := Bool.eq_false_iff.mpr c30
                        subst c30
                        have H1 : (some 6) = some r := by rw [if_neg (show ¬ (false = true) by decide)] at H; exact H
                        clear H
                        have H := H1
                        clear H1
                        obtain rfl := Option.some.inj H
                        have hnb34 := NB151_150.out
                        have hnc34 := NB150_151.out
                        have hcz35_0 : wc.cell? ⟨gb151, 0, none⟩ = some (.int .i64 a1_0) := (blk_cell BK151.out 0).trans rfl
                        have hcz35_1 : wc.cell? ⟨gb151, 1, none⟩ = some (.bool a1_1) := (blk_cell BK151.out 1).trans rfl
                        have hcz35_2 : wc.cell? ⟨gb151, 2, none⟩ = some (.int .u64 a1_2) := (blk_cell BK151.out 2).trans rfl
                        have hfz35_0 := blk_frozen BK151.out 0
                        have hfz35_1 := blk_frozen BK151.out 1
                        have hfz35_2 := blk_frozen BK151.out 2
                        have hcz36_0 : wc.cell? ⟨gb150, 0, none⟩ = some (.bool a0_0) := (blk_cell BK150.out 0).trans rfl
                        have hcz36_1 : wc.cell? ⟨gb150, 1, none⟩ = some (.bool a0_1) := (blk_cell BK150.out 1).trans rfl
                        have hcz36_2 : wc.cell? ⟨gb150, 2, none⟩ = some (.bool false) := (blk_cell BK150.out 2).trans rfl
                        have hcz36_3 : wc.cell? ⟨gb150, 3, none⟩ = some (.bool a0_3) := (blk_cell BK150.out 3).trans rfl
                        have hcz36_4 : wc.cell? ⟨gb150, 4, none⟩ = some (.bool a0_4) := (blk_cell BK150.out 4).trans rfl
                        have hcz36_5 : wc.cell? ⟨gb150, 5, none⟩ = some (.bool a0_5) := (blk_cell BK150.out 5).trans rfl
                        have hfz36_0 := blk_frozen BK150.out 0
                        have hfz36_1 := blk_frozen BK150.out 1
                        have hfz36_2 := blk_frozen BK150.out 2
                        have hfz36_3 := blk_frozen BK150.out 3
                        have hfz36_4 := blk_frozen BK150.out 4
                        have hfz36_5 := blk_frozen BK150.out 5
                        go_wp2
                        go_ret
                        exact ⟨by first | rfl | (simp [errW_none, errW_some] <;> rfl) | (simp [*, errW_none, errW_some] <;> rfl), by repeat (first | (with_reducible first | exact HB.out | apply below_alloc | apply pw_below_drewN | apply below_drew1 | refine below_set ?_ GE150.out | refine below_set ?_ GE151.out) | exact HB.out)⟩
                    · rw [if_neg c29] at H
                      have c29b0 : (a1_0 == 2) = false := beq_eq_false_iff_ne.mpr c29
                      have c29b1 : (a1_0 != 2) = true := bne_iff_ne.mpr c29
                      obtain rfl := Option.some.inj H
                      have hnb37 := NB151_150.out
                      have hnc37 := NB150_151.out
                      have hcz38_0 : wc.cell? ⟨gb151, 0, none⟩ = some (.int .i64 a1_0) := (blk_cell BK151.out 0).trans rfl
                      have hcz38_1 : wc.cell? ⟨gb151, 1, none⟩ = some (.bool a1_1) := (blk_cell BK151.out 1).trans rfl
                      have hcz38_2 : wc.cell? ⟨gb151, 2, none⟩ = some (.int .u64 a1_2) := (blk_cell BK151.out 2).trans rfl
                      have hfz38_0 := blk_frozen BK151.out 0
                      have hfz38_1 := blk_frozen BK151.out 1
                      have hfz38_2 := blk_frozen BK151.out 2
                      go_wp2
                      go_ret
                      exact ⟨by first | rfl | (simp [errW_none, errW_some] <;> rfl) | (simp [*, errW_none, errW_some] <;> rfl), by repeat (first | (with_reducible first | exact HB.out | apply below_alloc | apply pw_below_drewN | apply below_drew1 | refine below_set ?_ GE150.out | refine below_set ?_ GE151.out) | exact HB.out)⟩

-- NOT PRINTED: function 38 (lookasidelaw17_lives)

-- NOT PRINTED: function 10 (lookasidelaw17_CpuLooks)
end Go.Proofs.Ythclbckkfgmbaaa.QTlbPlays
