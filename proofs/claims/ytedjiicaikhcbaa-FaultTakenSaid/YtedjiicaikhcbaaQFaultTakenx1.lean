-- Printed by a program of this session (wip/print/myprint.py) out of the translation; Lean checks it.
import Derived.Test.YtedjiicaikhcbaaQFaultTakenx0
namespace Go.Proofs.Ytedjiicaikhcbaa.QFaultTaken
open Go.RowKit Go.Proofs.YtedjiicaikhcbaaW.PrintWords Go.Proofs.YtedjiicaikhcbaaW.PrintLast Go.Proofs.YtedjiicaikhcbaaW.PrintMore
attribute [local go_sem] max2_int min2_int max_two min_two max_three min_three max_four min_four   -- for this text's walks alone
set_option linter.unusedVariables false
set_option linter.unusedSimpArgs false

/-! ### fault_Judge: function 42 -/
mutual
def fault_Judge.j0 : Nat → Bool → Bool → Bool → Bool → Bool → Bool → Bool → Int → Bool → Int → Option (Int)
  | 0, _, _, _, _, _, _, _, _, _, _ => none
  | k + 1, x5, x102000, x102001, x102002, x102003, x102004, x102005, x103000, x103001, x103002 => if x5 = true then (some 3) else (if x102005 = true then (fault_Judge.j1 k (x103000 != 3) x102000 x102001 x102002 x102003 x102004 x102005 x103000 x103001 x103002) else (fault_Judge.j1 k false x102000 x102001 x102002 x102003 x102004 x102005 x103000 x103001 x103002))
def fault_Judge.j1 : Nat → Bool → Bool → Bool → Bool → Bool → Bool → Bool → Int → Bool → Int → Option (Int)
  | 0, _, _, _, _, _, _, _, _, _, _ => none
  | k + 1, x13, x102000, x102001, x102002, x102003, x102004, x102005, x103000, x103001, x103002 => if x13 = true then (some 4) else (if x103000 = 1 then (fault_Judge.j2 k (!x102000) x102000 x102001 x102002 x102003 x102004 x102005 x103000 x103001 x103002) else (fault_Judge.j2 k false x102000 x102001 x102002 x102003 x102004 x102005 x103000 x103001 x103002))
def fault_Judge.j2 : Nat → Bool → Bool → Bool → Bool → Bool → Bool → Bool → Int → Bool → Int → Option (Int)
  | 0, _, _, _, _, _, _, _, _, _, _ => none
  | k + 1, x21, x102000, x102001, x102002, x102003, x102004, x102005, x103000, x103001, x103002 => if x21 = true then (some 5) else (if x103000 = 2 then (if x102002 = true then (some 0) else (some 6)) else (some 0))
end
def fault_Judge.f (k : Nat) (a0_0 : Bool) (a0_1 : Bool) (a0_2 : Bool) (a0_3 : Bool) (a0_4 : Bool) (a0_5 : Bool) (a1_0 : Int) (a1_1 : Bool) (a1_2 : Int) : Option (Int) := if a0_1 = true then (fault_Judge.j0 k (!a1_1) a0_0 a0_1 a0_2 a0_3 a0_4 a0_5 a1_0 a1_1 a1_2) else (fault_Judge.j0 k false a0_0 a0_1 a0_2 a0_3 a0_4 a0_5 a1_0 a1_1 a1_2)
theorem fault_Judge.mono_l : ∀ k, (∀ y0 y1 y2 y3 y4 y5 y6 y7 y8 y9, LeO (fault_Judge.j0 k y0 y1 y2 y3 y4 y5 y6 y7 y8 y9) (fault_Judge.j0 (k + 1) y0 y1 y2 y3 y4 y5 y6 y7 y8 y9)) ∧ (∀ y0 y1 y2 y3 y4 y5 y6 y7 y8 y9, LeO (fault_Judge.j1 k y0 y1 y2 y3 y4 y5 y6 y7 y8 y9) (fault_Judge.j1 (k + 1) y0 y1 y2 y3 y4 y5 y6 y7 y8 y9)) ∧ (∀ y0 y1 y2 y3 y4 y5 y6 y7 y8 y9, LeO (fault_Judge.j2 k y0 y1 y2 y3 y4 y5 y6 y7 y8 y9) (fault_Judge.j2 (k + 1) y0 y1 y2 y3 y4 y5 y6 y7 y8 y9))
  | 0 => ⟨fun _ _ _ _ _ _ _ _ _ _ r h => by simp [fault_Judge.j0] at h, fun _ _ _ _ _ _ _ _ _ _ r h => by simp [fault_Judge.j1] at h, fun _ _ _ _ _ _ _ _ _ _ r h => by simp [fault_Judge.j2] at h⟩
  | k + 1 => by
    obtain ⟨ih0, ih1, ih2⟩ := fault_Judge.mono_l k
    refine ⟨?_, ?_, ?_⟩
    · intro y0 y1 y2 y3 y4 y5 y6 y7 y8 y9
      unfold fault_Judge.j0
      repeat' first
      | (with_reducible exact ih0 _ _ _ _ _ _ _ _ _ _)
      | (with_reducible exact ih1 _ _ _ _ _ _ _ _ _ _)
      | (with_reducible exact ih2 _ _ _ _ _ _ _ _ _ _)
      | (with_reducible exact LeO.refl _)
      | (with_reducible exact LeO.none _)
      | (with_reducible refine LeO.ite ?_ ?_)
      | (with_reducible refine LeO.bind ?_ (fun _ => ?_))
      | exact ih0 _ _ _ _ _ _ _ _ _ _
      | exact ih1 _ _ _ _ _ _ _ _ _ _
      | exact ih2 _ _ _ _ _ _ _ _ _ _
      | exact LeO.none _
      | refine LeO.ite ?_ ?_
      | refine LeO.bind ?_ (fun _ => ?_)
    · intro y0 y1 y2 y3 y4 y5 y6 y7 y8 y9
      unfold fault_Judge.j1
      repeat' first
      | (with_reducible exact ih0 _ _ _ _ _ _ _ _ _ _)
      | (with_reducible exact ih1 _ _ _ _ _ _ _ _ _ _)
      | (with_reducible exact ih2 _ _ _ _ _ _ _ _ _ _)
      | (with_reducible exact LeO.refl _)
      | (with_reducible exact LeO.none _)
      | (with_reducible refine LeO.ite ?_ ?_)
      | (with_reducible refine LeO.bind ?_ (fun _ => ?_))
      | exact ih0 _ _ _ _ _ _ _ _ _ _
      | exact ih1 _ _ _ _ _ _ _ _ _ _
      | exact ih2 _ _ _ _ _ _ _ _ _ _
      | exact LeO.none _
      | refine LeO.ite ?_ ?_
      | refine LeO.bind ?_ (fun _ => ?_)
    · intro y0 y1 y2 y3 y4 y5 y6 y7 y8 y9
      unfold fault_Judge.j2
      repeat' first
      | (with_reducible exact ih0 _ _ _ _ _ _ _ _ _ _)
      | (with_reducible exact ih1 _ _ _ _ _ _ _ _ _ _)
      | (with_reducible exact ih2 _ _ _ _ _ _ _ _ _ _)
      | (with_reducible exact LeO.refl _)
      | (with_reducible exact LeO.none _)
      | (with_reducible refine LeO.ite ?_ ?_)
      | (with_reducible refine LeO.bind ?_ (fun _ => ?_))
      | exact ih0 _ _ _ _ _ _ _ _ _ _
      | exact ih1 _ _ _ _ _ _ _ _ _ _
      | exact ih2 _ _ _ _ _ _ _ _ _ _
      | exact LeO.none _
      | refine LeO.ite ?_ ?_
      | refine LeO.bind ?_ (fun _ => ?_)
theorem fault_Judge.mono : ∀ a0 a1 a2 a3 a4 a5 a6 a7 a8 k, LeO (fault_Judge.f k a0 a1 a2 a3 a4 a5 a6 a7 a8) (fault_Judge.f (k + 1) a0 a1 a2 a3 a4 a5 a6 a7 a8) := by
  intro a0 a1 a2 a3 a4 a5 a6 a7 a8 k
  obtain ⟨ih0, ih1, ih2⟩ := fault_Judge.mono_l k
  unfold fault_Judge.f
  repeat' first
      | (with_reducible exact ih0 _ _ _ _ _ _ _ _ _ _)
      | (with_reducible exact ih1 _ _ _ _ _ _ _ _ _ _)
      | (with_reducible exact ih2 _ _ _ _ _ _ _ _ _ _)
      | (with_reducible exact LeO.refl _)
      | (with_reducible exact LeO.none _)
      | (with_reducible refine LeO.ite ?_ ?_)
      | (with_reducible refine LeO.bind ?_ (fun _ => ?_))
      | exact ih0 _ _ _ _ _ _ _ _ _ _
      | exact ih1 _ _ _ _ _ _ _ _ _ _
      | exact ih2 _ _ _ _ _ _ _ _ _ _
      | exact LeO.none _
      | refine LeO.ite ?_ ?_
      | refine LeO.bind ?_ (fun _ => ?_)
set_option maxHeartbeats 8000000 in
set_option maxRecDepth 100000 in
theorem fault_Judge.calls (k : Nat) (a0_0 : Bool) (a0_1 : Bool) (a0_2 : Bool) (a0_3 : Bool) (a0_4 : Bool) (a0_5 : Bool) (a1_0 : Int) (a1_1 : Bool) (a1_2 : Int) (r : Int) (w : World) (h : fault_Judge.f k a0_0 a0_1 a0_2 a0_3 a0_4 a0_5 a1_0 a1_1 a1_2 = some r) :
    Calls Try.prog 42 #[.agg #[.bool a0_0, .bool a0_1, .bool a0_2, .bool a0_3, .bool a0_4, .bool a0_5], .agg #[.int .i64 a1_0, .bool a1_1, .int .u64 a1_2]] w fun e w' => e = .returned (.int .i64 r) ∧ Below w.heap.size w w' := by
  have hu41 := Try.underlying41
  have hu43 := Try.underlying43
  have HB := Aside0.mk (Below.refl w.heap.size w)
  have H : (if a0_1 = true then (fault_Judge.j0 k (!a1_1) a0_0 a0_1 a0_2 a0_3 a0_4 a0_5 a1_0 a1_1 a1_2) else (fault_Judge.j0 k false a0_0 a0_1 a0_2 a0_3 a0_4 a0_5 a1_0 a1_1 a1_2)) = some r := h
  clear h
  have HC3 := Aside0.mk H
  clear H
  go_enter Try.func42, Try.ntmps42
  go_upto_region 1 with (first | ((with_reducible refine gate_dst (N := 2) rfl ?_); refine box_event ?hg (N := 2) ?hd (cs := #[.bool a0_0, .bool a0_1, .bool a0_2, .bool a0_3, .bool a0_4, .bool a0_5]) (t := 41) ?hr ?_; (case hd => rfl); (case hg => rfl); (case hr => first | (go_simp; done) | (go_simp; rfl)); intro gb101 hg w4 hbox hb; have n0_ := Aside0.mk (below_step (by repeat (first | (with_reducible first | exact HB.out | apply below_alloc | apply pw_below_drewN | apply below_drew1) | exact HB.out)) hb); have n1_ := Aside0.mk (hbox); have n2_ := Aside0.mk ((by rw [hg]; exact (below_size (by repeat (first | (with_reducible first | exact HB.out | apply below_alloc | apply pw_below_drewN | apply below_drew1) | exact HB.out))) : w.heap.size ≤ gb101)); have n3_ := Aside0.mk ((by rw [hg]; exact (below_size (by repeat (first | (with_reducible first | exact HB.out | apply below_alloc | apply pw_below_drewN | apply below_drew1) | exact HB.out))) : w.heap.size ≤ gb101)); clear HB; have HB := n0_; have BK101 := n1_; have GW101 := n2_; have GE101 := n3_; clear n0_ n1_ n2_ n3_; clear hb hbox hg) | ((with_reducible refine gate_dst (N := 3) rfl ?_); refine box_event ?hg (N := 3) ?hd (cs := #[.int .i64 a1_0, .bool a1_1, .int .u64 a1_2]) (t := 43) ?hr ?_; (case hd => rfl); (case hg => rfl); (case hr => first | (go_simp; done) | (go_simp; rfl)); intro gb102 hg w5 hbox hb; have n0_ := Aside0.mk (blk_below (g := gb101) (o := .cells #[.bool a0_0, .bool a0_1, .bool a0_2, .bool a0_3, .bool a0_4, .bool a0_5] 41 (0, 0)) (by (with_reducible repeat (first | refine blk_drewN ?_ _ | refine blk_drew ?_ | refine blk_alloc ?_ _)); exact BK101.out) hb); have n1_ := Aside0.mk (below_step (by repeat (first | (with_reducible first | exact HB.out | apply below_alloc | apply pw_below_drewN | apply below_drew1 | refine below_set ?_ GE101.out) | exact HB.out)) hb); have n2_ := Aside0.mk (hbox); have n3_ := Aside0.mk ((by rw [hg]; exact (below_size (by repeat (first | (with_reducible first | exact HB.out | apply below_alloc | apply pw_below_drewN | apply below_drew1 | refine below_set ?_ GE101.out) | exact HB.out))) : w.heap.size ≤ gb102)); have n4_ := Aside0.mk ((by rw [hg]; exact (below_size (by repeat (first | (with_reducible first | exact HB.out | apply below_alloc | apply pw_below_drewN | apply below_drew1 | refine below_set ?_ GE101.out) | exact HB.out))) : w.heap.size ≤ gb102)); have n5_ := Aside0.mk ((by rw [hg]; exact Nat.ne_of_lt (blk_lt (g := gb101) (o := .cells #[.bool a0_0, .bool a0_1, .bool a0_2, .bool a0_3, .bool a0_4, .bool a0_5] 41 (0, 0)) (by (with_reducible repeat (first | refine blk_drewN ?_ _ | refine blk_drew ?_ | refine blk_alloc ?_ _)); exact BK101.out)) : gb101 ≠ gb102)); have n6_ := Aside0.mk ((by rw [hg]; exact Nat.ne_of_gt (blk_lt (g := gb101) (o := .cells #[.bool a0_0, .bool a0_1, .bool a0_2, .bool a0_3, .bool a0_4, .bool a0_5] 41 (0, 0)) (by (with_reducible repeat (first | refine blk_drewN ?_ _ | refine blk_drew ?_ | refine blk_alloc ?_ _)); exact BK101.out)) : gb102 ≠ gb101)); clear BK101; clear HB; have BK101 := n0_; have HB := n1_; have BK102 := n2_; have GW102 := n3_; have GE102 := n4_; have NB101_102 := n5_; have NB102_101 := n6_; clear n0_ n1_ n2_ n3_ n4_ n5_ n6_; clear hb hbox hg))
  (try simp only [Act.put, List.setIfInBounds_toArray, List.set_cons_zero, List.set_cons_succ])
  go_cut [5] (fun v5 wc => ∃ (kq : Nat) (x5_2 : Bool), v5 = .bool x5_2 ∧ Aside0 (fault_Judge.j0 kq x5_2 a0_0 a0_1 a0_2 a0_3 a0_4 a0_5 a1_0 a1_1 a1_2 = some r) ∧ Aside0 (kq ≤ k) ∧ Aside0 (wc.heap[gb101]? = some (.cells #[.bool a0_0, .bool a0_1, .bool a0_2, .bool a0_3, .bool a0_4, .bool a0_5] 41 (0, 0))) ∧ Aside0 (wc.heap[gb102]? = some (.cells #[.int .i64 a1_0, .bool a1_1, .int .u64 a1_2] 43 (0, 0))) ∧ Aside0 (Below w.heap.size w wc))
  case first =>
    have H := HC3.out
    clear HC3
    by_cases c6 : a0_1 = true
    · subst c6
      have H1 : (fault_Judge.j0 k (!a1_1) a0_0 true a0_2 a0_3 a0_4 a0_5 a1_0 a1_1 a1_2) = some r := by rw [if_pos rfl] at H; exact H
      clear H
      have H := H1
      clear H1
      have H' := Aside0.mk H
      clear H
      have hnb7 := NB101_102.out
      have hnc7 := NB102_101.out
      have hcz8_0 : w5.cell? ⟨gb101, 0, none⟩ = some (.bool a0_0) := (blk_cell BK101.out 0).trans rfl
      have hcz8_1 : w5.cell? ⟨gb101, 1, none⟩ = some (.bool true) := (blk_cell BK101.out 1).trans rfl
      have hcz8_2 : w5.cell? ⟨gb101, 2, none⟩ = some (.bool a0_2) := (blk_cell BK101.out 2).trans rfl
      have hcz8_3 : w5.cell? ⟨gb101, 3, none⟩ = some (.bool a0_3) := (blk_cell BK101.out 3).trans rfl
      have hcz8_4 : w5.cell? ⟨gb101, 4, none⟩ = some (.bool a0_4) := (blk_cell BK101.out 4).trans rfl
      have hcz8_5 : w5.cell? ⟨gb101, 5, none⟩ = some (.bool a0_5) := (blk_cell BK101.out 5).trans rfl
      have hfz8_0 := blk_frozen BK101.out 0
      have hfz8_1 := blk_frozen BK101.out 1
      have hfz8_2 := blk_frozen BK101.out 2
      have hfz8_3 := blk_frozen BK101.out 3
      have hfz8_4 := blk_frozen BK101.out 4
      have hfz8_5 := blk_frozen BK101.out 5
      have hcz9_0 : w5.cell? ⟨gb102, 0, none⟩ = some (.int .i64 a1_0) := (blk_cell BK102.out 0).trans rfl
      have hcz9_1 : w5.cell? ⟨gb102, 1, none⟩ = some (.bool a1_1) := (blk_cell BK102.out 1).trans rfl
      have hcz9_2 : w5.cell? ⟨gb102, 2, none⟩ = some (.int .u64 a1_2) := (blk_cell BK102.out 2).trans rfl
      have hfz9_0 := blk_frozen BK102.out 0
      have hfz9_1 := blk_frozen BK102.out 1
      have hfz9_2 := blk_frozen BK102.out 2
      go_wp2
      go_meet
      case rel => exact ⟨_, (!a1_1), (by first | rfl | (simp; done) | (simp [*]; done)), H', ⟨by first | omega | exact Nat.le_refl _⟩, ⟨by (with_reducible repeat (first | refine blk_drewN ?_ _ | refine blk_drew ?_ | refine blk_alloc ?_ _)); exact BK101.out⟩, ⟨by (with_reducible repeat (first | refine blk_drewN ?_ _ | refine blk_drew ?_ | refine blk_alloc ?_ _)); exact BK102.out⟩, ⟨by repeat (first | (with_reducible first | exact HB.out | apply below_alloc | apply pw_below_drewN | apply below_drew1 | refine below_set ?_ GE101.out | refine below_set ?_ GE102.out) | exact HB.out)⟩⟩
    · replace c6 := Bool.eq_false_iff.mpr c6
      subst c6
      have H1 : (fault_Judge.j0 k false a0_0 false a0_2 a0_3 a0_4 a0_5 a1_0 a1_1 a1_2) = some r := by rw [if_neg (show ¬ (false = true) by decide)] at H; exact H
      clear H
      have H := H1
      clear H1
      have H' := Aside0.mk H
      clear H
      have hnb10 := NB101_102.out
      have hnc10 := NB102_101.out
      have hcz11_0 : w5.cell? ⟨gb101, 0, none⟩ = some (.bool a0_0) := (blk_cell BK101.out 0).trans rfl
      have hcz11_1 : w5.cell? ⟨gb101, 1, none⟩ = some (.bool false) := (blk_cell BK101.out 1).trans rfl
      have hcz11_2 : w5.cell? ⟨gb101, 2, none⟩ = some (.bool a0_2) := (blk_cell BK101.out 2).trans rfl
      have hcz11_3 : w5.cell? ⟨gb101, 3, none⟩ = some (.bool a0_3) := (blk_cell BK101.out 3).trans rfl
      have hcz11_4 : w5.cell? ⟨gb101, 4, none⟩ = some (.bool a0_4) := (blk_cell BK101.out 4).trans rfl
      have hcz11_5 : w5.cell? ⟨gb101, 5, none⟩ = some (.bool a0_5) := (blk_cell BK101.out 5).trans rfl
      have hfz11_0 := blk_frozen BK101.out 0
      have hfz11_1 := blk_frozen BK101.out 1
      have hfz11_2 := blk_frozen BK101.out 2
      have hfz11_3 := blk_frozen BK101.out 3
      have hfz11_4 := blk_frozen BK101.out 4
      have hfz11_5 := blk_frozen BK101.out 5
      go_wp2
      go_meet
      case rel => exact ⟨_, (false), (by first | rfl | (simp; done) | (simp [*]; done)), H', ⟨by first | omega | exact Nat.le_refl _⟩, ⟨by (with_reducible repeat (first | refine blk_drewN ?_ _ | refine blk_drew ?_ | refine blk_alloc ?_ _)); exact BK101.out⟩, ⟨by (with_reducible repeat (first | refine blk_drewN ?_ _ | refine blk_drew ?_ | refine blk_alloc ?_ _)); exact BK102.out⟩, ⟨by repeat (first | (with_reducible first | exact HB.out | apply below_alloc | apply pw_below_drewN | apply below_drew1 | refine below_set ?_ GE101.out | refine below_set ?_ GE102.out) | exact HB.out)⟩⟩
  case rest =>
    clear HC3
    try clear c1
    try clear p2
    try clear c4
    try clear c6
    try clear c7
    try clear c10
    try clear hcz11_0
    try clear hcz11_1
    try clear hcz11_2
    try clear hcz11_3
    try clear hcz11_4
    try clear hcz11_5
    try clear hcz8_0
    try clear hcz8_1
    try clear hcz8_2
    try clear hcz8_3
    try clear hcz8_4
    try clear hcz8_5
    try clear hcz9_0
    try clear hcz9_1
    try clear hcz9_2
    try clear hfz11_0
    try clear hfz11_1
    try clear hfz11_2
    try clear hfz11_3
    try clear hfz11_4
    try clear hfz11_5
    try clear hfz8_0
    try clear hfz8_1
    try clear hfz8_2
    try clear hfz8_3
    try clear hfz8_4
    try clear hfz8_5
    try clear hfz9_0
    try clear hfz9_1
    try clear hfz9_2
    obtain ⟨kq, x5_2, rfl, HA, HJ2, BK101, BK102, HB⟩ := hcut
    cases kq with
    | zero => exact absurd HA.out (by simp [fault_Judge.j0])
    | succ kj2 =>
      have H := HA.out
      clear HA
      simp only [fault_Judge.j0] at H
      by_cases c12 : x5_2 = true
      · subst c12
        have H1 : (some 3) = some r := by rw [if_pos rfl] at H; exact H
        clear H
        have H := H1
        clear H1
        obtain rfl := Option.some.inj H
        go_wp2
        go_ret
        exact ⟨by first | rfl | (simp [errW_none, errW_some] <;> rfl) | (simp [*, errW_none, errW_some] <;> rfl), by repeat (first | (with_reducible first | exact HB.out | apply below_alloc | apply pw_below_drewN | apply below_drew1 | refine below_set ?_ GE101.out | refine below_set ?_ GE102.out) | exact HB.out)⟩
      · replace c12 := Bool.eq_false_iff.mpr c12
        subst c12
        have H1 : (if a0_5 = true then (fault_Judge.j1 kj2 (a1_0 != 3) a0_0 a0_1 a0_2 a0_3 a0_4 a0_5 a1_0 a1_1 a1_2) else (fault_Judge.j1 kj2 false a0_0 a0_1 a0_2 a0_3 a0_4 a0_5 a1_0 a1_1 a1_2)) = some r := by rw [if_neg (show ¬ (false = true) by decide)] at H; exact H
        clear H
        have H := H1
        clear H1
        have HC13 := Aside0.mk H
        clear H
        go_upto_region 3 with (fail)
        go_cut [13] (fun v13 wc => ∃ (kq : Nat) (x13_12 : Bool), v13 = .bool x13_12 ∧ Aside0 (fault_Judge.j1 kq x13_12 a0_0 a0_1 a0_2 a0_3 a0_4 a0_5 a1_0 a1_1 a1_2 = some r) ∧ Aside0 (kq ≤ kj2) ∧ Aside0 (wc.heap[gb101]? = some (.cells #[.bool a0_0, .bool a0_1, .bool a0_2, .bool a0_3, .bool a0_4, .bool a0_5] 41 (0, 0))) ∧ Aside0 (wc.heap[gb102]? = some (.cells #[.int .i64 a1_0, .bool a1_1, .int .u64 a1_2] 43 (0, 0))) ∧ Aside0 (Below w.heap.size w wc))
        case first =>
          have H := HC13.out
          clear HC13
          by_cases c14 : a0_5 = true
          · subst c14
            have H1 : (fault_Judge.j1 kj2 (a1_0 != 3) a0_0 a0_1 a0_2 a0_3 a0_4 true a1_0 a1_1 a1_2) = some r := by rw [if_pos rfl] at H; exact H
            clear H
            have H := H1
            clear H1
            have H' := Aside0.mk H
            clear H
            have hnb15 := NB101_102.out
            have hnc15 := NB102_101.out
            have hcz16_0 : wc.cell? ⟨gb101, 0, none⟩ = some (.bool a0_0) := (blk_cell BK101.out 0).trans rfl
            have hcz16_1 : wc.cell? ⟨gb101, 1, none⟩ = some (.bool a0_1) := (blk_cell BK101.out 1).trans rfl
            have hcz16_2 : wc.cell? ⟨gb101, 2, none⟩ = some (.bool a0_2) := (blk_cell BK101.out 2).trans rfl
            have hcz16_3 : wc.cell? ⟨gb101, 3, none⟩ = some (.bool a0_3) := (blk_cell BK101.out 3).trans rfl
            have hcz16_4 : wc.cell? ⟨gb101, 4, none⟩ = some (.bool a0_4) := (blk_cell BK101.out 4).trans rfl
            have hcz16_5 : wc.cell? ⟨gb101, 5, none⟩ = some (.bool true) := (blk_cell BK101.out 5).trans rfl
            have hfz16_0 := blk_frozen BK101.out 0
            have hfz16_1 := blk_frozen BK101.out 1
            have hfz16_2 := blk_frozen BK101.out 2
            have hfz16_3 := blk_frozen BK101.out 3
            have hfz16_4 := blk_frozen BK101.out 4
            have hfz16_5 := blk_frozen BK101.out 5
            have hcz17_0 : wc.cell? ⟨gb102, 0, none⟩ = some (.int .i64 a1_0) := (blk_cell BK102.out 0).trans rfl
            have hcz17_1 : wc.cell? ⟨gb102, 1, none⟩ = some (.bool a1_1) := (blk_cell BK102.out 1).trans rfl
            have hcz17_2 : wc.cell? ⟨gb102, 2, none⟩ = some (.int .u64 a1_2) := (blk_cell BK102.out 2).trans rfl
            have hfz17_0 := blk_frozen BK102.out 0
            have hfz17_1 := blk_frozen BK102.out 1
            have hfz17_2 := blk_frozen BK102.out 2
            go_wp2
            go_meet
            case rel => exact ⟨_, ((a1_0 != 3)), (by first | rfl | (simp; done) | (simp [*]; done)), H', ⟨by have := HJ2.out; first | omega | exact Nat.le_refl _⟩, ⟨by (with_reducible repeat (first | refine blk_drewN ?_ _ | refine blk_drew ?_ | refine blk_alloc ?_ _)); exact BK101.out⟩, ⟨by (with_reducible repeat (first | refine blk_drewN ?_ _ | refine blk_drew ?_ | refine blk_alloc ?_ _)); exact BK102.out⟩, ⟨by repeat (first | (with_reducible first | exact HB.out | apply below_alloc | apply pw_below_drewN | apply below_drew1 | refine below_set ?_ GE101.out | refine below_set ?_ GE102.out) | exact HB.out)⟩⟩
          · replace c14 := Bool.eq_false_iff.mpr c14
            subst c14
            have H1 : (fault_Judge.j1 kj2 false a0_0 a0_1 a0_2 a0_3 a0_4 false a1_0 a1_1 a1_2) = some r := by rw [if_neg (show ¬ (false = true) by decide)] at H; exact H
            clear H
            have H := H1
            clear H1
            have H' := Aside0.mk H
            clear H
            have hnb18 := NB101_102.out
            have hnc18 := NB102_101.out
            have hcz19_0 : wc.cell? ⟨gb101, 0, none⟩ = some (.bool a0_0) := (blk_cell BK101.out 0).trans rfl
            have hcz19_1 : wc.cell? ⟨gb101, 1, none⟩ = some (.bool a0_1) := (blk_cell BK101.out 1).trans rfl
            have hcz19_2 : wc.cell? ⟨gb101, 2, none⟩ = some (.bool a0_2) := (blk_cell BK101.out 2).trans rfl
            have hcz19_3 : wc.cell? ⟨gb101, 3, none⟩ = some (.bool a0_3) := (blk_cell BK101.out 3).trans rfl
            have hcz19_4 : wc.cell? ⟨gb101, 4, none⟩ = some (.bool a0_4) := (blk_cell BK101.out 4).trans rfl
            have hcz19_5 : wc.cell? ⟨gb101, 5, none⟩ = some (.bool false) := (blk_cell BK101.out 5).trans rfl
            have hfz19_0 := blk_frozen BK101.out 0
            have hfz19_1 := blk_frozen BK101.out 1
            have hfz19_2 := blk_frozen BK101.out 2
            have hfz19_3 := blk_frozen BK101.out 3
            have hfz19_4 := blk_frozen BK101.out 4
            have hfz19_5 := blk_frozen BK101.out 5
            go_wp2
            go_meet
            case rel => exact ⟨_, (false), (by first | rfl | (simp; done) | (simp [*]; done)), H', ⟨by have := HJ2.out; first | omega | exact Nat.le_refl _⟩, ⟨by (with_reducible repeat (first | refine blk_drewN ?_ _ | refine blk_drew ?_ | refine blk_alloc ?_ _)); exact BK101.out⟩, ⟨by (with_reducible repeat (first | refine blk_drewN ?_ _ | refine blk_drew ?_ | refine blk_alloc ?_ _)); exact BK102.out⟩, ⟨by repeat (first | (with_reducible first | exact HB.out | apply below_alloc | apply pw_below_drewN | apply below_drew1 | refine below_set ?_ GE101.out | refine below_set ?_ GE102.out) | exact HB.out)⟩⟩
        case rest =>
          clear HC13
          try clear c1
          try clear p2
          try clear c4
          try clear c6
          try clear c7
          try clear c10
          try clear c12
          try clear c14
          try clear c15
          try clear c18
          try clear hcz11_0
          try clear hcz11_1
          try clear hcz11_2
          try clear hcz11_3
          try clear hcz11_4
          try clear hcz11_5
          try clear hcz16_0
          try clear hcz16_1
          try clear hcz16_2
          try clear hcz16_3
          try clear hcz16_4
          try clear hcz16_5
          try clear hcz17_0
          try clear hcz17_1
          try clear hcz17_2
          try clear hcz19_0
          try clear hcz19_1
          try clear hcz19_2
          try clear hcz19_3
          try clear hcz19_4
          try clear hcz19_5
          try clear hcz8_0
          try clear hcz8_1
          try clear hcz8_2
          try clear hcz8_3
          try clear hcz8_4
          try clear hcz8_5
          try clear hcz9_0
          try clear hcz9_1
          try clear hcz9_2
          try clear hfz11_0
          try clear hfz11_1
          try clear hfz11_2
          try clear hfz11_3
          try clear hfz11_4
          try clear hfz11_5
          try clear hfz16_0
          try clear hfz16_1
          try clear hfz16_2
          try clear hfz16_3
          try clear hfz16_4
          try clear hfz16_5
          try clear hfz17_0
          try clear hfz17_1
          try clear hfz17_2
          try clear hfz19_0
          try clear hfz19_1
          try clear hfz19_2
          try clear hfz19_3
          try clear hfz19_4
          try clear hfz19_5
          try clear hfz8_0
          try clear hfz8_1
          try clear hfz8_2
          try clear hfz8_3
          try clear hfz8_4
          try clear hfz8_5
          try clear hfz9_0
          try clear hfz9_1
          try clear hfz9_2
          try clear p2
          obtain ⟨kq, x13_12, rfl, HA, HJ12, BK101, BK102, HB⟩ := hcut
          cases kq with
          | zero => exact absurd HA.out (by simp [fault_Judge.j1])
          | succ kj12 =>
            have H := HA.out
            clear HA
            simp only [fault_Judge.j1] at H
            by_cases c20 : x13_12 = true
            · subst c20
              have H1 : (some 4) = some r := by rw [if_pos rfl] at H; exact H
              clear H
              have H := H1
              clear H1
              obtain rfl := Option.some.inj H
              go_wp2
              go_ret
              exact ⟨by first | rfl | (simp [errW_none, errW_some] <;> rfl) | (simp [*, errW_none, errW_some] <;> rfl), by repeat (first | (with_reducible first | exact HB.out | apply below_alloc | apply pw_below_drewN | apply below_drew1 | refine below_set ?_ GE101.out | refine below_set ?_ GE102.out) | exact HB.out)⟩
            · replace c20 := Bool.eq_false_iff.mpr c20
              subst c20
              have H1 : (if a1_0 = 1 then (fault_Judge.j2 kj12 (!a0_0) a0_0 a0_1 a0_2 a0_3 a0_4 a0_5 a1_0 a1_1 a1_2) else (fault_Judge.j2 kj12 false a0_0 a0_1 a0_2 a0_3 a0_4 a0_5 a1_0 a1_1 a1_2)) = some r := by rw [if_neg (show ¬ (false = true) by decide)] at H; exact H
              clear H
              have H := H1
              clear H1
              have HC21 := Aside0.mk H
              clear H
              go_upto_region 5 with (fail)
              go_cut [21] (fun v21 wc => ∃ (kq : Nat) (x21_20 : Bool), v21 = .bool x21_20 ∧ Aside0 (fault_Judge.j2 kq x21_20 a0_0 a0_1 a0_2 a0_3 a0_4 a0_5 a1_0 a1_1 a1_2 = some r) ∧ Aside0 (kq ≤ kj12) ∧ Aside0 (wc.heap[gb101]? = some (.cells #[.bool a0_0, .bool a0_1, .bool a0_2, .bool a0_3, .bool a0_4, .bool a0_5] 41 (0, 0))) ∧ Aside0 (wc.heap[gb102]? = some (.cells #[.int .i64 a1_0, .bool a1_1, .int .u64 a1_2] 43 (0, 0))) ∧ Aside0 (Below w.heap.size w wc))
              case first =>
                have H := HC21.out
                clear HC21
                by_cases c22 : a1_0 = 1
                · rw [if_pos c22] at H
                  have c22b0 : (a1_0 == 1) = true := beq_iff_eq.mpr c22
                  have c22b1 : (a1_0 != 1) = false := bne_eq_false_iff_eq.mpr c22
                  clear c22
                  (first | rw [c22b0] | (simp only [i64_w, i32_w]; rw [c22b0]) | skip)
                  have H' := Aside0.mk H
                  clear H
                  have hnb23 := NB102_101.out
                  have hnc23 := NB101_102.out
                  have hcz24_0 : wc.cell? ⟨gb102, 0, none⟩ = some (.int .i64 a1_0) := (blk_cell BK102.out 0).trans rfl
                  have hcz24_1 : wc.cell? ⟨gb102, 1, none⟩ = some (.bool a1_1) := (blk_cell BK102.out 1).trans rfl
                  have hcz24_2 : wc.cell? ⟨gb102, 2, none⟩ = some (.int .u64 a1_2) := (blk_cell BK102.out 2).trans rfl
                  have hfz24_0 := blk_frozen BK102.out 0
                  have hfz24_1 := blk_frozen BK102.out 1
                  have hfz24_2 := blk_frozen BK102.out 2
                  have hcz25_0 : wc.cell? ⟨gb101, 0, none⟩ = some (.bool a0_0) := (blk_cell BK101.out 0).trans rfl
                  have hcz25_1 : wc.cell? ⟨gb101, 1, none⟩ = some (.bool a0_1) := (blk_cell BK101.out 1).trans rfl
                  have hcz25_2 : wc.cell? ⟨gb101, 2, none⟩ = some (.bool a0_2) := (blk_cell BK101.out 2).trans rfl
                  have hcz25_3 : wc.cell? ⟨gb101, 3, none⟩ = some (.bool a0_3) := (blk_cell BK101.out 3).trans rfl
                  have hcz25_4 : wc.cell? ⟨gb101, 4, none⟩ = some (.bool a0_4) := (blk_cell BK101.out 4).trans rfl
                  have hcz25_5 : wc.cell? ⟨gb101, 5, none⟩ = some (.bool a0_5) := (blk_cell BK101.out 5).trans rfl
                  have hfz25_0 := blk_frozen BK101.out 0
                  have hfz25_1 := blk_frozen BK101.out 1
                  have hfz25_2 := blk_frozen BK101.out 2
                  have hfz25_3 := blk_frozen BK101.out 3
                  have hfz25_4 := blk_frozen BK101.out 4
                  have hfz25_5 := blk_frozen BK101.out 5
                  go_wp2
                  go_meet
                  case rel => exact ⟨_, (!a0_0), (by first | rfl | (simp; done) | (simp [*]; done)), H', ⟨by have := HJ2.out; have := HJ12.out; first | omega | exact Nat.le_refl _⟩, ⟨by (with_reducible repeat (first | refine blk_drewN ?_ _ | refine blk_drew ?_ | refine blk_alloc ?_ _)); exact BK101.out⟩, ⟨by (with_reducible repeat (first | refine blk_drewN ?_ _ | refine blk_drew ?_ | refine blk_alloc ?_ _)); exact BK102.out⟩, ⟨by repeat (first | (with_reducible first | exact HB.out | apply below_alloc | apply pw_below_drewN | apply below_drew1 | refine below_set ?_ GE101.out | refine below_set ?_ GE102.out) | exact HB.out)⟩⟩
                · rw [if_neg c22] at H
                  have c22b0 : (a1_0 == 1) = false := beq_eq_false_iff_ne.mpr c22
                  have c22b1 : (a1_0 != 1) = true := bne_iff_ne.mpr c22
                  (first | rw [c22b0] | (simp only [i64_w, i32_w]; rw [c22b0]) | skip)
                  have H' := Aside0.mk H
                  clear H
                  have hnb26 := NB102_101.out
                  have hnc26 := NB101_102.out
                  have hcz27_0 : wc.cell? ⟨gb102, 0, none⟩ = some (.int .i64 a1_0) := (blk_cell BK102.out 0).trans rfl
                  have hcz27_1 : wc.cell? ⟨gb102, 1, none⟩ = some (.bool a1_1) := (blk_cell BK102.out 1).trans rfl
                  have hcz27_2 : wc.cell? ⟨gb102, 2, none⟩ = some (.int .u64 a1_2) := (blk_cell BK102.out 2).trans rfl
                  have hfz27_0 := blk_frozen BK102.out 0
                  have hfz27_1 := blk_frozen BK102.out 1
                  have hfz27_2 := blk_frozen BK102.out 2
                  go_wp2
                  go_meet
                  case rel => exact ⟨_, (false), (by first | rfl | (simp; done) | (simp [*]; done)), H', ⟨by have := HJ2.out; have := HJ12.out; first | omega | exact Nat.le_refl _⟩, ⟨by (with_reducible repeat (first | refine blk_drewN ?_ _ | refine blk_drew ?_ | refine blk_alloc ?_ _)); exact BK101.out⟩, ⟨by (with_reducible repeat (first | refine blk_drewN ?_ _ | refine blk_drew ?_ | refine blk_alloc ?_ _)); exact BK102.out⟩, ⟨by repeat (first | (with_reducible first | exact HB.out | apply below_alloc | apply pw_below_drewN | apply below_drew1 | refine below_set ?_ GE101.out | refine below_set ?_ GE102.out) | exact HB.out)⟩⟩
              case rest =>
                clear HC21
                try clear c1
                try clear c2
                try clear p2
                try clear c4
                try clear c6
                try clear c7
                try clear c10
                try clear c12
                try clear c14
                try clear c15
                try clear c18
                try clear c20
                try clear c22
                try clear c22b0
                try clear c22b1
                try clear c23
                try clear c26
                try clear hcz11_0
                try clear hcz11_1
                try clear hcz11_2
                try clear hcz11_3
                try clear hcz11_4
                try clear hcz11_5
                try clear hcz16_0
                try clear hcz16_1
                try clear hcz16_2
                try clear hcz16_3
                try clear hcz16_4
                try clear hcz16_5
                try clear hcz17_0
                try clear hcz17_1
                try clear hcz17_2
                try clear hcz19_0
                try clear hcz19_1
                try clear hcz19_2
                try clear hcz19_3
                try clear hcz19_4
                try clear hcz19_5
                try clear hcz24_0
                try clear hcz24_1
                try clear hcz24_2
                try clear hcz25_0
                try clear hcz25_1
                try clear hcz25_2
                try clear hcz25_3
                try clear hcz25_4
                try clear hcz25_5
                try clear hcz27_0
                try clear hcz27_1
                try clear hcz27_2
                try clear hcz8_0
                try clear hcz8_1
                try clear hcz8_2
                try clear hcz8_3
                try clear hcz8_4
                try clear hcz8_5
                try clear hcz9_0
                try clear hcz9_1
                try clear hcz9_2
                try clear hfz11_0
                try clear hfz11_1
                try clear hfz11_2
                try clear hfz11_3
                try clear hfz11_4
                try clear hfz11_5
                try clear hfz16_0
                try clear hfz16_1
                try clear hfz16_2
                try clear hfz16_3
                try clear hfz16_4
                try clear hfz16_5
                try clear hfz17_0
                try clear hfz17_1
                try clear hfz17_2
                try clear hfz19_0
                try clear hfz19_1
                try clear hfz19_2
                try clear hfz19_3
                try clear hfz19_4
                try clear hfz19_5
                try clear hfz24_0
                try clear hfz24_1
                try clear hfz24_2
                try clear hfz25_0
                try clear hfz25_1
                try clear hfz25_2
                try clear hfz25_3
                try clear hfz25_4
                try clear hfz25_5
                try clear hfz27_0
                try clear hfz27_1
                try clear hfz27_2
                try clear hfz8_0
                try clear hfz8_1
                try clear hfz8_2
                try clear hfz8_3
                try clear hfz8_4
                try clear hfz8_5
                try clear hfz9_0
                try clear hfz9_1
                try clear hfz9_2
                try clear p2
                obtain ⟨kq, x21_20, rfl, HA, HJ20, BK101, BK102, HB⟩ := hcut
                cases kq with
                | zero => exact absurd HA.out (by simp [fault_Judge.j2])
                | succ kj20 =>
                  have H := HA.out
                  clear HA
                  simp only [fault_Judge.j2] at H
                  by_cases c28 : x21_20 = true
                  · subst c28
                    have H1 : (some 5) = some r := by rw [if_pos rfl] at H; exact H
                    clear H
                    have H := H1
                    clear H1
                    obtain rfl := Option.some.inj H
                    go_wp2
                    go_ret
                    exact ⟨by first | rfl | (simp [errW_none, errW_some] <;> rfl) | (simp [*, errW_none, errW_some] <;> rfl), by repeat (first | (with_reducible first | exact HB.out | apply below_alloc | apply pw_below_drewN | apply below_drew1 | refine below_set ?_ GE101.out | refine below_set ?_ GE102.out) | exact HB.out)⟩
                  · replace c28 := Bool.eq_false_iff.mpr c28
                    subst c28
                    have H1 : (if a1_0 = 2 then (if a0_2 = true then (some 0) else (some 6)) else (some 0)) = some r := by rw [if_neg (show ¬ (false = true) by decide)] at H; exact H
                    clear H
                    have H := H1
                    clear H1
                    by_cases c29 : a1_0 = 2
                    · rw [if_pos c29] at H
                      have c29b0 : (a1_0 == 2) = true := beq_iff_eq.mpr c29
                      have c29b1 : (a1_0 != 2) = false := bne_eq_false_iff_eq.mpr c29
                      clear c29
                      by_cases c30 : a0_2 = true
                      · subst c30
                        have H1 : (some 0) = some r := by rw [if_pos rfl] at H; exact H
                        clear H
                        have H := H1
                        clear H1
                        obtain rfl := Option.some.inj H
                        have hnb31 := NB102_101.out
                        have hnc31 := NB101_102.out
                        have hcz32_0 : wc.cell? ⟨gb102, 0, none⟩ = some (.int .i64 a1_0) := (blk_cell BK102.out 0).trans rfl
                        have hcz32_1 : wc.cell? ⟨gb102, 1, none⟩ = some (.bool a1_1) := (blk_cell BK102.out 1).trans rfl
                        have hcz32_2 : wc.cell? ⟨gb102, 2, none⟩ = some (.int .u64 a1_2) := (blk_cell BK102.out 2).trans rfl
                        have hfz32_0 := blk_frozen BK102.out 0
                        have hfz32_1 := blk_frozen BK102.out 1
                        have hfz32_2 := blk_frozen BK102.out 2
                        have hcz33_0 : wc.cell? ⟨gb101, 0, none⟩ = some (.bool a0_0) := (blk_cell BK101.out 0).trans rfl
                        have hcz33_1 : wc.cell? ⟨gb101, 1, none⟩ = some (.bool a0_1) := (blk_cell BK101.out 1).trans rfl
                        have hcz33_2 : wc.cell? ⟨gb101, 2, none⟩ = some (.bool true) := (blk_cell BK101.out 2).trans rfl
                        have hcz33_3 : wc.cell? ⟨gb101, 3, none⟩ = some (.bool a0_3) := (blk_cell BK101.out 3).trans rfl
                        have hcz33_4 : wc.cell? ⟨gb101, 4, none⟩ = some (.bool a0_4) := (blk_cell BK101.out 4).trans rfl
                        have hcz33_5 : wc.cell? ⟨gb101, 5, none⟩ = some (.bool a0_5) := (blk_cell BK101.out 5).trans rfl
                        have hfz33_0 := blk_frozen BK101.out 0
                        have hfz33_1 := blk_frozen BK101.out 1
                        have hfz33_2 := blk_frozen BK101.out 2
                        have hfz33_3 := blk_frozen BK101.out 3
                        have hfz33_4 := blk_frozen BK101.out 4
                        have hfz33_5 := blk_frozen BK101.out 5
                        go_wp2
                        go_ret
                        exact ⟨by first | rfl | (simp [errW_none, errW_some] <;> rfl) | (simp [*, errW_none, errW_some] <;> rfl), by repeat (first | (with_reducible first | exact HB.out | apply below_alloc | apply pw_below_drewN | apply below_drew1 | refine below_set ?_ GE101.out | refine below_set ?_ GE102.out) | exact HB.out)⟩
                      · replace c30 := Bool.eq_false_iff.mpr c30
                        subst c30
                        have H1 : (some 6) = some r := by rw [if_neg (show ¬ (false = true) by decide)] at H; exact H
                        clear H
                        have H := H1
                        clear H1
                        obtain rfl := Option.some.inj H
                        have hnb34 := NB102_101.out
                        have hnc34 := NB101_102.out
                        have hcz35_0 : wc.cell? ⟨gb102, 0, none⟩ = some (.int .i64 a1_0) := (blk_cell BK102.out 0).trans rfl
                        have hcz35_1 : wc.cell? ⟨gb102, 1, none⟩ = some (.bool a1_1) := (blk_cell BK102.out 1).trans rfl
                        have hcz35_2 : wc.cell? ⟨gb102, 2, none⟩ = some (.int .u64 a1_2) := (blk_cell BK102.out 2).trans rfl
                        have hfz35_0 := blk_frozen BK102.out 0
                        have hfz35_1 := blk_frozen BK102.out 1
                        have hfz35_2 := blk_frozen BK102.out 2
                        have hcz36_0 : wc.cell? ⟨gb101, 0, none⟩ = some (.bool a0_0) := (blk_cell BK101.out 0).trans rfl
                        have hcz36_1 : wc.cell? ⟨gb101, 1, none⟩ = some (.bool a0_1) := (blk_cell BK101.out 1).trans rfl
                        have hcz36_2 : wc.cell? ⟨gb101, 2, none⟩ = some (.bool false) := (blk_cell BK101.out 2).trans rfl
                        have hcz36_3 : wc.cell? ⟨gb101, 3, none⟩ = some (.bool a0_3) := (blk_cell BK101.out 3).trans rfl
                        have hcz36_4 : wc.cell? ⟨gb101, 4, none⟩ = some (.bool a0_4) := (blk_cell BK101.out 4).trans rfl
                        have hcz36_5 : wc.cell? ⟨gb101, 5, none⟩ = some (.bool a0_5) := (blk_cell BK101.out 5).trans rfl
                        have hfz36_0 := blk_frozen BK101.out 0
                        have hfz36_1 := blk_frozen BK101.out 1
                        have hfz36_2 := blk_frozen BK101.out 2
                        have hfz36_3 := blk_frozen BK101.out 3
                        have hfz36_4 := blk_frozen BK101.out 4
                        have hfz36_5 := blk_frozen BK101.out 5
                        go_wp2
                        go_ret
                        exact ⟨by first | rfl | (simp [errW_none, errW_some] <;> rfl) | (simp [*, errW_none, errW_some] <;> rfl), by repeat (first | (with_reducible first | exact HB.out | apply below_alloc | apply pw_below_drewN | apply below_drew1 | refine below_set ?_ GE101.out | refine below_set ?_ GE102.out) | exact HB.out)⟩
                    · rw [if_neg c29] at H
                      have c29b0 : (a1_0 == 2) = false := beq_eq_false_iff_ne.mpr c29
                      have c29b1 : (a1_0 != 2) = true := bne_iff_ne.mpr c29
                      obtain rfl := Option.some.inj H
                      have hnb37 := NB102_101.out
                      have hnc37 := NB101_102.out
                      have hcz38_0 : wc.cell? ⟨gb102, 0, none⟩ = some (.int .i64 a1_0) := (blk_cell BK102.out 0).trans rfl
                      have hcz38_1 : wc.cell? ⟨gb102, 1, none⟩ = some (.bool a1_1) := (blk_cell BK102.out 1).trans rfl
                      have hcz38_2 : wc.cell? ⟨gb102, 2, none⟩ = some (.int .u64 a1_2) := (blk_cell BK102.out 2).trans rfl
                      have hfz38_0 := blk_frozen BK102.out 0
                      have hfz38_1 := blk_frozen BK102.out 1
                      have hfz38_2 := blk_frozen BK102.out 2
                      go_wp2
                      go_ret
                      exact ⟨by first | rfl | (simp [errW_none, errW_some] <;> rfl) | (simp [*, errW_none, errW_some] <;> rfl), by repeat (first | (with_reducible first | exact HB.out | apply below_alloc | apply pw_below_drewN | apply below_drew1 | refine below_set ?_ GE101.out | refine below_set ?_ GE102.out) | exact HB.out)⟩

-- NOT PRINTED: function 61 (fault_kinds)

/-! ### fault_of: function 56 -/
/-- All kinds, as fault.kinds makes them: an array's cells. -/
def fault_of.cells : Array Value := #[.string (⟨#[110, 111, 110, 101]⟩ : ByteArray), .int .i64 0, .int .i64 0, .int .i64 0, .int .i64 0,
  .string (⟨#[104, 111, 108, 101]⟩ : ByteArray), .int .i64 48, .int .i64 8, .int .i64 32, .int .i64 6,
  .string (⟨#[110, 111, 116, 104, 105, 110, 103]⟩ : ByteArray), .int .i64 104, .int .i64 100, .int .i64 0, .int .i64 5,
  .string (⟨#[112, 114, 105, 118]⟩ : ByteArray), .int .i64 48, .int .i64 8, .int .i64 1, .int .i64 4,
  .string (⟨#[113, 117, 105, 101, 116]⟩ : ByteArray), .int .i64 48, .int .i64 8, .int .i64 2, .int .i64 3,
  .string (⟨#[119, 114, 105, 116, 101]⟩ : ByteArray), .int .i64 108, .int .i64 108, .int .i64 0, .int .i64 2,
  .string (⟨#[101, 120, 101, 99]⟩ : ByteArray), .int .i64 48, .int .i64 8, .int .i64 16, .int .i64 1]
def fault_of.zero : Array Value := #[.string ⟨#[]⟩, .int .i64 0, .int .i64 0, .int .i64 0, .int .i64 0, .string ⟨#[]⟩, .int .i64 0, .int .i64 0, .int .i64 0, .int .i64 0, .string ⟨#[]⟩, .int .i64 0, .int .i64 0, .int .i64 0, .int .i64 0, .string ⟨#[]⟩, .int .i64 0, .int .i64 0, .int .i64 0, .int .i64 0, .string ⟨#[]⟩, .int .i64 0, .int .i64 0, .int .i64 0, .int .i64 0, .string ⟨#[]⟩, .int .i64 0, .int .i64 0, .int .i64 0, .int .i64 0, .string ⟨#[]⟩, .int .i64 0, .int .i64 0, .int .i64 0, .int .i64 0]
set_option maxHeartbeats 8000000 in
set_option maxRecDepth 100000 in
theorem fault_of.kinds (w : World) : Calls Try.prog 61 #[] w fun e w' => e = .returned (.agg fault_of.cells) ∧ Below w.heap.size w w' := by
  have hu57 := Try.underlying57
  have hu63 := Try.underlying63
  go_enter Try.func61, Try.ntmps61
  go_wp2_with (first | ((with_reducible refine gate_dst (N := 0) rfl ?_); refine box_event ?hg (N := 0) ?hd (cs := #[.string ⟨#[]⟩, .int .i64 0, .int .i64 0, .int .i64 0, .int .i64 0, .string ⟨#[]⟩, .int .i64 0, .int .i64 0, .int .i64 0, .int .i64 0, .string ⟨#[]⟩, .int .i64 0, .int .i64 0, .int .i64 0, .int .i64 0, .string ⟨#[]⟩, .int .i64 0, .int .i64 0, .int .i64 0, .int .i64 0, .string ⟨#[]⟩, .int .i64 0, .int .i64 0, .int .i64 0, .int .i64 0, .string ⟨#[]⟩, .int .i64 0, .int .i64 0, .int .i64 0, .int .i64 0, .string ⟨#[]⟩, .int .i64 0, .int .i64 0, .int .i64 0, .int .i64 0]) (t := 63) ?hr ?_; (case hd => rfl); (case hg => rfl); (case hr => first | (go_simp; done) | (go_simp; rfl)); intro gb hgb w1 hbox0 hb0; have hge := Aside0.mk (Nat.le_of_eq hgb.symm); have hbox := Aside0.mk hbox0; have hb := Aside0.mk hb0; clear hgb hbox0 hb0) | ((with_reducible refine gate_store (t := 63) (p := 0) rfl ?_); refine wpList_store_row rfl 63 (.tmp 0) (.tmp 8) rfl gb fault_of.cells rfl rfl 63 _ hbox.out (by kernel_rfl) rfl (by kernel_rfl) ?_))
  refine bodyPost_ret (results_cell_row rfl _ _ gb 63 fault_of.cells (0, 0) _ rfl (setRow_heap w1 gb _ fault_of.cells _ _ hbox.out) Try.underlying63 rfl (by kernel_rfl)) rfl ?_
  exact ⟨rfl, below_setRow hb.out hge.out _⟩
def fault_of.f (a0 : Int) : Option (ByteArray × Int × Int × Int × Int) := if a0 = 0 then some ((⟨#[110, 111, 110, 101]⟩ : ByteArray), 0, 0, 0, 0) else if a0 = 1 then some ((⟨#[104, 111, 108, 101]⟩ : ByteArray), 48, 8, 32, 6) else if a0 = 2 then some ((⟨#[110, 111, 116, 104, 105, 110, 103]⟩ : ByteArray), 104, 100, 0, 5) else if a0 = 3 then some ((⟨#[112, 114, 105, 118]⟩ : ByteArray), 48, 8, 1, 4) else if a0 = 4 then some ((⟨#[113, 117, 105, 101, 116]⟩ : ByteArray), 48, 8, 2, 3) else if a0 = 5 then some ((⟨#[119, 114, 105, 116, 101]⟩ : ByteArray), 108, 108, 0, 2) else if a0 = 6 then some ((⟨#[101, 120, 101, 99]⟩ : ByteArray), 48, 8, 16, 1) else some (⟨#[]⟩, 0, 0, 0, 0)
theorem fault_of.idx0 : ∀ w, (Instr.index 63 (.agg fault_of.cells) (.int .i64 0)).run Try.prog w = .ok (.agg #[.string (⟨#[110, 111, 110, 101]⟩ : ByteArray), .int .i64 0, .int .i64 0, .int .i64 0, .int .i64 0]) w := fun _ => by kernel_rfl
theorem fault_of.idx1 : ∀ w, (Instr.index 63 (.agg fault_of.cells) (.int .i64 1)).run Try.prog w = .ok (.agg #[.string (⟨#[104, 111, 108, 101]⟩ : ByteArray), .int .i64 48, .int .i64 8, .int .i64 32, .int .i64 6]) w := fun _ => by kernel_rfl
theorem fault_of.idx2 : ∀ w, (Instr.index 63 (.agg fault_of.cells) (.int .i64 2)).run Try.prog w = .ok (.agg #[.string (⟨#[110, 111, 116, 104, 105, 110, 103]⟩ : ByteArray), .int .i64 104, .int .i64 100, .int .i64 0, .int .i64 5]) w := fun _ => by kernel_rfl
theorem fault_of.idx3 : ∀ w, (Instr.index 63 (.agg fault_of.cells) (.int .i64 3)).run Try.prog w = .ok (.agg #[.string (⟨#[112, 114, 105, 118]⟩ : ByteArray), .int .i64 48, .int .i64 8, .int .i64 1, .int .i64 4]) w := fun _ => by kernel_rfl
theorem fault_of.idx4 : ∀ w, (Instr.index 63 (.agg fault_of.cells) (.int .i64 4)).run Try.prog w = .ok (.agg #[.string (⟨#[113, 117, 105, 101, 116]⟩ : ByteArray), .int .i64 48, .int .i64 8, .int .i64 2, .int .i64 3]) w := fun _ => by kernel_rfl
theorem fault_of.idx5 : ∀ w, (Instr.index 63 (.agg fault_of.cells) (.int .i64 5)).run Try.prog w = .ok (.agg #[.string (⟨#[119, 114, 105, 116, 101]⟩ : ByteArray), .int .i64 108, .int .i64 108, .int .i64 0, .int .i64 2]) w := fun _ => by kernel_rfl
theorem fault_of.idx6 : ∀ w, (Instr.index 63 (.agg fault_of.cells) (.int .i64 6)).run Try.prog w = .ok (.agg #[.string (⟨#[101, 120, 101, 99]⟩ : ByteArray), .int .i64 48, .int .i64 8, .int .i64 16, .int .i64 1]) w := fun _ => by kernel_rfl
set_option maxHeartbeats 8000000 in
set_option maxRecDepth 100000 in
theorem fault_of.at0 (w : World) : Calls Try.prog 56 #[.int .i64 0] w fun e w' => e = .returned (.agg #[.string (⟨#[110, 111, 110, 101]⟩ : ByteArray), .int .i64 0, .int .i64 0, .int .i64 0, .int .i64 0]) ∧ Below w.heap.size w w' := by
  have hu57 := Try.underlying57
  have hi := fault_of.idx0
  go_enter Try.func56, Try.ntmps56
  go_wp2_with (first | ((with_reducible refine gate_dst (N := 2) rfl ?_); refine box_event ?hg (N := 2) ?hd (cs := #[.string ⟨#[]⟩, .int .i64 0, .int .i64 0, .int .i64 0, .int .i64 0]) (t := 57) ?hr ?_; (case hd => rfl); (case hg => rfl); (case hr => first | (go_simp; done) | (go_simp; rfl)); intro gb hgb w1 hbox0 hb0; have hge := Aside0.mk (Nat.le_of_eq hgb.symm); have hbox := Aside0.mk hbox0; have hb := Aside0.mk hb0; clear hgb hbox0 hb0) | (go_at_call 61; refine (fault_of.kinds _).mono ?_; rintro e w2 ⟨rfl, hb2⟩; have hbx := Aside0.mk (blk_below hbox.out hb2); have hbb := Aside0.mk (below_step hb.out hb2); clear hb2) | ((with_reducible refine gate_store (t := 57) (p := 2) rfl ?_); refine wpList_store_row rfl 57 (.tmp 2) (.tmp 12) rfl gb #[.string (⟨#[110, 111, 110, 101]⟩ : ByteArray), .int .i64 0, .int .i64 0, .int .i64 0, .int .i64 0] rfl rfl 57 _ hbx.out (by kernel_rfl) rfl (by kernel_rfl) ?_))
  refine bodyPost_ret (results_cell_row rfl _ _ gb 57 #[.string (⟨#[110, 111, 110, 101]⟩ : ByteArray), .int .i64 0, .int .i64 0, .int .i64 0, .int .i64 0] (0, 0) _ rfl (setRow_heap _ gb _ _ _ _ hbx.out) Try.underlying57 rfl (by kernel_rfl)) rfl ?_
  exact ⟨rfl, below_setRow hbb.out hge.out _⟩
set_option maxHeartbeats 8000000 in
set_option maxRecDepth 100000 in
theorem fault_of.at1 (w : World) : Calls Try.prog 56 #[.int .i64 1] w fun e w' => e = .returned (.agg #[.string (⟨#[104, 111, 108, 101]⟩ : ByteArray), .int .i64 48, .int .i64 8, .int .i64 32, .int .i64 6]) ∧ Below w.heap.size w w' := by
  have hu57 := Try.underlying57
  have hi := fault_of.idx1
  go_enter Try.func56, Try.ntmps56
  go_wp2_with (first | ((with_reducible refine gate_dst (N := 2) rfl ?_); refine box_event ?hg (N := 2) ?hd (cs := #[.string ⟨#[]⟩, .int .i64 0, .int .i64 0, .int .i64 0, .int .i64 0]) (t := 57) ?hr ?_; (case hd => rfl); (case hg => rfl); (case hr => first | (go_simp; done) | (go_simp; rfl)); intro gb hgb w1 hbox0 hb0; have hge := Aside0.mk (Nat.le_of_eq hgb.symm); have hbox := Aside0.mk hbox0; have hb := Aside0.mk hb0; clear hgb hbox0 hb0) | (go_at_call 61; refine (fault_of.kinds _).mono ?_; rintro e w2 ⟨rfl, hb2⟩; have hbx := Aside0.mk (blk_below hbox.out hb2); have hbb := Aside0.mk (below_step hb.out hb2); clear hb2) | ((with_reducible refine gate_store (t := 57) (p := 2) rfl ?_); refine wpList_store_row rfl 57 (.tmp 2) (.tmp 12) rfl gb #[.string (⟨#[104, 111, 108, 101]⟩ : ByteArray), .int .i64 48, .int .i64 8, .int .i64 32, .int .i64 6] rfl rfl 57 _ hbx.out (by kernel_rfl) rfl (by kernel_rfl) ?_))
  refine bodyPost_ret (results_cell_row rfl _ _ gb 57 #[.string (⟨#[104, 111, 108, 101]⟩ : ByteArray), .int .i64 48, .int .i64 8, .int .i64 32, .int .i64 6] (0, 0) _ rfl (setRow_heap _ gb _ _ _ _ hbx.out) Try.underlying57 rfl (by kernel_rfl)) rfl ?_
  exact ⟨rfl, below_setRow hbb.out hge.out _⟩
set_option maxHeartbeats 8000000 in
set_option maxRecDepth 100000 in
theorem fault_of.at2 (w : World) : Calls Try.prog 56 #[.int .i64 2] w fun e w' => e = .returned (.agg #[.string (⟨#[110, 111, 116, 104, 105, 110, 103]⟩ : ByteArray), .int .i64 104, .int .i64 100, .int .i64 0, .int .i64 5]) ∧ Below w.heap.size w w' := by
  have hu57 := Try.underlying57
  have hi := fault_of.idx2
  go_enter Try.func56, Try.ntmps56
  go_wp2_with (first | ((with_reducible refine gate_dst (N := 2) rfl ?_); refine box_event ?hg (N := 2) ?hd (cs := #[.string ⟨#[]⟩, .int .i64 0, .int .i64 0, .int .i64 0, .int .i64 0]) (t := 57) ?hr ?_; (case hd => rfl); (case hg => rfl); (case hr => first | (go_simp; done) | (go_simp; rfl)); intro gb hgb w1 hbox0 hb0; have hge := Aside0.mk (Nat.le_of_eq hgb.symm); have hbox := Aside0.mk hbox0; have hb := Aside0.mk hb0; clear hgb hbox0 hb0) | (go_at_call 61; refine (fault_of.kinds _).mono ?_; rintro e w2 ⟨rfl, hb2⟩; have hbx := Aside0.mk (blk_below hbox.out hb2); have hbb := Aside0.mk (below_step hb.out hb2); clear hb2) | ((with_reducible refine gate_store (t := 57) (p := 2) rfl ?_); refine wpList_store_row rfl 57 (.tmp 2) (.tmp 12) rfl gb #[.string (⟨#[110, 111, 116, 104, 105, 110, 103]⟩ : ByteArray), .int .i64 104, .int .i64 100, .int .i64 0, .int .i64 5] rfl rfl 57 _ hbx.out (by kernel_rfl) rfl (by kernel_rfl) ?_))
  refine bodyPost_ret (results_cell_row rfl _ _ gb 57 #[.string (⟨#[110, 111, 116, 104, 105, 110, 103]⟩ : ByteArray), .int .i64 104, .int .i64 100, .int .i64 0, .int .i64 5] (0, 0) _ rfl (setRow_heap _ gb _ _ _ _ hbx.out) Try.underlying57 rfl (by kernel_rfl)) rfl ?_
  exact ⟨rfl, below_setRow hbb.out hge.out _⟩
set_option maxHeartbeats 8000000 in
set_option maxRecDepth 100000 in
theorem fault_of.at3 (w : World) : Calls Try.prog 56 #[.int .i64 3] w fun e w' => e = .returned (.agg #[.string (⟨#[112, 114, 105, 118]⟩ : ByteArray), .int .i64 48, .int .i64 8, .int .i64 1, .int .i64 4]) ∧ Below w.heap.size w w' := by
  have hu57 := Try.underlying57
  have hi := fault_of.idx3
  go_enter Try.func56, Try.ntmps56
  go_wp2_with (first | ((with_reducible refine gate_dst (N := 2) rfl ?_); refine box_event ?hg (N := 2) ?hd (cs := #[.string ⟨#[]⟩, .int .i64 0, .int .i64 0, .int .i64 0, .int .i64 0]) (t := 57) ?hr ?_; (case hd => rfl); (case hg => rfl); (case hr => first | (go_simp; done) | (go_simp; rfl)); intro gb hgb w1 hbox0 hb0; have hge := Aside0.mk (Nat.le_of_eq hgb.symm); have hbox := Aside0.mk hbox0; have hb := Aside0.mk hb0; clear hgb hbox0 hb0) | (go_at_call 61; refine (fault_of.kinds _).mono ?_; rintro e w2 ⟨rfl, hb2⟩; have hbx := Aside0.mk (blk_below hbox.out hb2); have hbb := Aside0.mk (below_step hb.out hb2); clear hb2) | ((with_reducible refine gate_store (t := 57) (p := 2) rfl ?_); refine wpList_store_row rfl 57 (.tmp 2) (.tmp 12) rfl gb #[.string (⟨#[112, 114, 105, 118]⟩ : ByteArray), .int .i64 48, .int .i64 8, .int .i64 1, .int .i64 4] rfl rfl 57 _ hbx.out (by kernel_rfl) rfl (by kernel_rfl) ?_))
  refine bodyPost_ret (results_cell_row rfl _ _ gb 57 #[.string (⟨#[112, 114, 105, 118]⟩ : ByteArray), .int .i64 48, .int .i64 8, .int .i64 1, .int .i64 4] (0, 0) _ rfl (setRow_heap _ gb _ _ _ _ hbx.out) Try.underlying57 rfl (by kernel_rfl)) rfl ?_
  exact ⟨rfl, below_setRow hbb.out hge.out _⟩
set_option maxHeartbeats 8000000 in
set_option maxRecDepth 100000 in
theorem fault_of.at4 (w : World) : Calls Try.prog 56 #[.int .i64 4] w fun e w' => e = .returned (.agg #[.string (⟨#[113, 117, 105, 101, 116]⟩ : ByteArray), .int .i64 48, .int .i64 8, .int .i64 2, .int .i64 3]) ∧ Below w.heap.size w w' := by
  have hu57 := Try.underlying57
  have hi := fault_of.idx4
  go_enter Try.func56, Try.ntmps56
  go_wp2_with (first | ((with_reducible refine gate_dst (N := 2) rfl ?_); refine box_event ?hg (N := 2) ?hd (cs := #[.string ⟨#[]⟩, .int .i64 0, .int .i64 0, .int .i64 0, .int .i64 0]) (t := 57) ?hr ?_; (case hd => rfl); (case hg => rfl); (case hr => first | (go_simp; done) | (go_simp; rfl)); intro gb hgb w1 hbox0 hb0; have hge := Aside0.mk (Nat.le_of_eq hgb.symm); have hbox := Aside0.mk hbox0; have hb := Aside0.mk hb0; clear hgb hbox0 hb0) | (go_at_call 61; refine (fault_of.kinds _).mono ?_; rintro e w2 ⟨rfl, hb2⟩; have hbx := Aside0.mk (blk_below hbox.out hb2); have hbb := Aside0.mk (below_step hb.out hb2); clear hb2) | ((with_reducible refine gate_store (t := 57) (p := 2) rfl ?_); refine wpList_store_row rfl 57 (.tmp 2) (.tmp 12) rfl gb #[.string (⟨#[113, 117, 105, 101, 116]⟩ : ByteArray), .int .i64 48, .int .i64 8, .int .i64 2, .int .i64 3] rfl rfl 57 _ hbx.out (by kernel_rfl) rfl (by kernel_rfl) ?_))
  refine bodyPost_ret (results_cell_row rfl _ _ gb 57 #[.string (⟨#[113, 117, 105, 101, 116]⟩ : ByteArray), .int .i64 48, .int .i64 8, .int .i64 2, .int .i64 3] (0, 0) _ rfl (setRow_heap _ gb _ _ _ _ hbx.out) Try.underlying57 rfl (by kernel_rfl)) rfl ?_
  exact ⟨rfl, below_setRow hbb.out hge.out _⟩
set_option maxHeartbeats 8000000 in
set_option maxRecDepth 100000 in
theorem fault_of.at5 (w : World) : Calls Try.prog 56 #[.int .i64 5] w fun e w' => e = .returned (.agg #[.string (⟨#[119, 114, 105, 116, 101]⟩ : ByteArray), .int .i64 108, .int .i64 108, .int .i64 0, .int .i64 2]) ∧ Below w.heap.size w w' := by
  have hu57 := Try.underlying57
  have hi := fault_of.idx5
  go_enter Try.func56, Try.ntmps56
  go_wp2_with (first | ((with_reducible refine gate_dst (N := 2) rfl ?_); refine box_event ?hg (N := 2) ?hd (cs := #[.string ⟨#[]⟩, .int .i64 0, .int .i64 0, .int .i64 0, .int .i64 0]) (t := 57) ?hr ?_; (case hd => rfl); (case hg => rfl); (case hr => first | (go_simp; done) | (go_simp; rfl)); intro gb hgb w1 hbox0 hb0; have hge := Aside0.mk (Nat.le_of_eq hgb.symm); have hbox := Aside0.mk hbox0; have hb := Aside0.mk hb0; clear hgb hbox0 hb0) | (go_at_call 61; refine (fault_of.kinds _).mono ?_; rintro e w2 ⟨rfl, hb2⟩; have hbx := Aside0.mk (blk_below hbox.out hb2); have hbb := Aside0.mk (below_step hb.out hb2); clear hb2) | ((with_reducible refine gate_store (t := 57) (p := 2) rfl ?_); refine wpList_store_row rfl 57 (.tmp 2) (.tmp 12) rfl gb #[.string (⟨#[119, 114, 105, 116, 101]⟩ : ByteArray), .int .i64 108, .int .i64 108, .int .i64 0, .int .i64 2] rfl rfl 57 _ hbx.out (by kernel_rfl) rfl (by kernel_rfl) ?_))
  refine bodyPost_ret (results_cell_row rfl _ _ gb 57 #[.string (⟨#[119, 114, 105, 116, 101]⟩ : ByteArray), .int .i64 108, .int .i64 108, .int .i64 0, .int .i64 2] (0, 0) _ rfl (setRow_heap _ gb _ _ _ _ hbx.out) Try.underlying57 rfl (by kernel_rfl)) rfl ?_
  exact ⟨rfl, below_setRow hbb.out hge.out _⟩
set_option maxHeartbeats 8000000 in
set_option maxRecDepth 100000 in
theorem fault_of.at6 (w : World) : Calls Try.prog 56 #[.int .i64 6] w fun e w' => e = .returned (.agg #[.string (⟨#[101, 120, 101, 99]⟩ : ByteArray), .int .i64 48, .int .i64 8, .int .i64 16, .int .i64 1]) ∧ Below w.heap.size w w' := by
  have hu57 := Try.underlying57
  have hi := fault_of.idx6
  go_enter Try.func56, Try.ntmps56
  go_wp2_with (first | ((with_reducible refine gate_dst (N := 2) rfl ?_); refine box_event ?hg (N := 2) ?hd (cs := #[.string ⟨#[]⟩, .int .i64 0, .int .i64 0, .int .i64 0, .int .i64 0]) (t := 57) ?hr ?_; (case hd => rfl); (case hg => rfl); (case hr => first | (go_simp; done) | (go_simp; rfl)); intro gb hgb w1 hbox0 hb0; have hge := Aside0.mk (Nat.le_of_eq hgb.symm); have hbox := Aside0.mk hbox0; have hb := Aside0.mk hb0; clear hgb hbox0 hb0) | (go_at_call 61; refine (fault_of.kinds _).mono ?_; rintro e w2 ⟨rfl, hb2⟩; have hbx := Aside0.mk (blk_below hbox.out hb2); have hbb := Aside0.mk (below_step hb.out hb2); clear hb2) | ((with_reducible refine gate_store (t := 57) (p := 2) rfl ?_); refine wpList_store_row rfl 57 (.tmp 2) (.tmp 12) rfl gb #[.string (⟨#[101, 120, 101, 99]⟩ : ByteArray), .int .i64 48, .int .i64 8, .int .i64 16, .int .i64 1] rfl rfl 57 _ hbx.out (by kernel_rfl) rfl (by kernel_rfl) ?_))
  refine bodyPost_ret (results_cell_row rfl _ _ gb 57 #[.string (⟨#[101, 120, 101, 99]⟩ : ByteArray), .int .i64 48, .int .i64 8, .int .i64 16, .int .i64 1] (0, 0) _ rfl (setRow_heap _ gb _ _ _ _ hbx.out) Try.underlying57 rfl (by kernel_rfl)) rfl ?_
  exact ⟨rfl, below_setRow hbb.out hge.out _⟩
set_option maxHeartbeats 8000000 in
set_option maxRecDepth 100000 in
theorem fault_of.lo (a0 : Int) (w : World) (h : a0 < 0) : Calls Try.prog 56 #[.int .i64 a0] w fun e w' => e = .returned (.agg #[.string ⟨#[]⟩, .int .i64 0, .int .i64 0, .int .i64 0, .int .i64 0]) ∧ Below w.heap.size w w' := by
  have hu57 := Try.underlying57
  have h1 : decide (a0 < 0) = true := decide_eq_true h
  go_enter Try.func56, Try.ntmps56
  go_wp2_with (first | ((with_reducible refine gate_dst (N := 2) rfl ?_); refine box_event ?hg (N := 2) ?hd (cs := #[.string ⟨#[]⟩, .int .i64 0, .int .i64 0, .int .i64 0, .int .i64 0]) (t := 57) ?hr ?_; (case hd => rfl); (case hg => rfl); (case hr => first | (go_simp; done) | (go_simp; rfl)); intro gb hgb w1 hbox0 hb0; have hge := Aside0.mk (Nat.le_of_eq hgb.symm); have hbox := Aside0.mk hbox0; have hb := Aside0.mk hb0; clear hgb hbox0 hb0) | ((with_reducible refine gate_store (t := 57) (p := 2) rfl ?_); refine wpList_store_row rfl 57 (.tmp 2) (.tmp 9) rfl gb #[.string ⟨#[]⟩, .int .i64 0, .int .i64 0, .int .i64 0, .int .i64 0] rfl rfl 57 _ hbox.out (by kernel_rfl) rfl (by kernel_rfl) ?_))
  refine bodyPost_ret (results_cell_row rfl _ _ gb 57 #[.string ⟨#[]⟩, .int .i64 0, .int .i64 0, .int .i64 0, .int .i64 0] (0, 0) _ rfl (setRow_heap _ gb _ _ _ _ hbox.out) Try.underlying57 rfl (by kernel_rfl)) rfl ?_
  exact ⟨rfl, below_setRow hb.out hge.out _⟩
set_option maxHeartbeats 8000000 in
set_option maxRecDepth 100000 in
theorem fault_of.hi (a0 : Int) (w : World) (h : 7 ≤ a0) : Calls Try.prog 56 #[.int .i64 a0] w fun e w' => e = .returned (.agg #[.string ⟨#[]⟩, .int .i64 0, .int .i64 0, .int .i64 0, .int .i64 0]) ∧ Below w.heap.size w w' := by
  have hu57 := Try.underlying57
  have h1 : decide (a0 < 0) = false := decide_eq_false (by omega)
  have h2 : decide (7 ≤ a0) = true := decide_eq_true h
  go_enter Try.func56, Try.ntmps56
  go_wp2_with (first | ((with_reducible refine gate_dst (N := 2) rfl ?_); refine box_event ?hg (N := 2) ?hd (cs := #[.string ⟨#[]⟩, .int .i64 0, .int .i64 0, .int .i64 0, .int .i64 0]) (t := 57) ?hr ?_; (case hd => rfl); (case hg => rfl); (case hr => first | (go_simp; done) | (go_simp; rfl)); intro gb hgb w1 hbox0 hb0; have hge := Aside0.mk (Nat.le_of_eq hgb.symm); have hbox := Aside0.mk hbox0; have hb := Aside0.mk hb0; clear hgb hbox0 hb0) | ((with_reducible refine gate_store (t := 57) (p := 2) rfl ?_); refine wpList_store_row rfl 57 (.tmp 2) (.tmp 9) rfl gb #[.string ⟨#[]⟩, .int .i64 0, .int .i64 0, .int .i64 0, .int .i64 0] rfl rfl 57 _ hbox.out (by kernel_rfl) rfl (by kernel_rfl) ?_))
  refine bodyPost_ret (results_cell_row rfl _ _ gb 57 #[.string ⟨#[]⟩, .int .i64 0, .int .i64 0, .int .i64 0, .int .i64 0] (0, 0) _ rfl (setRow_heap _ gb _ _ _ _ hbox.out) Try.underlying57 rfl (by kernel_rfl)) rfl ?_
  exact ⟨rfl, below_setRow hb.out hge.out _⟩
theorem fault_of.calls (a0 : Int) (r1 : ByteArray) (r2 : Int) (r3 : Int) (r4 : Int) (r5 : Int) (w : World) (h : fault_of.f a0 = some (r1, r2, r3, r4, r5)) :
    Calls Try.prog 56 #[.int .i64 a0] w fun e w' => e = .returned (.agg #[.string r1, .int .i64 r2, .int .i64 r3, .int .i64 r4, .int .i64 r5]) ∧ Below w.heap.size w w' := by
  unfold fault_of.f at h
  by_cases c0 : a0 = 0
  · subst c0; rw [if_pos rfl] at h; simp only [Option.some.injEq, Prod.mk.injEq] at h; obtain ⟨rfl, rfl, rfl, rfl, rfl⟩ := h; exact fault_of.at0 w
  rw [if_neg c0] at h
  by_cases c1 : a0 = 1
  · subst c1; rw [if_pos rfl] at h; simp only [Option.some.injEq, Prod.mk.injEq] at h; obtain ⟨rfl, rfl, rfl, rfl, rfl⟩ := h; exact fault_of.at1 w
  rw [if_neg c1] at h
  by_cases c2 : a0 = 2
  · subst c2; rw [if_pos rfl] at h; simp only [Option.some.injEq, Prod.mk.injEq] at h; obtain ⟨rfl, rfl, rfl, rfl, rfl⟩ := h; exact fault_of.at2 w
  rw [if_neg c2] at h
  by_cases c3 : a0 = 3
  · subst c3; rw [if_pos rfl] at h; simp only [Option.some.injEq, Prod.mk.injEq] at h; obtain ⟨rfl, rfl, rfl, rfl, rfl⟩ := h; exact fault_of.at3 w
  rw [if_neg c3] at h
  by_cases c4 : a0 = 4
  · subst c4; rw [if_pos rfl] at h; simp only [Option.some.injEq, Prod.mk.injEq] at h; obtain ⟨rfl, rfl, rfl, rfl, rfl⟩ := h; exact fault_of.at4 w
  rw [if_neg c4] at h
  by_cases c5 : a0 = 5
  · subst c5; rw [if_pos rfl] at h; simp only [Option.some.injEq, Prod.mk.injEq] at h; obtain ⟨rfl, rfl, rfl, rfl, rfl⟩ := h; exact fault_of.at5 w
  rw [if_neg c5] at h
  by_cases c6 : a0 = 6
  · subst c6; rw [if_pos rfl] at h; simp only [Option.some.injEq, Prod.mk.injEq] at h; obtain ⟨rfl, rfl, rfl, rfl, rfl⟩ := h; exact fault_of.at6 w
  rw [if_neg c6] at h
  simp only [Option.some.injEq, Prod.mk.injEq] at h
  obtain ⟨rfl, rfl, rfl, rfl, rfl⟩ := h
  by_cases hl : a0 < 0
  · exact fault_of.lo a0 w hl
  · exact fault_of.hi a0 w (by omega)


/-! ### fault_Trap: function 44 -/
def fault_Trap.f (a0 : Int) (a1_0 : Int) (a1_1 : Bool) (a1_2 : Int) : Option (Int) := if a1_0 = 2 then ((fault_of.f a0).bind fun bt104 => (some bt104.2.2.1)) else ((fault_of.f a0).bind fun bt109 => (some bt109.2.1))
set_option maxHeartbeats 8000000 in
set_option maxRecDepth 100000 in
theorem fault_Trap.calls (a0 : Int) (a1_0 : Int) (a1_1 : Bool) (a1_2 : Int) (r : Int) (w : World) (h : fault_Trap.f a0 a1_0 a1_1 a1_2 = some r) :
    Calls Try.prog 44 #[.int .i64 a0, .agg #[.int .i64 a1_0, .bool a1_1, .int .u64 a1_2]] w fun e w' => e = .returned (.int .i64 r) ∧ Below w.heap.size w w' := by
  have hu43 := Try.underlying43
  have hu57 := Try.underlying57
  have hfv57_2 : ∀ (c0_ c1_ c2_ c3_ c4_ : Value) (W_ : World), (Instr.field 57 (.agg #[c0_, c1_, c2_, c3_, c4_]) 2).run Try.prog W_ = .ok (c2_) W_ := fun _ _ _ _ _ _ => by kernel_rfl
  have hfv57_1 : ∀ (c0_ c1_ c2_ c3_ c4_ : Value) (W_ : World), (Instr.field 57 (.agg #[c0_, c1_, c2_, c3_, c4_]) 1).run Try.prog W_ = .ok (c1_) W_ := fun _ _ _ _ _ _ => by kernel_rfl
  have HB := Aside0.mk (Below.refl w.heap.size w)
  have H : (if a1_0 = 2 then ((fault_of.f a0).bind fun bt104 => (some bt104.2.2.1)) else ((fault_of.f a0).bind fun bt109 => (some bt109.2.1))) = some r := h
  clear h
  by_cases c3 : a1_0 = 2
  · rw [if_pos c3] at H
    have c3b0 : (a1_0 == 2) = true := beq_iff_eq.mpr c3
    have c3b1 : (a1_0 != 2) = false := bne_eq_false_iff_eq.mpr c3
    clear c3
    replace H := Option.bind_eq_some_iff.mp H
    obtain ⟨⟨t104, t105, t106, t107, t108⟩, A40, H⟩ := H
    replace H : (some t106) = some r := H
    have A4 := Aside0.mk A40
    clear A40
    obtain rfl := Option.some.inj H
    go_enter Try.func44, Try.ntmps44
    go_wp2_with (first | ((with_reducible refine gate_dst (N := 3) rfl ?_); refine box_event ?hg (N := 3) ?hd (cs := #[.int .i64 a1_0, .bool a1_1, .int .u64 a1_2]) (t := 43) ?hr ?_; (case hd => rfl); (case hg => rfl); (case hr => first | (go_simp; done) | (go_simp; rfl)); intro gb103 hg w5 hbox hb; have n0_ := Aside0.mk (below_step (by repeat (first | (with_reducible first | exact HB.out | apply below_alloc | apply pw_below_drewN | apply below_drew1) | exact HB.out)) hb); have n1_ := Aside0.mk (hbox); have n2_ := Aside0.mk ((by rw [hg]; exact (below_size (by repeat (first | (with_reducible first | exact HB.out | apply below_alloc | apply pw_below_drewN | apply below_drew1) | exact HB.out))) : w.heap.size ≤ gb103)); have n3_ := Aside0.mk ((by rw [hg]; exact (below_size (by repeat (first | (with_reducible first | exact HB.out | apply below_alloc | apply pw_below_drewN | apply below_drew1) | exact HB.out))) : w.heap.size ≤ gb103)); clear HB; have HB := n0_; have BK103 := n1_; have GW103 := n2_; have GE103 := n3_; clear n0_ n1_ n2_ n3_; clear hb hbox hg; have hcz6_0 : w5.cell? ⟨gb103, 0, none⟩ = some (.int .i64 a1_0) := (blk_cell BK103.out 0).trans rfl; have hcz6_1 : w5.cell? ⟨gb103, 1, none⟩ = some (.bool a1_1) := (blk_cell BK103.out 1).trans rfl; have hcz6_2 : w5.cell? ⟨gb103, 2, none⟩ = some (.int .u64 a1_2) := (blk_cell BK103.out 2).trans rfl; have hfz6_0 := blk_frozen BK103.out 0; have hfz6_1 := blk_frozen BK103.out 1; have hfz6_2 := blk_frozen BK103.out 2) | ((with_reducible refine gate_callee (f := 56) rfl ?_); refine goesL_ (some 9) rfl rfl Try.func56 (by kernel_rfl) rfl #[.int .i64 a0] rfl (by (try simp only [List.map_toArray, List.map_cons, List.map_nil]); first | done | rfl | (simp only [List.length_drop, List.length_take]; rfl)) ?_; (with_reducible refine (fault_of.calls a0 t104 t105 t106 t107 t108 _ A4.out).mono ?_); rintro e w7 ⟨rfl, hb⟩; refine ⟨_, rfl, ?_⟩; have n0_ := Aside0.mk (blk_below (g := gb103) (o := .cells #[.int .i64 a1_0, .bool a1_1, .int .u64 a1_2] 43 (0, 0)) (by (with_reducible repeat (first | refine blk_drewN ?_ _ | refine blk_drew ?_ | refine blk_alloc ?_ _)); exact BK103.out) hb); have n1_ := Aside0.mk (below_step (by repeat (first | (with_reducible first | exact HB.out | apply below_alloc | apply pw_below_drewN | apply below_drew1 | refine below_set ?_ GE103.out) | exact HB.out)) hb); clear BK103; clear HB; have BK103 := n0_; have HB := n1_; clear n0_ n1_; (try clear hb); (try clear hb2); (try clear hk); (try clear hi)))
    go_ret
    exact ⟨by first | rfl | (simp [errW_none, errW_some] <;> rfl) | (simp [*, errW_none, errW_some] <;> rfl), by repeat (first | (with_reducible first | exact HB.out | apply below_alloc | apply pw_below_drewN | apply below_drew1 | refine below_set ?_ GE103.out) | exact HB.out)⟩
  · rw [if_neg c3] at H
    have c3b0 : (a1_0 == 2) = false := beq_eq_false_iff_ne.mpr c3
    have c3b1 : (a1_0 != 2) = true := bne_iff_ne.mpr c3
    replace H := Option.bind_eq_some_iff.mp H
    obtain ⟨⟨t109, t110, t111, t112, t113⟩, A80, H⟩ := H
    replace H : (some t110) = some r := H
    have A8 := Aside0.mk A80
    clear A80
    obtain rfl := Option.some.inj H
    go_enter Try.func44, Try.ntmps44
    go_wp2_with (first | ((with_reducible refine gate_dst (N := 3) rfl ?_); refine box_event ?hg (N := 3) ?hd (cs := #[.int .i64 a1_0, .bool a1_1, .int .u64 a1_2]) (t := 43) ?hr ?_; (case hd => rfl); (case hg => rfl); (case hr => first | (go_simp; done) | (go_simp; rfl)); intro gb103 hg w9 hbox hb; have n0_ := Aside0.mk (below_step (by repeat (first | (with_reducible first | exact HB.out | apply below_alloc | apply pw_below_drewN | apply below_drew1) | exact HB.out)) hb); have n1_ := Aside0.mk (hbox); have n2_ := Aside0.mk ((by rw [hg]; exact (below_size (by repeat (first | (with_reducible first | exact HB.out | apply below_alloc | apply pw_below_drewN | apply below_drew1) | exact HB.out))) : w.heap.size ≤ gb103)); have n3_ := Aside0.mk ((by rw [hg]; exact (below_size (by repeat (first | (with_reducible first | exact HB.out | apply below_alloc | apply pw_below_drewN | apply below_drew1) | exact HB.out))) : w.heap.size ≤ gb103)); clear HB; have HB := n0_; have BK103 := n1_; have GW103 := n2_; have GE103 := n3_; clear n0_ n1_ n2_ n3_; clear hb hbox hg; have hcz10_0 : w9.cell? ⟨gb103, 0, none⟩ = some (.int .i64 a1_0) := (blk_cell BK103.out 0).trans rfl; have hcz10_1 : w9.cell? ⟨gb103, 1, none⟩ = some (.bool a1_1) := (blk_cell BK103.out 1).trans rfl; have hcz10_2 : w9.cell? ⟨gb103, 2, none⟩ = some (.int .u64 a1_2) := (blk_cell BK103.out 2).trans rfl; have hfz10_0 := blk_frozen BK103.out 0; have hfz10_1 := blk_frozen BK103.out 1; have hfz10_2 := blk_frozen BK103.out 2) | ((with_reducible refine gate_callee (f := 56) rfl ?_); refine goesL_ (some 12) rfl rfl Try.func56 (by kernel_rfl) rfl #[.int .i64 a0] rfl (by (try simp only [List.map_toArray, List.map_cons, List.map_nil]); first | done | rfl | (simp only [List.length_drop, List.length_take]; rfl)) ?_; (with_reducible refine (fault_of.calls a0 t109 t110 t111 t112 t113 _ A8.out).mono ?_); rintro e w11 ⟨rfl, hb⟩; refine ⟨_, rfl, ?_⟩; have n0_ := Aside0.mk (blk_below (g := gb103) (o := .cells #[.int .i64 a1_0, .bool a1_1, .int .u64 a1_2] 43 (0, 0)) (by (with_reducible repeat (first | refine blk_drewN ?_ _ | refine blk_drew ?_ | refine blk_alloc ?_ _)); exact BK103.out) hb); have n1_ := Aside0.mk (below_step (by repeat (first | (with_reducible first | exact HB.out | apply below_alloc | apply pw_below_drewN | apply below_drew1 | refine below_set ?_ GE103.out) | exact HB.out)) hb); clear BK103; clear HB; have BK103 := n0_; have HB := n1_; clear n0_ n1_; (try clear hb); (try clear hb2); (try clear hk); (try clear hi)))
    go_ret
    exact ⟨by first | rfl | (simp [errW_none, errW_some] <;> rfl) | (simp [*, errW_none, errW_some] <;> rfl), by repeat (first | (with_reducible first | exact HB.out | apply below_alloc | apply pw_below_drewN | apply below_drew1 | refine below_set ?_ GE103.out) | exact HB.out)⟩

/-! ### fault_May: function 57 -/
def fault_May.f (a0_0 : Int) (a0_1 : Bool) (a0_2 : Int) : Option (Bool) := if a0_0 ≥ 0 then (some (decide (a0_0 < 4))) else (some false)
set_option maxHeartbeats 8000000 in
set_option maxRecDepth 100000 in
theorem fault_May.calls (a0_0 : Int) (a0_1 : Bool) (a0_2 : Int) (r : Bool) (w : World) (h : fault_May.f a0_0 a0_1 a0_2 = some r) :
    Calls Try.prog 57 #[.agg #[.int .i64 a0_0, .bool a0_1, .int .u64 a0_2]] w fun e w' => e = .returned (.bool r) ∧ Below w.heap.size w w' := by
  have hu43 := Try.underlying43
  have HB := Aside0.mk (Below.refl w.heap.size w)
  have H : (if a0_0 ≥ 0 then (some (decide (a0_0 < 4))) else (some false)) = some r := h
  clear h
  by_cases c2 : a0_0 ≥ 0
  · rw [if_pos c2] at H
    have c2b0 : decide (0 ≤ a0_0) = true := decide_eq_true c2
    clear c2
    obtain rfl := Option.some.inj H
    go_enter Try.func57, Try.ntmps57
    go_wp2_with (first | ((with_reducible refine gate_dst (N := 1) rfl ?_); refine box_event ?hg (N := 1) ?hd (cs := #[.int .i64 a0_0, .bool a0_1, .int .u64 a0_2]) (t := 43) ?hr ?_; (case hd => rfl); (case hg => rfl); (case hr => first | (go_simp; done) | (go_simp; rfl)); intro gb114 hg w3 hbox hb; have n0_ := Aside0.mk (below_step (by repeat (first | (with_reducible first | exact HB.out | apply below_alloc | apply pw_below_drewN | apply below_drew1) | exact HB.out)) hb); have n1_ := Aside0.mk (hbox); have n2_ := Aside0.mk ((by rw [hg]; exact (below_size (by repeat (first | (with_reducible first | exact HB.out | apply below_alloc | apply pw_below_drewN | apply below_drew1) | exact HB.out))) : w.heap.size ≤ gb114)); have n3_ := Aside0.mk ((by rw [hg]; exact (below_size (by repeat (first | (with_reducible first | exact HB.out | apply below_alloc | apply pw_below_drewN | apply below_drew1) | exact HB.out))) : w.heap.size ≤ gb114)); clear HB; have HB := n0_; have BK114 := n1_; have GW114 := n2_; have GE114 := n3_; clear n0_ n1_ n2_ n3_; clear hb hbox hg; have hcz4_0 : w3.cell? ⟨gb114, 0, none⟩ = some (.int .i64 a0_0) := (blk_cell BK114.out 0).trans rfl; have hcz4_1 : w3.cell? ⟨gb114, 1, none⟩ = some (.bool a0_1) := (blk_cell BK114.out 1).trans rfl; have hcz4_2 : w3.cell? ⟨gb114, 2, none⟩ = some (.int .u64 a0_2) := (blk_cell BK114.out 2).trans rfl; have hfz4_0 := blk_frozen BK114.out 0; have hfz4_1 := blk_frozen BK114.out 1; have hfz4_2 := blk_frozen BK114.out 2))
    go_ret
    exact ⟨by first | rfl | (simp [errW_none, errW_some] <;> rfl) | (simp [*, errW_none, errW_some] <;> rfl), by repeat (first | (with_reducible first | exact HB.out | apply below_alloc | apply pw_below_drewN | apply below_drew1 | refine below_set ?_ GE114.out) | exact HB.out)⟩
  · rw [if_neg c2] at H
    have c2b0 : decide (0 ≤ a0_0) = false := decide_eq_false c2
    clear c2
    obtain rfl := Option.some.inj H
    go_enter Try.func57, Try.ntmps57
    go_wp2_with (first | ((with_reducible refine gate_dst (N := 1) rfl ?_); refine box_event ?hg (N := 1) ?hd (cs := #[.int .i64 a0_0, .bool a0_1, .int .u64 a0_2]) (t := 43) ?hr ?_; (case hd => rfl); (case hg => rfl); (case hr => first | (go_simp; done) | (go_simp; rfl)); intro gb114 hg w5 hbox hb; have n0_ := Aside0.mk (below_step (by repeat (first | (with_reducible first | exact HB.out | apply below_alloc | apply pw_below_drewN | apply below_drew1) | exact HB.out)) hb); have n1_ := Aside0.mk (hbox); have n2_ := Aside0.mk ((by rw [hg]; exact (below_size (by repeat (first | (with_reducible first | exact HB.out | apply below_alloc | apply pw_below_drewN | apply below_drew1) | exact HB.out))) : w.heap.size ≤ gb114)); have n3_ := Aside0.mk ((by rw [hg]; exact (below_size (by repeat (first | (with_reducible first | exact HB.out | apply below_alloc | apply pw_below_drewN | apply below_drew1) | exact HB.out))) : w.heap.size ≤ gb114)); clear HB; have HB := n0_; have BK114 := n1_; have GW114 := n2_; have GE114 := n3_; clear n0_ n1_ n2_ n3_; clear hb hbox hg; have hcz6_0 : w5.cell? ⟨gb114, 0, none⟩ = some (.int .i64 a0_0) := (blk_cell BK114.out 0).trans rfl; have hcz6_1 : w5.cell? ⟨gb114, 1, none⟩ = some (.bool a0_1) := (blk_cell BK114.out 1).trans rfl; have hcz6_2 : w5.cell? ⟨gb114, 2, none⟩ = some (.int .u64 a0_2) := (blk_cell BK114.out 2).trans rfl; have hfz6_0 := blk_frozen BK114.out 0; have hfz6_1 := blk_frozen BK114.out 1; have hfz6_2 := blk_frozen BK114.out 2))
    go_ret
    exact ⟨by first | rfl | (simp [errW_none, errW_some] <;> rfl) | (simp [*, errW_none, errW_some] <;> rfl), by repeat (first | (with_reducible first | exact HB.out | apply below_alloc | apply pw_below_drewN | apply below_drew1 | refine below_set ?_ GE114.out) | exact HB.out)⟩

end Go.Proofs.Ytedjiicaikhcbaa.QFaultTaken
