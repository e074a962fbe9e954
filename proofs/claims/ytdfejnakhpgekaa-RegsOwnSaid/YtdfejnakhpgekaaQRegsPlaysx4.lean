-- Printed by a program of this session (wip/print/myprint.py) out of the translation; Lean checks it.
import Derived.Test.YtdfejnakhpgekaaQRegsPlaysx0
namespace Go.Proofs.Ytdfejnakhpgekaa.QRegsPlays
open Go.RowKit Go.Proofs.YtdfejnakhpgekaaW.PrintWords Go.Proofs.YtdfejnakhpgekaaW.PrintLast Go.Proofs.YtdfejnakhpgekaaW.PrintMore
attribute [local go_sem] max2_int min2_int max_two min_two max_three min_three max_four min_four   -- for this text's walks alone
set_option linter.unusedVariables false
set_option linter.unusedSimpArgs false

/-! ### lookasideref07_Fault: function 66 -/
mutual
def lookasideref07_Fault.j0 : Nat → Int → Int → Int → Bool → Bool → Int → Bool → Int → Int → Int → Int → Int → Int → Int → Int → Int → Option (Int × Int × Int × Int × Int × Int × Int × Int × Int × Int)
  | 0, _, _, _, _, _, _, _, _, _, _, _, _, _, _, _, _ => none
  | k + 1, x1, x2, x3, x4, x5, x6, x39, x132000, x132001, x132002, x132003, x132004, x132005, x132006, x132007, x132008 => if x39 = true then (some (x132000, x132001, x132002, x132003, x132004, x132005, x132006, x132007, x132008, 1)) else (if x1 = 1 then (lookasideref07_Fault.j1 k x1 x2 x3 x4 x5 x6 x132005 x132000 x132001 x132002 x132003 x132004 x132005 x132006 x132007 x132008) else (lookasideref07_Fault.j1 k x1 x2 x3 x4 x5 x6 x132000 x132000 x132001 x132002 x132003 x132004 x132005 x132006 x132007 x132008))
def lookasideref07_Fault.j1 : Nat → Int → Int → Int → Bool → Bool → Int → Int → Int → Int → Int → Int → Int → Int → Int → Int → Int → Option (Int × Int × Int × Int × Int × Int × Int × Int × Int × Int)
  | 0, _, _, _, _, _, _, _, _, _, _, _, _, _, _, _, _ => none
  | k + 1, x1, x2, x3, x4, x5, x6, x16, x132000, x132001, x132002, x132003, x132004, x132005, x132006, x132007, x132008 => if x4 = true then (lookasideref07_Fault.j2 k x1 x5 x6 (IntKind.u64.wrap ((IntKind.u64.wrap ((IntKind.u64.wrap ((IntKind.u64.wrap (1 + (IntKind.u64.wrap (2 * (Int.tmod x16 2))))) + (IntKind.u64.wrap ((IntKind.u64.wrap (x2)) * 128)))) + (IntKind.u64.wrap ((IntKind.u64.wrap (x3)) * 65536)))) + 4)) x132000 x132001 x132002 x132003 x132004 x132005 x132006 x132007 x132008) else (lookasideref07_Fault.j2 k x1 x5 x6 (IntKind.u64.wrap ((IntKind.u64.wrap ((IntKind.u64.wrap (1 + (IntKind.u64.wrap (2 * (Int.tmod x16 2))))) + (IntKind.u64.wrap ((IntKind.u64.wrap (x2)) * 128)))) + (IntKind.u64.wrap ((IntKind.u64.wrap (x3)) * 65536)))) x132000 x132001 x132002 x132003 x132004 x132005 x132006 x132007 x132008)
def lookasideref07_Fault.j2 : Nat → Int → Bool → Int → Int → Int → Int → Int → Int → Int → Int → Int → Int → Int → Option (Int × Int × Int × Int × Int × Int × Int × Int × Int × Int)
  | 0, _, _, _, _, _, _, _, _, _, _, _, _, _ => none
  | k + 1, x1, x5, x6, x17, x132000, x132001, x132002, x132003, x132004, x132005, x132006, x132007, x132008 => if x5 = true then (if x1 = 0 then (some (IntKind.u64.wrap (x17 + 8), x132001, x132002, x132003, x132004, x132005, x132006, x132007, x132008, 0)) else (some (x132000, x132001, x132002, x132003, x132004, IntKind.u64.wrap (x17 + 8), x6, x132007, x132008, 0))) else (if x1 = 0 then (some (x17, x132001, x132002, x132003, x132004, x132005, x132006, x132007, x132008, 0)) else (some (x132000, x132001, x132002, x132003, x132004, x17, x6, x132007, x132008, 0)))
end
def lookasideref07_Fault.f (k : Nat) (a0_0 : Int) (a0_1 : Int) (a0_2 : Int) (a0_3 : Int) (a0_4 : Int) (a0_5 : Int) (a0_6 : Int) (a0_7 : Int) (a0_8 : Int) (a1 : Int) (a2 : Int) (a3 : Int) (a4 : Bool) (a5 : Bool) (a6 : Int) : Option (Int × Int × Int × Int × Int × Int × Int × Int × Int × Int) := if a1 < 0 then (lookasideref07_Fault.j0 k a1 a2 a3 a4 a5 a6 true a0_0 a0_1 a0_2 a0_3 a0_4 a0_5 a0_6 a0_7 a0_8) else (if a1 > 1 then (lookasideref07_Fault.j0 k a1 a2 a3 a4 a5 a6 true a0_0 a0_1 a0_2 a0_3 a0_4 a0_5 a0_6 a0_7 a0_8) else (if a2 < 0 then (lookasideref07_Fault.j0 k a1 a2 a3 a4 a5 a6 true a0_0 a0_1 a0_2 a0_3 a0_4 a0_5 a0_6 a0_7 a0_8) else (if a2 > 127 then (lookasideref07_Fault.j0 k a1 a2 a3 a4 a5 a6 true a0_0 a0_1 a0_2 a0_3 a0_4 a0_5 a0_6 a0_7 a0_8) else (if a3 < 0 then (lookasideref07_Fault.j0 k a1 a2 a3 a4 a5 a6 true a0_0 a0_1 a0_2 a0_3 a0_4 a0_5 a0_6 a0_7 a0_8) else (lookasideref07_Fault.j0 k a1 a2 a3 a4 a5 a6 (decide (a3 > 255)) a0_0 a0_1 a0_2 a0_3 a0_4 a0_5 a0_6 a0_7 a0_8)))))
theorem lookasideref07_Fault.mono_l : ∀ k, (∀ y0 y1 y2 y3 y4 y5 y6 y7 y8 y9 y10 y11 y12 y13 y14 y15, LeO (lookasideref07_Fault.j0 k y0 y1 y2 y3 y4 y5 y6 y7 y8 y9 y10 y11 y12 y13 y14 y15) (lookasideref07_Fault.j0 (k + 1) y0 y1 y2 y3 y4 y5 y6 y7 y8 y9 y10 y11 y12 y13 y14 y15)) ∧ (∀ y0 y1 y2 y3 y4 y5 y6 y7 y8 y9 y10 y11 y12 y13 y14 y15, LeO (lookasideref07_Fault.j1 k y0 y1 y2 y3 y4 y5 y6 y7 y8 y9 y10 y11 y12 y13 y14 y15) (lookasideref07_Fault.j1 (k + 1) y0 y1 y2 y3 y4 y5 y6 y7 y8 y9 y10 y11 y12 y13 y14 y15)) ∧ (∀ y0 y1 y2 y3 y4 y5 y6 y7 y8 y9 y10 y11 y12, LeO (lookasideref07_Fault.j2 k y0 y1 y2 y3 y4 y5 y6 y7 y8 y9 y10 y11 y12) (lookasideref07_Fault.j2 (k + 1) y0 y1 y2 y3 y4 y5 y6 y7 y8 y9 y10 y11 y12))
  | 0 => ⟨fun _ _ _ _ _ _ _ _ _ _ _ _ _ _ _ _ r h => by simp [lookasideref07_Fault.j0] at h, fun _ _ _ _ _ _ _ _ _ _ _ _ _ _ _ _ r h => by simp [lookasideref07_Fault.j1] at h, fun _ _ _ _ _ _ _ _ _ _ _ _ _ r h => by simp [lookasideref07_Fault.j2] at h⟩
  | k + 1 => by
    obtain ⟨ih0, ih1, ih2⟩ := lookasideref07_Fault.mono_l k
    refine ⟨?_, ?_, ?_⟩
    · intro y0 y1 y2 y3 y4 y5 y6 y7 y8 y9 y10 y11 y12 y13 y14 y15
      unfold lookasideref07_Fault.j0
      repeat' first
      | (with_reducible exact ih0 _ _ _ _ _ _ _ _ _ _ _ _ _ _ _ _)
      | (with_reducible exact ih1 _ _ _ _ _ _ _ _ _ _ _ _ _ _ _ _)
      | (with_reducible exact ih2 _ _ _ _ _ _ _ _ _ _ _ _ _)
      | (with_reducible exact LeO.refl _)
      | (with_reducible exact LeO.none _)
      | (with_reducible refine LeO.ite ?_ ?_)
      | (with_reducible refine LeO.bind ?_ (fun _ => ?_))
      | exact ih0 _ _ _ _ _ _ _ _ _ _ _ _ _ _ _ _
      | exact ih1 _ _ _ _ _ _ _ _ _ _ _ _ _ _ _ _
      | exact ih2 _ _ _ _ _ _ _ _ _ _ _ _ _
      | exact LeO.none _
      | refine LeO.ite ?_ ?_
      | refine LeO.bind ?_ (fun _ => ?_)
    · intro y0 y1 y2 y3 y4 y5 y6 y7 y8 y9 y10 y11 y12 y13 y14 y15
      unfold lookasideref07_Fault.j1
      repeat' first
      | (with_reducible exact ih0 _ _ _ _ _ _ _ _ _ _ _ _ _ _ _ _)
      | (with_reducible exact ih1 _ _ _ _ _ _ _ _ _ _ _ _ _ _ _ _)
      | (with_reducible exact ih2 _ _ _ _ _ _ _ _ _ _ _ _ _)
      | (with_reducible exact LeO.refl _)
      | (with_reducible exact LeO.none _)
      | (with_reducible refine LeO.ite ?_ ?_)
      | (with_reducible refine LeO.bind ?_ (fun _ => ?_))
      | exact ih0 _ _ _ _ _ _ _ _ _ _ _ _ _ _ _ _
      | exact ih1 _ _ _ _ _ _ _ _ _ _ _ _ _ _ _ _
      | exact ih2 _ _ _ _ _ _ _ _ _ _ _ _ _
      | exact LeO.none _
      | refine LeO.ite ?_ ?_
      | refine LeO.bind ?_ (fun _ => ?_)
    · intro y0 y1 y2 y3 y4 y5 y6 y7 y8 y9 y10 y11 y12
      unfold lookasideref07_Fault.j2
      repeat' first
      | (with_reducible exact ih0 _ _ _ _ _ _ _ _ _ _ _ _ _ _ _ _)
      | (with_reducible exact ih1 _ _ _ _ _ _ _ _ _ _ _ _ _ _ _ _)
      | (with_reducible exact ih2 _ _ _ _ _ _ _ _ _ _ _ _ _)
      | (with_reducible exact LeO.refl _)
      | (with_reducible exact LeO.none _)
      | (with_reducible refine LeO.ite ?_ ?_)
      | (with_reducible refine LeO.bind ?_ (fun _ => ?_))
      | exact ih0 _ _ _ _ _ _ _ _ _ _ _ _ _ _ _ _
      | exact ih1 _ _ _ _ _ _ _ _ _ _ _ _ _ _ _ _
      | exact ih2 _ _ _ _ _ _ _ _ _ _ _ _ _
      | exact LeO.none _
      | refine LeO.ite ?_ ?_
      | refine LeO.bind ?_ (fun _ => ?_)
theorem lookasideref07_Fault.mono : ∀ a0 a1 a2 a3 a4 a5 a6 a7 a8 a9 a10 a11 a12 a13 a14 k, LeO (lookasideref07_Fault.f k a0 a1 a2 a3 a4 a5 a6 a7 a8 a9 a10 a11 a12 a13 a14) (lookasideref07_Fault.f (k + 1) a0 a1 a2 a3 a4 a5 a6 a7 a8 a9 a10 a11 a12 a13 a14) := by
  intro a0 a1 a2 a3 a4 a5 a6 a7 a8 a9 a10 a11 a12 a13 a14 k
  obtain ⟨ih0, ih1, ih2⟩ := lookasideref07_Fault.mono_l k
  unfold lookasideref07_Fault.f
  repeat' first
      | (with_reducible exact ih0 _ _ _ _ _ _ _ _ _ _ _ _ _ _ _ _)
      | (with_reducible exact ih1 _ _ _ _ _ _ _ _ _ _ _ _ _ _ _ _)
      | (with_reducible exact ih2 _ _ _ _ _ _ _ _ _ _ _ _ _)
      | (with_reducible exact LeO.refl _)
      | (with_reducible exact LeO.none _)
      | (with_reducible refine LeO.ite ?_ ?_)
      | (with_reducible refine LeO.bind ?_ (fun _ => ?_))
      | exact ih0 _ _ _ _ _ _ _ _ _ _ _ _ _ _ _ _
      | exact ih1 _ _ _ _ _ _ _ _ _ _ _ _ _ _ _ _
      | exact ih2 _ _ _ _ _ _ _ _ _ _ _ _ _
      | exact LeO.none _
      | refine LeO.ite ?_ ?_
      | refine LeO.bind ?_ (fun _ => ?_)
set_option maxHeartbeats 8000000 in
set_option maxRecDepth 100000 in
theorem lookasideref07_Fault.calls (k : Nat) (a0_0 : Int) (a0_1 : Int) (a0_2 : Int) (a0_3 : Int) (a0_4 : Int) (a0_5 : Int) (a0_6 : Int) (a0_7 : Int) (a0_8 : Int) (a1 : Int) (a2 : Int) (a3 : Int) (a4 : Bool) (a5 : Bool) (a6 : Int) (r1 : Int) (r2 : Int) (r3 : Int) (r4 : Int) (r5 : Int) (r6 : Int) (r7 : Int) (r8 : Int) (r9 : Int) (r10 : Int) (w : World) (h : lookasideref07_Fault.f k a0_0 a0_1 a0_2 a0_3 a0_4 a0_5 a0_6 a0_7 a0_8 a1 a2 a3 a4 a5 a6 = some (r1, r2, r3, r4, r5, r6, r7, r8, r9, r10)) :
    Calls Try.prog 66 #[.agg #[.int .u64 a0_0, .int .u64 a0_1, .int .u64 a0_2, .int .u64 a0_3, .int .u64 a0_4, .int .u64 a0_5, .int .u64 a0_6, .int .u64 a0_7, .int .u64 a0_8], .int .i64 a1, .int .i64 a2, .int .i64 a3, .bool a4, .bool a5, .int .u64 a6] w fun e w' => e = .returned (.tuple #[.agg #[.int .u64 r1, .int .u64 r2, .int .u64 r3, .int .u64 r4, .int .u64 r5, .int .u64 r6, .int .u64 r7, .int .u64 r8, .int .u64 r9], .int .i64 r10]) ∧ Below w.heap.size w w' := by
  have hu38 := Try.underlying38
  have HB := Aside0.mk (Below.refl w.heap.size w)
  have H : (if a1 < 0 then (lookasideref07_Fault.j0 k a1 a2 a3 a4 a5 a6 true a0_0 a0_1 a0_2 a0_3 a0_4 a0_5 a0_6 a0_7 a0_8) else (if a1 > 1 then (lookasideref07_Fault.j0 k a1 a2 a3 a4 a5 a6 true a0_0 a0_1 a0_2 a0_3 a0_4 a0_5 a0_6 a0_7 a0_8) else (if a2 < 0 then (lookasideref07_Fault.j0 k a1 a2 a3 a4 a5 a6 true a0_0 a0_1 a0_2 a0_3 a0_4 a0_5 a0_6 a0_7 a0_8) else (if a2 > 127 then (lookasideref07_Fault.j0 k a1 a2 a3 a4 a5 a6 true a0_0 a0_1 a0_2 a0_3 a0_4 a0_5 a0_6 a0_7 a0_8) else (if a3 < 0 then (lookasideref07_Fault.j0 k a1 a2 a3 a4 a5 a6 true a0_0 a0_1 a0_2 a0_3 a0_4 a0_5 a0_6 a0_7 a0_8) else (lookasideref07_Fault.j0 k a1 a2 a3 a4 a5 a6 (decide (a3 > 255)) a0_0 a0_1 a0_2 a0_3 a0_4 a0_5 a0_6 a0_7 a0_8)))))) = some (r1, r2, r3, r4, r5, r6, r7, r8, r9, r10) := h
  clear h
  have HC8 := Aside0.mk H
  clear H
  go_enter Try.func66, Try.ntmps66
  go_upto_region 1 with (first | ((with_reducible refine gate_dst (N := 7) rfl ?_); refine box_event ?hg (N := 7) ?hd (cs := #[.int .u64 a0_0, .int .u64 a0_1, .int .u64 a0_2, .int .u64 a0_3, .int .u64 a0_4, .int .u64 a0_5, .int .u64 a0_6, .int .u64 a0_7, .int .u64 a0_8]) (t := 38) ?hr ?_; (case hd => rfl); (case hg => rfl); (case hr => first | (go_simp; done) | (go_simp; rfl)); intro gb131 hg w9 hbox hb; have n0_ := Aside0.mk (below_step (by repeat (first | (with_reducible first | exact HB.out | apply below_alloc | apply pw_below_drewN | apply below_drew1) | exact HB.out)) hb); have n1_ := Aside0.mk (hbox); have n2_ := Aside0.mk ((by rw [hg]; exact (below_size (by repeat (first | (with_reducible first | exact HB.out | apply below_alloc | apply pw_below_drewN | apply below_drew1) | exact HB.out))) : w.heap.size ≤ gb131)); have n3_ := Aside0.mk ((by rw [hg]; exact (below_size (by repeat (first | (with_reducible first | exact HB.out | apply below_alloc | apply pw_below_drewN | apply below_drew1) | exact HB.out))) : w.heap.size ≤ gb131)); clear HB; have HB := n0_; have BK131 := n1_; have GW131 := n2_; have GE131 := n3_; clear n0_ n1_ n2_ n3_; clear hb hbox hg) | ((with_reducible refine gate_dst (N := 14) rfl ?_); refine box_event ?hg (N := 14) ?hd (cs := #[.int .u64 0, .int .u64 0, .int .u64 0, .int .u64 0, .int .u64 0, .int .u64 0, .int .u64 0, .int .u64 0, .int .u64 0]) (t := 38) ?hr ?_; (case hd => rfl); (case hg => rfl); (case hr => first | (go_simp; done) | (go_simp; rfl)); intro gb132 hg w10 hbox hb; have n0_ := Aside0.mk (blk_below (g := gb131) (o := .cells #[.int .u64 a0_0, .int .u64 a0_1, .int .u64 a0_2, .int .u64 a0_3, .int .u64 a0_4, .int .u64 a0_5, .int .u64 a0_6, .int .u64 a0_7, .int .u64 a0_8] 38 (0, 0)) (by (with_reducible repeat (first | refine blk_drewN ?_ _ | refine blk_drew ?_ | refine blk_alloc ?_ _)); exact BK131.out) hb); have n1_ := Aside0.mk (below_step (by repeat (first | (with_reducible first | exact HB.out | apply below_alloc | apply pw_below_drewN | apply below_drew1 | refine below_set ?_ GE131.out) | exact HB.out)) hb); have n2_ := Aside0.mk (hbox); have n3_ := Aside0.mk ((by rw [hg]; exact (below_size (by repeat (first | (with_reducible first | exact HB.out | apply below_alloc | apply pw_below_drewN | apply below_drew1 | refine below_set ?_ GE131.out) | exact HB.out))) : w.heap.size ≤ gb132)); have n4_ := Aside0.mk ((by rw [hg]; exact (below_size (by repeat (first | (with_reducible first | exact HB.out | apply below_alloc | apply pw_below_drewN | apply below_drew1 | refine below_set ?_ GE131.out) | exact HB.out))) : w.heap.size ≤ gb132)); have n5_ := Aside0.mk ((by rw [hg]; exact Nat.ne_of_lt (blk_lt (g := gb131) (o := .cells #[.int .u64 a0_0, .int .u64 a0_1, .int .u64 a0_2, .int .u64 a0_3, .int .u64 a0_4, .int .u64 a0_5, .int .u64 a0_6, .int .u64 a0_7, .int .u64 a0_8] 38 (0, 0)) (by (with_reducible repeat (first | refine blk_drewN ?_ _ | refine blk_drew ?_ | refine blk_alloc ?_ _)); exact BK131.out)) : gb131 ≠ gb132)); have n6_ := Aside0.mk ((by rw [hg]; exact Nat.ne_of_gt (blk_lt (g := gb131) (o := .cells #[.int .u64 a0_0, .int .u64 a0_1, .int .u64 a0_2, .int .u64 a0_3, .int .u64 a0_4, .int .u64 a0_5, .int .u64 a0_6, .int .u64 a0_7, .int .u64 a0_8] 38 (0, 0)) (by (with_reducible repeat (first | refine blk_drewN ?_ _ | refine blk_drew ?_ | refine blk_alloc ?_ _)); exact BK131.out)) : gb132 ≠ gb131)); clear BK131; clear HB; have BK131 := n0_; have HB := n1_; have BK132 := n2_; have GW132 := n3_; have GE132 := n4_; have NB131_132 := n5_; have NB132_131 := n6_; clear n0_ n1_ n2_ n3_ n4_ n5_ n6_; clear hb hbox hg))
  (try simp only [Act.put, List.setIfInBounds_toArray, List.set_cons_zero, List.set_cons_succ])
  go_cut [39] (fun v39 wc => ∃ (kq : Nat) (x39_7 : Bool), v39 = .bool x39_7 ∧ Aside0 (lookasideref07_Fault.j0 kq a1 a2 a3 a4 a5 a6 x39_7 a0_0 a0_1 a0_2 a0_3 a0_4 a0_5 a0_6 a0_7 a0_8 = some (r1, r2, r3, r4, r5, r6, r7, r8, r9, r10)) ∧ Aside0 (kq ≤ k) ∧ Aside0 (wc.heap[gb131]? = some (.cells #[.int .u64 a0_0, .int .u64 a0_1, .int .u64 a0_2, .int .u64 a0_3, .int .u64 a0_4, .int .u64 a0_5, .int .u64 a0_6, .int .u64 a0_7, .int .u64 a0_8] 38 (0, 0))) ∧ Aside0 (wc.heap[gb132]? = some (.cells #[.int .u64 0, .int .u64 0, .int .u64 0, .int .u64 0, .int .u64 0, .int .u64 0, .int .u64 0, .int .u64 0, .int .u64 0] 38 (0, 0))) ∧ Aside0 (Below w.heap.size w wc))
  case first =>
    have H := HC8.out
    clear HC8
    by_cases c11 : a1 < 0
    · rw [if_pos c11] at H
      have c11b0 : decide (a1 < 0) = true := decide_eq_true c11
      clear c11
      (first | rw [c11b0] | (simp only [i64_w, i32_w]; rw [c11b0]) | skip)
      have H' := Aside0.mk H
      clear H
      go_wp2
      go_meet
      case rel => exact ⟨_, (true), (by first | rfl | (simp; done) | (simp [*]; done)), H', ⟨by first | omega | exact Nat.le_refl _⟩, ⟨by (with_reducible repeat (first | refine blk_drewN ?_ _ | refine blk_drew ?_ | refine blk_alloc ?_ _)); exact BK131.out⟩, ⟨by (with_reducible repeat (first | refine blk_drewN ?_ _ | refine blk_drew ?_ | refine blk_alloc ?_ _)); exact BK132.out⟩, ⟨by repeat (first | (with_reducible first | exact HB.out | apply below_alloc | apply pw_below_drewN | apply below_drew1 | refine below_set ?_ GE131.out | refine below_set ?_ GE132.out) | exact HB.out)⟩⟩
    · rw [if_neg c11] at H
      have c11b0 : decide (a1 < 0) = false := decide_eq_false c11
      clear c11
      (first | rw [c11b0] | (simp only [i64_w, i32_w]; rw [c11b0]) | skip)
      by_cases c12 : a1 > 1
      · rw [if_pos c12] at H
        have c12b0 : decide (1 < a1) = true := decide_eq_true c12
        clear c12
        have H' := Aside0.mk H
        clear H
        go_wp2
        go_meet
        case rel => exact ⟨_, (true), (by first | rfl | (simp; done) | (simp [*]; done)), H', ⟨by first | omega | exact Nat.le_refl _⟩, ⟨by (with_reducible repeat (first | refine blk_drewN ?_ _ | refine blk_drew ?_ | refine blk_alloc ?_ _)); exact BK131.out⟩, ⟨by (with_reducible repeat (first | refine blk_drewN ?_ _ | refine blk_drew ?_ | refine blk_alloc ?_ _)); exact BK132.out⟩, ⟨by repeat (first | (with_reducible first | exact HB.out | apply below_alloc | apply pw_below_drewN | apply below_drew1 | refine below_set ?_ GE131.out | refine below_set ?_ GE132.out) | exact HB.out)⟩⟩
      · rw [if_neg c12] at H
        have c12b0 : decide (1 < a1) = false := decide_eq_false c12
        clear c12
        by_cases c13 : a2 < 0
        · rw [if_pos c13] at H
          have c13b0 : decide (a2 < 0) = true := decide_eq_true c13
          clear c13
          have H' := Aside0.mk H
          clear H
          go_wp2
          go_meet
          case rel => exact ⟨_, (true), (by first | rfl | (simp; done) | (simp [*]; done)), H', ⟨by first | omega | exact Nat.le_refl _⟩, ⟨by (with_reducible repeat (first | refine blk_drewN ?_ _ | refine blk_drew ?_ | refine blk_alloc ?_ _)); exact BK131.out⟩, ⟨by (with_reducible repeat (first | refine blk_drewN ?_ _ | refine blk_drew ?_ | refine blk_alloc ?_ _)); exact BK132.out⟩, ⟨by repeat (first | (with_reducible first | exact HB.out | apply below_alloc | apply pw_below_drewN | apply below_drew1 | refine below_set ?_ GE131.out | refine below_set ?_ GE132.out) | exact HB.out)⟩⟩
        · rw [if_neg c13] at H
          have c13b0 : decide (a2 < 0) = false := decide_eq_false c13
          clear c13
          by_cases c14 : a2 > 127
          · rw [if_pos c14] at H
            have c14b0 : decide (127 < a2) = true := decide_eq_true c14
            clear c14
            have H' := Aside0.mk H
            clear H
            go_wp2
            go_meet
            case rel => exact ⟨_, (true), (by first | rfl | (simp; done) | (simp [*]; done)), H', ⟨by first | omega | exact Nat.le_refl _⟩, ⟨by (with_reducible repeat (first | refine blk_drewN ?_ _ | refine blk_drew ?_ | refine blk_alloc ?_ _)); exact BK131.out⟩, ⟨by (with_reducible repeat (first | refine blk_drewN ?_ _ | refine blk_drew ?_ | refine blk_alloc ?_ _)); exact BK132.out⟩, ⟨by repeat (first | (with_reducible first | exact HB.out | apply below_alloc | apply pw_below_drewN | apply below_drew1 | refine below_set ?_ GE131.out | refine below_set ?_ GE132.out) | exact HB.out)⟩⟩
          · rw [if_neg c14] at H
            have c14b0 : decide (127 < a2) = false := decide_eq_false c14
            clear c14
            by_cases c15 : a3 < 0
            · rw [if_pos c15] at H
              have c15b0 : decide (a3 < 0) = true := decide_eq_true c15
              clear c15
              have H' := Aside0.mk H
              clear H
              go_wp2
              go_meet
              case rel => exact ⟨_, (true), (by first | rfl | (simp; done) | (simp [*]; done)), H', ⟨by first | omega | exact Nat.le_refl _⟩, ⟨by (with_reducible repeat (first | refine blk_drewN ?_ _ | refine blk_drew ?_ | refine blk_alloc ?_ _)); exact BK131.out⟩, ⟨by (with_reducible repeat (first | refine blk_drewN ?_ _ | refine blk_drew ?_ | refine blk_alloc ?_ _)); exact BK132.out⟩, ⟨by repeat (first | (with_reducible first | exact HB.out | apply below_alloc | apply pw_below_drewN | apply below_drew1 | refine below_set ?_ GE131.out | refine below_set ?_ GE132.out) | exact HB.out)⟩⟩
            · rw [if_neg c15] at H
              have c15b0 : decide (a3 < 0) = false := decide_eq_false c15
              clear c15
              have H' := Aside0.mk H
              clear H
              go_wp2
              go_meet
              case rel => exact ⟨_, (decide (a3 > 255)), (by first | rfl | (simp; done) | (simp [*]; done)), H', ⟨by first | omega | exact Nat.le_refl _⟩, ⟨by (with_reducible repeat (first | refine blk_drewN ?_ _ | refine blk_drew ?_ | refine blk_alloc ?_ _)); exact BK131.out⟩, ⟨by (with_reducible repeat (first | refine blk_drewN ?_ _ | refine blk_drew ?_ | refine blk_alloc ?_ _)); exact BK132.out⟩, ⟨by repeat (first | (with_reducible first | exact HB.out | apply below_alloc | apply pw_below_drewN | apply below_drew1 | refine below_set ?_ GE131.out | refine below_set ?_ GE132.out) | exact HB.out)⟩⟩
  case rest =>
    clear HC8
    try clear c1
    try clear p2
    try clear c6
    try clear c11
    try clear c11b0
    try clear c12
    try clear c12b0
    try clear c13
    try clear c13b0
    try clear c14
    try clear c14b0
    try clear c15
    try clear c15b0
    obtain ⟨kq, x39_7, rfl, HA, HJ7, BK131, BK132, HB⟩ := hcut
    cases kq with
    | zero => exact absurd HA.out (by simp [lookasideref07_Fault.j0])
    | succ kj7 =>
      have H := HA.out
      clear HA
      simp only [lookasideref07_Fault.j0] at H
      by_cases c16 : x39_7 = true
      · subst c16
        have H1 : (some (a0_0, a0_1, a0_2, a0_3, a0_4, a0_5, a0_6, a0_7, a0_8, 1)) = some (r1, r2, r3, r4, r5, r6, r7, r8, r9, r10) := by rw [if_pos rfl] at H; exact H
        clear H
        have H := H1
        clear H1
        simp only [Option.some.injEq, Prod.mk.injEq] at H
        obtain ⟨rfl, rfl, rfl, rfl, rfl, rfl, rfl, rfl, rfl, rfl⟩ := H
        have hnb17 := NB131_132.out
        have hnc17 := NB132_131.out
        have hcz18_0 : wc.cell? ⟨gb131, 0, none⟩ = some (.int .u64 a0_0) := (blk_cell BK131.out 0).trans rfl
        have hcz18_1 : wc.cell? ⟨gb131, 1, none⟩ = some (.int .u64 a0_1) := (blk_cell BK131.out 1).trans rfl
        have hcz18_2 : wc.cell? ⟨gb131, 2, none⟩ = some (.int .u64 a0_2) := (blk_cell BK131.out 2).trans rfl
        have hcz18_3 : wc.cell? ⟨gb131, 3, none⟩ = some (.int .u64 a0_3) := (blk_cell BK131.out 3).trans rfl
        have hcz18_4 : wc.cell? ⟨gb131, 4, none⟩ = some (.int .u64 a0_4) := (blk_cell BK131.out 4).trans rfl
        have hcz18_5 : wc.cell? ⟨gb131, 5, none⟩ = some (.int .u64 a0_5) := (blk_cell BK131.out 5).trans rfl
        have hcz18_6 : wc.cell? ⟨gb131, 6, none⟩ = some (.int .u64 a0_6) := (blk_cell BK131.out 6).trans rfl
        have hcz18_7 : wc.cell? ⟨gb131, 7, none⟩ = some (.int .u64 a0_7) := (blk_cell BK131.out 7).trans rfl
        have hcz18_8 : wc.cell? ⟨gb131, 8, none⟩ = some (.int .u64 a0_8) := (blk_cell BK131.out 8).trans rfl
        have hfz18_0 := blk_frozen BK131.out 0
        have hfz18_1 := blk_frozen BK131.out 1
        have hfz18_2 := blk_frozen BK131.out 2
        have hfz18_3 := blk_frozen BK131.out 3
        have hfz18_4 := blk_frozen BK131.out 4
        have hfz18_5 := blk_frozen BK131.out 5
        have hfz18_6 := blk_frozen BK131.out 6
        have hfz18_7 := blk_frozen BK131.out 7
        have hfz18_8 := blk_frozen BK131.out 8
        have hcz19_0 : wc.cell? ⟨gb132, 0, none⟩ = some (.int .u64 0) := (blk_cell BK132.out 0).trans rfl
        have hcz19_1 : wc.cell? ⟨gb132, 1, none⟩ = some (.int .u64 0) := (blk_cell BK132.out 1).trans rfl
        have hcz19_2 : wc.cell? ⟨gb132, 2, none⟩ = some (.int .u64 0) := (blk_cell BK132.out 2).trans rfl
        have hcz19_3 : wc.cell? ⟨gb132, 3, none⟩ = some (.int .u64 0) := (blk_cell BK132.out 3).trans rfl
        have hcz19_4 : wc.cell? ⟨gb132, 4, none⟩ = some (.int .u64 0) := (blk_cell BK132.out 4).trans rfl
        have hcz19_5 : wc.cell? ⟨gb132, 5, none⟩ = some (.int .u64 0) := (blk_cell BK132.out 5).trans rfl
        have hcz19_6 : wc.cell? ⟨gb132, 6, none⟩ = some (.int .u64 0) := (blk_cell BK132.out 6).trans rfl
        have hcz19_7 : wc.cell? ⟨gb132, 7, none⟩ = some (.int .u64 0) := (blk_cell BK132.out 7).trans rfl
        have hcz19_8 : wc.cell? ⟨gb132, 8, none⟩ = some (.int .u64 0) := (blk_cell BK132.out 8).trans rfl
        have hfz19_0 := blk_frozen BK132.out 0
        have hfz19_1 := blk_frozen BK132.out 1
        have hfz19_2 := blk_frozen BK132.out 2
        have hfz19_3 := blk_frozen BK132.out 3
        have hfz19_4 := blk_frozen BK132.out 4
        have hfz19_5 := blk_frozen BK132.out 5
        have hfz19_6 := blk_frozen BK132.out 6
        have hfz19_7 := blk_frozen BK132.out 7
        have hfz19_8 := blk_frozen BK132.out 8
        go_wp2
        refine bodyPost_ret (results_ct rfl _ _ gb132 38 #[.int .u64 a0_0, .int .u64 a0_1, .int .u64 a0_2, .int .u64 a0_3, .int .u64 a0_4, .int .u64 a0_5, .int .u64 a0_6, .int .u64 a0_7, .int .u64 a0_8] (0, 0) _ rfl (by (with_reducible repeat (first | refine blk_drewN ?_ _ | refine blk_drew ?_ | refine blk_alloc ?_ _)); refine blk_put (cs := #[.int .u64 a0_0, .int .u64 a0_1, .int .u64 a0_2, .int .u64 a0_3, .int .u64 a0_4, .int .u64 a0_5, .int .u64 a0_6, .int .u64 a0_7, .int .u64 0]) ?_ 8 _ rfl; (with_reducible repeat (first | refine blk_drewN ?_ _ | refine blk_drew ?_ | refine blk_alloc ?_ _)); refine blk_put (cs := #[.int .u64 a0_0, .int .u64 a0_1, .int .u64 a0_2, .int .u64 a0_3, .int .u64 a0_4, .int .u64 a0_5, .int .u64 a0_6, .int .u64 0, .int .u64 0]) ?_ 7 _ rfl; (with_reducible repeat (first | refine blk_drewN ?_ _ | refine blk_drew ?_ | refine blk_alloc ?_ _)); refine blk_put (cs := #[.int .u64 a0_0, .int .u64 a0_1, .int .u64 a0_2, .int .u64 a0_3, .int .u64 a0_4, .int .u64 a0_5, .int .u64 0, .int .u64 0, .int .u64 0]) ?_ 6 _ rfl; (with_reducible repeat (first | refine blk_drewN ?_ _ | refine blk_drew ?_ | refine blk_alloc ?_ _)); refine blk_put (cs := #[.int .u64 a0_0, .int .u64 a0_1, .int .u64 a0_2, .int .u64 a0_3, .int .u64 a0_4, .int .u64 0, .int .u64 0, .int .u64 0, .int .u64 0]) ?_ 5 _ rfl; (with_reducible repeat (first | refine blk_drewN ?_ _ | refine blk_drew ?_ | refine blk_alloc ?_ _)); refine blk_put (cs := #[.int .u64 a0_0, .int .u64 a0_1, .int .u64 a0_2, .int .u64 a0_3, .int .u64 0, .int .u64 0, .int .u64 0, .int .u64 0, .int .u64 0]) ?_ 4 _ rfl; (with_reducible repeat (first | refine blk_drewN ?_ _ | refine blk_drew ?_ | refine blk_alloc ?_ _)); refine blk_put (cs := #[.int .u64 a0_0, .int .u64 a0_1, .int .u64 a0_2, .int .u64 0, .int .u64 0, .int .u64 0, .int .u64 0, .int .u64 0, .int .u64 0]) ?_ 3 _ rfl; (with_reducible repeat (first | refine blk_drewN ?_ _ | refine blk_drew ?_ | refine blk_alloc ?_ _)); refine blk_put (cs := #[.int .u64 a0_0, .int .u64 a0_1, .int .u64 0, .int .u64 0, .int .u64 0, .int .u64 0, .int .u64 0, .int .u64 0, .int .u64 0]) ?_ 2 _ rfl; (with_reducible repeat (first | refine blk_drewN ?_ _ | refine blk_drew ?_ | refine blk_alloc ?_ _)); refine blk_put (cs := #[.int .u64 a0_0, .int .u64 0, .int .u64 0, .int .u64 0, .int .u64 0, .int .u64 0, .int .u64 0, .int .u64 0, .int .u64 0]) ?_ 1 _ rfl; (with_reducible repeat (first | refine blk_drewN ?_ _ | refine blk_drew ?_ | refine blk_alloc ?_ _)); refine blk_put (cs := #[.int .u64 0, .int .u64 0, .int .u64 0, .int .u64 0, .int .u64 0, .int .u64 0, .int .u64 0, .int .u64 0, .int .u64 0]) ?_ 0 _ rfl; (with_reducible repeat (first | refine blk_drewN ?_ _ | refine blk_drew ?_ | refine blk_alloc ?_ _)); exact BK132.out) Try.underlying38 rfl (by kernel_rfl)) rfl ?_
        exact ⟨by first | rfl | (simp [errW_none, errW_some] <;> rfl) | (simp [*, errW_none, errW_some] <;> rfl), by repeat (first | (with_reducible first | exact HB.out | apply below_alloc | apply pw_below_drewN | apply below_drew1 | refine below_set ?_ GE131.out | refine below_set ?_ GE132.out) | exact HB.out)⟩
      · replace c16 := Bool.eq_false_iff.mpr c16
        subst c16
        have H1 : (if a1 = 1 then (lookasideref07_Fault.j1 kj7 a1 a2 a3 a4 a5 a6 a0_5 a0_0 a0_1 a0_2 a0_3 a0_4 a0_5 a0_6 a0_7 a0_8) else (lookasideref07_Fault.j1 kj7 a1 a2 a3 a4 a5 a6 a0_0 a0_0 a0_1 a0_2 a0_3 a0_4 a0_5 a0_6 a0_7 a0_8)) = some (r1, r2, r3, r4, r5, r6, r7, r8, r9, r10) := by rw [if_neg (show ¬ (false = true) by decide)] at H; exact H
        clear H
        have H := H1
        clear H1
        have HC20 := Aside0.mk H
        clear H
        have hnb21 := NB131_132.out
        have hnc21 := NB132_131.out
        have hcz22_0 : wc.cell? ⟨gb131, 0, none⟩ = some (.int .u64 a0_0) := (blk_cell BK131.out 0).trans rfl
        have hcz22_1 : wc.cell? ⟨gb131, 1, none⟩ = some (.int .u64 a0_1) := (blk_cell BK131.out 1).trans rfl
        have hcz22_2 : wc.cell? ⟨gb131, 2, none⟩ = some (.int .u64 a0_2) := (blk_cell BK131.out 2).trans rfl
        have hcz22_3 : wc.cell? ⟨gb131, 3, none⟩ = some (.int .u64 a0_3) := (blk_cell BK131.out 3).trans rfl
        have hcz22_4 : wc.cell? ⟨gb131, 4, none⟩ = some (.int .u64 a0_4) := (blk_cell BK131.out 4).trans rfl
        have hcz22_5 : wc.cell? ⟨gb131, 5, none⟩ = some (.int .u64 a0_5) := (blk_cell BK131.out 5).trans rfl
        have hcz22_6 : wc.cell? ⟨gb131, 6, none⟩ = some (.int .u64 a0_6) := (blk_cell BK131.out 6).trans rfl
        have hcz22_7 : wc.cell? ⟨gb131, 7, none⟩ = some (.int .u64 a0_7) := (blk_cell BK131.out 7).trans rfl
        have hcz22_8 : wc.cell? ⟨gb131, 8, none⟩ = some (.int .u64 a0_8) := (blk_cell BK131.out 8).trans rfl
        have hfz22_0 := blk_frozen BK131.out 0
        have hfz22_1 := blk_frozen BK131.out 1
        have hfz22_2 := blk_frozen BK131.out 2
        have hfz22_3 := blk_frozen BK131.out 3
        have hfz22_4 := blk_frozen BK131.out 4
        have hfz22_5 := blk_frozen BK131.out 5
        have hfz22_6 := blk_frozen BK131.out 6
        have hfz22_7 := blk_frozen BK131.out 7
        have hfz22_8 := blk_frozen BK131.out 8
        go_upto_if 44 with (fail)
        go_cut [16] (fun v16 wc => ∃ (kq : Nat) (x16_19 : Int), v16 = .int .u64 x16_19 ∧ Aside0 (lookasideref07_Fault.j1 kq a1 a2 a3 a4 a5 a6 x16_19 a0_0 a0_1 a0_2 a0_3 a0_4 a0_5 a0_6 a0_7 a0_8 = some (r1, r2, r3, r4, r5, r6, r7, r8, r9, r10)) ∧ Aside0 (kq ≤ kj7) ∧ Aside0 (wc.heap[gb131]? = some (.cells #[.int .u64 a0_0, .int .u64 a0_1, .int .u64 a0_2, .int .u64 a0_3, .int .u64 a0_4, .int .u64 a0_5, .int .u64 a0_6, .int .u64 a0_7, .int .u64 a0_8] 38 (0, 0))) ∧ Aside0 (wc.heap[gb132]? = some (.cells #[.int .u64 0, .int .u64 0, .int .u64 0, .int .u64 0, .int .u64 0, .int .u64 0, .int .u64 0, .int .u64 0, .int .u64 0] 38 (0, 0))) ∧ Aside0 (Below w.heap.size w wc))
        case first =>
          have H := HC20.out
          clear HC20
          by_cases c23 : a1 = 1
          · rw [if_pos c23] at H
            have c23b0 : (a1 == 1) = true := beq_iff_eq.mpr c23
            have c23b1 : (a1 != 1) = false := bne_eq_false_iff_eq.mpr c23
            clear c23
            (first | rw [c23b0] | (simp only [i64_w, i32_w]; rw [c23b0]) | skip)
            have H' := Aside0.mk H
            clear H
            have hnb24 := NB131_132.out
            have hnc24 := NB132_131.out
            have hcz25_0 : wc.cell? ⟨gb131, 0, none⟩ = some (.int .u64 a0_0) := (blk_cell BK131.out 0).trans rfl
            have hcz25_1 : wc.cell? ⟨gb131, 1, none⟩ = some (.int .u64 a0_1) := (blk_cell BK131.out 1).trans rfl
            have hcz25_2 : wc.cell? ⟨gb131, 2, none⟩ = some (.int .u64 a0_2) := (blk_cell BK131.out 2).trans rfl
            have hcz25_3 : wc.cell? ⟨gb131, 3, none⟩ = some (.int .u64 a0_3) := (blk_cell BK131.out 3).trans rfl
            have hcz25_4 : wc.cell? ⟨gb131, 4, none⟩ = some (.int .u64 a0_4) := (blk_cell BK131.out 4).trans rfl
            have hcz25_5 : wc.cell? ⟨gb131, 5, none⟩ = some (.int .u64 a0_5) := (blk_cell BK131.out 5).trans rfl
            have hcz25_6 : wc.cell? ⟨gb131, 6, none⟩ = some (.int .u64 a0_6) := (blk_cell BK131.out 6).trans rfl
            have hcz25_7 : wc.cell? ⟨gb131, 7, none⟩ = some (.int .u64 a0_7) := (blk_cell BK131.out 7).trans rfl
            have hcz25_8 : wc.cell? ⟨gb131, 8, none⟩ = some (.int .u64 a0_8) := (blk_cell BK131.out 8).trans rfl
            have hfz25_0 := blk_frozen BK131.out 0
            have hfz25_1 := blk_frozen BK131.out 1
            have hfz25_2 := blk_frozen BK131.out 2
            have hfz25_3 := blk_frozen BK131.out 3
            have hfz25_4 := blk_frozen BK131.out 4
            have hfz25_5 := blk_frozen BK131.out 5
            have hfz25_6 := blk_frozen BK131.out 6
            have hfz25_7 := blk_frozen BK131.out 7
            have hfz25_8 := blk_frozen BK131.out 8
            go_wp2
            go_meet
            case rel => exact ⟨_, (a0_5), (by first | rfl | (simp; done) | (simp [*]; done)), H', ⟨by have := HJ7.out; first | omega | exact Nat.le_refl _⟩, ⟨by (with_reducible repeat (first | refine blk_drewN ?_ _ | refine blk_drew ?_ | refine blk_alloc ?_ _)); exact BK131.out⟩, ⟨by (with_reducible repeat (first | refine blk_drewN ?_ _ | refine blk_drew ?_ | refine blk_alloc ?_ _)); exact BK132.out⟩, ⟨by repeat (first | (with_reducible first | exact HB.out | apply below_alloc | apply pw_below_drewN | apply below_drew1 | refine below_set ?_ GE131.out | refine below_set ?_ GE132.out) | exact HB.out)⟩⟩
          · rw [if_neg c23] at H
            have c23b0 : (a1 == 1) = false := beq_eq_false_iff_ne.mpr c23
            have c23b1 : (a1 != 1) = true := bne_iff_ne.mpr c23
            (first | rw [c23b0] | (simp only [i64_w, i32_w]; rw [c23b0]) | skip)
            have H' := Aside0.mk H
            clear H
            go_wp2
            go_meet
            case rel => exact ⟨_, (a0_0), (by first | rfl | (simp; done) | (simp [*]; done)), H', ⟨by have := HJ7.out; first | omega | exact Nat.le_refl _⟩, ⟨by (with_reducible repeat (first | refine blk_drewN ?_ _ | refine blk_drew ?_ | refine blk_alloc ?_ _)); exact BK131.out⟩, ⟨by (with_reducible repeat (first | refine blk_drewN ?_ _ | refine blk_drew ?_ | refine blk_alloc ?_ _)); exact BK132.out⟩, ⟨by repeat (first | (with_reducible first | exact HB.out | apply below_alloc | apply pw_below_drewN | apply below_drew1 | refine below_set ?_ GE131.out | refine below_set ?_ GE132.out) | exact HB.out)⟩⟩
        case rest =>
          clear HC20
          try clear c1
          try clear c2
          try clear p2
          try clear c6
          try clear c11
          try clear c11b0
          try clear c12
          try clear c12b0
          try clear c13
          try clear c13b0
          try clear c14
          try clear c14b0
          try clear c15
          try clear c15b0
          try clear c16
          try clear c17
          try clear c21
          try clear c23
          try clear c23b0
          try clear c23b1
          try clear c24
          try clear hcz18_0
          try clear hcz18_1
          try clear hcz18_2
          try clear hcz18_3
          try clear hcz18_4
          try clear hcz18_5
          try clear hcz18_6
          try clear hcz18_7
          try clear hcz18_8
          try clear hcz19_0
          try clear hcz19_1
          try clear hcz19_2
          try clear hcz19_3
          try clear hcz19_4
          try clear hcz19_5
          try clear hcz19_6
          try clear hcz19_7
          try clear hcz19_8
          try clear hcz22_0
          try clear hcz22_1
          try clear hcz22_2
          try clear hcz22_3
          try clear hcz22_4
          try clear hcz22_5
          try clear hcz22_6
          try clear hcz22_7
          try clear hcz22_8
          try clear hcz25_0
          try clear hcz25_1
          try clear hcz25_2
          try clear hcz25_3
          try clear hcz25_4
          try clear hcz25_5
          try clear hcz25_6
          try clear hcz25_7
          try clear hcz25_8
          try clear hfz18_0
          try clear hfz18_1
          try clear hfz18_2
          try clear hfz18_3
          try clear hfz18_4
          try clear hfz18_5
          try clear hfz18_6
          try clear hfz18_7
          try clear hfz18_8
          try clear hfz19_0
          try clear hfz19_1
          try clear hfz19_2
          try clear hfz19_3
          try clear hfz19_4
          try clear hfz19_5
          try clear hfz19_6
          try clear hfz19_7
          try clear hfz19_8
          try clear hfz22_0
          try clear hfz22_1
          try clear hfz22_2
          try clear hfz22_3
          try clear hfz22_4
          try clear hfz22_5
          try clear hfz22_6
          try clear hfz22_7
          try clear hfz22_8
          try clear hfz25_0
          try clear hfz25_1
          try clear hfz25_2
          try clear hfz25_3
          try clear hfz25_4
          try clear hfz25_5
          try clear hfz25_6
          try clear hfz25_7
          try clear hfz25_8
          try clear p2
          obtain ⟨kq, x16_19, rfl, HA, HJ19, BK131, BK132, HB⟩ := hcut
          cases kq with
          | zero => exact absurd HA.out (by simp [lookasideref07_Fault.j1])
          | succ kj19 =>
            have H := HA.out
            clear HA
            simp only [lookasideref07_Fault.j1] at H
            have HC26 := Aside0.mk H
            clear H
            go_upto_if 59 with (fail)
            go_cut [17] (fun v17 wc => ∃ (kq : Nat) (x17_25 : Int), v17 = .int .u64 x17_25 ∧ Aside0 (lookasideref07_Fault.j2 kq a1 a5 a6 x17_25 a0_0 a0_1 a0_2 a0_3 a0_4 a0_5 a0_6 a0_7 a0_8 = some (r1, r2, r3, r4, r5, r6, r7, r8, r9, r10)) ∧ Aside0 (kq ≤ kj19) ∧ Aside0 (wc.heap[gb131]? = some (.cells #[.int .u64 a0_0, .int .u64 a0_1, .int .u64 a0_2, .int .u64 a0_3, .int .u64 a0_4, .int .u64 a0_5, .int .u64 a0_6, .int .u64 a0_7, .int .u64 a0_8] 38 (0, 0))) ∧ Aside0 (wc.heap[gb132]? = some (.cells #[.int .u64 0, .int .u64 0, .int .u64 0, .int .u64 0, .int .u64 0, .int .u64 0, .int .u64 0, .int .u64 0, .int .u64 0] 38 (0, 0))) ∧ Aside0 (Below w.heap.size w wc))
            case first =>
              have H := HC26.out
              clear HC26
              by_cases c27 : a4 = true
              · subst c27
                have H1 : (lookasideref07_Fault.j2 kj19 a1 a5 a6 (IntKind.u64.wrap ((IntKind.u64.wrap ((IntKind.u64.wrap ((IntKind.u64.wrap (1 + (IntKind.u64.wrap (2 * (Int.tmod x16_19 2))))) + (IntKind.u64.wrap ((IntKind.u64.wrap (a2)) * 128)))) + (IntKind.u64.wrap ((IntKind.u64.wrap (a3)) * 65536)))) + 4)) a0_0 a0_1 a0_2 a0_3 a0_4 a0_5 a0_6 a0_7 a0_8) = some (r1, r2, r3, r4, r5, r6, r7, r8, r9, r10) := by rw [if_pos rfl] at H; exact H
                clear H
                have H := H1
                clear H1
                have H' := Aside0.mk H
                clear H
                go_wp2
                go_meet
                case rel => exact ⟨_, (IntKind.u64.wrap ((IntKind.u64.wrap ((IntKind.u64.wrap ((IntKind.u64.wrap (1 + (IntKind.u64.wrap (2 * (Int.tmod x16_19 2))))) + (IntKind.u64.wrap ((IntKind.u64.wrap (a2)) * 128)))) + (IntKind.u64.wrap ((IntKind.u64.wrap (a3)) * 65536)))) + 4)), (by first | rfl | (simp; done) | (simp [*]; done)), H', ⟨by have := HJ7.out; have := HJ19.out; first | omega | exact Nat.le_refl _⟩, ⟨by (with_reducible repeat (first | refine blk_drewN ?_ _ | refine blk_drew ?_ | refine blk_alloc ?_ _)); exact BK131.out⟩, ⟨by (with_reducible repeat (first | refine blk_drewN ?_ _ | refine blk_drew ?_ | refine blk_alloc ?_ _)); exact BK132.out⟩, ⟨by repeat (first | (with_reducible first | exact HB.out | apply below_alloc | apply pw_below_drewN | apply below_drew1 | refine below_set ?_ GE131.out | refine below_set ?_ GE132.out) | exact HB.out)⟩⟩
              · replace c27 := Bool.eq_false_iff.mpr c27
                subst c27
                have H1 : (lookasideref07_Fault.j2 kj19 a1 a5 a6 (IntKind.u64.wrap ((IntKind.u64.wrap ((IntKind.u64.wrap (1 + (IntKind.u64.wrap (2 * (Int.tmod x16_19 2))))) + (IntKind.u64.wrap ((IntKind.u64.wrap (a2)) * 128)))) + (IntKind.u64.wrap ((IntKind.u64.wrap (a3)) * 65536)))) a0_0 a0_1 a0_2 a0_3 a0_4 a0_5 a0_6 a0_7 a0_8) = some (r1, r2, r3, r4, r5, r6, r7, r8, r9, r10) := by rw [if_neg (show ¬ (false = true) by decide)] at H; exact H
                clear H
                have H := H1
                clear H1
                have H' := Aside0.mk H
                clear H
                go_wp2
                go_meet
                case rel => exact ⟨_, (IntKind.u64.wrap ((IntKind.u64.wrap ((IntKind.u64.wrap (1 + (IntKind.u64.wrap (2 * (Int.tmod x16_19 2))))) + (IntKind.u64.wrap ((IntKind.u64.wrap (a2)) * 128)))) + (IntKind.u64.wrap ((IntKind.u64.wrap (a3)) * 65536)))), (by first | rfl | (simp; done) | (simp [*]; done)), H', ⟨by have := HJ7.out; have := HJ19.out; first | omega | exact Nat.le_refl _⟩, ⟨by (with_reducible repeat (first | refine blk_drewN ?_ _ | refine blk_drew ?_ | refine blk_alloc ?_ _)); exact BK131.out⟩, ⟨by (with_reducible repeat (first | refine blk_drewN ?_ _ | refine blk_drew ?_ | refine blk_alloc ?_ _)); exact BK132.out⟩, ⟨by repeat (first | (with_reducible first | exact HB.out | apply below_alloc | apply pw_below_drewN | apply below_drew1 | refine below_set ?_ GE131.out | refine below_set ?_ GE132.out) | exact HB.out)⟩⟩
            case rest =>
              clear HC26
              try clear c1
              try clear c2
              try clear p2
              try clear c6
              try clear c11
              try clear c11b0
              try clear c12
              try clear c12b0
              try clear c13
              try clear c13b0
              try clear c14
              try clear c14b0
              try clear c15
              try clear c15b0
              try clear c16
              try clear c17
              try clear c21
              try clear c23
              try clear c23b0
              try clear c23b1
              try clear c24
              try clear c27
              try clear hcz18_0
              try clear hcz18_1
              try clear hcz18_2
              try clear hcz18_3
              try clear hcz18_4
              try clear hcz18_5
              try clear hcz18_6
              try clear hcz18_7
              try clear hcz18_8
              try clear hcz19_0
              try clear hcz19_1
              try clear hcz19_2
              try clear hcz19_3
              try clear hcz19_4
              try clear hcz19_5
              try clear hcz19_6
              try clear hcz19_7
              try clear hcz19_8
              try clear hcz22_0
              try clear hcz22_1
              try clear hcz22_2
              try clear hcz22_3
              try clear hcz22_4
              try clear hcz22_5
              try clear hcz22_6
              try clear hcz22_7
              try clear hcz22_8
              try clear hcz25_0
              try clear hcz25_1
              try clear hcz25_2
              try clear hcz25_3
              try clear hcz25_4
              try clear hcz25_5
              try clear hcz25_6
              try clear hcz25_7
              try clear hcz25_8
              try clear hfz18_0
              try clear hfz18_1
              try clear hfz18_2
              try clear hfz18_3
              try clear hfz18_4
              try clear hfz18_5
              try clear hfz18_6
              try clear hfz18_7
              try clear hfz18_8
              try clear hfz19_0
              try clear hfz19_1
              try clear hfz19_2
              try clear hfz19_3
              try clear hfz19_4
              try clear hfz19_5
              try clear hfz19_6
              try clear hfz19_7
              try clear hfz19_8
              try clear hfz22_0
              try clear hfz22_1
              try clear hfz22_2
              try clear hfz22_3
              try clear hfz22_4
              try clear hfz22_5
              try clear hfz22_6
              try clear hfz22_7
              try clear hfz22_8
              try clear hfz25_0
              try clear hfz25_1
              try clear hfz25_2
              try clear hfz25_3
              try clear hfz25_4
              try clear hfz25_5
              try clear hfz25_6
              try clear hfz25_7
              try clear hfz25_8
              try clear p2
              obtain ⟨kq, x17_25, rfl, HA, HJ25, BK131, BK132, HB⟩ := hcut
              cases kq with
              | zero => exact absurd HA.out (by simp [lookasideref07_Fault.j2])
              | succ kj25 =>
                have H := HA.out
                clear HA
                simp only [lookasideref07_Fault.j2] at H
                by_cases c28 : a5 = true
                · subst c28
                  have H1 : (if a1 = 0 then (some (IntKind.u64.wrap (x17_25 + 8), a0_1, a0_2, a0_3, a0_4, a0_5, a0_6, a0_7, a0_8, 0)) else (some (a0_0, a0_1, a0_2, a0_3, a0_4, IntKind.u64.wrap (x17_25 + 8), a6, a0_7, a0_8, 0))) = some (r1, r2, r3, r4, r5, r6, r7, r8, r9, r10) := by rw [if_pos rfl] at H; exact H
                  clear H
                  have H := H1
                  clear H1
                  by_cases c29 : a1 = 0
                  · rw [if_pos c29] at H
                    have c29b0 : (a1 == 0) = true := beq_iff_eq.mpr c29
                    have c29b1 : (a1 != 0) = false := bne_eq_false_iff_eq.mpr c29
                    clear c29
                    simp only [Option.some.injEq, Prod.mk.injEq] at H
                    obtain ⟨rfl, rfl, rfl, rfl, rfl, rfl, rfl, rfl, rfl, rfl⟩ := H
                    have hnb30 := NB131_132.out
                    have hnc30 := NB132_131.out
                    have hcz31_0 : wc.cell? ⟨gb131, 0, none⟩ = some (.int .u64 a0_0) := (blk_cell BK131.out 0).trans rfl
                    have hcz31_1 : wc.cell? ⟨gb131, 1, none⟩ = some (.int .u64 a0_1) := (blk_cell BK131.out 1).trans rfl
                    have hcz31_2 : wc.cell? ⟨gb131, 2, none⟩ = some (.int .u64 a0_2) := (blk_cell BK131.out 2).trans rfl
                    have hcz31_3 : wc.cell? ⟨gb131, 3, none⟩ = some (.int .u64 a0_3) := (blk_cell BK131.out 3).trans rfl
                    have hcz31_4 : wc.cell? ⟨gb131, 4, none⟩ = some (.int .u64 a0_4) := (blk_cell BK131.out 4).trans rfl
                    have hcz31_5 : wc.cell? ⟨gb131, 5, none⟩ = some (.int .u64 a0_5) := (blk_cell BK131.out 5).trans rfl
                    have hcz31_6 : wc.cell? ⟨gb131, 6, none⟩ = some (.int .u64 a0_6) := (blk_cell BK131.out 6).trans rfl
                    have hcz31_7 : wc.cell? ⟨gb131, 7, none⟩ = some (.int .u64 a0_7) := (blk_cell BK131.out 7).trans rfl
                    have hcz31_8 : wc.cell? ⟨gb131, 8, none⟩ = some (.int .u64 a0_8) := (blk_cell BK131.out 8).trans rfl
                    have hfz31_0 := blk_frozen BK131.out 0
                    have hfz31_1 := blk_frozen BK131.out 1
                    have hfz31_2 := blk_frozen BK131.out 2
                    have hfz31_3 := blk_frozen BK131.out 3
                    have hfz31_4 := blk_frozen BK131.out 4
                    have hfz31_5 := blk_frozen BK131.out 5
                    have hfz31_6 := blk_frozen BK131.out 6
                    have hfz31_7 := blk_frozen BK131.out 7
                    have hfz31_8 := blk_frozen BK131.out 8
                    have hcz32_0 : wc.cell? ⟨gb132, 0, none⟩ = some (.int .u64 0) := (blk_cell BK132.out 0).trans rfl
                    have hcz32_1 : wc.cell? ⟨gb132, 1, none⟩ = some (.int .u64 0) := (blk_cell BK132.out 1).trans rfl
                    have hcz32_2 : wc.cell? ⟨gb132, 2, none⟩ = some (.int .u64 0) := (blk_cell BK132.out 2).trans rfl
                    have hcz32_3 : wc.cell? ⟨gb132, 3, none⟩ = some (.int .u64 0) := (blk_cell BK132.out 3).trans rfl
                    have hcz32_4 : wc.cell? ⟨gb132, 4, none⟩ = some (.int .u64 0) := (blk_cell BK132.out 4).trans rfl
                    have hcz32_5 : wc.cell? ⟨gb132, 5, none⟩ = some (.int .u64 0) := (blk_cell BK132.out 5).trans rfl
                    have hcz32_6 : wc.cell? ⟨gb132, 6, none⟩ = some (.int .u64 0) := (blk_cell BK132.out 6).trans rfl
                    have hcz32_7 : wc.cell? ⟨gb132, 7, none⟩ = some (.int .u64 0) := (blk_cell BK132.out 7).trans rfl
                    have hcz32_8 : wc.cell? ⟨gb132, 8, none⟩ = some (.int .u64 0) := (blk_cell BK132.out 8).trans rfl
                    have hfz32_0 := blk_frozen BK132.out 0
                    have hfz32_1 := blk_frozen BK132.out 1
                    have hfz32_2 := blk_frozen BK132.out 2
                    have hfz32_3 := blk_frozen BK132.out 3
                    have hfz32_4 := blk_frozen BK132.out 4
                    have hfz32_5 := blk_frozen BK132.out 5
                    have hfz32_6 := blk_frozen BK132.out 6
                    have hfz32_7 := blk_frozen BK132.out 7
                    have hfz32_8 := blk_frozen BK132.out 8
                    go_wp2
                    refine bodyPost_ret (results_ct rfl _ _ gb132 38 #[.int .u64 (IntKind.u64.wrap (x17_25 + 8)), .int .u64 a0_1, .int .u64 a0_2, .int .u64 a0_3, .int .u64 a0_4, .int .u64 a0_5, .int .u64 a0_6, .int .u64 a0_7, .int .u64 a0_8] (0, 0) _ rfl (by (with_reducible repeat (first | refine blk_drewN ?_ _ | refine blk_drew ?_ | refine blk_alloc ?_ _)); refine blk_put (cs := #[.int .u64 (IntKind.u64.wrap (x17_25 + 8)), .int .u64 a0_1, .int .u64 a0_2, .int .u64 a0_3, .int .u64 a0_4, .int .u64 a0_5, .int .u64 a0_6, .int .u64 a0_7, .int .u64 0]) ?_ 8 _ rfl; (with_reducible repeat (first | refine blk_drewN ?_ _ | refine blk_drew ?_ | refine blk_alloc ?_ _)); refine blk_put (cs := #[.int .u64 (IntKind.u64.wrap (x17_25 + 8)), .int .u64 a0_1, .int .u64 a0_2, .int .u64 a0_3, .int .u64 a0_4, .int .u64 a0_5, .int .u64 a0_6, .int .u64 0, .int .u64 0]) ?_ 7 _ rfl; (with_reducible repeat (first | refine blk_drewN ?_ _ | refine blk_drew ?_ | refine blk_alloc ?_ _)); refine blk_put (cs := #[.int .u64 (IntKind.u64.wrap (x17_25 + 8)), .int .u64 a0_1, .int .u64 a0_2, .int .u64 a0_3, .int .u64 a0_4, .int .u64 a0_5, .int .u64 0, .int .u64 0, .int .u64 0]) ?_ 6 _ rfl; (with_reducible repeat (first | refine blk_drewN ?_ _ | refine blk_drew ?_ | refine blk_alloc ?_ _)); refine blk_put (cs := #[.int .u64 (IntKind.u64.wrap (x17_25 + 8)), .int .u64 a0_1, .int .u64 a0_2, .int .u64 a0_3, .int .u64 a0_4, .int .u64 0, .int .u64 0, .int .u64 0, .int .u64 0]) ?_ 5 _ rfl; (with_reducible repeat (first | refine blk_drewN ?_ _ | refine blk_drew ?_ | refine blk_alloc ?_ _)); refine blk_put (cs := #[.int .u64 (IntKind.u64.wrap (x17_25 + 8)), .int .u64 a0_1, .int .u64 a0_2, .int .u64 a0_3, .int .u64 0, .int .u64 0, .int .u64 0, .int .u64 0, .int .u64 0]) ?_ 4 _ rfl; (with_reducible repeat (first | refine blk_drewN ?_ _ | refine blk_drew ?_ | refine blk_alloc ?_ _)); refine blk_put (cs := #[.int .u64 (IntKind.u64.wrap (x17_25 + 8)), .int .u64 a0_1, .int .u64 a0_2, .int .u64 0, .int .u64 0, .int .u64 0, .int .u64 0, .int .u64 0, .int .u64 0]) ?_ 3 _ rfl; (with_reducible repeat (first | refine blk_drewN ?_ _ | refine blk_drew ?_ | refine blk_alloc ?_ _)); refine blk_put (cs := #[.int .u64 (IntKind.u64.wrap (x17_25 + 8)), .int .u64 a0_1, .int .u64 0, .int .u64 0, .int .u64 0, .int .u64 0, .int .u64 0, .int .u64 0, .int .u64 0]) ?_ 2 _ rfl; (with_reducible repeat (first | refine blk_drewN ?_ _ | refine blk_drew ?_ | refine blk_alloc ?_ _)); refine blk_put (cs := #[.int .u64 (IntKind.u64.wrap (x17_25 + 8)), .int .u64 0, .int .u64 0, .int .u64 0, .int .u64 0, .int .u64 0, .int .u64 0, .int .u64 0, .int .u64 0]) ?_ 1 _ rfl; (with_reducible repeat (first | refine blk_drewN ?_ _ | refine blk_drew ?_ | refine blk_alloc ?_ _)); refine blk_put (cs := #[.int .u64 0, .int .u64 0, .int .u64 0, .int .u64 0, .int .u64 0, .int .u64 0, .int .u64 0, .int .u64 0, .int .u64 0]) ?_ 0 _ rfl; (with_reducible repeat (first | refine blk_drewN ?_ _ | refine blk_drew ?_ | refine blk_alloc ?_ _)); refine blk_far ?_ NB132_131.out _; (with_reducible repeat (first | refine blk_drewN ?_ _ | refine blk_drew ?_ | refine blk_alloc ?_ _)); exact BK132.out) Try.underlying38 rfl (by kernel_rfl)) rfl ?_
                    exact ⟨by first | rfl | (simp [errW_none, errW_some] <;> rfl) | (simp [*, errW_none, errW_some] <;> rfl), by repeat (first | (with_reducible first | exact HB.out | apply below_alloc | apply pw_below_drewN | apply below_drew1 | refine below_set ?_ GE131.out | refine below_set ?_ GE132.out) | exact HB.out)⟩
                  · rw [if_neg c29] at H
                    have c29b0 : (a1 == 0) = false := beq_eq_false_iff_ne.mpr c29
                    have c29b1 : (a1 != 0) = true := bne_iff_ne.mpr c29
                    simp only [Option.some.injEq, Prod.mk.injEq] at H
                    obtain ⟨rfl, rfl, rfl, rfl, rfl, rfl, rfl, rfl, rfl, rfl⟩ := H
                    have hnb33 := NB131_132.out
                    have hnc33 := NB132_131.out
                    have hcz34_0 : wc.cell? ⟨gb131, 0, none⟩ = some (.int .u64 a0_0) := (blk_cell BK131.out 0).trans rfl
                    have hcz34_1 : wc.cell? ⟨gb131, 1, none⟩ = some (.int .u64 a0_1) := (blk_cell BK131.out 1).trans rfl
                    have hcz34_2 : wc.cell? ⟨gb131, 2, none⟩ = some (.int .u64 a0_2) := (blk_cell BK131.out 2).trans rfl
                    have hcz34_3 : wc.cell? ⟨gb131, 3, none⟩ = some (.int .u64 a0_3) := (blk_cell BK131.out 3).trans rfl
                    have hcz34_4 : wc.cell? ⟨gb131, 4, none⟩ = some (.int .u64 a0_4) := (blk_cell BK131.out 4).trans rfl
                    have hcz34_5 : wc.cell? ⟨gb131, 5, none⟩ = some (.int .u64 a0_5) := (blk_cell BK131.out 5).trans rfl
                    have hcz34_6 : wc.cell? ⟨gb131, 6, none⟩ = some (.int .u64 a0_6) := (blk_cell BK131.out 6).trans rfl
                    have hcz34_7 : wc.cell? ⟨gb131, 7, none⟩ = some (.int .u64 a0_7) := (blk_cell BK131.out 7).trans rfl
                    have hcz34_8 : wc.cell? ⟨gb131, 8, none⟩ = some (.int .u64 a0_8) := (blk_cell BK131.out 8).trans rfl
                    have hfz34_0 := blk_frozen BK131.out 0
                    have hfz34_1 := blk_frozen BK131.out 1
                    have hfz34_2 := blk_frozen BK131.out 2
                    have hfz34_3 := blk_frozen BK131.out 3
                    have hfz34_4 := blk_frozen BK131.out 4
                    have hfz34_5 := blk_frozen BK131.out 5
                    have hfz34_6 := blk_frozen BK131.out 6
                    have hfz34_7 := blk_frozen BK131.out 7
                    have hfz34_8 := blk_frozen BK131.out 8
                    have hcz35_0 : wc.cell? ⟨gb132, 0, none⟩ = some (.int .u64 0) := (blk_cell BK132.out 0).trans rfl
                    have hcz35_1 : wc.cell? ⟨gb132, 1, none⟩ = some (.int .u64 0) := (blk_cell BK132.out 1).trans rfl
                    have hcz35_2 : wc.cell? ⟨gb132, 2, none⟩ = some (.int .u64 0) := (blk_cell BK132.out 2).trans rfl
                    have hcz35_3 : wc.cell? ⟨gb132, 3, none⟩ = some (.int .u64 0) := (blk_cell BK132.out 3).trans rfl
                    have hcz35_4 : wc.cell? ⟨gb132, 4, none⟩ = some (.int .u64 0) := (blk_cell BK132.out 4).trans rfl
                    have hcz35_5 : wc.cell? ⟨gb132, 5, none⟩ = some (.int .u64 0) := (blk_cell BK132.out 5).trans rfl
                    have hcz35_6 : wc.cell? ⟨gb132, 6, none⟩ = some (.int .u64 0) := (blk_cell BK132.out 6).trans rfl
                    have hcz35_7 : wc.cell? ⟨gb132, 7, none⟩ = some (.int .u64 0) := (blk_cell BK132.out 7).trans rfl
                    have hcz35_8 : wc.cell? ⟨gb132, 8, none⟩ = some (.int .u64 0) := (blk_cell BK132.out 8).trans rfl
                    have hfz35_0 := blk_frozen BK132.out 0
                    have hfz35_1 := blk_frozen BK132.out 1
                    have hfz35_2 := blk_frozen BK132.out 2
                    have hfz35_3 := blk_frozen BK132.out 3
                    have hfz35_4 := blk_frozen BK132.out 4
                    have hfz35_5 := blk_frozen BK132.out 5
                    have hfz35_6 := blk_frozen BK132.out 6
                    have hfz35_7 := blk_frozen BK132.out 7
                    have hfz35_8 := blk_frozen BK132.out 8
                    go_wp2
                    refine bodyPost_ret (results_ct rfl _ _ gb132 38 #[.int .u64 a0_0, .int .u64 a0_1, .int .u64 a0_2, .int .u64 a0_3, .int .u64 a0_4, .int .u64 (IntKind.u64.wrap (x17_25 + 8)), .int .u64 a6, .int .u64 a0_7, .int .u64 a0_8] (0, 0) _ rfl (by (with_reducible repeat (first | refine blk_drewN ?_ _ | refine blk_drew ?_ | refine blk_alloc ?_ _)); refine blk_put (cs := #[.int .u64 a0_0, .int .u64 a0_1, .int .u64 a0_2, .int .u64 a0_3, .int .u64 a0_4, .int .u64 (IntKind.u64.wrap (x17_25 + 8)), .int .u64 a6, .int .u64 a0_7, .int .u64 0]) ?_ 8 _ rfl; (with_reducible repeat (first | refine blk_drewN ?_ _ | refine blk_drew ?_ | refine blk_alloc ?_ _)); refine blk_put (cs := #[.int .u64 a0_0, .int .u64 a0_1, .int .u64 a0_2, .int .u64 a0_3, .int .u64 a0_4, .int .u64 (IntKind.u64.wrap (x17_25 + 8)), .int .u64 a6, .int .u64 0, .int .u64 0]) ?_ 7 _ rfl; (with_reducible repeat (first | refine blk_drewN ?_ _ | refine blk_drew ?_ | refine blk_alloc ?_ _)); refine blk_put (cs := #[.int .u64 a0_0, .int .u64 a0_1, .int .u64 a0_2, .int .u64 a0_3, .int .u64 a0_4, .int .u64 (IntKind.u64.wrap (x17_25 + 8)), .int .u64 0, .int .u64 0, .int .u64 0]) ?_ 6 _ rfl; (with_reducible repeat (first | refine blk_drewN ?_ _ | refine blk_drew ?_ | refine blk_alloc ?_ _)); refine blk_put (cs := #[.int .u64 a0_0, .int .u64 a0_1, .int .u64 a0_2, .int .u64 a0_3, .int .u64 a0_4, .int .u64 0, .int .u64 0, .int .u64 0, .int .u64 0]) ?_ 5 _ rfl; (with_reducible repeat (first | refine blk_drewN ?_ _ | refine blk_drew ?_ | refine blk_alloc ?_ _)); refine blk_put (cs := #[.int .u64 a0_0, .int .u64 a0_1, .int .u64 a0_2, .int .u64 a0_3, .int .u64 0, .int .u64 0, .int .u64 0, .int .u64 0, .int .u64 0]) ?_ 4 _ rfl; (with_reducible repeat (first | refine blk_drewN ?_ _ | refine blk_drew ?_ | refine blk_alloc ?_ _)); refine blk_put (cs := #[.int .u64 a0_0, .int .u64 a0_1, .int .u64 a0_2, .int .u64 0, .int .u64 0, .int .u64 0, .int .u64 0, .int .u64 0, .int .u64 0]) ?_ 3 _ rfl; (with_reducible repeat (first | refine blk_drewN ?_ _ | refine blk_drew ?_ | refine blk_alloc ?_ _)); refine blk_put (cs := #[.int .u64 a0_0, .int .u64 a0_1, .int .u64 0, .int .u64 0, .int .u64 0, .int .u64 0, .int .u64 0, .int .u64 0, .int .u64 0]) ?_ 2 _ rfl; (with_reducible repeat (first | refine blk_drewN ?_ _ | refine blk_drew ?_ | refine blk_alloc ?_ _)); refine blk_put (cs := #[.int .u64 a0_0, .int .u64 0, .int .u64 0, .int .u64 0, .int .u64 0, .int .u64 0, .int .u64 0, .int .u64 0, .int .u64 0]) ?_ 1 _ rfl; (with_reducible repeat (first | refine blk_drewN ?_ _ | refine blk_drew ?_ | refine blk_alloc ?_ _)); refine blk_put (cs := #[.int .u64 0, .int .u64 0, .int .u64 0, .int .u64 0, .int .u64 0, .int .u64 0, .int .u64 0, .int .u64 0, .int .u64 0]) ?_ 0 _ rfl; (with_reducible repeat (first | refine blk_drewN ?_ _ | refine blk_drew ?_ | refine blk_alloc ?_ _)); refine blk_far ?_ NB132_131.out _; (with_reducible repeat (first | refine blk_drewN ?_ _ | refine blk_drew ?_ | refine blk_alloc ?_ _)); refine blk_far ?_ NB132_131.out _; (with_reducible repeat (first | refine blk_drewN ?_ _ | refine blk_drew ?_ | refine blk_alloc ?_ _)); exact BK132.out) Try.underlying38 rfl (by kernel_rfl)) rfl ?_
                    exact ⟨by first | rfl | (simp [errW_none, errW_some] <;> rfl) | (simp [*, errW_none, errW_some] <;> rfl), by repeat (first | (with_reducible first | exact HB.out | apply below_alloc | apply pw_below_drewN | apply below_drew1 | refine below_set ?_ GE131.out | refine below_set ?_ GE132.out) | exact HB.out)⟩
                · replace c28 := Bool.eq_false_iff.mpr c28
                  subst c28
                  have H1 : (if a1 = 0 then (some (x17_25, a0_1, a0_2, a0_3, a0_4, a0_5, a0_6, a0_7, a0_8, 0)) else (some (a0_0, a0_1, a0_2, a0_3, a0_4, x17_25, a6, a0_7, a0_8, 0))) = some (r1, r2, r3, r4, r5, r6, r7, r8, r9, r10) := by rw [if_neg (show ¬ (false = true) by decide)] at H; exact H
                  clear H
                  have H := H1
                  clear H1
                  by_cases c36 : a1 = 0
                  · rw [if_pos c36] at H
                    have c36b0 : (a1 == 0) = true := beq_iff_eq.mpr c36
                    have c36b1 : (a1 != 0) = false := bne_eq_false_iff_eq.mpr c36
                    clear c36
                    simp only [Option.some.injEq, Prod.mk.injEq] at H
                    obtain ⟨rfl, rfl, rfl, rfl, rfl, rfl, rfl, rfl, rfl, rfl⟩ := H
                    have hnb37 := NB131_132.out
                    have hnc37 := NB132_131.out
                    have hcz38_0 : wc.cell? ⟨gb131, 0, none⟩ = some (.int .u64 a0_0) := (blk_cell BK131.out 0).trans rfl
                    have hcz38_1 : wc.cell? ⟨gb131, 1, none⟩ = some (.int .u64 a0_1) := (blk_cell BK131.out 1).trans rfl
                    have hcz38_2 : wc.cell? ⟨gb131, 2, none⟩ = some (.int .u64 a0_2) := (blk_cell BK131.out 2).trans rfl
                    have hcz38_3 : wc.cell? ⟨gb131, 3, none⟩ = some (.int .u64 a0_3) := (blk_cell BK131.out 3).trans rfl
                    have hcz38_4 : wc.cell? ⟨gb131, 4, none⟩ = some (.int .u64 a0_4) := (blk_cell BK131.out 4).trans rfl
                    have hcz38_5 : wc.cell? ⟨gb131, 5, none⟩ = some (.int .u64 a0_5) := (blk_cell BK131.out 5).trans rfl
                    have hcz38_6 : wc.cell? ⟨gb131, 6, none⟩ = some (.int .u64 a0_6) := (blk_cell BK131.out 6).trans rfl
                    have hcz38_7 : wc.cell? ⟨gb131, 7, none⟩ = some (.int .u64 a0_7) := (blk_cell BK131.out 7).trans rfl
                    have hcz38_8 : wc.cell? ⟨gb131, 8, none⟩ = some (.int .u64 a0_8) := (blk_cell BK131.out 8).trans rfl
                    have hfz38_0 := blk_frozen BK131.out 0
                    have hfz38_1 := blk_frozen BK131.out 1
                    have hfz38_2 := blk_frozen BK131.out 2
                    have hfz38_3 := blk_frozen BK131.out 3
                    have hfz38_4 := blk_frozen BK131.out 4
                    have hfz38_5 := blk_frozen BK131.out 5
                    have hfz38_6 := blk_frozen BK131.out 6
                    have hfz38_7 := blk_frozen BK131.out 7
                    have hfz38_8 := blk_frozen BK131.out 8
                    have hcz39_0 : wc.cell? ⟨gb132, 0, none⟩ = some (.int .u64 0) := (blk_cell BK132.out 0).trans rfl
                    have hcz39_1 : wc.cell? ⟨gb132, 1, none⟩ = some (.int .u64 0) := (blk_cell BK132.out 1).trans rfl
                    have hcz39_2 : wc.cell? ⟨gb132, 2, none⟩ = some (.int .u64 0) := (blk_cell BK132.out 2).trans rfl
                    have hcz39_3 : wc.cell? ⟨gb132, 3, none⟩ = some (.int .u64 0) := (blk_cell BK132.out 3).trans rfl
                    have hcz39_4 : wc.cell? ⟨gb132, 4, none⟩ = some (.int .u64 0) := (blk_cell BK132.out 4).trans rfl
                    have hcz39_5 : wc.cell? ⟨gb132, 5, none⟩ = some (.int .u64 0) := (blk_cell BK132.out 5).trans rfl
                    have hcz39_6 : wc.cell? ⟨gb132, 6, none⟩ = some (.int .u64 0) := (blk_cell BK132.out 6).trans rfl
                    have hcz39_7 : wc.cell? ⟨gb132, 7, none⟩ = some (.int .u64 0) := (blk_cell BK132.out 7).trans rfl
                    have hcz39_8 : wc.cell? ⟨gb132, 8, none⟩ = some (.int .u64 0) := (blk_cell BK132.out 8).trans rfl
                    have hfz39_0 := blk_frozen BK132.out 0
                    have hfz39_1 := blk_frozen BK132.out 1
                    have hfz39_2 := blk_frozen BK132.out 2
                    have hfz39_3 := blk_frozen BK132.out 3
                    have hfz39_4 := blk_frozen BK132.out 4
                    have hfz39_5 := blk_frozen BK132.out 5
                    have hfz39_6 := blk_frozen BK132.out 6
                    have hfz39_7 := blk_frozen BK132.out 7
                    have hfz39_8 := blk_frozen BK132.out 8
                    go_wp2
                    refine bodyPost_ret (results_ct rfl _ _ gb132 38 #[.int .u64 x17_25, .int .u64 a0_1, .int .u64 a0_2, .int .u64 a0_3, .int .u64 a0_4, .int .u64 a0_5, .int .u64 a0_6, .int .u64 a0_7, .int .u64 a0_8] (0, 0) _ rfl (by (with_reducible repeat (first | refine blk_drewN ?_ _ | refine blk_drew ?_ | refine blk_alloc ?_ _)); refine blk_put (cs := #[.int .u64 x17_25, .int .u64 a0_1, .int .u64 a0_2, .int .u64 a0_3, .int .u64 a0_4, .int .u64 a0_5, .int .u64 a0_6, .int .u64 a0_7, .int .u64 0]) ?_ 8 _ rfl; (with_reducible repeat (first | refine blk_drewN ?_ _ | refine blk_drew ?_ | refine blk_alloc ?_ _)); refine blk_put (cs := #[.int .u64 x17_25, .int .u64 a0_1, .int .u64 a0_2, .int .u64 a0_3, .int .u64 a0_4, .int .u64 a0_5, .int .u64 a0_6, .int .u64 0, .int .u64 0]) ?_ 7 _ rfl; (with_reducible repeat (first | refine blk_drewN ?_ _ | refine blk_drew ?_ | refine blk_alloc ?_ _)); refine blk_put (cs := #[.int .u64 x17_25, .int .u64 a0_1, .int .u64 a0_2, .int .u64 a0_3, .int .u64 a0_4, .int .u64 a0_5, .int .u64 0, .int .u64 0, .int .u64 0]) ?_ 6 _ rfl; (with_reducible repeat (first | refine blk_drewN ?_ _ | refine blk_drew ?_ | refine blk_alloc ?_ _)); refine blk_put (cs := #[.int .u64 x17_25, .int .u64 a0_1, .int .u64 a0_2, .int .u64 a0_3, .int .u64 a0_4, .int .u64 0, .int .u64 0, .int .u64 0, .int .u64 0]) ?_ 5 _ rfl; (with_reducible repeat (first | refine blk_drewN ?_ _ | refine blk_drew ?_ | refine blk_alloc ?_ _)); refine blk_put (cs := #[.int .u64 x17_25, .int .u64 a0_1, .int .u64 a0_2, .int .u64 a0_3, .int .u64 0, .int .u64 0, .int .u64 0, .int .u64 0, .int .u64 0]) ?_ 4 _ rfl; (with_reducible repeat (first | refine blk_drewN ?_ _ | refine blk_drew ?_ | refine blk_alloc ?_ _)); refine blk_put (cs := #[.int .u64 x17_25, .int .u64 a0_1, .int .u64 a0_2, .int .u64 0, .int .u64 0, .int .u64 0, .int .u64 0, .int .u64 0, .int .u64 0]) ?_ 3 _ rfl; (with_reducible repeat (first | refine blk_drewN ?_ _ | refine blk_drew ?_ | refine blk_alloc ?_ _)); refine blk_put (cs := #[.int .u64 x17_25, .int .u64 a0_1, .int .u64 0, .int .u64 0, .int .u64 0, .int .u64 0, .int .u64 0, .int .u64 0, .int .u64 0]) ?_ 2 _ rfl; (with_reducible repeat (first | refine blk_drewN ?_ _ | refine blk_drew ?_ | refine blk_alloc ?_ _)); refine blk_put (cs := #[.int .u64 x17_25, .int .u64 0, .int .u64 0, .int .u64 0, .int .u64 0, .int .u64 0, .int .u64 0, .int .u64 0, .int .u64 0]) ?_ 1 _ rfl; (with_reducible repeat (first | refine blk_drewN ?_ _ | refine blk_drew ?_ | refine blk_alloc ?_ _)); refine blk_put (cs := #[.int .u64 0, .int .u64 0, .int .u64 0, .int .u64 0, .int .u64 0, .int .u64 0, .int .u64 0, .int .u64 0, .int .u64 0]) ?_ 0 _ rfl; (with_reducible repeat (first | refine blk_drewN ?_ _ | refine blk_drew ?_ | refine blk_alloc ?_ _)); refine blk_far ?_ NB132_131.out _; (with_reducible repeat (first | refine blk_drewN ?_ _ | refine blk_drew ?_ | refine blk_alloc ?_ _)); exact BK132.out) Try.underlying38 rfl (by kernel_rfl)) rfl ?_
                    exact ⟨by first | rfl | (simp [errW_none, errW_some] <;> rfl) | (simp [*, errW_none, errW_some] <;> rfl), by repeat (first | (with_reducible first | exact HB.out | apply below_alloc | apply pw_below_drewN | apply below_drew1 | refine below_set ?_ GE131.out | refine below_set ?_ GE132.out) | exact HB.out)⟩
                  · rw [if_neg c36] at H
                    have c36b0 : (a1 == 0) = false := beq_eq_false_iff_ne.mpr c36
                    have c36b1 : (a1 != 0) = true := bne_iff_ne.mpr c36
                    simp only [Option.some.injEq, Prod.mk.injEq] at H
                    obtain ⟨rfl, rfl, rfl, rfl, rfl, rfl, rfl, rfl, rfl, rfl⟩ := H
                    have hnb40 := NB131_132.out
                    have hnc40 := NB132_131.out
                    have hcz41_0 : wc.cell? ⟨gb131, 0, none⟩ = some (.int .u64 a0_0) := (blk_cell BK131.out 0).trans rfl
                    have hcz41_1 : wc.cell? ⟨gb131, 1, none⟩ = some (.int .u64 a0_1) := (blk_cell BK131.out 1).trans rfl
                    have hcz41_2 : wc.cell? ⟨gb131, 2, none⟩ = some (.int .u64 a0_2) := (blk_cell BK131.out 2).trans rfl
                    have hcz41_3 : wc.cell? ⟨gb131, 3, none⟩ = some (.int .u64 a0_3) := (blk_cell BK131.out 3).trans rfl
                    have hcz41_4 : wc.cell? ⟨gb131, 4, none⟩ = some (.int .u64 a0_4) := (blk_cell BK131.out 4).trans rfl
                    have hcz41_5 : wc.cell? ⟨gb131, 5, none⟩ = some (.int .u64 a0_5) := (blk_cell BK131.out 5).trans rfl
                    have hcz41_6 : wc.cell? ⟨gb131, 6, none⟩ = some (.int .u64 a0_6) := (blk_cell BK131.out 6).trans rfl
                    have hcz41_7 : wc.cell? ⟨gb131, 7, none⟩ = some (.int .u64 a0_7) := (blk_cell BK131.out 7).trans rfl
                    have hcz41_8 : wc.cell? ⟨gb131, 8, none⟩ = some (.int .u64 a0_8) := (blk_cell BK131.out 8).trans rfl
                    have hfz41_0 := blk_frozen BK131.out 0
                    have hfz41_1 := blk_frozen BK131.out 1
                    have hfz41_2 := blk_frozen BK131.out 2
                    have hfz41_3 := blk_frozen BK131.out 3
                    have hfz41_4 := blk_frozen BK131.out 4
                    have hfz41_5 := blk_frozen BK131.out 5
                    have hfz41_6 := blk_frozen BK131.out 6
                    have hfz41_7 := blk_frozen BK131.out 7
                    have hfz41_8 := blk_frozen BK131.out 8
                    have hcz42_0 : wc.cell? ⟨gb132, 0, none⟩ = some (.int .u64 0) := (blk_cell BK132.out 0).trans rfl
                    have hcz42_1 : wc.cell? ⟨gb132, 1, none⟩ = some (.int .u64 0) := (blk_cell BK132.out 1).trans rfl
                    have hcz42_2 : wc.cell? ⟨gb132, 2, none⟩ = some (.int .u64 0) := (blk_cell BK132.out 2).trans rfl
                    have hcz42_3 : wc.cell? ⟨gb132, 3, none⟩ = some (.int .u64 0) := (blk_cell BK132.out 3).trans rfl
                    have hcz42_4 : wc.cell? ⟨gb132, 4, none⟩ = some (.int .u64 0) := (blk_cell BK132.out 4).trans rfl
                    have hcz42_5 : wc.cell? ⟨gb132, 5, none⟩ = some (.int .u64 0) := (blk_cell BK132.out 5).trans rfl
                    have hcz42_6 : wc.cell? ⟨gb132, 6, none⟩ = some (.int .u64 0) := (blk_cell BK132.out 6).trans rfl
                    have hcz42_7 : wc.cell? ⟨gb132, 7, none⟩ = some (.int .u64 0) := (blk_cell BK132.out 7).trans rfl
                    have hcz42_8 : wc.cell? ⟨gb132, 8, none⟩ = some (.int .u64 0) := (blk_cell BK132.out 8).trans rfl
                    have hfz42_0 := blk_frozen BK132.out 0
                    have hfz42_1 := blk_frozen BK132.out 1
                    have hfz42_2 := blk_frozen BK132.out 2
                    have hfz42_3 := blk_frozen BK132.out 3
                    have hfz42_4 := blk_frozen BK132.out 4
                    have hfz42_5 := blk_frozen BK132.out 5
                    have hfz42_6 := blk_frozen BK132.out 6
                    have hfz42_7 := blk_frozen BK132.out 7
                    have hfz42_8 := blk_frozen BK132.out 8
                    go_wp2
                    refine bodyPost_ret (results_ct rfl _ _ gb132 38 #[.int .u64 a0_0, .int .u64 a0_1, .int .u64 a0_2, .int .u64 a0_3, .int .u64 a0_4, .int .u64 x17_25, .int .u64 a6, .int .u64 a0_7, .int .u64 a0_8] (0, 0) _ rfl (by (with_reducible repeat (first | refine blk_drewN ?_ _ | refine blk_drew ?_ | refine blk_alloc ?_ _)); refine blk_put (cs := #[.int .u64 a0_0, .int .u64 a0_1, .int .u64 a0_2, .int .u64 a0_3, .int .u64 a0_4, .int .u64 x17_25, .int .u64 a6, .int .u64 a0_7, .int .u64 0]) ?_ 8 _ rfl; (with_reducible repeat (first | refine blk_drewN ?_ _ | refine blk_drew ?_ | refine blk_alloc ?_ _)); refine blk_put (cs := #[.int .u64 a0_0, .int .u64 a0_1, .int .u64 a0_2, .int .u64 a0_3, .int .u64 a0_4, .int .u64 x17_25, .int .u64 a6, .int .u64 0, .int .u64 0]) ?_ 7 _ rfl; (with_reducible repeat (first | refine blk_drewN ?_ _ | refine blk_drew ?_ | refine blk_alloc ?_ _)); refine blk_put (cs := #[.int .u64 a0_0, .int .u64 a0_1, .int .u64 a0_2, .int .u64 a0_3, .int .u64 a0_4, .int .u64 x17_25, .int .u64 0, .int .u64 0, .int .u64 0]) ?_ 6 _ rfl; (with_reducible repeat (first | refine blk_drewN ?_ _ | refine blk_drew ?_ | refine blk_alloc ?_ _)); refine blk_put (cs := #[.int .u64 a0_0, .int .u64 a0_1, .int .u64 a0_2, .int .u64 a0_3, .int .u64 a0_4, .int .u64 0, .int .u64 0, .int .u64 0, .int .u64 0]) ?_ 5 _ rfl; (with_reducible repeat (first | refine blk_drewN ?_ _ | refine blk_drew ?_ | refine blk_alloc ?_ _)); refine blk_put (cs := #[.int .u64 a0_0, .int .u64 a0_1, .int .u64 a0_2, .int .u64 a0_3, .int .u64 0, .int .u64 0, .int .u64 0, .int .u64 0, .int .u64 0]) ?_ 4 _ rfl; (with_reducible repeat (first | refine blk_drewN ?_ _ | refine blk_drew ?_ | refine blk_alloc ?_ _)); refine blk_put (cs := #[.int .u64 a0_0, .int .u64 a0_1, .int .u64 a0_2, .int .u64 0, .int .u64 0, .int .u64 0, .int .u64 0, .int .u64 0, .int .u64 0]) ?_ 3 _ rfl; (with_reducible repeat (first | refine blk_drewN ?_ _ | refine blk_drew ?_ | refine blk_alloc ?_ _)); refine blk_put (cs := #[.int .u64 a0_0, .int .u64 a0_1, .int .u64 0, .int .u64 0, .int .u64 0, .int .u64 0, .int .u64 0, .int .u64 0, .int .u64 0]) ?_ 2 _ rfl; (with_reducible repeat (first | refine blk_drewN ?_ _ | refine blk_drew ?_ | refine blk_alloc ?_ _)); refine blk_put (cs := #[.int .u64 a0_0, .int .u64 0, .int .u64 0, .int .u64 0, .int .u64 0, .int .u64 0, .int .u64 0, .int .u64 0, .int .u64 0]) ?_ 1 _ rfl; (with_reducible repeat (first | refine blk_drewN ?_ _ | refine blk_drew ?_ | refine blk_alloc ?_ _)); refine blk_put (cs := #[.int .u64 0, .int .u64 0, .int .u64 0, .int .u64 0, .int .u64 0, .int .u64 0, .int .u64 0, .int .u64 0, .int .u64 0]) ?_ 0 _ rfl; (with_reducible repeat (first | refine blk_drewN ?_ _ | refine blk_drew ?_ | refine blk_alloc ?_ _)); refine blk_far ?_ NB132_131.out _; (with_reducible repeat (first | refine blk_drewN ?_ _ | refine blk_drew ?_ | refine blk_alloc ?_ _)); refine blk_far ?_ NB132_131.out _; (with_reducible repeat (first | refine blk_drewN ?_ _ | refine blk_drew ?_ | refine blk_alloc ?_ _)); exact BK132.out) Try.underlying38 rfl (by kernel_rfl)) rfl ?_
                    exact ⟨by first | rfl | (simp [errW_none, errW_some] <;> rfl) | (simp [*, errW_none, errW_some] <;> rfl), by repeat (first | (with_reducible first | exact HB.out | apply below_alloc | apply pw_below_drewN | apply below_drew1 | refine below_set ?_ GE131.out | refine below_set ?_ GE132.out) | exact HB.out)⟩

end Go.Proofs.Ytdfejnakhpgekaa.QRegsPlays
