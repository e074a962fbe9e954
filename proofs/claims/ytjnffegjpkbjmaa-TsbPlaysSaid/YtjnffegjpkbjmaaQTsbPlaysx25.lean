-- Taken out of a text that a program of this session printed (wip/print/myprint.py, wip/print/take.py); Lean checks it.
import Derived.Test.YtjnffegjpkbjmaaQTsbPlaysx22
namespace Go.Proofs.Ytjnffegjpkbjmaa.QTsbPlays
open Go.RowKit Go.Proofs.YtjnffegjpkbjmaaW.PrintWords Go.Proofs.YtjnffegjpkbjmaaW.PrintLast Go.Proofs.YtjnffegjpkbjmaaW.PrintMore
attribute [local go_sem] max2_int min2_int max_two min_two max_three min_three max_four min_four   -- for this text's walks alone
set_option linter.unusedVariables false
set_option linter.unusedSimpArgs false
theorem cy3_25 {W : World} {g : Nat} {t : TypeId} {a0 a1 a2 : Value} {l : List Value} (h : W.heap[g]? = some (.cells (Array.mk (a0 :: a1 :: a2 :: l)) t (0, 0))) : W.cell? ⟨g, 0, none⟩ = some a0 ∧ W.cell? ⟨g, 1, none⟩ = some a1 ∧ W.cell? ⟨g, 2, none⟩ = some a2 := ⟨(blk_cell h 0).trans rfl, (blk_cell h 1).trans rfl, (blk_cell h 2).trans rfl⟩
theorem cy6_25 {W : World} {g : Nat} {t : TypeId} {a0 a1 a2 a3 a4 a5 : Value} {l : List Value} (h : W.heap[g]? = some (.cells (Array.mk (a0 :: a1 :: a2 :: a3 :: a4 :: a5 :: l)) t (0, 0))) : W.cell? ⟨g, 0, none⟩ = some a0 ∧ W.cell? ⟨g, 1, none⟩ = some a1 ∧ W.cell? ⟨g, 2, none⟩ = some a2 ∧ W.cell? ⟨g, 3, none⟩ = some a3 ∧ W.cell? ⟨g, 4, none⟩ = some a4 ∧ W.cell? ⟨g, 5, none⟩ = some a5 := ⟨(blk_cell h 0).trans rfl, (blk_cell h 1).trans rfl, (blk_cell h 2).trans rfl, (blk_cell h 3).trans rfl, (blk_cell h 4).trans rfl, (blk_cell h 5).trans rfl⟩
theorem cy11_25 {W : World} {g : Nat} {t : TypeId} {a0 a1 a2 a3 a4 a5 a6 a7 a8 a9 a10 : Value} {l : List Value} (h : W.heap[g]? = some (.cells (Array.mk (a0 :: a1 :: a2 :: a3 :: a4 :: a5 :: a6 :: a7 :: a8 :: a9 :: a10 :: l)) t (0, 0))) : W.cell? ⟨g, 0, none⟩ = some a0 ∧ W.cell? ⟨g, 1, none⟩ = some a1 ∧ W.cell? ⟨g, 2, none⟩ = some a2 ∧ W.cell? ⟨g, 3, none⟩ = some a3 ∧ W.cell? ⟨g, 4, none⟩ = some a4 ∧ W.cell? ⟨g, 5, none⟩ = some a5 ∧ W.cell? ⟨g, 6, none⟩ = some a6 ∧ W.cell? ⟨g, 7, none⟩ = some a7 ∧ W.cell? ⟨g, 8, none⟩ = some a8 ∧ W.cell? ⟨g, 9, none⟩ = some a9 ∧ W.cell? ⟨g, 10, none⟩ = some a10 := ⟨(blk_cell h 0).trans rfl, (blk_cell h 1).trans rfl, (blk_cell h 2).trans rfl, (blk_cell h 3).trans rfl, (blk_cell h 4).trans rfl, (blk_cell h 5).trans rfl, (blk_cell h 6).trans rfl, (blk_cell h 7).trans rfl, (blk_cell h 8).trans rfl, (blk_cell h 9).trans rfl, (blk_cell h 10).trans rfl⟩
theorem bb25_ {w2 w' : World} {g : Nat} {o : Obj} (hb : Below w2.heap.size w2 w') (h : w2.heap[g]? = some o) : w'.heap[g]? = some o := blk_below h hb
/-! ### lookasideref10_Bad: function 83 -/
def lookasideref10_Bad.f  : Option (Int) := some 9223372036854775807
set_option maxHeartbeats 8000000 in
set_option maxRecDepth 100000 in
theorem lookasideref10_Bad.calls  (r : Int) (w : World) (h : lookasideref10_Bad.f  = some r) :
  Calls Try.prog 83 #[] w fun e w' => e = .returned (.int .u64 r) ∧ Drawn0 w w' := by
 have H : (some 9223372036854775807) = some r := h
 clear h
 obtain rfl := Option.some.inj H
 go_enter Try.func83, Try.ntmps83
 go_wp2
 go_ret
 exact ⟨by first | rfl | (simp; done) | (simp [*]; done), by repeat (first | exact Drawn0.refl _ | apply Drawn0.step)⟩
/-! ### lookasideref10_Get: function 99 -/
def lookasideref10_Get.l0 : Nat → Int → Int → Int → Int → List (S122) → Option (Int × Int × Int)
 | 0, _, _, _, _, _ => none
 | k + 1, x1, x5, x103000, x103001, x103002 => if x5 < (x103002.length : Int) then (if 0 ≤ x5 then (if ((rd_T122 x103002 x5).f0) = x1 then (some ((rd_T122 x103002 x5).f0, (rd_T122 x103002 x5).f1, (rd_T122 x103002 x5).f2)) else (lookasideref10_Get.l0 k x1 (wrap64 (x5 + 1)) x103000 x103001 x103002)) else (none)) else ((lookasideref10_Bad.f).bind fun t106 => (some (x1, t106, 0)))
def lookasideref10_Get.f (k : Nat) (a0_0 : Int) (a0_1 : Int) (l0_2 : List (S122)) (a1 : Int) : Option (Int × Int × Int) := lookasideref10_Get.l0 k a1 0 a0_0 a0_1 l0_2
set_option maxHeartbeats 8000000 in
set_option maxRecDepth 100000 in
theorem lookasideref10_Get.calls (k : Nat) (a0_0 : Int) (a0_1 : Int) (A0_2 : Option Addr) (c0_2 : Nat) (l0_2 : List (S122)) (a1 : Int) (r1 : Int) (r2 : Int) (r3 : Int) (w : World) (hr0_2 : Kd.C k122 w A0_2 l0_2.length l0_2) (hc0_2 : l0_2.length ≤ c0_2) (h : lookasideref10_Get.f k a0_0 a0_1 l0_2 a1 = some (r1, r2, r3)) :
  Calls Try.prog 99 #[.agg #[.int .i64 a0_0, .int .i64 a0_1, .slice A0_2 l0_2.length c0_2], .int .i64 a1] w fun e w' => e = .returned (.agg #[.int .i64 r1, .int .u64 r2, .int .u64 r3]) ∧ Below w.heap.size w w' := by
 have hu44 := Try.underlying44
 have hu122 := Try.underlying122
 have HR0_2 := Aside0.mk hr0_2
 have HC0_2 := Aside0.mk hc0_2
 clear hr0_2 hc0_2
 have HB := Aside0.mk (Below.refl w.heap.size w)
 have H : (lookasideref10_Get.l0 k a1 0 a0_0 a0_1 l0_2) = some (r1, r2, r3) := h
 clear h
 have H' := Aside0.mk H
 clear H
 go_enter Try.func99, Try.ntmps99
 go_wp2_with (first | ((with_reducible refine gate_dst (N := 2) rfl ?_); refine box_event ?hg (N := 2) ?hd (cs := #[.int .i64 a0_0, .int .i64 a0_1, .slice A0_2 l0_2.length c0_2]) (t := 44) ?hr ?_; (case hd => rfl); (case hg => rfl); (case hr => first | (go_simp; done) | (go_simp; rfl)); intro gb102 hg w3 hbox hb; have n0_ := Aside0.mk (below_step (by repeat (first | (with_reducible first | exact HB.out | apply below_alloc | apply pw_below_drewN | apply below_drew1) | exact HB.out)) hb); have n1_ := Aside0.mk (hbox); have n2_ := Aside0.mk ((by rw [hg]; exact (below_size (by repeat (first | (with_reducible first | exact HB.out | apply below_alloc | apply pw_below_drewN | apply below_drew1) | exact HB.out))) : w.heap.size ≤ gb102)); have n3_ := Aside0.mk ((by rw [hg]; exact (below_size (by repeat (first | (with_reducible first | exact HB.out | apply below_alloc | apply pw_below_drewN | apply below_drew1) | exact HB.out))) : w.heap.size ≤ gb102)); clear HB; have HB := n0_; have BK102 := n1_; have GW102 := n2_; have GE102 := n3_; clear n0_ n1_ n2_ n3_; clear hb hbox hg) | ((with_reducible refine gate_dst (N := 4) rfl ?_); refine box_event ?hg (N := 4) ?hd (cs := #[.int .i64 0, .int .u64 0, .int .u64 0]) (t := 122) ?hr ?_; (case hd => rfl); (case hg => rfl); (case hr => first | (go_simp; done) | (go_simp; rfl)); intro gb103 hg w4 hbox hb; have n0_ := Aside0.mk (bb25_ hb BK102.out); have n1_ := Aside0.mk (below_step (by repeat (first | (with_reducible first | exact HB.out | apply below_alloc | apply pw_below_drewN | apply below_drew1 | refine below_set ?_ GE102.out) | exact HB.out)) hb); have n2_ := Aside0.mk (hbox); have n3_ := Aside0.mk ((by rw [hg]; exact (below_size (by repeat (first | (with_reducible first | exact HB.out | apply below_alloc | apply pw_below_drewN | apply below_drew1 | refine below_set ?_ GE102.out) | exact HB.out))) : w.heap.size ≤ gb103)); have n4_ := Aside0.mk ((by rw [hg]; exact (below_size (by repeat (first | (with_reducible first | exact HB.out | apply below_alloc | apply pw_below_drewN | apply below_drew1 | refine below_set ?_ GE102.out) | exact HB.out))) : w.heap.size ≤ gb103)); have n5_ := Aside0.mk ((by rw [hg]; exact Nat.ne_of_lt (blk_lt BK102.out) : gb102 ≠ gb103)); have n6_ := Aside0.mk ((by rw [hg]; exact Nat.ne_of_gt (blk_lt BK102.out) : gb103 ≠ gb102)); clear BK102; clear HB; have BK102 := n0_; have HB := n1_; have BK103 := n2_; have GW103 := n3_; have GE103 := n4_; have NB102_103 := n5_; have NB103_102 := n6_; clear n0_ n1_ n2_ n3_ n4_ n5_ n6_; clear hb hbox hg))
 go_loopg [5] k (fun kq v5 w' => ∃ (x5_1 : Int) (x104000_1 : Int) (x104001_1 : Int) (x104002_1 : Int), v5 = .int .i64 x5_1 ∧ Aside0 (lookasideref10_Get.l0 kq a1 x5_1 a0_0 a0_1 l0_2 = some (r1, r2, r3)) ∧ Aside0 (kq ≤ k) ∧ Aside0 (w'.heap[gb102]? = some (.cells #[.int .i64 a0_0, .int .i64 a0_1, (.slice A0_2 l0_2.length c0_2)] 44 (0, 0))) ∧ Aside0 (w'.heap[gb103]? = some (.cells #[.int .i64 x104000_1, .int .u64 x104001_1, .int .u64 x104002_1] 122 (0, 0))) ∧ Aside0 (Below w.heap.size w w'))
 case atStart => exact ⟨(0), (0), (0), (0), (by first | rfl | (simp; done) | (simp [*]; done)), H', ⟨Nat.le_refl _⟩, ⟨by (with_reducible repeat (first | refine blk_drewN ?_ _ | refine blk_drew ?_ | refine blk_alloc ?_ _)); exact BK102.out⟩, ⟨by (with_reducible repeat (first | refine blk_drewN ?_ _ | refine blk_drew ?_ | refine blk_alloc ?_ _)); exact BK103.out⟩, ⟨by repeat (first | (with_reducible first | exact HB.out | apply below_alloc | apply pw_below_drewN | apply below_drew1 | refine below_set ?_ GE102.out | refine below_set ?_ GE103.out) | exact HB.out)⟩⟩
 case round =>
  clear H'
  try clear p2
  obtain ⟨x5_1, x104000_1, x104001_1, x104002_1, rfl, HA, HK1, BK102, BK103, HB⟩ := hrel
  cases gk with
  | zero => exact absurd HA.out (by simp [lookasideref10_Get.l0])
  | succ k1 =>
   have H := HA.out
   clear HA
   simp only [lookasideref10_Get.l0] at H
   by_cases c5 : x5_1 < (l0_2.length : Int)
   ·rw [if_pos c5] at H
    have c5b0 : decide (x5_1 < (l0_2.length : Int)) = true := decide_eq_true c5
    clear c5
    by_cases c6 : 0 ≤ x5_1
    ·rw [if_pos c6] at H
     have c6b0 : decide (0 ≤ x5_1) = true := decide_eq_true c6
     clear c6
     by_cases c7 : ((rd_T122 l0_2 x5_1).f0) = a1
     ·rw [if_pos c7] at H
      have c7b0 : (((rd_T122 l0_2 x5_1).f0) == a1) = true := beq_iff_eq.mpr c7
      have c7b1 : (((rd_T122 l0_2 x5_1).f0) != a1) = false := bne_eq_false_iff_eq.mpr c7
      clear c7
      simp only [Option.some.injEq, Prod.mk.injEq] at H
      obtain ⟨rfl, rfl, rfl⟩ := H
      have hnb8 := NB102_103.out
      have hnc8 := NB103_102.out
      obtain ⟨hcz9_0, hcz9_1, hcz9_2⟩ := cy3_25 BK102.out
      have hfz9_0 := blk_frozen BK102.out 0
      have hfz9_1 := blk_frozen BK102.out 1
      have hfz9_2 := blk_frozen BK102.out 2
      have p104 : 0 ≤ (x5_1 : Int) := of_decide_eq_true (by first | (with_reducible assumption) | assumption)
      have q104 : x5_1 < (l0_2.length : Int) := of_decide_eq_true (by first | (with_reducible assumption) | assumption)
      obtain ⟨ad104, e104, hx104_0, hx104_1, hx104_2⟩ := at_T122 HR0_2.out x5_1 p104 q104
      cases e104
      replace hx104_0 := (HB.out.cell (World.block_lt_of_cell? w _ hx104_0)).trans hx104_0
      replace hx104_1 := (HB.out.cell (World.block_lt_of_cell? w _ hx104_1)).trans hx104_1
      replace hx104_2 := (HB.out.cell (World.block_lt_of_cell? w _ hx104_2)).trans hx104_2
      replace p104 := eq_true p104
      replace q104 := eq_true q104
      have p105 : 0 ≤ (x5_1 : Int) := of_decide_eq_true (by first | (with_reducible assumption) | assumption)
      have q105 : x5_1 < (l0_2.length : Int) := of_decide_eq_true (by first | (with_reducible assumption) | assumption)
      obtain ⟨ad105, e105, hx105_0, hx105_1, hx105_2⟩ := at_T122 HR0_2.out x5_1 p105 q105
      obtain rfl : ad104 = ad105 := (by injection e105)
      replace hx105_0 := (HB.out.cell (World.block_lt_of_cell? w _ hx105_0)).trans hx105_0
      replace hx105_1 := (HB.out.cell (World.block_lt_of_cell? w _ hx105_1)).trans hx105_1
      replace hx105_2 := (HB.out.cell (World.block_lt_of_cell? w _ hx105_2)).trans hx105_2
      replace p105 := eq_true p105
      replace q105 := eq_true q105
      obtain ⟨hcz10_0, hcz10_1, hcz10_2⟩ := cy3_25 BK103.out
      have hfz10_0 := blk_frozen BK103.out 0
      have hfz10_1 := blk_frozen BK103.out 1
      have hfz10_2 := blk_frozen BK103.out 2
      go_wp2
      refine bodyPost_ret (results_cell_row rfl _ _ gb103 122 #[.int .i64 ((rd_T122 l0_2 x5_1).f0), .int .u64 ((rd_T122 l0_2 x5_1).f1), .int .u64 ((rd_T122 l0_2 x5_1).f2)] (0, 0) _ rfl (by (with_reducible repeat (first | refine blk_drewN ?_ _ | refine blk_drew ?_ | refine blk_alloc ?_ _)); refine blk_put (cs := #[.int .i64 ((rd_T122 l0_2 x5_1).f0), .int .u64 ((rd_T122 l0_2 x5_1).f1), .int .u64 x104002_1]) ?_ 2 _ rfl; refine blk_put (cs := #[.int .i64 ((rd_T122 l0_2 x5_1).f0), .int .u64 x104001_1, .int .u64 x104002_1]) ?_ 1 _ rfl; refine blk_put (cs := #[.int .i64 x104000_1, .int .u64 x104001_1, .int .u64 x104002_1]) ?_ 0 _ rfl; (with_reducible repeat (first | refine blk_drewN ?_ _ | refine blk_drew ?_ | refine blk_alloc ?_ _)); exact BK103.out) Try.underlying122 rfl (by kernel_rfl)) rfl ?_
      exact ⟨by first | rfl | (simp [errW_none, errW_some] <;> rfl) | (simp [*, errW_none, errW_some] <;> rfl), by repeat (first | (with_reducible first | exact HB.out | apply below_alloc | apply pw_below_drewN | apply below_drew1 | refine below_set ?_ GE102.out | refine below_set ?_ GE103.out) | exact HB.out)⟩
     ·rw [if_neg c7] at H
      have c7b0 : (((rd_T122 l0_2 x5_1).f0) == a1) = false := beq_eq_false_iff_ne.mpr c7
      have c7b1 : (((rd_T122 l0_2 x5_1).f0) != a1) = true := bne_iff_ne.mpr c7
      have H' := Aside0.mk H
      clear H
      have hnb11 := NB102_103.out
      have hnc11 := NB103_102.out
      obtain ⟨hcz12_0, hcz12_1, hcz12_2⟩ := cy3_25 BK102.out
      have hfz12_0 := blk_frozen BK102.out 0
      have hfz12_1 := blk_frozen BK102.out 1
      have hfz12_2 := blk_frozen BK102.out 2
      have p104 : 0 ≤ (x5_1 : Int) := of_decide_eq_true (by first | (with_reducible assumption) | assumption)
      have q104 : x5_1 < (l0_2.length : Int) := of_decide_eq_true (by first | (with_reducible assumption) | assumption)
      obtain ⟨ad104, e104, hx104_0, hx104_1, hx104_2⟩ := at_T122 HR0_2.out x5_1 p104 q104
      cases e104
      replace hx104_0 := (HB.out.cell (World.block_lt_of_cell? w _ hx104_0)).trans hx104_0
      replace hx104_1 := (HB.out.cell (World.block_lt_of_cell? w _ hx104_1)).trans hx104_1
      replace hx104_2 := (HB.out.cell (World.block_lt_of_cell? w _ hx104_2)).trans hx104_2
      replace p104 := eq_true p104
      replace q104 := eq_true q104
      go_wp2
      go_roundg k1
      case measure => have := HK1.out; omega
      case rel => exact ⟨(wrap64 (x5_1 + 1)), (x104000_1), (x104001_1), (x104002_1), (by first | rfl | (simp; done) | (simp [*]; done)), H', ⟨by have := HK1.out; omega⟩, ⟨by (with_reducible repeat (first | refine blk_drewN ?_ _ | refine blk_drew ?_ | refine blk_alloc ?_ _)); exact BK102.out⟩, ⟨by (with_reducible repeat (first | refine blk_drewN ?_ _ | refine blk_drew ?_ | refine blk_alloc ?_ _)); exact BK103.out⟩, ⟨by repeat (first | (with_reducible first | exact HB.out | apply below_alloc | apply pw_below_drewN | apply below_drew1 | refine below_set ?_ GE102.out | refine below_set ?_ GE103.out) | exact HB.out)⟩⟩
    ·rw [if_neg c6] at H
     exact absurd H (by simp)
   ·rw [if_neg c5] at H
    have c5b0 : decide (x5_1 < (l0_2.length : Int)) = false := decide_eq_false c5
    clear c5
    replace H := Option.bind_eq_some_iff.mp H
    obtain ⟨t106, A130, H⟩ := H
    replace H : (some (a1, t106, 0)) = some (r1, r2, r3) := H
    have A13 := Aside0.mk A130
    clear A130
    simp only [Option.some.injEq, Prod.mk.injEq] at H
    obtain ⟨rfl, rfl, rfl⟩ := H
    have hnb14 := NB102_103.out
    have hnc14 := NB103_102.out
    obtain ⟨hcz15_0, hcz15_1, hcz15_2⟩ := cy3_25 BK102.out
    have hfz15_0 := blk_frozen BK102.out 0
    have hfz15_1 := blk_frozen BK102.out 1
    have hfz15_2 := blk_frozen BK102.out 2
    go_wp2_with (((with_reducible refine gate_callee (f := 83) rfl ?_); refine goesL_ (some 27) rfl rfl Try.func83 (by kernel_rfl) rfl #[] rfl (by (try simp only [List.map_toArray, List.map_cons, List.map_nil]); first | done | rfl | (simp only [List.length_drop, List.length_take]; rfl)) ?_; (with_reducible refine (lookasideref10_Bad.calls  t106 _ A13.out).mono ?_); rintro e w' ⟨rfl, ⟨nd, rfl⟩⟩; refine ⟨_, rfl, ?_⟩; (try (rw [drewN_self wr]; generalize hq_ : World.drewN wr _ = wr; have n0_ : Aside0 (wr.heap[gb102]? = some (.cells #[.int .i64 a0_0, .int .i64 a0_1, .slice A0_2 l0_2.length c0_2] 44 (0, 0))) := ⟨by rw [← hq_]; exact (by (with_reducible repeat (first | refine blk_drewN ?_ _ | refine blk_drew ?_ | refine blk_alloc ?_ _)); exact BK102.out)⟩; have n1_ : Aside0 (wr.heap[gb103]? = some (.cells #[.int .i64 x104000_1, .int .u64 x104001_1, .int .u64 x104002_1] 122 (0, 0))) := ⟨by rw [← hq_]; exact (by (with_reducible repeat (first | refine blk_drewN ?_ _ | refine blk_drew ?_ | refine blk_alloc ?_ _)); exact BK103.out)⟩; have n2_ : Aside0 (Below w.heap.size w wr) := ⟨by rw [← hq_]; exact (by repeat (first | (with_reducible first | exact HB.out | apply below_alloc | apply pw_below_drewN | apply below_drew1 | refine below_set ?_ GE102.out | refine below_set ?_ GE103.out) | exact HB.out))⟩; clear BK102 BK103 HB hq_; have BK102 := n0_; have BK103 := n1_; have HB := n2_; clear n0_ n1_ n2_)); obtain ⟨hcz16_0, hcz16_1, hcz16_2⟩ := cy3_25 BK103.out; have hfz16_0 := blk_frozen BK103.out 0; have hfz16_1 := blk_frozen BK103.out 1; have hfz16_2 := blk_frozen BK103.out 2))
    refine bodyPost_ret (results_cell_row rfl _ _ gb103 122 #[.int .i64 a1, .int .u64 t106, .int .u64 0] (0, 0) _ rfl (by (with_reducible repeat (first | refine blk_drewN ?_ _ | refine blk_drew ?_ | refine blk_alloc ?_ _)); refine blk_put (cs := #[.int .i64 a1, .int .u64 t106, .int .u64 x104002_1]) ?_ 2 _ rfl; refine blk_put (cs := #[.int .i64 a1, .int .u64 x104001_1, .int .u64 x104002_1]) ?_ 1 _ rfl; refine blk_put (cs := #[.int .i64 x104000_1, .int .u64 x104001_1, .int .u64 x104002_1]) ?_ 0 _ rfl; (with_reducible repeat (first | refine blk_drewN ?_ _ | refine blk_drew ?_ | refine blk_alloc ?_ _)); exact BK103.out) Try.underlying122 rfl (by kernel_rfl)) rfl ?_
    exact ⟨by first | rfl | (simp [errW_none, errW_some] <;> rfl) | (simp [*, errW_none, errW_some] <;> rfl), by repeat (first | (with_reducible first | exact HB.out | apply below_alloc | apply pw_below_drewN | apply below_drew1 | refine below_set ?_ GE102.out | refine below_set ?_ GE103.out) | exact HB.out)⟩
/-! ### lookasideref10_place: function 100 -/
def lookasideref10_place.f (a0_0 : Int) (a0_1 : Int) (l0_2 : List (S122)) (a1 : Int) : Option (Int) := (lookasideref02_Bytes.f a0_0).bind fun t108 => (if t108 = 0 then (none) else (if (IntKind.u64.wrap (a0_1)) = 0 then (none) else (some (wrap64 (Int.tmod (IntKind.u64.wrap (Int.tdiv a1 t108)) (IntKind.u64.wrap (a0_1)))))))
set_option maxHeartbeats 8000000 in
set_option maxRecDepth 100000 in
theorem lookasideref10_place.calls (a0_0 : Int) (a0_1 : Int) (A0_2 : Option Addr) (c0_2 : Nat) (l0_2 : List (S122)) (a1 : Int) (r : Int) (w : World) (hr0_2 : Kd.C k122 w A0_2 l0_2.length l0_2) (hc0_2 : l0_2.length ≤ c0_2) (h : lookasideref10_place.f a0_0 a0_1 l0_2 a1 = some r) :
  Calls Try.prog 100 #[.agg #[.int .i64 a0_0, .int .i64 a0_1, .slice A0_2 l0_2.length c0_2], .int .u64 a1] w fun e w' => e = .returned (.int .i64 r) ∧ Below w.heap.size w w' := by
 have hu44 := Try.underlying44
 have HR0_2 := Aside0.mk hr0_2
 have HC0_2 := Aside0.mk hc0_2
 clear hr0_2 hc0_2
 have HB := Aside0.mk (Below.refl w.heap.size w)
 have H : ((lookasideref02_Bytes.f a0_0).bind fun t108 => (if t108 = 0 then (none) else (if (IntKind.u64.wrap (a0_1)) = 0 then (none) else (some (wrap64 (Int.tmod (IntKind.u64.wrap (Int.tdiv a1 t108)) (IntKind.u64.wrap (a0_1)))))))) = some r := h
 clear h
 replace H := Option.bind_eq_some_iff.mp H
 obtain ⟨t108, A30, H⟩ := H
 replace H : (if t108 = 0 then (none) else (if (IntKind.u64.wrap (a0_1)) = 0 then (none) else (some (wrap64 (Int.tmod (IntKind.u64.wrap (Int.tdiv a1 t108)) (IntKind.u64.wrap (a0_1))))))) = some r := H
 have A3 := Aside0.mk A30
 clear A30
 by_cases c4 : t108 = 0
 ·rw [if_pos c4] at H
  exact absurd H (by simp)
 ·rw [if_neg c4] at H
  have c4b0 : (t108 == 0) = false := beq_eq_false_iff_ne.mpr c4
  have c4b1 : (t108 != 0) = true := bne_iff_ne.mpr c4
  by_cases c5 : (IntKind.u64.wrap (a0_1)) = 0
  ·rw [if_pos c5] at H
   exact absurd H (by simp)
  ·rw [if_neg c5] at H
   have c5b0 : ((IntKind.u64.wrap (a0_1)) == 0) = false := beq_eq_false_iff_ne.mpr c5
   have c5b1 : ((IntKind.u64.wrap (a0_1)) != 0) = true := bne_iff_ne.mpr c5
   obtain rfl := Option.some.inj H
   go_enter Try.func100, Try.ntmps100
   go_wp2_with (((with_reducible refine gate_dst (N := 2) rfl ?_); refine box_event ?hg (N := 2) ?hd (cs := #[.int .i64 a0_0, .int .i64 a0_1, .slice A0_2 l0_2.length c0_2]) (t := 44) ?hr ?_; (case hd => rfl); (case hg => rfl); (case hr => first | (go_simp; done) | (go_simp; rfl)); intro gb107 hg w6 hbox hb; have n0_ := Aside0.mk (below_step (by repeat (first | (with_reducible first | exact HB.out | apply below_alloc | apply pw_below_drewN | apply below_drew1) | exact HB.out)) hb); have n1_ := Aside0.mk (hbox); have n2_ := Aside0.mk ((by rw [hg]; exact (below_size (by repeat (first | (with_reducible first | exact HB.out | apply below_alloc | apply pw_below_drewN | apply below_drew1) | exact HB.out))) : w.heap.size ≤ gb107)); have n3_ := Aside0.mk ((by rw [hg]; exact (below_size (by repeat (first | (with_reducible first | exact HB.out | apply below_alloc | apply pw_below_drewN | apply below_drew1) | exact HB.out))) : w.heap.size ≤ gb107)); clear HB; have HB := n0_; have BK107 := n1_; have GW107 := n2_; have GE107 := n3_; clear n0_ n1_ n2_ n3_; clear hb hbox hg; obtain ⟨hcz7_0, hcz7_1, hcz7_2⟩ := cy3_25 BK107.out; have hfz7_0 := blk_frozen BK107.out 0; have hfz7_1 := blk_frozen BK107.out 1; have hfz7_2 := blk_frozen BK107.out 2))
   repeat (go_quiet ((go_at_call 57; (with_reducible refine (lookasideref02_Bytes.calls a0_0 t108 _ A3.out).mono ?_); rintro e w' ⟨rfl, ⟨nd, rfl⟩⟩; (try first | exact ⟨rfl, _, World.drewN_drewN _ _ _⟩ | exact ⟨rfl, _, Eq.trans (World.drewN_drewN _ _ _) (congrArg (World.drewN _) (Nat.add_assoc _ _ _))⟩))); try go_wp2_with (fail))
   go_ret
   exact ⟨by first | rfl | (simp [errW_none, errW_some] <;> rfl) | (simp [*, errW_none, errW_some] <;> rfl), by repeat (first | (with_reducible first | exact HB.out | apply below_alloc | apply pw_below_drewN | apply below_drew1 | refine below_set ?_ GE107.out) | exact HB.out)⟩
/-! ### lookasideref03_bit: function 122 -/
mutual
def lookasideref03_bit.j0 : Nat → Int → Int → Option (Int)
 | 0, _, _ => none
 | k + 1, x1, x5 => lookasideref03_bit.l0 k x1 x5 0
def lookasideref03_bit.l0 : Nat → Int → Int → Int → Option (Int)
 | 0, _, _, _ => none
 | k + 1, x1, x5, x6 => if x6 < x1 then (lookasideref03_bit.l0 k x1 (IntKind.u64.wrap (2 * x5)) (wrap64 (x6 + 1))) else (some x5)
end
def lookasideref03_bit.f (k : Nat) (a0 : Bool) (a1 : Int) : Option (Int) := if a0 = true then (lookasideref03_bit.j0 k a1 1) else (lookasideref03_bit.j0 k a1 0)
set_option maxHeartbeats 8000000 in
set_option maxRecDepth 100000 in
theorem lookasideref03_bit.calls (k : Nat) (a0 : Bool) (a1 : Int) (r : Int) (w : World) (h : lookasideref03_bit.f k a0 a1 = some r) :
  Calls Try.prog 122 #[.bool a0, .int .i64 a1] w fun e w' => e = .returned (.int .u64 r) ∧ Drawn0 w w' := by
 have H : (if a0 = true then (lookasideref03_bit.j0 k a1 1) else (lookasideref03_bit.j0 k a1 0)) = some r := h
 clear h
 have HC3 := Aside0.mk H
 clear H
 go_enter Try.func122, Try.ntmps122
 go_upto_if 7 with (fail)
 go_cut [5] (fun v5 wc => ∃ (kq : Nat) (x5_2 : Int), v5 = .int .u64 x5_2 ∧ Aside0 (lookasideref03_bit.j0 kq a1 x5_2 = some r) ∧ Aside0 (kq ≤ k) ∧ Drawn0 w wc)
 case first =>
  have H := HC3.out
  clear HC3
  by_cases c4 : a0 = true
  ·subst c4
   have H1 : (lookasideref03_bit.j0 k a1 1) = some r := by rw [if_pos rfl] at H; exact H
   clear H
   have H := H1
   clear H1
   have H' := Aside0.mk H
   clear H
   go_wp2
   go_meet
   case rel => exact ⟨_, (1), (by first | rfl | (simp; done) | (simp [*]; done)), H', ⟨by first | omega | exact Nat.le_refl _⟩, by repeat (first | exact Drawn0.refl _ | apply Drawn0.step)⟩
  ·replace c4 := Bool.eq_false_iff.mpr c4
   subst c4
   have H1 : (lookasideref03_bit.j0 k a1 0) = some r := by rw [if_neg (show ¬ (false = true) by decide)] at H; exact H
   clear H
   have H := H1
   clear H1
   have H' := Aside0.mk H
   clear H
   go_wp2
   go_meet
   case rel => exact ⟨_, (0), (by first | rfl | (simp; done) | (simp [*]; done)), H', ⟨by first | omega | exact Nat.le_refl _⟩, by repeat (first | exact Drawn0.refl _ | apply Drawn0.step)⟩
 case rest =>
  clear HC3
  try clear c1
  try clear p2
  try clear c4
  obtain ⟨kq, x5_2, rfl, HA, HJ2, ⟨mc2, rfl⟩⟩ := hcut
  cases kq with
  | zero => exact absurd HA.out (by simp [lookasideref03_bit.j0])
  | succ kj2 =>
   have H := HA.out
   clear HA
   simp only [lookasideref03_bit.j0] at H
   have H' := Aside0.mk H
   clear H
   go_wp2
   go_loopg [5, 6] kj2 (fun kq v5 v6 w' => ∃ (x5_2 : Int) (x6_2 : Int), v5 = .int .u64 x5_2 ∧ v6 = .int .i64 x6_2 ∧ Aside0 (lookasideref03_bit.l0 kq a1 x5_2 x6_2 = some r) ∧ Aside0 (kq ≤ kj2) ∧ Drawn0 w w')
   case atStart => exact ⟨(x5_2), (0), (by first | rfl | (simp; done) | (simp [*]; done)), (by first | rfl | (simp; done) | (simp [*]; done)), H', ⟨Nat.le_refl _⟩, by repeat (first | exact Drawn0.refl _ | apply Drawn0.step)⟩
   case round =>
    clear H'
    try clear c1
    try clear c2
    try clear p2
    try clear c4
    try clear p2
    obtain ⟨x5_2, x6_2, rfl, rfl, HA, HK2, ⟨m2, rfl⟩⟩ := hrel
    cases gk with
    | zero => exact absurd HA.out (by simp [lookasideref03_bit.l0])
    | succ k2 =>
     have H := HA.out
     clear HA
     simp only [lookasideref03_bit.l0] at H
     by_cases c5 : x6_2 < a1
     ·rw [if_pos c5] at H
      have c5b0 : decide (x6_2 < a1) = true := decide_eq_true c5
      clear c5
      have H' := Aside0.mk H
      clear H
      go_wp2
      go_roundg k2
      case measure => have := HJ2.out; have := HK2.out; omega
      case rel => exact ⟨(IntKind.u64.wrap (2 * x5_2)), (wrap64 (x6_2 + 1)), (by first | rfl | (simp; done) | (simp [*]; done)), (by first | rfl | (simp; done) | (simp [*]; done)), H', ⟨by have := HJ2.out; have := HK2.out; omega⟩, by repeat (first | exact Drawn0.refl _ | apply Drawn0.step)⟩
     ·rw [if_neg c5] at H
      have c5b0 : decide (x6_2 < a1) = false := decide_eq_false c5
      clear c5
      obtain rfl := Option.some.inj H
      go_wp2
      go_ret
      exact ⟨by first | rfl | (simp; done) | (simp [*]; done), by repeat (first | exact Drawn0.refl _ | apply Drawn0.step)⟩
/-! ### lookasideref02_Tag: function 123 -/
def lookasideref02_Tag.f (a0 : Int) : Option (Int) := some (Int.tmod (IntKind.u64.wrap (Int.tdiv a0 4194304)) 4194304)
set_option maxHeartbeats 8000000 in
set_option maxRecDepth 100000 in
theorem lookasideref02_Tag.calls (a0 : Int) (r : Int) (w : World) (h : lookasideref02_Tag.f a0 = some r) :
  Calls Try.prog 123 #[.int .u64 a0] w fun e w' => e = .returned (.int .u64 r) ∧ Drawn0 w w' := by
 have H : (some (Int.tmod (IntKind.u64.wrap (Int.tdiv a0 4194304)) 4194304)) = some r := h
 clear h
 obtain rfl := Option.some.inj H
 go_enter Try.func123, Try.ntmps123
 go_wp2
 go_ret
 exact ⟨by first | rfl | (simp; done) | (simp [*]; done), by repeat (first | exact Drawn0.refl _ | apply Drawn0.step)⟩
/-! ### lookasideref03_Tag: function 101 -/
def lookasideref03_Tag.f (k : Nat) (a0_0 : Int) (a0_1 : Int) (a0_2 : Int) (a0_3 : Int) (a0_4 : Bool) (a0_5 : Bool) (a0_6 : Bool) (a0_7 : Bool) (a0_8 : Bool) (a0_9 : Bool) (a0_10 : Bool) : Option (Int) := (lookasideref03_bit.f k a0_8 63).bind fun t110 => ((lookasideref02_Tag.f a0_2).bind fun t111 => (some (IntKind.u64.wrap ((IntKind.u64.wrap (t110 + (IntKind.u64.wrap ((IntKind.u64.wrap (a0_1)) * 281474976710656)))) + t111))))
set_option maxHeartbeats 8000000 in
set_option maxRecDepth 100000 in
theorem lookasideref03_Tag.calls (k : Nat) (a0_0 : Int) (a0_1 : Int) (a0_2 : Int) (a0_3 : Int) (a0_4 : Bool) (a0_5 : Bool) (a0_6 : Bool) (a0_7 : Bool) (a0_8 : Bool) (a0_9 : Bool) (a0_10 : Bool) (r : Int) (w : World) (h : lookasideref03_Tag.f k a0_0 a0_1 a0_2 a0_3 a0_4 a0_5 a0_6 a0_7 a0_8 a0_9 a0_10 = some r) :
  Calls Try.prog 101 #[.agg #[.int .i64 a0_0, .int .i64 a0_1, .int .u64 a0_2, .int .u64 a0_3, .bool a0_4, .bool a0_5, .bool a0_6, .bool a0_7, .bool a0_8, .bool a0_9, .bool a0_10]] w fun e w' => e = .returned (.int .u64 r) ∧ Below w.heap.size w w' := by
 have hu50 := Try.underlying50
 have HB := Aside0.mk (Below.refl w.heap.size w)
 have H : ((lookasideref03_bit.f k a0_8 63).bind fun t110 => ((lookasideref02_Tag.f a0_2).bind fun t111 => (some (IntKind.u64.wrap ((IntKind.u64.wrap (t110 + (IntKind.u64.wrap ((IntKind.u64.wrap (a0_1)) * 281474976710656)))) + t111))))) = some r := h
 clear h
 replace H := Option.bind_eq_some_iff.mp H
 obtain ⟨t110, A20, H⟩ := H
 replace H : ((lookasideref02_Tag.f a0_2).bind fun t111 => (some (IntKind.u64.wrap ((IntKind.u64.wrap (t110 + (IntKind.u64.wrap ((IntKind.u64.wrap (a0_1)) * 281474976710656)))) + t111)))) = some r := H
 have A2 := Aside0.mk A20
 clear A20
 replace H := Option.bind_eq_some_iff.mp H
 obtain ⟨t111, A30, H⟩ := H
 replace H : (some (IntKind.u64.wrap ((IntKind.u64.wrap (t110 + (IntKind.u64.wrap ((IntKind.u64.wrap (a0_1)) * 281474976710656)))) + t111))) = some r := H
 have A3 := Aside0.mk A30
 clear A30
 obtain rfl := Option.some.inj H
 go_enter Try.func101, Try.ntmps101
 go_wp2_with (((with_reducible refine gate_dst (N := 1) rfl ?_); refine box_event ?hg (N := 1) ?hd (cs := #[.int .i64 a0_0, .int .i64 a0_1, .int .u64 a0_2, .int .u64 a0_3, .bool a0_4, .bool a0_5, .bool a0_6, .bool a0_7, .bool a0_8, .bool a0_9, .bool a0_10]) (t := 50) ?hr ?_; (case hd => rfl); (case hg => rfl); (case hr => first | (go_simp; done) | (go_simp; rfl)); intro gb109 hg w4 hbox hb; have n0_ := Aside0.mk (below_step (by repeat (first | (with_reducible first | exact HB.out | apply below_alloc | apply pw_below_drewN | apply below_drew1) | exact HB.out)) hb); have n1_ := Aside0.mk (hbox); have n2_ := Aside0.mk ((by rw [hg]; exact (below_size (by repeat (first | (with_reducible first | exact HB.out | apply below_alloc | apply pw_below_drewN | apply below_drew1) | exact HB.out))) : w.heap.size ≤ gb109)); have n3_ := Aside0.mk ((by rw [hg]; exact (below_size (by repeat (first | (with_reducible first | exact HB.out | apply below_alloc | apply pw_below_drewN | apply below_drew1) | exact HB.out))) : w.heap.size ≤ gb109)); clear HB; have HB := n0_; have BK109 := n1_; have GW109 := n2_; have GE109 := n3_; clear n0_ n1_ n2_ n3_; clear hb hbox hg; obtain ⟨hcz5_0, hcz5_1, hcz5_2, hcz5_3, hcz5_4, hcz5_5, hcz5_6, hcz5_7, hcz5_8, hcz5_9, hcz5_10⟩ := cy11_25 BK109.out; have hfz5_0 := blk_frozen BK109.out 0; have hfz5_1 := blk_frozen BK109.out 1; have hfz5_2 := blk_frozen BK109.out 2; have hfz5_3 := blk_frozen BK109.out 3; have hfz5_4 := blk_frozen BK109.out 4; have hfz5_5 := blk_frozen BK109.out 5; have hfz5_6 := blk_frozen BK109.out 6; have hfz5_7 := blk_frozen BK109.out 7; have hfz5_8 := blk_frozen BK109.out 8; have hfz5_9 := blk_frozen BK109.out 9; have hfz5_10 := blk_frozen BK109.out 10))
 repeat (go_quiet (first | (go_at_call 122; (with_reducible refine (lookasideref03_bit.calls k a0_8 63 t110 _ A2.out).mono ?_); rintro e w' ⟨rfl, ⟨nd, rfl⟩⟩; (try first | exact ⟨rfl, _, World.drewN_drewN _ _ _⟩ | exact ⟨rfl, _, Eq.trans (World.drewN_drewN _ _ _) (congrArg (World.drewN _) (Nat.add_assoc _ _ _))⟩)) | (go_at_call 123; (with_reducible refine (lookasideref02_Tag.calls a0_2 t111 _ A3.out).mono ?_); rintro e w' ⟨rfl, ⟨nd, rfl⟩⟩; (try first | exact ⟨rfl, _, World.drewN_drewN _ _ _⟩ | exact ⟨rfl, _, Eq.trans (World.drewN_drewN _ _ _) (congrArg (World.drewN _) (Nat.add_assoc _ _ _))⟩))); try go_wp2_with (fail))
 go_ret
 exact ⟨by first | rfl | (simp [errW_none, errW_some] <;> rfl) | (simp [*, errW_none, errW_some] <;> rfl), by repeat (first | (with_reducible first | exact HB.out | apply below_alloc | apply pw_below_drewN | apply below_drew1 | refine below_set ?_ GE109.out) | exact HB.out)⟩
/-! ### lookasideref03_Data: function 103 -/
def lookasideref03_Data.f (k : Nat) (a0_0 : Int) (a0_1 : Int) (a0_2 : Int) (a0_3 : Int) (a0_4 : Bool) (a0_5 : Bool) (a0_6 : Bool) (a0_7 : Bool) (a0_8 : Bool) (a0_9 : Bool) (a0_10 : Bool) : Option (Int) := (lookasideref03_bit.f k true 63).bind fun t143 => ((lookasideref03_bit.f k true 61).bind fun t144 => ((lookasideref03_bit.f k a0_9 60).bind fun t145 => ((lookasideref03_bit.f k a0_7 6).bind fun t146 => ((lookasideref03_bit.f k a0_6 3).bind fun t147 => ((lookasideref03_bit.f k a0_5 2).bind fun t148 => ((lookasideref03_bit.f k a0_4 1).bind fun t149 => ((lookasideref03_bit.f k a0_8 0).bind fun t150 => (some (IntKind.u64.wrap ((IntKind.u64.wrap ((IntKind.u64.wrap ((IntKind.u64.wrap ((IntKind.u64.wrap ((IntKind.u64.wrap ((IntKind.u64.wrap ((IntKind.u64.wrap (t143 + (IntKind.u64.wrap ((IntKind.u64.wrap (a0_0)) * t144)))) + t145)) + a0_3)) + t146)) + t147)) + t148)) + t149)) + t150))))))))))
set_option maxHeartbeats 8000000 in
set_option maxRecDepth 100000 in
theorem lookasideref03_Data.calls (k : Nat) (a0_0 : Int) (a0_1 : Int) (a0_2 : Int) (a0_3 : Int) (a0_4 : Bool) (a0_5 : Bool) (a0_6 : Bool) (a0_7 : Bool) (a0_8 : Bool) (a0_9 : Bool) (a0_10 : Bool) (r : Int) (w : World) (h : lookasideref03_Data.f k a0_0 a0_1 a0_2 a0_3 a0_4 a0_5 a0_6 a0_7 a0_8 a0_9 a0_10 = some r) :
  Calls Try.prog 103 #[.agg #[.int .i64 a0_0, .int .i64 a0_1, .int .u64 a0_2, .int .u64 a0_3, .bool a0_4, .bool a0_5, .bool a0_6, .bool a0_7, .bool a0_8, .bool a0_9, .bool a0_10]] w fun e w' => e = .returned (.int .u64 r) ∧ Below w.heap.size w w' := by
 have hu50 := Try.underlying50
 have hu48 := Try.underlying48
 have HB := Aside0.mk (Below.refl w.heap.size w)
 have H : ((lookasideref03_bit.f k true 63).bind fun t143 => ((lookasideref03_bit.f k true 61).bind fun t144 => ((lookasideref03_bit.f k a0_9 60).bind fun t145 => ((lookasideref03_bit.f k a0_7 6).bind fun t146 => ((lookasideref03_bit.f k a0_6 3).bind fun t147 => ((lookasideref03_bit.f k a0_5 2).bind fun t148 => ((lookasideref03_bit.f k a0_4 1).bind fun t149 => ((lookasideref03_bit.f k a0_8 0).bind fun t150 => (some (IntKind.u64.wrap ((IntKind.u64.wrap ((IntKind.u64.wrap ((IntKind.u64.wrap ((IntKind.u64.wrap ((IntKind.u64.wrap ((IntKind.u64.wrap ((IntKind.u64.wrap (t143 + (IntKind.u64.wrap ((IntKind.u64.wrap (a0_0)) * t144)))) + t145)) + a0_3)) + t146)) + t147)) + t148)) + t149)) + t150))))))))))) = some r := h
 clear h
 replace H := Option.bind_eq_some_iff.mp H
 obtain ⟨t143, A20, H⟩ := H
 replace H : ((lookasideref03_bit.f k true 61).bind fun t144 => ((lookasideref03_bit.f k a0_9 60).bind fun t145 => ((lookasideref03_bit.f k a0_7 6).bind fun t146 => ((lookasideref03_bit.f k a0_6 3).bind fun t147 => ((lookasideref03_bit.f k a0_5 2).bind fun t148 => ((lookasideref03_bit.f k a0_4 1).bind fun t149 => ((lookasideref03_bit.f k a0_8 0).bind fun t150 => (some (IntKind.u64.wrap ((IntKind.u64.wrap ((IntKind.u64.wrap ((IntKind.u64.wrap ((IntKind.u64.wrap ((IntKind.u64.wrap ((IntKind.u64.wrap ((IntKind.u64.wrap (t143 + (IntKind.u64.wrap ((IntKind.u64.wrap (a0_0)) * t144)))) + t145)) + a0_3)) + t146)) + t147)) + t148)) + t149)) + t150)))))))))) = some r := H
 have A2 := Aside0.mk A20
 clear A20
 replace H := Option.bind_eq_some_iff.mp H
 obtain ⟨t144, A30, H⟩ := H
 replace H : ((lookasideref03_bit.f k a0_9 60).bind fun t145 => ((lookasideref03_bit.f k a0_7 6).bind fun t146 => ((lookasideref03_bit.f k a0_6 3).bind fun t147 => ((lookasideref03_bit.f k a0_5 2).bind fun t148 => ((lookasideref03_bit.f k a0_4 1).bind fun t149 => ((lookasideref03_bit.f k a0_8 0).bind fun t150 => (some (IntKind.u64.wrap ((IntKind.u64.wrap ((IntKind.u64.wrap ((IntKind.u64.wrap ((IntKind.u64.wrap ((IntKind.u64.wrap ((IntKind.u64.wrap ((IntKind.u64.wrap (t143 + (IntKind.u64.wrap ((IntKind.u64.wrap (a0_0)) * t144)))) + t145)) + a0_3)) + t146)) + t147)) + t148)) + t149)) + t150))))))))) = some r := H
 have A3 := Aside0.mk A30
 clear A30
 replace H := Option.bind_eq_some_iff.mp H
 obtain ⟨t145, A40, H⟩ := H
 replace H : ((lookasideref03_bit.f k a0_7 6).bind fun t146 => ((lookasideref03_bit.f k a0_6 3).bind fun t147 => ((lookasideref03_bit.f k a0_5 2).bind fun t148 => ((lookasideref03_bit.f k a0_4 1).bind fun t149 => ((lookasideref03_bit.f k a0_8 0).bind fun t150 => (some (IntKind.u64.wrap ((IntKind.u64.wrap ((IntKind.u64.wrap ((IntKind.u64.wrap ((IntKind.u64.wrap ((IntKind.u64.wrap ((IntKind.u64.wrap ((IntKind.u64.wrap (t143 + (IntKind.u64.wrap ((IntKind.u64.wrap (a0_0)) * t144)))) + t145)) + a0_3)) + t146)) + t147)) + t148)) + t149)) + t150)))))))) = some r := H
 have A4 := Aside0.mk A40
 clear A40
 replace H := Option.bind_eq_some_iff.mp H
 obtain ⟨t146, A50, H⟩ := H
 replace H : ((lookasideref03_bit.f k a0_6 3).bind fun t147 => ((lookasideref03_bit.f k a0_5 2).bind fun t148 => ((lookasideref03_bit.f k a0_4 1).bind fun t149 => ((lookasideref03_bit.f k a0_8 0).bind fun t150 => (some (IntKind.u64.wrap ((IntKind.u64.wrap ((IntKind.u64.wrap ((IntKind.u64.wrap ((IntKind.u64.wrap ((IntKind.u64.wrap ((IntKind.u64.wrap ((IntKind.u64.wrap (t143 + (IntKind.u64.wrap ((IntKind.u64.wrap (a0_0)) * t144)))) + t145)) + a0_3)) + t146)) + t147)) + t148)) + t149)) + t150))))))) = some r := H
 have A5 := Aside0.mk A50
 clear A50
 replace H := Option.bind_eq_some_iff.mp H
 obtain ⟨t147, A60, H⟩ := H
 replace H : ((lookasideref03_bit.f k a0_5 2).bind fun t148 => ((lookasideref03_bit.f k a0_4 1).bind fun t149 => ((lookasideref03_bit.f k a0_8 0).bind fun t150 => (some (IntKind.u64.wrap ((IntKind.u64.wrap ((IntKind.u64.wrap ((IntKind.u64.wrap ((IntKind.u64.wrap ((IntKind.u64.wrap ((IntKind.u64.wrap ((IntKind.u64.wrap (t143 + (IntKind.u64.wrap ((IntKind.u64.wrap (a0_0)) * t144)))) + t145)) + a0_3)) + t146)) + t147)) + t148)) + t149)) + t150)))))) = some r := H
 have A6 := Aside0.mk A60
 clear A60
 replace H := Option.bind_eq_some_iff.mp H
 obtain ⟨t148, A70, H⟩ := H
 replace H : ((lookasideref03_bit.f k a0_4 1).bind fun t149 => ((lookasideref03_bit.f k a0_8 0).bind fun t150 => (some (IntKind.u64.wrap ((IntKind.u64.wrap ((IntKind.u64.wrap ((IntKind.u64.wrap ((IntKind.u64.wrap ((IntKind.u64.wrap ((IntKind.u64.wrap ((IntKind.u64.wrap (t143 + (IntKind.u64.wrap ((IntKind.u64.wrap (a0_0)) * t144)))) + t145)) + a0_3)) + t146)) + t147)) + t148)) + t149)) + t150))))) = some r := H
 have A7 := Aside0.mk A70
 clear A70
 replace H := Option.bind_eq_some_iff.mp H
 obtain ⟨t149, A80, H⟩ := H
 replace H : ((lookasideref03_bit.f k a0_8 0).bind fun t150 => (some (IntKind.u64.wrap ((IntKind.u64.wrap ((IntKind.u64.wrap ((IntKind.u64.wrap ((IntKind.u64.wrap ((IntKind.u64.wrap ((IntKind.u64.wrap ((IntKind.u64.wrap (t143 + (IntKind.u64.wrap ((IntKind.u64.wrap (a0_0)) * t144)))) + t145)) + a0_3)) + t146)) + t147)) + t148)) + t149)) + t150)))) = some r := H
 have A8 := Aside0.mk A80
 clear A80
 replace H := Option.bind_eq_some_iff.mp H
 obtain ⟨t150, A90, H⟩ := H
 replace H : (some (IntKind.u64.wrap ((IntKind.u64.wrap ((IntKind.u64.wrap ((IntKind.u64.wrap ((IntKind.u64.wrap ((IntKind.u64.wrap ((IntKind.u64.wrap ((IntKind.u64.wrap (t143 + (IntKind.u64.wrap ((IntKind.u64.wrap (a0_0)) * t144)))) + t145)) + a0_3)) + t146)) + t147)) + t148)) + t149)) + t150))) = some r := H
 have A9 := Aside0.mk A90
 clear A90
 obtain rfl := Option.some.inj H
 go_enter Try.func103, Try.ntmps103
 go_wp2_with (first | ((with_reducible refine gate_dst (N := 1) rfl ?_); refine box_event ?hg (N := 1) ?hd (cs := #[.int .i64 a0_0, .int .i64 a0_1, .int .u64 a0_2, .int .u64 a0_3, .bool a0_4, .bool a0_5, .bool a0_6, .bool a0_7, .bool a0_8, .bool a0_9, .bool a0_10]) (t := 50) ?hr ?_; (case hd => rfl); (case hg => rfl); (case hr => first | (go_simp; done) | (go_simp; rfl)); intro gb141 hg w10 hbox hb; have n0_ := Aside0.mk (below_step (by repeat (first | (with_reducible first | exact HB.out | apply below_alloc | apply pw_below_drewN | apply below_drew1) | exact HB.out)) hb); have n1_ := Aside0.mk (hbox); have n2_ := Aside0.mk ((by rw [hg]; exact (below_size (by repeat (first | (with_reducible first | exact HB.out | apply below_alloc | apply pw_below_drewN | apply below_drew1) | exact HB.out))) : w.heap.size ≤ gb141)); have n3_ := Aside0.mk ((by rw [hg]; exact (below_size (by repeat (first | (with_reducible first | exact HB.out | apply below_alloc | apply pw_below_drewN | apply below_drew1) | exact HB.out))) : w.heap.size ≤ gb141)); clear HB; have HB := n0_; have BK141 := n1_; have GW141 := n2_; have GE141 := n3_; clear n0_ n1_ n2_ n3_; clear hb hbox hg; obtain ⟨hcz11_0, hcz11_1, hcz11_2, hcz11_3, hcz11_4, hcz11_5, hcz11_6, hcz11_7, hcz11_8, hcz11_9, hcz11_10⟩ := cy11_25 BK141.out; have hfz11_0 := blk_frozen BK141.out 0; have hfz11_1 := blk_frozen BK141.out 1; have hfz11_2 := blk_frozen BK141.out 2; have hfz11_3 := blk_frozen BK141.out 3; have hfz11_4 := blk_frozen BK141.out 4; have hfz11_5 := blk_frozen BK141.out 5; have hfz11_6 := blk_frozen BK141.out 6; have hfz11_7 := blk_frozen BK141.out 7; have hfz11_8 := blk_frozen BK141.out 8; have hfz11_9 := blk_frozen BK141.out 9; have hfz11_10 := blk_frozen BK141.out 10) | ((with_reducible refine gate_dst (N := 3) rfl ?_); refine box_event ?hg (N := 3) ?hd (cs := #[.bool false, .bool false, .bool false, .bool false, .bool false, .bool false]) (t := 48) ?hr ?_; (case hd => rfl); (case hg => rfl); (case hr => first | (go_simp; done) | (go_simp; rfl)); intro gb142 hg w12 hbox hb; have n0_ := Aside0.mk (bb25_ hb BK141.out); have n1_ := Aside0.mk (below_step (by repeat (first | (with_reducible first | exact HB.out | apply below_alloc | apply pw_below_drewN | apply below_drew1 | refine below_set ?_ GE141.out) | exact HB.out)) hb); have n2_ := Aside0.mk (hbox); have n3_ := Aside0.mk ((by rw [hg]; exact (below_size (by repeat (first | (with_reducible first | exact HB.out | apply below_alloc | apply pw_below_drewN | apply below_drew1 | refine below_set ?_ GE141.out) | exact HB.out))) : w.heap.size ≤ gb142)); have n4_ := Aside0.mk ((by rw [hg]; exact (below_size (by repeat (first | (with_reducible first | exact HB.out | apply below_alloc | apply pw_below_drewN | apply below_drew1 | refine below_set ?_ GE141.out) | exact HB.out))) : w.heap.size ≤ gb142)); have n5_ := Aside0.mk ((by rw [hg]; exact Nat.ne_of_lt (blk_lt BK141.out) : gb141 ≠ gb142)); have n6_ := Aside0.mk ((by rw [hg]; exact Nat.ne_of_gt (blk_lt BK141.out) : gb142 ≠ gb141)); clear BK141; clear HB; have BK141 := n0_; have HB := n1_; have BK142 := n2_; have GW142 := n3_; have GE142 := n4_; have NB141_142 := n5_; have NB142_141 := n6_; clear n0_ n1_ n2_ n3_ n4_ n5_ n6_; clear hb hbox hg; have hnb13 := NB142_141.out; have hnc13 := NB141_142.out; obtain ⟨hcz14_0, hcz14_1, hcz14_2, hcz14_3, hcz14_4, hcz14_5⟩ := cy6_25 BK142.out; have hfz14_0 := blk_frozen BK142.out 0; have hfz14_1 := blk_frozen BK142.out 1; have hfz14_2 := blk_frozen BK142.out 2; have hfz14_3 := blk_frozen BK142.out 3; have hfz14_4 := blk_frozen BK142.out 4; have hfz14_5 := blk_frozen BK142.out 5))
 repeat (go_quiet (first | (go_at_call 122; (with_reducible refine (lookasideref03_bit.calls k true 63 t143 _ A2.out).mono ?_); rintro e w' ⟨rfl, ⟨nd, rfl⟩⟩; (try first | exact ⟨rfl, _, World.drewN_drewN _ _ _⟩ | exact ⟨rfl, _, Eq.trans (World.drewN_drewN _ _ _) (congrArg (World.drewN _) (Nat.add_assoc _ _ _))⟩); obtain ⟨hcz15_0, hcz15_1, hcz15_2, hcz15_3, hcz15_4, hcz15_5, hcz15_6, hcz15_7, hcz15_8, hcz15_9, hcz15_10⟩ := cy11_25 BK141.out; have hfz15_0 := blk_frozen BK141.out 0; have hfz15_1 := blk_frozen BK141.out 1; have hfz15_2 := blk_frozen BK141.out 2; have hfz15_3 := blk_frozen BK141.out 3; have hfz15_4 := blk_frozen BK141.out 4; have hfz15_5 := blk_frozen BK141.out 5; have hfz15_6 := blk_frozen BK141.out 6; have hfz15_7 := blk_frozen BK141.out 7; have hfz15_8 := blk_frozen BK141.out 8; have hfz15_9 := blk_frozen BK141.out 9; have hfz15_10 := blk_frozen BK141.out 10) | (go_at_call 122; (with_reducible refine (lookasideref03_bit.calls k true 61 t144 _ A3.out).mono ?_); rintro e w' ⟨rfl, ⟨nd, rfl⟩⟩; (try first | exact ⟨rfl, _, World.drewN_drewN _ _ _⟩ | exact ⟨rfl, _, Eq.trans (World.drewN_drewN _ _ _) (congrArg (World.drewN _) (Nat.add_assoc _ _ _))⟩)) | (go_at_call 122; (with_reducible refine (lookasideref03_bit.calls k a0_9 60 t145 _ A4.out).mono ?_); rintro e w' ⟨rfl, ⟨nd, rfl⟩⟩; (try first | exact ⟨rfl, _, World.drewN_drewN _ _ _⟩ | exact ⟨rfl, _, Eq.trans (World.drewN_drewN _ _ _) (congrArg (World.drewN _) (Nat.add_assoc _ _ _))⟩)) | (go_at_call 122; (with_reducible refine (lookasideref03_bit.calls k a0_7 6 t146 _ A5.out).mono ?_); rintro e w' ⟨rfl, ⟨nd, rfl⟩⟩; (try first | exact ⟨rfl, _, World.drewN_drewN _ _ _⟩ | exact ⟨rfl, _, Eq.trans (World.drewN_drewN _ _ _) (congrArg (World.drewN _) (Nat.add_assoc _ _ _))⟩)) | (go_at_call 122; (with_reducible refine (lookasideref03_bit.calls k a0_6 3 t147 _ A6.out).mono ?_); rintro e w' ⟨rfl, ⟨nd, rfl⟩⟩; (try first | exact ⟨rfl, _, World.drewN_drewN _ _ _⟩ | exact ⟨rfl, _, Eq.trans (World.drewN_drewN _ _ _) (congrArg (World.drewN _) (Nat.add_assoc _ _ _))⟩)) | (go_at_call 122; (with_reducible refine (lookasideref03_bit.calls k a0_5 2 t148 _ A7.out).mono ?_); rintro e w' ⟨rfl, ⟨nd, rfl⟩⟩; (try first | exact ⟨rfl, _, World.drewN_drewN _ _ _⟩ | exact ⟨rfl, _, Eq.trans (World.drewN_drewN _ _ _) (congrArg (World.drewN _) (Nat.add_assoc _ _ _))⟩)) | (go_at_call 122; (with_reducible refine (lookasideref03_bit.calls k a0_4 1 t149 _ A8.out).mono ?_); rintro e w' ⟨rfl, ⟨nd, rfl⟩⟩; (try first | exact ⟨rfl, _, World.drewN_drewN _ _ _⟩ | exact ⟨rfl, _, Eq.trans (World.drewN_drewN _ _ _) (congrArg (World.drewN _) (Nat.add_assoc _ _ _))⟩)) | (go_at_call 122; (with_reducible refine (lookasideref03_bit.calls k a0_8 0 t150 _ A9.out).mono ?_); rintro e w' ⟨rfl, ⟨nd, rfl⟩⟩; (try first | exact ⟨rfl, _, World.drewN_drewN _ _ _⟩ | exact ⟨rfl, _, Eq.trans (World.drewN_drewN _ _ _) (congrArg (World.drewN _) (Nat.add_assoc _ _ _))⟩))); try go_wp2_with (fail))
 go_ret
 exact ⟨by first | rfl | (simp [errW_none, errW_some] <;> rfl) | (simp [*, errW_none, errW_some] <;> rfl), by repeat (first | (with_reducible first | exact HB.out | apply below_alloc | apply pw_below_drewN | apply below_drew1 | refine below_set ?_ GE141.out | refine below_set ?_ GE142.out) | exact HB.out)⟩
/-! ### lookasideref10_put: function 102 -/
def lookasideref10_put.l0 : Nat → List (S122) → Int → Int → Int → List (S122) → Int → Int → Int → Option (Int × Int × (List (S122)))
 | 0, _, _, _, _, _, _, _, _ => none
 | k + 1, x5, x6, x113000, x113001, x113002, x114000, x114001, x114002 => if x6 < (x113002.length : Int) then (if 0 ≤ x6 then (if ((rd_T122 x113002 x6).f0) = x114000 then (lookasideref10_put.l0 k x5 (wrap64 (x6 + 1)) x113000 x113001 x113002 x114000 x114001 x114002) else (if x5.length < 5864062014805 then (lookasideref10_put.l0 k (x5 ++ [(⟨(rd_T122 x113002 x6).f0, (rd_T122 x113002 x6).f1, (rd_T122 x113002 x6).f2⟩ : S122)]) (wrap64 (x6 + 1)) x113000 x113001 x113002 x114000 x114001 x114002) else (none))) else (none)) else ((lookasideref10_Bad.f).bind fun t120 => (if x114001 = t120 then (if x114002 = 0 then (some (x113000, x113001, x5)) else (if x5.length < 5864062014805 then (some (x113000, x113001, (x5 ++ [(⟨x114000, x114001, x114002⟩ : S122)]))) else (none))) else (if x5.length < 5864062014805 then (some (x113000, x113001, (x5 ++ [(⟨x114000, x114001, x114002⟩ : S122)]))) else (none))))
def lookasideref10_put.f (k : Nat) (a0_0 : Int) (a0_1 : Int) (l0_2 : List (S122)) (a1_0 : Int) (a1_1 : Int) (a1_2 : Int) : Option (Int × Int × (List (S122))) := lookasideref10_put.l0 k ([] : List (S122)) 0 a0_0 a0_1 l0_2 a1_0 a1_1 a1_2
set_option maxHeartbeats 8000000 in
set_option maxRecDepth 100000 in
theorem lookasideref10_put.calls (k : Nat) (a0_0 : Int) (a0_1 : Int) (A0_2 : Option Addr) (c0_2 : Nat) (l0_2 : List (S122)) (a1_0 : Int) (a1_1 : Int) (a1_2 : Int) (r1 : Int) (r2 : Int) (r3 : List (S122)) (w : World) (hr0_2 : Kd.C k122 w A0_2 l0_2.length l0_2) (hc0_2 : l0_2.length ≤ c0_2) (h : lookasideref10_put.f k a0_0 a0_1 l0_2 a1_0 a1_1 a1_2 = some (r1, r2, r3)) :
  Calls Try.prog 102 #[.agg #[.int .i64 a0_0, .int .i64 a0_1, .slice A0_2 l0_2.length c0_2], .agg #[.int .i64 a1_0, .int .u64 a1_1, .int .u64 a1_2]] w fun e w' => ∃ v2_ : Value, e = .returned (.agg #[.int .i64 r1, .int .i64 r2, v2_]) ∧ Kd.R k122 122 w' w.heap.size (fun _ => True) v2_ r3 ∧ Below w.heap.size w w' := by
 have hu44 := Try.underlying44
 have hu122 := Try.underlying122
 have HR0_2 := Aside0.mk hr0_2
 have HC0_2 := Aside0.mk hc0_2
 clear hr0_2 hc0_2
 have HB := Aside0.mk (Below.refl w.heap.size w)
 have H : (lookasideref10_put.l0 k ([] : List (S122)) 0 a0_0 a0_1 l0_2 a1_0 a1_1 a1_2) = some (r1, r2, r3) := h
 clear h
 have H' := Aside0.mk H
 clear H
 go_enter Try.func102, Try.ntmps102
 go_wp2_with (first | ((with_reducible refine gate_dst (N := 2) rfl ?_); refine box_event ?hg (N := 2) ?hd (cs := #[.int .i64 a0_0, .int .i64 a0_1, .slice A0_2 l0_2.length c0_2]) (t := 44) ?hr ?_; (case hd => rfl); (case hg => rfl); (case hr => first | (go_simp; done) | (go_simp; rfl)); intro gb112 hg w3 hbox hb; have n0_ := Aside0.mk (below_step (by repeat (first | (with_reducible first | exact HB.out | apply below_alloc | apply pw_below_drewN | apply below_drew1) | exact HB.out)) hb); have n1_ := Aside0.mk (hbox); have n2_ := Aside0.mk ((by rw [hg]; exact (below_size (by repeat (first | (with_reducible first | exact HB.out | apply below_alloc | apply pw_below_drewN | apply below_drew1) | exact HB.out))) : w.heap.size ≤ gb112)); have n3_ := Aside0.mk ((by rw [hg]; exact (below_size (by repeat (first | (with_reducible first | exact HB.out | apply below_alloc | apply pw_below_drewN | apply below_drew1) | exact HB.out))) : w.heap.size ≤ gb112)); clear HB; have HB := n0_; have BK112 := n1_; have GW112 := n2_; have GE112 := n3_; clear n0_ n1_ n2_ n3_; clear hb hbox hg) | ((with_reducible refine gate_dst (N := 3) rfl ?_); refine box_event ?hg (N := 3) ?hd (cs := #[.int .i64 a1_0, .int .u64 a1_1, .int .u64 a1_2]) (t := 122) ?hr ?_; (case hd => rfl); (case hg => rfl); (case hr => first | (go_simp; done) | (go_simp; rfl)); intro gb113 hg w4 hbox hb; have n0_ := Aside0.mk (bb25_ hb BK112.out); have n1_ := Aside0.mk (below_step (by repeat (first | (with_reducible first | exact HB.out | apply below_alloc | apply pw_below_drewN | apply below_drew1 | refine below_set ?_ GE112.out) | exact HB.out)) hb); have n2_ := Aside0.mk (hbox); have n3_ := Aside0.mk ((by rw [hg]; exact (below_size (by repeat (first | (with_reducible first | exact HB.out | apply below_alloc | apply pw_below_drewN | apply below_drew1 | refine below_set ?_ GE112.out) | exact HB.out))) : w.heap.size ≤ gb113)); have n4_ := Aside0.mk ((by rw [hg]; exact (below_size (by repeat (first | (with_reducible first | exact HB.out | apply below_alloc | apply pw_below_drewN | apply below_drew1 | refine below_set ?_ GE112.out) | exact HB.out))) : w.heap.size ≤ gb113)); have n5_ := Aside0.mk ((by rw [hg]; exact Nat.ne_of_lt (blk_lt BK112.out) : gb112 ≠ gb113)); have n6_ := Aside0.mk ((by rw [hg]; exact Nat.ne_of_gt (blk_lt BK112.out) : gb113 ≠ gb112)); clear BK112; clear HB; have BK112 := n0_; have HB := n1_; have BK113 := n2_; have GW113 := n3_; have GE113 := n4_; have NB112_113 := n5_; have NB113_112 := n6_; clear n0_ n1_ n2_ n3_ n4_ n5_ n6_; clear hb hbox hg) | ((with_reducible refine gate_dst (N := 4) rfl ?_); refine box_event ?hg (N := 4) ?hd (cs := #[.int .i64 0, .int .i64 0, .slice none 0 0]) (t := 44) ?hr ?_; (case hd => rfl); (case hg => rfl); (case hr => first | (go_simp; done) | (go_simp; rfl)); intro gb114 hg w5 hbox hb; have n0_ := Aside0.mk (bb25_ hb BK112.out); have n1_ := Aside0.mk (bb25_ hb BK113.out); have n2_ := Aside0.mk (below_step (by repeat (first | (with_reducible first | exact HB.out | apply below_alloc | apply pw_below_drewN | apply below_drew1 | refine below_set ?_ GE112.out | refine below_set ?_ GE113.out) | exact HB.out)) hb); have n3_ := Aside0.mk (hbox); have n4_ := Aside0.mk ((by rw [hg]; exact (below_size (by repeat (first | (with_reducible first | exact HB.out | apply below_alloc | apply pw_below_drewN | apply below_drew1 | refine below_set ?_ GE112.out | refine below_set ?_ GE113.out) | exact HB.out))) : w.heap.size ≤ gb114)); have n5_ := Aside0.mk ((by rw [hg]; exact (below_size (by repeat (first | (with_reducible first | exact HB.out | apply below_alloc | apply pw_below_drewN | apply below_drew1 | refine below_set ?_ GE112.out | refine below_set ?_ GE113.out) | exact HB.out))) : w.heap.size ≤ gb114)); have n6_ := Aside0.mk ((by rw [hg]; exact Nat.ne_of_lt (blk_lt BK112.out) : gb112 ≠ gb114)); have n7_ := Aside0.mk ((by rw [hg]; exact Nat.ne_of_gt (blk_lt BK112.out) : gb114 ≠ gb112)); have n8_ := Aside0.mk ((by rw [hg]; exact Nat.ne_of_lt (blk_lt BK113.out) : gb113 ≠ gb114)); have n9_ := Aside0.mk ((by rw [hg]; exact Nat.ne_of_gt (blk_lt BK113.out) : gb114 ≠ gb113)); clear BK112; clear BK113; clear HB; have BK112 := n0_; have BK113 := n1_; have HB := n2_; have BK114 := n3_; have GW114 := n4_; have GE114 := n5_; have NB112_114 := n6_; have NB114_112 := n7_; have NB113_114 := n8_; have NB114_113 := n9_; clear n0_ n1_ n2_ n3_ n4_ n5_ n6_ n7_ n8_ n9_; clear hb hbox hg))
 repeat (go_quiet (fail); try go_wp2_with (fail))
 go_loopg [5, 6] k (fun kq v5 v6 w' => ∃ (x5_1 : List (S122)) (x6_1 : Int), v6 = .int .i64 x6_1 ∧ Aside0 (lookasideref10_put.l0 kq x5_1 x6_1 a0_0 a0_1 l0_2 a1_0 a1_1 a1_2 = some (r1, r2, r3)) ∧ Aside0 (kq ≤ k) ∧ Aside0 (Kd.R k122 122 w' w.heap.size (fun k_ => k_ ≠ gb113) v5 x5_1) ∧ Aside0 (w'.heap[gb112]? = some (.cells #[.int .i64 a0_0, .int .i64 a0_1, (.slice A0_2 l0_2.length c0_2)] 44 (0, 0))) ∧ Aside0 (w'.heap[gb113]? = some (.cells #[.int .i64 a1_0, .int .u64 a1_1, .int .u64 a1_2] 122 (0, 0))) ∧ Aside0 (w'.heap[gb114]? = some (.cells #[.int .i64 0, .int .i64 0, (.slice none 0 0)] 44 (0, 0))) ∧ Aside0 (Below w.heap.size w w'))
 case atStart => exact ⟨(([] : List (S122))), (0), (by first | rfl | (simp; done) | (simp [*]; done)), H', ⟨Nat.le_refl _⟩, ⟨by first | exact Kd.R_nil _ _ _ _ _ | exact Kd.N_nil _ _ _ _ _ | exact Kd.V_nil _ _ _ _ _ | exact Kd.Q_nil _ _ _ _ _ | exact Kd.S_nil _ _ _ _ _⟩, ⟨by (with_reducible repeat (first | refine blk_drewN ?_ _ | refine blk_drew ?_ | refine blk_alloc ?_ _)); exact BK112.out⟩, ⟨by (with_reducible repeat (first | refine blk_drewN ?_ _ | refine blk_drew ?_ | refine blk_alloc ?_ _)); exact BK113.out⟩, ⟨by (with_reducible repeat (first | refine blk_drewN ?_ _ | refine blk_drew ?_ | refine blk_alloc ?_ _)); exact BK114.out⟩, ⟨by repeat (first | (with_reducible first | exact HB.out | apply below_alloc | apply pw_below_drewN | apply below_drew1 | refine below_set ?_ GE112.out | refine below_set ?_ GE113.out | refine below_set ?_ GE114.out) | exact HB.out)⟩⟩
 case round =>
  clear H'
  try clear c1
  try clear p2
  obtain ⟨x5_1, x6_1, rfl, HA, HK1, HO_5, BK112, BK113, BK114, HB⟩ := hrel
  cases gk with
  | zero => exact absurd HA.out (by simp [lookasideref10_put.l0])
  | succ k1 =>
   have H := HA.out
   clear HA
   simp only [lookasideref10_put.l0] at H
   by_cases c6 : x6_1 < (l0_2.length : Int)
   ·rw [if_pos c6] at H
    have c6b0 : decide (x6_1 < (l0_2.length : Int)) = true := decide_eq_true c6
    clear c6
    by_cases c7 : 0 ≤ x6_1
    ·rw [if_pos c7] at H
     have c7b0 : decide (0 ≤ x6_1) = true := decide_eq_true c7
     clear c7
     by_cases c8 : ((rd_T122 l0_2 x6_1).f0) = a1_0
     ·rw [if_pos c8] at H
      have c8b0 : (((rd_T122 l0_2 x6_1).f0) == a1_0) = true := beq_iff_eq.mpr c8
      have c8b1 : (((rd_T122 l0_2 x6_1).f0) != a1_0) = false := bne_eq_false_iff_eq.mpr c8
      clear c8
      have H' := Aside0.mk H
      clear H
      have hnb9 := NB112_113.out
      have hnc9 := NB113_112.out
      have hnb10 := NB112_114.out
      have hnc10 := NB114_112.out
      obtain ⟨hcz11_0, hcz11_1, hcz11_2⟩ := cy3_25 BK112.out
      have hfz11_0 := blk_frozen BK112.out 0
      have hfz11_1 := blk_frozen BK112.out 1
      have hfz11_2 := blk_frozen BK112.out 2
      have p115 : 0 ≤ (x6_1 : Int) := of_decide_eq_true (by first | (with_reducible assumption) | assumption)
      have q115 : x6_1 < (l0_2.length : Int) := of_decide_eq_true (by first | (with_reducible assumption) | assumption)
      obtain ⟨ad115, e115, hx115_0, hx115_1, hx115_2⟩ := at_T122 HR0_2.out x6_1 p115 q115
      cases e115
      replace hx115_0 := (HB.out.cell (World.block_lt_of_cell? w _ hx115_0)).trans hx115_0
      replace hx115_1 := (HB.out.cell (World.block_lt_of_cell? w _ hx115_1)).trans hx115_1
      replace hx115_2 := (HB.out.cell (World.block_lt_of_cell? w _ hx115_2)).trans hx115_2
      replace p115 := eq_true p115
      replace q115 := eq_true q115
      have hnb12 := NB113_114.out
      have hnc12 := NB114_113.out
      obtain ⟨hcz13_0, hcz13_1, hcz13_2⟩ := cy3_25 BK113.out
      have hfz13_0 := blk_frozen BK113.out 0
      have hfz13_1 := blk_frozen BK113.out 1
      have hfz13_2 := blk_frozen BK113.out 2
      go_wp2
      repeat (go_quiet (fail); try go_wp2)
      go_roundg k1
      case measure => have := HK1.out; omega
      case rel => exact ⟨(x5_1), (wrap64 (x6_1 + 1)), (by first | rfl | (simp; done) | (simp [*]; done)), H', ⟨by have := HK1.out; omega⟩, ⟨by (with_reducible repeat (first | apply Kd.R_alloc | apply Kd.R_drewN | apply Kd.R_drew)); exact HO_5.out⟩, ⟨by (with_reducible repeat (first | refine blk_drewN ?_ _ | refine blk_drew ?_ | refine blk_alloc ?_ _)); exact BK112.out⟩, ⟨by (with_reducible repeat (first | refine blk_drewN ?_ _ | refine blk_drew ?_ | refine blk_alloc ?_ _)); exact BK113.out⟩, ⟨by (with_reducible repeat (first | refine blk_drewN ?_ _ | refine blk_drew ?_ | refine blk_alloc ?_ _)); exact BK114.out⟩, ⟨by repeat (first | (with_reducible first | exact HB.out | apply below_alloc | apply pw_below_drewN | apply below_drew1 | refine below_set ?_ GE112.out | refine below_set ?_ GE113.out | refine below_set ?_ GE114.out) | exact HB.out)⟩⟩
     ·rw [if_neg c8] at H
      have c8b0 : (((rd_T122 l0_2 x6_1).f0) == a1_0) = false := beq_eq_false_iff_ne.mpr c8
      have c8b1 : (((rd_T122 l0_2 x6_1).f0) != a1_0) = true := bne_iff_ne.mpr c8
      by_cases c14 : x5_1.length < 5864062014805
      ·rw [if_pos c14] at H
       have LMc14 := Aside0.mk c14
       clear c14
       obtain ⟨y117, hy117⟩ : ∃ y_ : List (S122), y_ = (x5_1 ++ [(⟨(rd_T122 l0_2 x6_1).f0, (rd_T122 l0_2 x6_1).f1, (rd_T122 l0_2 x6_1).f2⟩ : S122)]) := ⟨_, rfl⟩
       replace H : (lookasideref10_put.l0 k1 y117 (wrap64 (x6_1 + 1)) a0_0 a0_1 l0_2 a1_0 a1_1 a1_2) = some (r1, r2, r3) := by first | (rw [hy117]; with_reducible exact H) | (have H2_ := (Option.bind_some _ _).symm.trans H; rw [hy117]; with_reducible exact H2_) | (have H2_ := (Option.bind_some _ _).symm.trans H; with_reducible exact H2_) | with_reducible exact H | (rw [hy117]; exact H) | exact H
       have Ny117 := Aside0.mk hy117
       clear hy117
       have H' := Aside0.mk H
       clear H
       have hnb15 := NB112_113.out
       have hnc15 := NB113_112.out
       have hnb16 := NB112_114.out
       have hnc16 := NB114_112.out
       obtain ⟨hcz17_0, hcz17_1, hcz17_2⟩ := cy3_25 BK112.out
       have hfz17_0 := blk_frozen BK112.out 0
       have hfz17_1 := blk_frozen BK112.out 1
       have hfz17_2 := blk_frozen BK112.out 2
       have p115 : 0 ≤ (x6_1 : Int) := of_decide_eq_true (by first | (with_reducible assumption) | assumption)
       have q115 : x6_1 < (l0_2.length : Int) := of_decide_eq_true (by first | (with_reducible assumption) | assumption)
       obtain ⟨ad115, e115, hx115_0, hx115_1, hx115_2⟩ := at_T122 HR0_2.out x6_1 p115 q115
       cases e115
       replace hx115_0 := (HB.out.cell (World.block_lt_of_cell? w _ hx115_0)).trans hx115_0
       replace hx115_1 := (HB.out.cell (World.block_lt_of_cell? w _ hx115_1)).trans hx115_1
       replace hx115_2 := (HB.out.cell (World.block_lt_of_cell? w _ hx115_2)).trans hx115_2
       replace p115 := eq_true p115
       replace q115 := eq_true q115
       have hnb18 := NB113_114.out
       have hnc18 := NB114_113.out
       obtain ⟨hcz19_0, hcz19_1, hcz19_2⟩ := cy3_25 BK113.out
       have hfz19_0 := blk_frozen BK113.out 0
       have hfz19_1 := blk_frozen BK113.out 1
       have hfz19_2 := blk_frozen BK113.out 2
       have p116 : 0 ≤ (x6_1 : Int) := of_decide_eq_true (by first | (with_reducible assumption) | assumption)
       have q116 : x6_1 < (l0_2.length : Int) := of_decide_eq_true (by first | (with_reducible assumption) | assumption)
       obtain ⟨ad116, e116, hx116_0, hx116_1, hx116_2⟩ := at_T122 HR0_2.out x6_1 p116 q116
       obtain rfl : ad115 = ad116 := (by injection e116)
       replace hx116_0 := (HB.out.cell (World.block_lt_of_cell? w _ hx116_0)).trans hx116_0
       replace hx116_1 := (HB.out.cell (World.block_lt_of_cell? w _ hx116_1)).trans hx116_1
       replace hx116_2 := (HB.out.cell (World.block_lt_of_cell? w _ hx116_2)).trans hx116_2
       replace p116 := eq_true p116
       replace q116 := eq_true q116
       go_wp2_with (fail)
       repeat (go_quiet (fail); try go_wp2_with (((with_reducible refine gate_builtin (b := .append) (xs := #[.tmp 23, .tmp 29]) rfl ?_); at_builtin; refine Kd.R_append k122 (w0 := w) w.heap.size rfl (.tmp 23) (.tmp 29) 42 122 (.agg #[(.int .i64 0), (.int .u64 0), (.int .u64 0)]) 24 rfl Try.underlying42 info122 rfl (by decide) (by omega) u5 x5_1 (⟨(rd_T122 l0_2 x6_1).f0, (rd_T122 l0_2 x6_1).f1, (rd_T122 l0_2 x6_1).f2⟩ : S122) [.int .i64 ((rd_T122 l0_2 x6_1).f0), .int .u64 ((rd_T122 l0_2 x6_1).f1), .int .u64 ((rd_T122 l0_2 x6_1).f2)] (fun k_ => k_ ≠ gb113) (fun _ => False) rfl rfl ?aP (fun _ hk => hk.elim) ?aF ?aO ?aB ?aS ?aL ?_; (case aP => exact k122_mkM _ _ _ (⟨(rd_T122 l0_2 x6_1).f0, (rd_T122 l0_2 x6_1).f1, (rd_T122 l0_2 x6_1).f2⟩ : S122)); (case aB => exact (by repeat (first | (with_reducible first | exact HB.out | apply below_alloc | apply pw_below_drewN | apply below_drew1 | refine below_set ?_ GE112.out | refine below_set ?_ GE113.out | refine below_set ?_ GE114.out) | exact HB.out))); (case aF => exact (fun k_ hk => Kd.freshB (g := gb113) (o := .cells #[.int .i64 a1_0, .int .u64 a1_1, .int .u64 a1_2] 122 (0, 0)) (by (with_reducible repeat (first | refine blk_drewN ?_ _ | refine blk_drew ?_ | refine blk_alloc ?_ _)); exact BK113.out) k_ hk)); (case aO => exact (by (with_reducible repeat (first | apply Kd.R_alloc | apply Kd.R_drewN | apply Kd.R_drew)); exact HO_5.out)); (case aS => exact (below_size (by repeat (first | (with_reducible first | exact HB.out | apply below_alloc | apply pw_below_drewN | apply below_drew1 | refine below_set ?_ GE112.out | refine below_set ?_ GE113.out | refine below_set ?_ GE114.out) | exact HB.out)))); (case aL => have := LMc14.out; omega); intro v118 w20 ho hb hg hat; rw [← Ny117.out] at ho; have n0_ := Aside0.mk (blk_grown (g := gb112) (o := .cells #[.int .i64 a0_0, .int .i64 a0_1, .slice (some ad115) l0_2.length c0_2] 44 (0, 0)) (by (with_reducible repeat (first | refine blk_drewN ?_ _ | refine blk_drew ?_ | refine blk_alloc ?_ _)); exact BK112.out) hg (Kd.R_ne HO_5.out BK112.out (by decide))); have n1_ := Aside0.mk (blk_grown (g := gb113) (o := .cells #[.int .i64 a1_0, .int .u64 a1_1, .int .u64 a1_2] 122 (0, 0)) (by (with_reducible repeat (first | refine blk_drewN ?_ _ | refine blk_drew ?_ | refine blk_alloc ?_ _)); exact BK113.out) hg (Kd.R_away HO_5.out (fun _ hk => hk))); have n2_ := Aside0.mk (blk_grown (g := gb114) (o := .cells #[.int .i64 0, .int .i64 0, .slice none 0 0] 44 (0, 0)) (by (with_reducible repeat (first | refine blk_drewN ?_ _ | refine blk_drew ?_ | refine blk_alloc ?_ _)); exact BK114.out) hg (Kd.R_ne HO_5.out BK114.out (by decide))); have n3_ := Aside0.mk (hb); have n4_ := Aside0.mk (ho); clear BK112; clear BK113; clear BK114; clear HB; clear HO_5; have BK112 := n0_; have BK113 := n1_; have BK114 := n2_; have HB := n3_; have HO119 := n4_; clear n0_ n1_ n2_ n3_ n4_; clear ho hb hg hat)))
       go_roundg k1
       case measure => have := HK1.out; omega
       case rel => exact ⟨(y117), (wrap64 (x6_1 + 1)), (by first | rfl | (simp; done) | (simp [*]; done)), H', ⟨by have := HK1.out; omega⟩, ⟨by (with_reducible repeat (first | apply Kd.R_alloc | apply Kd.R_drewN | apply Kd.R_drew)); exact HO119.out⟩, ⟨by (with_reducible repeat (first | refine blk_drewN ?_ _ | refine blk_drew ?_ | refine blk_alloc ?_ _)); exact BK112.out⟩, ⟨by (with_reducible repeat (first | refine blk_drewN ?_ _ | refine blk_drew ?_ | refine blk_alloc ?_ _)); exact BK113.out⟩, ⟨by (with_reducible repeat (first | refine blk_drewN ?_ _ | refine blk_drew ?_ | refine blk_alloc ?_ _)); exact BK114.out⟩, ⟨by repeat (first | (with_reducible first | exact HB.out | apply below_alloc | apply pw_below_drewN | apply below_drew1 | refine below_set ?_ GE112.out | refine below_set ?_ GE113.out | refine below_set ?_ GE114.out) | exact HB.out)⟩⟩
      ·rw [if_neg c14] at H
       exact absurd H (by simp)
    ·rw [if_neg c7] at H
     exact absurd H (by simp)
   ·rw [if_neg c6] at H
    have c6b0 : decide (x6_1 < (l0_2.length : Int)) = false := decide_eq_false c6
    clear c6
    replace H := Option.bind_eq_some_iff.mp H
    obtain ⟨t120, A210, H⟩ := H
    replace H : (if a1_1 = t120 then (if a1_2 = 0 then (some (a0_0, a0_1, x5_1)) else (if x5_1.length < 5864062014805 then (some (a0_0, a0_1, (x5_1 ++ [(⟨a1_0, a1_1, a1_2⟩ : S122)]))) else (none))) else (if x5_1.length < 5864062014805 then (some (a0_0, a0_1, (x5_1 ++ [(⟨a1_0, a1_1, a1_2⟩ : S122)]))) else (none))) = some (r1, r2, r3) := H
    have A21 := Aside0.mk A210
    clear A210
    by_cases c22 : a1_1 = t120
    ·rw [if_pos c22] at H
     have c22b0 : (a1_1 == t120) = true := beq_iff_eq.mpr c22
     have c22b1 : (a1_1 != t120) = false := bne_eq_false_iff_eq.mpr c22
     clear c22
     by_cases c23 : a1_2 = 0
     ·rw [if_pos c23] at H
      have c23b0 : (a1_2 == 0) = true := beq_iff_eq.mpr c23
      have c23b1 : (a1_2 != 0) = false := bne_eq_false_iff_eq.mpr c23
      clear c23
      simp only [Option.some.injEq, Prod.mk.injEq] at H
      obtain ⟨rfl, rfl, rfl⟩ := H
      have hnb24 := NB112_113.out
      have hnc24 := NB113_112.out
      have hnb25 := NB112_114.out
      have hnc25 := NB114_112.out
      obtain ⟨hcz26_0, hcz26_1, hcz26_2⟩ := cy3_25 BK112.out
      have hfz26_0 := blk_frozen BK112.out 0
      have hfz26_1 := blk_frozen BK112.out 1
      have hfz26_2 := blk_frozen BK112.out 2
      have hnb27 := NB113_114.out
      have hnc27 := NB114_113.out
      obtain ⟨hcz28_0, hcz28_1, hcz28_2⟩ := cy3_25 BK113.out
      have hfz28_0 := blk_frozen BK113.out 0
      have hfz28_1 := blk_frozen BK113.out 1
      have hfz28_2 := blk_frozen BK113.out 2
      go_wp2_with (fail)
      repeat (go_quiet ((go_at_call 83; (with_reducible refine (lookasideref10_Bad.calls  t120 _ A21.out).mono ?_); rintro e w' ⟨rfl, ⟨nd, rfl⟩⟩; (try first | exact ⟨rfl, _, World.drewN_drewN _ _ _⟩ | exact ⟨rfl, _, Eq.trans (World.drewN_drewN _ _ _) (congrArg (World.drewN _) (Nat.add_assoc _ _ _))⟩); obtain ⟨Ao29, co29, eo29⟩ := Kd.R_slice HO_5.out; subst eo29; obtain ⟨hcz30_0, hcz30_1, hcz30_2⟩ := cy3_25 BK114.out; have hfz30_0 := blk_frozen BK114.out 0; have hfz30_1 := blk_frozen BK114.out 1; have hfz30_2 := blk_frozen BK114.out 2)); try go_wp2_with (fail))
      refine bodyPost_ret (results_cell_row rfl _ _ gb114 44 #[.int .i64 a0_0, .int .i64 a0_1, .slice Ao29 x5_1.length co29] (0, 0) _ rfl (by (with_reducible repeat (first | refine blk_drewN ?_ _ | refine blk_drew ?_ | refine blk_alloc ?_ _)); refine blk_put (cs := #[.int .i64 a0_0, .int .i64 a0_1, .slice none 0 0]) ?_ 2 _ rfl; refine blk_put (cs := #[.int .i64 a0_0, .int .i64 0, .slice none 0 0]) ?_ 1 _ rfl; refine blk_put (cs := #[.int .i64 0, .int .i64 0, .slice none 0 0]) ?_ 0 _ rfl; refine blk_far ?_ NB114_112.out _; (with_reducible repeat (first | refine blk_drewN ?_ _ | refine blk_drew ?_ | refine blk_alloc ?_ _)); exact BK114.out) Try.underlying44 rfl (by kernel_rfl)) rfl ?_
      exact ⟨_, by first | rfl | (simp [errW_none, errW_some] <;> rfl) | (simp [*, errW_none, errW_some] <;> rfl), by (with_reducible repeat (first | apply Kd.R_alloc | apply Kd.R_drewN | apply Kd.R_drew)); exact Kd.R_mono (Kd.R_far (p := ⟨gb114, 2, none⟩) (Kd.R_far (p := ⟨gb114, 1, none⟩) (Kd.R_far (p := ⟨gb114, 0, none⟩) (Kd.R_far (p := ⟨gb112, 2, none⟩) (Kd.R_types (Kd.R_types HO_5.out BK112.out (by decide)) BK114.out (by decide)) (fun _ hk => hk.1.2) (.slice Ao29 x5_1.length co29)) (fun _ hk => hk.2) (.int .i64 a0_0)) (fun _ hk => hk.2) (.int .i64 a0_1)) (fun _ hk => hk.2) (.slice Ao29 x5_1.length co29)) (fun _ hk => trivial), by repeat (first | (with_reducible first | exact HB.out | apply below_alloc | apply pw_below_drewN | apply below_drew1 | refine below_set ?_ GE112.out | refine below_set ?_ GE113.out | refine below_set ?_ GE114.out) | exact HB.out)⟩
     ·rw [if_neg c23] at H
      have c23b0 : (a1_2 == 0) = false := beq_eq_false_iff_ne.mpr c23
      have c23b1 : (a1_2 != 0) = true := bne_iff_ne.mpr c23
      by_cases c31 : x5_1.length < 5864062014805
      ·rw [if_pos c31] at H
       have LMc31 := Aside0.mk c31
       clear c31
       obtain ⟨y121, hy121⟩ : ∃ y_ : List (S122), y_ = (x5_1 ++ [(⟨a1_0, a1_1, a1_2⟩ : S122)]) := ⟨_, rfl⟩
       replace H : (some (a0_0, a0_1, y121)) = some (r1, r2, r3) := by first | (rw [hy121]; with_reducible exact H) | (have H2_ := (Option.bind_some _ _).symm.trans H; rw [hy121]; with_reducible exact H2_) | (have H2_ := (Option.bind_some _ _).symm.trans H; with_reducible exact H2_) | with_reducible exact H | (rw [hy121]; exact H) | exact H
       have Ny121 := Aside0.mk hy121
       clear hy121
       simp only [Option.some.injEq, Prod.mk.injEq] at H
       obtain ⟨rfl, rfl, rfl⟩ := H
       have hnb32 := NB112_113.out
       have hnc32 := NB113_112.out
       have hnb33 := NB112_114.out
       have hnc33 := NB114_112.out
       obtain ⟨hcz34_0, hcz34_1, hcz34_2⟩ := cy3_25 BK112.out
       have hfz34_0 := blk_frozen BK112.out 0
       have hfz34_1 := blk_frozen BK112.out 1
       have hfz34_2 := blk_frozen BK112.out 2
       have hnb35 := NB113_114.out
       have hnc35 := NB114_113.out
       obtain ⟨hcz36_0, hcz36_1, hcz36_2⟩ := cy3_25 BK113.out
       have hfz36_0 := blk_frozen BK113.out 0
       have hfz36_1 := blk_frozen BK113.out 1
       have hfz36_2 := blk_frozen BK113.out 2
       go_wp2_with (fail)
       repeat (go_quiet ((go_at_call 83; (with_reducible refine (lookasideref10_Bad.calls  t120 _ A21.out).mono ?_); rintro e w' ⟨rfl, ⟨nd, rfl⟩⟩; (try first | exact ⟨rfl, _, World.drewN_drewN _ _ _⟩ | exact ⟨rfl, _, Eq.trans (World.drewN_drewN _ _ _) (congrArg (World.drewN _) (Nat.add_assoc _ _ _))⟩))); try go_wp2_with (((with_reducible refine gate_builtin (b := .append) (xs := #[.tmp 40, .tmp 42]) rfl ?_); at_builtin; refine Kd.R_append k122 (w0 := w) w.heap.size rfl (.tmp 40) (.tmp 42) 42 122 (.agg #[(.int .i64 0), (.int .u64 0), (.int .u64 0)]) 24 rfl Try.underlying42 info122 rfl (by decide) (by omega) u5 x5_1 (⟨a1_0, a1_1, a1_2⟩ : S122) [.int .i64 a1_0, .int .u64 a1_1, .int .u64 a1_2] (fun k_ => k_ ≠ gb113) (fun _ => False) rfl rfl ?aP (fun _ hk => hk.elim) ?aF ?aO ?aB ?aS ?aL ?_; (case aP => exact k122_mkM _ _ _ (⟨a1_0, a1_1, a1_2⟩ : S122)); (case aB => exact (by repeat (first | (with_reducible first | exact HB.out | apply below_alloc | apply pw_below_drewN | apply below_drew1 | refine below_set ?_ GE112.out | refine below_set ?_ GE113.out | refine below_set ?_ GE114.out) | exact HB.out))); (case aF => exact (fun k_ hk => Kd.freshB (g := gb113) (o := .cells #[.int .i64 a1_0, .int .u64 a1_1, .int .u64 a1_2] 122 (0, 0)) (by (with_reducible repeat (first | refine blk_drewN ?_ _ | refine blk_drew ?_ | refine blk_alloc ?_ _)); exact BK113.out) k_ hk)); (case aO => exact (by (with_reducible repeat (first | apply Kd.R_alloc | apply Kd.R_drewN | apply Kd.R_drew)); exact HO_5.out)); (case aS => exact (below_size (by repeat (first | (with_reducible first | exact HB.out | apply below_alloc | apply pw_below_drewN | apply below_drew1 | refine below_set ?_ GE112.out | refine below_set ?_ GE113.out | refine below_set ?_ GE114.out) | exact HB.out)))); (case aL => have := LMc31.out; omega); intro v122 w37 ho hb hg hat; rw [← Ny121.out] at ho; have n0_ := Aside0.mk (blk_grown (g := gb112) (o := .cells #[.int .i64 a0_0, .int .i64 a0_1, .slice A0_2 l0_2.length c0_2] 44 (0, 0)) (by (with_reducible repeat (first | refine blk_drewN ?_ _ | refine blk_drew ?_ | refine blk_alloc ?_ _)); exact BK112.out) hg (Kd.R_ne HO_5.out BK112.out (by decide))); have n1_ := Aside0.mk (blk_grown (g := gb113) (o := .cells #[.int .i64 a1_0, .int .u64 a1_1, .int .u64 a1_2] 122 (0, 0)) (by (with_reducible repeat (first | refine blk_drewN ?_ _ | refine blk_drew ?_ | refine blk_alloc ?_ _)); exact BK113.out) hg (Kd.R_away HO_5.out (fun _ hk => hk))); have n2_ := Aside0.mk (blk_grown (g := gb114) (o := .cells #[.int .i64 0, .int .i64 0, .slice none 0 0] 44 (0, 0)) (by (with_reducible repeat (first | refine blk_drewN ?_ _ | refine blk_drew ?_ | refine blk_alloc ?_ _)); exact BK114.out) hg (Kd.R_ne HO_5.out BK114.out (by decide))); have n3_ := Aside0.mk (hb); have n4_ := Aside0.mk (ho); clear BK112; clear BK113; clear BK114; clear HB; clear HO_5; have BK112 := n0_; have BK113 := n1_; have BK114 := n2_; have HB := n3_; have HO123 := n4_; clear n0_ n1_ n2_ n3_ n4_; clear ho hb hg hat; obtain ⟨Ao38, co38, eo38⟩ := Kd.R_slice HO123.out; subst eo38; obtain ⟨hcz39_0, hcz39_1, hcz39_2⟩ := cy3_25 BK112.out; have hfz39_0 := blk_frozen BK112.out 0; have hfz39_1 := blk_frozen BK112.out 1; have hfz39_2 := blk_frozen BK112.out 2; obtain ⟨hcz40_0, hcz40_1, hcz40_2⟩ := cy3_25 BK114.out; have hfz40_0 := blk_frozen BK114.out 0; have hfz40_1 := blk_frozen BK114.out 1; have hfz40_2 := blk_frozen BK114.out 2)))
       refine bodyPost_ret (results_cell_row rfl _ _ gb114 44 #[.int .i64 a0_0, .int .i64 a0_1, .slice Ao38 y121.length co38] (0, 0) _ rfl (by (with_reducible repeat (first | refine blk_drewN ?_ _ | refine blk_drew ?_ | refine blk_alloc ?_ _)); refine blk_put (cs := #[.int .i64 a0_0, .int .i64 a0_1, .slice none 0 0]) ?_ 2 _ rfl; refine blk_put (cs := #[.int .i64 a0_0, .int .i64 0, .slice none 0 0]) ?_ 1 _ rfl; refine blk_put (cs := #[.int .i64 0, .int .i64 0, .slice none 0 0]) ?_ 0 _ rfl; refine blk_far ?_ NB114_112.out _; (with_reducible repeat (first | refine blk_drewN ?_ _ | refine blk_drew ?_ | refine blk_alloc ?_ _)); exact BK114.out) Try.underlying44 rfl (by kernel_rfl)) rfl ?_
       exact ⟨_, by first | rfl | (simp [errW_none, errW_some] <;> rfl) | (simp [*, errW_none, errW_some] <;> rfl), by (with_reducible repeat (first | apply Kd.R_alloc | apply Kd.R_drewN | apply Kd.R_drew)); exact Kd.R_mono (Kd.R_far (p := ⟨gb114, 2, none⟩) (Kd.R_far (p := ⟨gb114, 1, none⟩) (Kd.R_far (p := ⟨gb114, 0, none⟩) (Kd.R_far (p := ⟨gb112, 2, none⟩) (Kd.R_types (Kd.R_types HO123.out BK112.out (by decide)) BK114.out (by decide)) (fun _ hk => hk.1.2) (.slice Ao38 y121.length co38)) (fun _ hk => hk.2) (.int .i64 a0_0)) (fun _ hk => hk.2) (.int .i64 a0_1)) (fun _ hk => hk.2) (.slice Ao38 y121.length co38)) (fun _ hk => trivial), by repeat (first | (with_reducible first | exact HB.out | apply below_alloc | apply pw_below_drewN | apply below_drew1 | refine below_set ?_ GE112.out | refine below_set ?_ GE113.out | refine below_set ?_ GE114.out) | exact HB.out)⟩
      ·rw [if_neg c31] at H
       exact absurd H (by simp)
    ·rw [if_neg c22] at H
     have c22b0 : (a1_1 == t120) = false := beq_eq_false_iff_ne.mpr c22
     have c22b1 : (a1_1 != t120) = true := bne_iff_ne.mpr c22
     by_cases c41 : x5_1.length < 5864062014805
     ·rw [if_pos c41] at H
      have LMc41 := Aside0.mk c41
      clear c41
      obtain ⟨y124, hy124⟩ : ∃ y_ : List (S122), y_ = (x5_1 ++ [(⟨a1_0, a1_1, a1_2⟩ : S122)]) := ⟨_, rfl⟩
      replace H : (some (a0_0, a0_1, y124)) = some (r1, r2, r3) := by first | (rw [hy124]; with_reducible exact H) | (have H2_ := (Option.bind_some _ _).symm.trans H; rw [hy124]; with_reducible exact H2_) | (have H2_ := (Option.bind_some _ _).symm.trans H; with_reducible exact H2_) | with_reducible exact H | (rw [hy124]; exact H) | exact H
      have Ny124 := Aside0.mk hy124
      clear hy124
      simp only [Option.some.injEq, Prod.mk.injEq] at H
      obtain ⟨rfl, rfl, rfl⟩ := H
      have hnb42 := NB112_113.out
      have hnc42 := NB113_112.out
      have hnb43 := NB112_114.out
      have hnc43 := NB114_112.out
      obtain ⟨hcz44_0, hcz44_1, hcz44_2⟩ := cy3_25 BK112.out
      have hfz44_0 := blk_frozen BK112.out 0
      have hfz44_1 := blk_frozen BK112.out 1
      have hfz44_2 := blk_frozen BK112.out 2
      have hnb45 := NB113_114.out
      have hnc45 := NB114_113.out
      obtain ⟨hcz46_0, hcz46_1, hcz46_2⟩ := cy3_25 BK113.out
      have hfz46_0 := blk_frozen BK113.out 0
      have hfz46_1 := blk_frozen BK113.out 1
      have hfz46_2 := blk_frozen BK113.out 2
      go_wp2_with (fail)
      repeat (go_quiet ((go_at_call 83; (with_reducible refine (lookasideref10_Bad.calls  t120 _ A21.out).mono ?_); rintro e w' ⟨rfl, ⟨nd, rfl⟩⟩; (try first | exact ⟨rfl, _, World.drewN_drewN _ _ _⟩ | exact ⟨rfl, _, Eq.trans (World.drewN_drewN _ _ _) (congrArg (World.drewN _) (Nat.add_assoc _ _ _))⟩))); try go_wp2_with (((with_reducible refine gate_builtin (b := .append) (xs := #[.tmp 40, .tmp 42]) rfl ?_); at_builtin; refine Kd.R_append k122 (w0 := w) w.heap.size rfl (.tmp 40) (.tmp 42) 42 122 (.agg #[(.int .i64 0), (.int .u64 0), (.int .u64 0)]) 24 rfl Try.underlying42 info122 rfl (by decide) (by omega) u5 x5_1 (⟨a1_0, a1_1, a1_2⟩ : S122) [.int .i64 a1_0, .int .u64 a1_1, .int .u64 a1_2] (fun k_ => k_ ≠ gb113) (fun _ => False) rfl rfl ?aP (fun _ hk => hk.elim) ?aF ?aO ?aB ?aS ?aL ?_; (case aP => exact k122_mkM _ _ _ (⟨a1_0, a1_1, a1_2⟩ : S122)); (case aB => exact (by repeat (first | (with_reducible first | exact HB.out | apply below_alloc | apply pw_below_drewN | apply below_drew1 | refine below_set ?_ GE112.out | refine below_set ?_ GE113.out | refine below_set ?_ GE114.out) | exact HB.out))); (case aF => exact (fun k_ hk => Kd.freshB (g := gb113) (o := .cells #[.int .i64 a1_0, .int .u64 a1_1, .int .u64 a1_2] 122 (0, 0)) (by (with_reducible repeat (first | refine blk_drewN ?_ _ | refine blk_drew ?_ | refine blk_alloc ?_ _)); exact BK113.out) k_ hk)); (case aO => exact (by (with_reducible repeat (first | apply Kd.R_alloc | apply Kd.R_drewN | apply Kd.R_drew)); exact HO_5.out)); (case aS => exact (below_size (by repeat (first | (with_reducible first | exact HB.out | apply below_alloc | apply pw_below_drewN | apply below_drew1 | refine below_set ?_ GE112.out | refine below_set ?_ GE113.out | refine below_set ?_ GE114.out) | exact HB.out)))); (case aL => have := LMc41.out; omega); intro v125 w47 ho hb hg hat; rw [← Ny124.out] at ho; have n0_ := Aside0.mk (blk_grown (g := gb112) (o := .cells #[.int .i64 a0_0, .int .i64 a0_1, .slice A0_2 l0_2.length c0_2] 44 (0, 0)) (by (with_reducible repeat (first | refine blk_drewN ?_ _ | refine blk_drew ?_ | refine blk_alloc ?_ _)); exact BK112.out) hg (Kd.R_ne HO_5.out BK112.out (by decide))); have n1_ := Aside0.mk (blk_grown (g := gb113) (o := .cells #[.int .i64 a1_0, .int .u64 a1_1, .int .u64 a1_2] 122 (0, 0)) (by (with_reducible repeat (first | refine blk_drewN ?_ _ | refine blk_drew ?_ | refine blk_alloc ?_ _)); exact BK113.out) hg (Kd.R_away HO_5.out (fun _ hk => hk))); have n2_ := Aside0.mk (blk_grown (g := gb114) (o := .cells #[.int .i64 0, .int .i64 0, .slice none 0 0] 44 (0, 0)) (by (with_reducible repeat (first | refine blk_drewN ?_ _ | refine blk_drew ?_ | refine blk_alloc ?_ _)); exact BK114.out) hg (Kd.R_ne HO_5.out BK114.out (by decide))); have n3_ := Aside0.mk (hb); have n4_ := Aside0.mk (ho); clear BK112; clear BK113; clear BK114; clear HB; clear HO_5; have BK112 := n0_; have BK113 := n1_; have BK114 := n2_; have HB := n3_; have HO126 := n4_; clear n0_ n1_ n2_ n3_ n4_; clear ho hb hg hat; obtain ⟨Ao48, co48, eo48⟩ := Kd.R_slice HO126.out; subst eo48; obtain ⟨hcz49_0, hcz49_1, hcz49_2⟩ := cy3_25 BK112.out; have hfz49_0 := blk_frozen BK112.out 0; have hfz49_1 := blk_frozen BK112.out 1; have hfz49_2 := blk_frozen BK112.out 2; obtain ⟨hcz50_0, hcz50_1, hcz50_2⟩ := cy3_25 BK114.out; have hfz50_0 := blk_frozen BK114.out 0; have hfz50_1 := blk_frozen BK114.out 1; have hfz50_2 := blk_frozen BK114.out 2)))
      refine bodyPost_ret (results_cell_row rfl _ _ gb114 44 #[.int .i64 a0_0, .int .i64 a0_1, .slice Ao48 y124.length co48] (0, 0) _ rfl (by (with_reducible repeat (first | refine blk_drewN ?_ _ | refine blk_drew ?_ | refine blk_alloc ?_ _)); refine blk_put (cs := #[.int .i64 a0_0, .int .i64 a0_1, .slice none 0 0]) ?_ 2 _ rfl; refine blk_put (cs := #[.int .i64 a0_0, .int .i64 0, .slice none 0 0]) ?_ 1 _ rfl; refine blk_put (cs := #[.int .i64 0, .int .i64 0, .slice none 0 0]) ?_ 0 _ rfl; refine blk_far ?_ NB114_112.out _; (with_reducible repeat (first | refine blk_drewN ?_ _ | refine blk_drew ?_ | refine blk_alloc ?_ _)); exact BK114.out) Try.underlying44 rfl (by kernel_rfl)) rfl ?_
      exact ⟨_, by first | rfl | (simp [errW_none, errW_some] <;> rfl) | (simp [*, errW_none, errW_some] <;> rfl), by (with_reducible repeat (first | apply Kd.R_alloc | apply Kd.R_drewN | apply Kd.R_drew)); exact Kd.R_mono (Kd.R_far (p := ⟨gb114, 2, none⟩) (Kd.R_far (p := ⟨gb114, 1, none⟩) (Kd.R_far (p := ⟨gb114, 0, none⟩) (Kd.R_far (p := ⟨gb112, 2, none⟩) (Kd.R_types (Kd.R_types HO126.out BK112.out (by decide)) BK114.out (by decide)) (fun _ hk => hk.1.2) (.slice Ao48 y124.length co48)) (fun _ hk => hk.2) (.int .i64 a0_0)) (fun _ hk => hk.2) (.int .i64 a0_1)) (fun _ hk => hk.2) (.slice Ao48 y124.length co48)) (fun _ hk => trivial), by repeat (first | (with_reducible first | exact HB.out | apply below_alloc | apply pw_below_drewN | apply below_drew1 | refine below_set ?_ GE112.out | refine below_set ?_ GE113.out | refine below_set ?_ GE114.out) | exact HB.out)⟩
     ·rw [if_neg c41] at H
      exact absurd H (by simp)
end Go.Proofs.Ytjnffegjpkbjmaa.QTsbPlays
-- halved
