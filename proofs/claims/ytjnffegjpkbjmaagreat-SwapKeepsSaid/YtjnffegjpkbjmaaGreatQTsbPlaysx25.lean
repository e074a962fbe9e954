-- Taken out of a text that a program of this session printed (wip/print/myprint.py, wip/print/take.py); Lean checks it.
import Derived.Test.YtjnffegjpkbjmaaGreatQTsbPlaysx22
namespace Go.Proofs.YtjnffegjpkbjmaaGreat.QTsbPlays
open Go.RowKit Go.Proofs.YtjnffegjpkbjmaaGreatW.PrintWords Go.Proofs.YtjnffegjpkbjmaaGreatW.PrintLast Go.Proofs.YtjnffegjpkbjmaaGreatW.PrintMore
attribute [local go_sem] max2_int min2_int max_two min_two max_three min_three max_four min_four   -- for this text's walks alone
set_option linter.unusedVariables false
set_option linter.unusedSimpArgs false
theorem cy3_25 {W : World} {g : Nat} {t : TypeId} {a0 a1 a2 : Value} {l : List Value} (h : W.heap[g]? = some (.cells (Array.mk (a0 :: a1 :: a2 :: l)) t (0, 0))) : W.cell? ⟨g, 0, none⟩ = some a0 ∧ W.cell? ⟨g, 1, none⟩ = some a1 ∧ W.cell? ⟨g, 2, none⟩ = some a2 := ⟨(blk_cell h 0).trans rfl, (blk_cell h 1).trans rfl, (blk_cell h 2).trans rfl⟩
theorem cy6_25 {W : World} {g : Nat} {t : TypeId} {a0 a1 a2 a3 a4 a5 : Value} {l : List Value} (h : W.heap[g]? = some (.cells (Array.mk (a0 :: a1 :: a2 :: a3 :: a4 :: a5 :: l)) t (0, 0))) : W.cell? ⟨g, 0, none⟩ = some a0 ∧ W.cell? ⟨g, 1, none⟩ = some a1 ∧ W.cell? ⟨g, 2, none⟩ = some a2 ∧ W.cell? ⟨g, 3, none⟩ = some a3 ∧ W.cell? ⟨g, 4, none⟩ = some a4 ∧ W.cell? ⟨g, 5, none⟩ = some a5 := ⟨(blk_cell h 0).trans rfl, (blk_cell h 1).trans rfl, (blk_cell h 2).trans rfl, (blk_cell h 3).trans rfl, (blk_cell h 4).trans rfl, (blk_cell h 5).trans rfl⟩
theorem cy11_25 {W : World} {g : Nat} {t : TypeId} {a0 a1 a2 a3 a4 a5 a6 a7 a8 a9 a10 : Value} {l : List Value} (h : W.heap[g]? = some (.cells (Array.mk (a0 :: a1 :: a2 :: a3 :: a4 :: a5 :: a6 :: a7 :: a8 :: a9 :: a10 :: l)) t (0, 0))) : W.cell? ⟨g, 0, none⟩ = some a0 ∧ W.cell? ⟨g, 1, none⟩ = some a1 ∧ W.cell? ⟨g, 2, none⟩ = some a2 ∧ W.cell? ⟨g, 3, none⟩ = some a3 ∧ W.cell? ⟨g, 4, none⟩ = some a4 ∧ W.cell? ⟨g, 5, none⟩ = some a5 ∧ W.cell? ⟨g, 6, none⟩ = some a6 ∧ W.cell? ⟨g, 7, none⟩ = some a7 ∧ W.cell? ⟨g, 8, none⟩ = some a8 ∧ W.cell? ⟨g, 9, none⟩ = some a9 ∧ W.cell? ⟨g, 10, none⟩ = some a10 := ⟨(blk_cell h 0).trans rfl, (blk_cell h 1).trans rfl, (blk_cell h 2).trans rfl, (blk_cell h 3).trans rfl, (blk_cell h 4).trans rfl, (blk_cell h 5).trans rfl, (blk_cell h 6).trans rfl, (blk_cell h 7).trans rfl, (blk_cell h 8).trans rfl, (blk_cell h 9).trans rfl, (blk_cell h 10).trans rfl⟩
theorem bb25_ {w2 w' : World} {g : Nat} {o : Obj} (hb : Below w2.heap.size w2 w') (h : w2.heap[g]? = some o) : w'.heap[g]? = some o := blk_below h hb
/-! ### lookasideref10_Bad: function 96 -/
def lookasideref10_Bad.f  : Option (Int) := some 9223372036854775807
set_option maxHeartbeats 8000000 in
set_option maxRecDepth 100000 in
theorem lookasideref10_Bad.calls  (r : Int) (w : World) (h : lookasideref10_Bad.f  = some r) :
    Calls Tryz.prog 96 #[] w fun e w' => e = .returned (.int .u64 r) ∧ Drawn0 w w' := by
  have H : (some 9223372036854775807) = some r := h
  clear h
  obtain rfl := Option.some.inj H
  go_enter Tryz.func96, Tryz.ntmps96
  go_wp2
  go_ret
  exact ⟨by first | rfl | (simp; done) | (simp [*]; done), by repeat (first | exact Drawn0.refl _ | apply Drawn0.step)⟩
/-! ### lookasideref10_Get: function 91 -/
def lookasideref10_Get.l0 : Nat → Int → Int → Int → Int → List (S141) → Option (Int × Int × Int)
  | 0, _, _, _, _, _ => none
  | k + 1, x1, x5, x227000, x227001, x227002 => if x5 < (x227002.length : Int) then (if 0 ≤ x5 then (if ((rd_T141 x227002 x5).f0) = x1 then (some ((rd_T141 x227002 x5).f0, (rd_T141 x227002 x5).f1, (rd_T141 x227002 x5).f2)) else (lookasideref10_Get.l0 k x1 (wrap64 (x5 + 1)) x227000 x227001 x227002)) else (none)) else ((lookasideref10_Bad.f).bind fun t230 => (some (x1, t230, 0)))
def lookasideref10_Get.f (k : Nat) (a0_0 : Int) (a0_1 : Int) (l0_2 : List (S141)) (a1 : Int) : Option (Int × Int × Int) := lookasideref10_Get.l0 k a1 0 a0_0 a0_1 l0_2
set_option maxHeartbeats 8000000 in
set_option maxRecDepth 100000 in
theorem lookasideref10_Get.calls (k : Nat) (a0_0 : Int) (a0_1 : Int) (A0_2 : Option Addr) (c0_2 : Nat) (l0_2 : List (S141)) (a1 : Int) (r1 : Int) (r2 : Int) (r3 : Int) (w : World) (hr0_2 : Kd.C k141 w A0_2 l0_2.length l0_2) (hc0_2 : l0_2.length ≤ c0_2) (h : lookasideref10_Get.f k a0_0 a0_1 l0_2 a1 = some (r1, r2, r3)) :
    Calls Tryz.prog 91 #[.agg #[.int .i64 a0_0, .int .i64 a0_1, .slice A0_2 l0_2.length c0_2], .int .i64 a1] w fun e w' => e = .returned (.agg #[.int .i64 r1, .int .u64 r2, .int .u64 r3]) ∧ Below w.heap.size w w' := by
  have hu64 := Tryz.underlying64
  have hu141 := Tryz.underlying141
  have HR0_2 := Aside0.mk hr0_2
  have HC0_2 := Aside0.mk hc0_2
  clear hr0_2 hc0_2
  have HB := Aside0.mk (Below.refl w.heap.size w)
  have H : (lookasideref10_Get.l0 k a1 0 a0_0 a0_1 l0_2) = some (r1, r2, r3) := h
  clear h
  have H' := Aside0.mk H
  clear H
  go_enter Tryz.func91, Tryz.ntmps91
  go_wp2_with (first | ((with_reducible refine gate_dst (N := 2) rfl ?_); refine box_event ?hg (N := 2) ?hd (cs := #[.int .i64 a0_0, .int .i64 a0_1, .slice A0_2 l0_2.length c0_2]) (t := 64) ?hr ?_; (case hd => rfl); (case hg => rfl); (case hr => first | (go_simp; done) | (go_simp; rfl)); intro gb226 hg w3 hbox hb; have n0_ := Aside0.mk (below_step (by repeat (first | (with_reducible first | exact HB.out | apply below_alloc | apply pw_below_drewN | apply below_drew1) | exact HB.out)) hb); have n1_ := Aside0.mk (hbox); have n2_ := Aside0.mk ((by rw [hg]; exact (below_size (by repeat (first | (with_reducible first | exact HB.out | apply below_alloc | apply pw_below_drewN | apply below_drew1) | exact HB.out))) : w.heap.size ≤ gb226)); have n3_ := Aside0.mk ((by rw [hg]; exact (below_size (by repeat (first | (with_reducible first | exact HB.out | apply below_alloc | apply pw_below_drewN | apply below_drew1) | exact HB.out))) : w.heap.size ≤ gb226)); clear HB; have HB := n0_; have BK226 := n1_; have GW226 := n2_; have GE226 := n3_; clear n0_ n1_ n2_ n3_; clear hb hbox hg) | ((with_reducible refine gate_dst (N := 4) rfl ?_); refine box_event ?hg (N := 4) ?hd (cs := #[.int .i64 0, .int .u64 0, .int .u64 0]) (t := 141) ?hr ?_; (case hd => rfl); (case hg => rfl); (case hr => first | (go_simp; done) | (go_simp; rfl)); intro gb227 hg w4 hbox hb; have n0_ := Aside0.mk (bb25_ hb BK226.out); have n1_ := Aside0.mk (below_step (by repeat (first | (with_reducible first | exact HB.out | apply below_alloc | apply pw_below_drewN | apply below_drew1 | refine below_set ?_ GE226.out) | exact HB.out)) hb); have n2_ := Aside0.mk (hbox); have n3_ := Aside0.mk ((by rw [hg]; exact (below_size (by repeat (first | (with_reducible first | exact HB.out | apply below_alloc | apply pw_below_drewN | apply below_drew1 | refine below_set ?_ GE226.out) | exact HB.out))) : w.heap.size ≤ gb227)); have n4_ := Aside0.mk ((by rw [hg]; exact (below_size (by repeat (first | (with_reducible first | exact HB.out | apply below_alloc | apply pw_below_drewN | apply below_drew1 | refine below_set ?_ GE226.out) | exact HB.out))) : w.heap.size ≤ gb227)); have n5_ := Aside0.mk ((by rw [hg]; exact Nat.ne_of_lt (blk_lt BK226.out) : gb226 ≠ gb227)); have n6_ := Aside0.mk ((by rw [hg]; exact Nat.ne_of_gt (blk_lt BK226.out) : gb227 ≠ gb226)); clear BK226; clear HB; have BK226 := n0_; have HB := n1_; have BK227 := n2_; have GW227 := n3_; have GE227 := n4_; have NB226_227 := n5_; have NB227_226 := n6_; clear n0_ n1_ n2_ n3_ n4_ n5_ n6_; clear hb hbox hg))
  go_loopg [5] k (fun kq v5 w' => ∃ (x5_1 : Int) (x228000_1 : Int) (x228001_1 : Int) (x228002_1 : Int), v5 = .int .i64 x5_1 ∧ Aside0 (lookasideref10_Get.l0 kq a1 x5_1 a0_0 a0_1 l0_2 = some (r1, r2, r3)) ∧ Aside0 (kq ≤ k) ∧ Aside0 (w'.heap[gb226]? = some (.cells #[.int .i64 a0_0, .int .i64 a0_1, (.slice A0_2 l0_2.length c0_2)] 64 (0, 0))) ∧ Aside0 (w'.heap[gb227]? = some (.cells #[.int .i64 x228000_1, .int .u64 x228001_1, .int .u64 x228002_1] 141 (0, 0))) ∧ Aside0 (Below w.heap.size w w'))
  case atStart => exact ⟨(0), (0), (0), (0), (by first | rfl | (simp; done) | (simp [*]; done)), H', ⟨Nat.le_refl _⟩, ⟨by (with_reducible repeat (first | refine blk_drewN ?_ _ | refine blk_drew ?_ | refine blk_alloc ?_ _)); exact BK226.out⟩, ⟨by (with_reducible repeat (first | refine blk_drewN ?_ _ | refine blk_drew ?_ | refine blk_alloc ?_ _)); exact BK227.out⟩, ⟨by repeat (first | (with_reducible first | exact HB.out | apply below_alloc | apply pw_below_drewN | apply below_drew1 | refine below_set ?_ GE226.out | refine below_set ?_ GE227.out) | exact HB.out)⟩⟩
  case round =>
    clear H'
    try clear p2
    obtain ⟨x5_1, x228000_1, x228001_1, x228002_1, rfl, HA, HK1, BK226, BK227, HB⟩ := hrel
    cases gk with
    | zero => exact absurd HA.out (by simp [lookasideref10_Get.l0])
    | succ k1 =>
      have H := HA.out
      clear HA
      simp only [lookasideref10_Get.l0] at H
      by_cases c5 : x5_1 < (l0_2.length : Int)
      · rw [if_pos c5] at H
        have c5b0 : decide (x5_1 < (l0_2.length : Int)) = true := decide_eq_true c5
        clear c5
        by_cases c6 : 0 ≤ x5_1
        · rw [if_pos c6] at H
          have c6b0 : decide (0 ≤ x5_1) = true := decide_eq_true c6
          clear c6
          by_cases c7 : ((rd_T141 l0_2 x5_1).f0) = a1
          · rw [if_pos c7] at H
            have c7b0 : (((rd_T141 l0_2 x5_1).f0) == a1) = true := beq_iff_eq.mpr c7
            have c7b1 : (((rd_T141 l0_2 x5_1).f0) != a1) = false := bne_eq_false_iff_eq.mpr c7
            clear c7
            simp only [Option.some.injEq, Prod.mk.injEq] at H
            obtain ⟨rfl, rfl, rfl⟩ := H
            have hnb8 := NB226_227.out
            have hnc8 := NB227_226.out
            obtain ⟨hcz9_0, hcz9_1, hcz9_2⟩ := cy3_25 BK226.out
            have hfz9_0 := blk_frozen BK226.out 0
            have hfz9_1 := blk_frozen BK226.out 1
            have hfz9_2 := blk_frozen BK226.out 2
            have p228 : 0 ≤ (x5_1 : Int) := of_decide_eq_true (by first | (with_reducible assumption) | assumption)
            have q228 : x5_1 < (l0_2.length : Int) := of_decide_eq_true (by first | (with_reducible assumption) | assumption)
            obtain ⟨ad228, e228, hx228_0, hx228_1, hx228_2⟩ := at_T141 HR0_2.out x5_1 p228 q228
            cases e228
            replace hx228_0 := (HB.out.cell (World.block_lt_of_cell? w _ hx228_0)).trans hx228_0
            replace hx228_1 := (HB.out.cell (World.block_lt_of_cell? w _ hx228_1)).trans hx228_1
            replace hx228_2 := (HB.out.cell (World.block_lt_of_cell? w _ hx228_2)).trans hx228_2
            replace p228 := eq_true p228
            replace q228 := eq_true q228
            have p229 : 0 ≤ (x5_1 : Int) := of_decide_eq_true (by first | (with_reducible assumption) | assumption)
            have q229 : x5_1 < (l0_2.length : Int) := of_decide_eq_true (by first | (with_reducible assumption) | assumption)
            obtain ⟨ad229, e229, hx229_0, hx229_1, hx229_2⟩ := at_T141 HR0_2.out x5_1 p229 q229
            obtain rfl : ad228 = ad229 := (by injection e229)
            replace hx229_0 := (HB.out.cell (World.block_lt_of_cell? w _ hx229_0)).trans hx229_0
            replace hx229_1 := (HB.out.cell (World.block_lt_of_cell? w _ hx229_1)).trans hx229_1
            replace hx229_2 := (HB.out.cell (World.block_lt_of_cell? w _ hx229_2)).trans hx229_2
            replace p229 := eq_true p229
            replace q229 := eq_true q229
            obtain ⟨hcz10_0, hcz10_1, hcz10_2⟩ := cy3_25 BK227.out
            have hfz10_0 := blk_frozen BK227.out 0
            have hfz10_1 := blk_frozen BK227.out 1
            have hfz10_2 := blk_frozen BK227.out 2
            go_wp2
            refine bodyPost_ret (results_cell_row rfl _ _ gb227 141 #[.int .i64 ((rd_T141 l0_2 x5_1).f0), .int .u64 ((rd_T141 l0_2 x5_1).f1), .int .u64 ((rd_T141 l0_2 x5_1).f2)] (0, 0) _ rfl (by (with_reducible repeat (first | refine blk_drewN ?_ _ | refine blk_drew ?_ | refine blk_alloc ?_ _)); refine blk_put (cs := #[.int .i64 ((rd_T141 l0_2 x5_1).f0), .int .u64 ((rd_T141 l0_2 x5_1).f1), .int .u64 x228002_1]) ?_ 2 _ rfl; refine blk_put (cs := #[.int .i64 ((rd_T141 l0_2 x5_1).f0), .int .u64 x228001_1, .int .u64 x228002_1]) ?_ 1 _ rfl; refine blk_put (cs := #[.int .i64 x228000_1, .int .u64 x228001_1, .int .u64 x228002_1]) ?_ 0 _ rfl; (with_reducible repeat (first | refine blk_drewN ?_ _ | refine blk_drew ?_ | refine blk_alloc ?_ _)); exact BK227.out) Tryz.underlying141 rfl (by kernel_rfl)) rfl ?_
            exact ⟨by first | rfl | (simp [errW_none, errW_some] <;> rfl) | (simp [*, errW_none, errW_some] <;> rfl), by repeat (first | (with_reducible first | exact HB.out | apply below_alloc | apply pw_below_drewN | apply below_drew1 | refine below_set ?_ GE226.out | refine below_set ?_ GE227.out) | exact HB.out)⟩
          · rw [if_neg c7] at H
            have c7b0 : (((rd_T141 l0_2 x5_1).f0) == a1) = false := beq_eq_false_iff_ne.mpr c7
            have c7b1 : (((rd_T141 l0_2 x5_1).f0) != a1) = true := bne_iff_ne.mpr c7
            have H' := Aside0.mk H
            clear H
            have hnb11 := NB226_227.out
            have hnc11 := NB227_226.out
            obtain ⟨hcz12_0, hcz12_1, hcz12_2⟩ := cy3_25 BK226.out
            have hfz12_0 := blk_frozen BK226.out 0
            have hfz12_1 := blk_frozen BK226.out 1
            have hfz12_2 := blk_frozen BK226.out 2
            have p228 : 0 ≤ (x5_1 : Int) := of_decide_eq_true (by first | (with_reducible assumption) | assumption)
            have q228 : x5_1 < (l0_2.length : Int) := of_decide_eq_true (by first | (with_reducible assumption) | assumption)
            obtain ⟨ad228, e228, hx228_0, hx228_1, hx228_2⟩ := at_T141 HR0_2.out x5_1 p228 q228
            cases e228
            replace hx228_0 := (HB.out.cell (World.block_lt_of_cell? w _ hx228_0)).trans hx228_0
            replace hx228_1 := (HB.out.cell (World.block_lt_of_cell? w _ hx228_1)).trans hx228_1
            replace hx228_2 := (HB.out.cell (World.block_lt_of_cell? w _ hx228_2)).trans hx228_2
            replace p228 := eq_true p228
            replace q228 := eq_true q228
            go_wp2
            go_roundg k1
            case measure => have := HK1.out; omega
            case rel => exact ⟨(wrap64 (x5_1 + 1)), (x228000_1), (x228001_1), (x228002_1), (by first | rfl | (simp; done) | (simp [*]; done)), H', ⟨by have := HK1.out; omega⟩, ⟨by (with_reducible repeat (first | refine blk_drewN ?_ _ | refine blk_drew ?_ | refine blk_alloc ?_ _)); exact BK226.out⟩, ⟨by (with_reducible repeat (first | refine blk_drewN ?_ _ | refine blk_drew ?_ | refine blk_alloc ?_ _)); exact BK227.out⟩, ⟨by repeat (first | (with_reducible first | exact HB.out | apply below_alloc | apply pw_below_drewN | apply below_drew1 | refine below_set ?_ GE226.out | refine below_set ?_ GE227.out) | exact HB.out)⟩⟩
        · rw [if_neg c6] at H
          exact absurd H (by simp)
      · rw [if_neg c5] at H
        have c5b0 : decide (x5_1 < (l0_2.length : Int)) = false := decide_eq_false c5
        clear c5
        replace H := Option.bind_eq_some_iff.mp H
        obtain ⟨t230, A130, H⟩ := H
        replace H : (some (a1, t230, 0)) = some (r1, r2, r3) := H
        have A13 := Aside0.mk A130
        clear A130
        simp only [Option.some.injEq, Prod.mk.injEq] at H
        obtain ⟨rfl, rfl, rfl⟩ := H
        have hnb14 := NB226_227.out
        have hnc14 := NB227_226.out
        obtain ⟨hcz15_0, hcz15_1, hcz15_2⟩ := cy3_25 BK226.out
        have hfz15_0 := blk_frozen BK226.out 0
        have hfz15_1 := blk_frozen BK226.out 1
        have hfz15_2 := blk_frozen BK226.out 2
        go_wp2_with (((with_reducible refine gate_callee (f := 96) rfl ?_); refine goesL_ (some 27) rfl rfl Tryz.func96 (by kernel_rfl) rfl #[] rfl (by (try simp only [List.map_toArray, List.map_cons, List.map_nil]); first | done | rfl | (simp only [List.length_drop, List.length_take]; rfl)) ?_; (with_reducible refine (lookasideref10_Bad.calls  t230 _ A13.out).mono ?_); rintro e w' ⟨rfl, ⟨nd, rfl⟩⟩; refine ⟨_, rfl, ?_⟩; (try (rw [drewN_self wr]; generalize hq_ : World.drewN wr _ = wr; have n0_ : Aside0 (wr.heap[gb226]? = some (.cells #[.int .i64 a0_0, .int .i64 a0_1, .slice A0_2 l0_2.length c0_2] 64 (0, 0))) := ⟨by rw [← hq_]; exact (by (with_reducible repeat (first | refine blk_drewN ?_ _ | refine blk_drew ?_ | refine blk_alloc ?_ _)); exact BK226.out)⟩; have n1_ : Aside0 (wr.heap[gb227]? = some (.cells #[.int .i64 x228000_1, .int .u64 x228001_1, .int .u64 x228002_1] 141 (0, 0))) := ⟨by rw [← hq_]; exact (by (with_reducible repeat (first | refine blk_drewN ?_ _ | refine blk_drew ?_ | refine blk_alloc ?_ _)); exact BK227.out)⟩; have n2_ : Aside0 (Below w.heap.size w wr) := ⟨by rw [← hq_]; exact (by repeat (first | (with_reducible first | exact HB.out | apply below_alloc | apply pw_below_drewN | apply below_drew1 | refine below_set ?_ GE226.out | refine below_set ?_ GE227.out) | exact HB.out))⟩; clear BK226 BK227 HB hq_; have BK226 := n0_; have BK227 := n1_; have HB := n2_; clear n0_ n1_ n2_)); obtain ⟨hcz16_0, hcz16_1, hcz16_2⟩ := cy3_25 BK227.out; have hfz16_0 := blk_frozen BK227.out 0; have hfz16_1 := blk_frozen BK227.out 1; have hfz16_2 := blk_frozen BK227.out 2))
        refine bodyPost_ret (results_cell_row rfl _ _ gb227 141 #[.int .i64 a1, .int .u64 t230, .int .u64 0] (0, 0) _ rfl (by (with_reducible repeat (first | refine blk_drewN ?_ _ | refine blk_drew ?_ | refine blk_alloc ?_ _)); refine blk_put (cs := #[.int .i64 a1, .int .u64 t230, .int .u64 x228002_1]) ?_ 2 _ rfl; refine blk_put (cs := #[.int .i64 a1, .int .u64 x228001_1, .int .u64 x228002_1]) ?_ 1 _ rfl; refine blk_put (cs := #[.int .i64 x228000_1, .int .u64 x228001_1, .int .u64 x228002_1]) ?_ 0 _ rfl; (with_reducible repeat (first | refine blk_drewN ?_ _ | refine blk_drew ?_ | refine blk_alloc ?_ _)); exact BK227.out) Tryz.underlying141 rfl (by kernel_rfl)) rfl ?_
        exact ⟨by first | rfl | (simp [errW_none, errW_some] <;> rfl) | (simp [*, errW_none, errW_some] <;> rfl), by repeat (first | (with_reducible first | exact HB.out | apply below_alloc | apply pw_below_drewN | apply below_drew1 | refine below_set ?_ GE226.out | refine below_set ?_ GE227.out) | exact HB.out)⟩
/-! ### lookasideref10_place: function 92 -/
def lookasideref10_place.f (a0_0 : Int) (a0_1 : Int) (l0_2 : List (S141)) (a1 : Int) : Option (Int) := (lookasideref02_Bytes.f a0_0).bind fun t232 => (if t232 = 0 then (none) else (if (IntKind.u64.wrap (a0_1)) = 0 then (none) else (some (wrap64 (Int.tmod (IntKind.u64.wrap (Int.tdiv a1 t232)) (IntKind.u64.wrap (a0_1)))))))
set_option maxHeartbeats 8000000 in
set_option maxRecDepth 100000 in
theorem lookasideref10_place.calls (a0_0 : Int) (a0_1 : Int) (A0_2 : Option Addr) (c0_2 : Nat) (l0_2 : List (S141)) (a1 : Int) (r : Int) (w : World) (hr0_2 : Kd.C k141 w A0_2 l0_2.length l0_2) (hc0_2 : l0_2.length ≤ c0_2) (h : lookasideref10_place.f a0_0 a0_1 l0_2 a1 = some r) :
    Calls Tryz.prog 92 #[.agg #[.int .i64 a0_0, .int .i64 a0_1, .slice A0_2 l0_2.length c0_2], .int .u64 a1] w fun e w' => e = .returned (.int .i64 r) ∧ Below w.heap.size w w' := by
  have hu64 := Tryz.underlying64
  have HR0_2 := Aside0.mk hr0_2
  have HC0_2 := Aside0.mk hc0_2
  clear hr0_2 hc0_2
  have HB := Aside0.mk (Below.refl w.heap.size w)
  have H : ((lookasideref02_Bytes.f a0_0).bind fun t232 => (if t232 = 0 then (none) else (if (IntKind.u64.wrap (a0_1)) = 0 then (none) else (some (wrap64 (Int.tmod (IntKind.u64.wrap (Int.tdiv a1 t232)) (IntKind.u64.wrap (a0_1)))))))) = some r := h
  clear h
  replace H := Option.bind_eq_some_iff.mp H
  obtain ⟨t232, A30, H⟩ := H
  replace H : (if t232 = 0 then (none) else (if (IntKind.u64.wrap (a0_1)) = 0 then (none) else (some (wrap64 (Int.tmod (IntKind.u64.wrap (Int.tdiv a1 t232)) (IntKind.u64.wrap (a0_1))))))) = some r := H
  have A3 := Aside0.mk A30
  clear A30
  by_cases c4 : t232 = 0
  · rw [if_pos c4] at H
    exact absurd H (by simp)
  · rw [if_neg c4] at H
    have c4b0 : (t232 == 0) = false := beq_eq_false_iff_ne.mpr c4
    have c4b1 : (t232 != 0) = true := bne_iff_ne.mpr c4
    by_cases c5 : (IntKind.u64.wrap (a0_1)) = 0
    · rw [if_pos c5] at H
      exact absurd H (by simp)
    · rw [if_neg c5] at H
      have c5b0 : ((IntKind.u64.wrap (a0_1)) == 0) = false := beq_eq_false_iff_ne.mpr c5
      have c5b1 : ((IntKind.u64.wrap (a0_1)) != 0) = true := bne_iff_ne.mpr c5
      obtain rfl := Option.some.inj H
      go_enter Tryz.func92, Tryz.ntmps92
      go_wp2_with (((with_reducible refine gate_dst (N := 2) rfl ?_); refine box_event ?hg (N := 2) ?hd (cs := #[.int .i64 a0_0, .int .i64 a0_1, .slice A0_2 l0_2.length c0_2]) (t := 64) ?hr ?_; (case hd => rfl); (case hg => rfl); (case hr => first | (go_simp; done) | (go_simp; rfl)); intro gb231 hg w6 hbox hb; have n0_ := Aside0.mk (below_step (by repeat (first | (with_reducible first | exact HB.out | apply below_alloc | apply pw_below_drewN | apply below_drew1) | exact HB.out)) hb); have n1_ := Aside0.mk (hbox); have n2_ := Aside0.mk ((by rw [hg]; exact (below_size (by repeat (first | (with_reducible first | exact HB.out | apply below_alloc | apply pw_below_drewN | apply below_drew1) | exact HB.out))) : w.heap.size ≤ gb231)); have n3_ := Aside0.mk ((by rw [hg]; exact (below_size (by repeat (first | (with_reducible first | exact HB.out | apply below_alloc | apply pw_below_drewN | apply below_drew1) | exact HB.out))) : w.heap.size ≤ gb231)); clear HB; have HB := n0_; have BK231 := n1_; have GW231 := n2_; have GE231 := n3_; clear n0_ n1_ n2_ n3_; clear hb hbox hg; obtain ⟨hcz7_0, hcz7_1, hcz7_2⟩ := cy3_25 BK231.out; have hfz7_0 := blk_frozen BK231.out 0; have hfz7_1 := blk_frozen BK231.out 1; have hfz7_2 := blk_frozen BK231.out 2))
      repeat (go_quiet ((go_at_call 89; (with_reducible refine (lookasideref02_Bytes.calls a0_0 t232 _ A3.out).mono ?_); rintro e w' ⟨rfl, ⟨nd, rfl⟩⟩; (try first | exact ⟨rfl, _, World.drewN_drewN _ _ _⟩ | exact ⟨rfl, _, Eq.trans (World.drewN_drewN _ _ _) (congrArg (World.drewN _) (Nat.add_assoc _ _ _))⟩))); try go_wp2_with (fail))
      go_ret
      exact ⟨by first | rfl | (simp [errW_none, errW_some] <;> rfl) | (simp [*, errW_none, errW_some] <;> rfl), by repeat (first | (with_reducible first | exact HB.out | apply below_alloc | apply pw_below_drewN | apply below_drew1 | refine below_set ?_ GE231.out) | exact HB.out)⟩
/-! ### lookasideref03_bit: function 116 -/
mutual
def lookasideref03_bit.j0 : Nat → Int → Int → Option (Int)
  | 0, _, _ => none
  | k + 1, x1, x5 => lookasideref03_bit.l0 k x1 x5 0
def lookasideref03_bit.l0 : Nat → Int → Int → Int → Option (Int)
  | 0, _, _, _ => none
  | k + 1, x1, x5, x6 => if x6 < x1 then (lookasideref03_bit.l0 k x1 (IntKind.u64.wrap (2 * x5)) (wrap64 (x6 + 1))) else (some x5)
end
def lookasideref03_bit.f (k : Nat) (a0 : Bool) (a1 : Int) : Option (Int) := if a0 = true then (lookasideref03_bit.j0 k a1 1) else (lookasideref03_bit.j0 k a1 0)
set_option maxHeartbeats 8000000 in
set_option maxRecDepth 100000 in
theorem lookasideref03_bit.calls (k : Nat) (a0 : Bool) (a1 : Int) (r : Int) (w : World) (h : lookasideref03_bit.f k a0 a1 = some r) :
    Calls Tryz.prog 116 #[.bool a0, .int .i64 a1] w fun e w' => e = .returned (.int .u64 r) ∧ Drawn0 w w' := by
  have H : (if a0 = true then (lookasideref03_bit.j0 k a1 1) else (lookasideref03_bit.j0 k a1 0)) = some r := h
  clear h
  have HC3 := Aside0.mk H
  clear H
  go_enter Tryz.func116, Tryz.ntmps116
  go_upto_if 7 with (fail)
  go_cut [5] (fun v5 wc => ∃ (kq : Nat) (x5_2 : Int), v5 = .int .u64 x5_2 ∧ Aside0 (lookasideref03_bit.j0 kq a1 x5_2 = some r) ∧ Aside0 (kq ≤ k) ∧ Drawn0 w wc)
  case first =>
    have H := HC3.out
    clear HC3
    by_cases c4 : a0 = true
    · subst c4
      have H1 : (lookasideref03_bit.j0 k a1 1) = some r := by rw [if_pos rfl] at H; exact H
      clear H
      have H := H1
      clear H1
      have H' := Aside0.mk H
      clear H
      go_wp2
      go_meet
      case rel => exact ⟨_, (1), (by first | rfl | (simp; done) | (simp [*]; done)), H', ⟨by first | omega | exact Nat.le_refl _⟩, by repeat (first | exact Drawn0.refl _ | apply Drawn0.step)⟩
    · replace c4 := Bool.eq_false_iff.mpr c4
      subst c4
      have H1 : (lookasideref03_bit.j0 k a1 0) = some r := by rw [if_neg (show ¬ (false = true) by decide)] at H; exact H
      clear H
      have H := H1
      clear H1
      have H' := Aside0.mk H
      clear H
      go_wp2
      go_meet
      case rel => exact ⟨_, (0), (by first | rfl | (simp; done) | (simp [*]; done)), H', ⟨by first | omega | exact Nat.le_refl _⟩, by repeat (first | exact Drawn0.refl _ | apply Drawn0.step)⟩
  case rest =>
    clear HC3
    try clear c1
    try clear p2
    try clear c4
    obtain ⟨kq, x5_2, rfl, HA, HJ2, ⟨mc2, rfl⟩⟩ := hcut
    cases kq with
    | zero => exact absurd HA.out (by simp [lookasideref03_bit.j0])
    | succ kj2 =>
      have H := HA.out
      clear HA
      simp only [lookasideref03_bit.j0] at H
      have H' := Aside0.mk H
      clear H
      go_wp2
      go_loopg [5, 6] kj2 (fun kq v5 v6 w' => ∃ (x5_2 : Int) (x6_2 : Int), v5 = .int .u64 x5_2 ∧ v6 = .int .i64 x6_2 ∧ Aside0 (lookasideref03_bit.l0 kq a1 x5_2 x6_2 = some r) ∧ Aside0 (kq ≤ kj2) ∧ Drawn0 w w')
      case atStart => exact ⟨(x5_2), (0), (by first | rfl | (simp; done) | (simp [*]; done)), (by first | rfl | (simp; done) | (simp [*]; done)), H', ⟨Nat.le_refl _⟩, by repeat (first | exact Drawn0.refl _ | apply Drawn0.step)⟩
      case round =>
        clear H'
        try clear c1
        try clear c2
        try clear p2
        try clear c4
        try clear p2
        obtain ⟨x5_2, x6_2, rfl, rfl, HA, HK2, ⟨m2, rfl⟩⟩ := hrel
        cases gk with
        | zero => exact absurd HA.out (by simp [lookasideref03_bit.l0])
        | succ k2 =>
          have H := HA.out
          clear HA
          simp only [lookasideref03_bit.l0] at H
          by_cases c5 : x6_2 < a1
          · rw [if_pos c5] at H
            have c5b0 : decide (x6_2 < a1) = true := decide_eq_true c5
            clear c5
            have H' := Aside0.mk H
            clear H
            go_wp2
            go_roundg k2
            case measure => have := HJ2.out; have := HK2.out; omega
            case rel => exact ⟨(IntKind.u64.wrap (2 * x5_2)), (wrap64 (x6_2 + 1)), (by first | rfl | (simp; done) | (simp [*]; done)), (by first | rfl | (simp; done) | (simp [*]; done)), H', ⟨by have := HJ2.out; have := HK2.out; omega⟩, by repeat (first | exact Drawn0.refl _ | apply Drawn0.step)⟩
          · rw [if_neg c5] at H
            have c5b0 : decide (x6_2 < a1) = false := decide_eq_false c5
            clear c5
            obtain rfl := Option.some.inj H
            go_wp2
            go_ret
            exact ⟨by first | rfl | (simp; done) | (simp [*]; done), by repeat (first | exact Drawn0.refl _ | apply Drawn0.step)⟩
/-! ### lookasideref02_Tag: function 117 -/
def lookasideref02_Tag.f (a0 : Int) : Option (Int) := some (Int.tmod (IntKind.u64.wrap (Int.tdiv a0 4194304)) 4194304)
set_option maxHeartbeats 8000000 in
set_option maxRecDepth 100000 in
theorem lookasideref02_Tag.calls (a0 : Int) (r : Int) (w : World) (h : lookasideref02_Tag.f a0 = some r) :
    Calls Tryz.prog 117 #[.int .u64 a0] w fun e w' => e = .returned (.int .u64 r) ∧ Drawn0 w w' := by
  have H : (some (Int.tmod (IntKind.u64.wrap (Int.tdiv a0 4194304)) 4194304)) = some r := h
  clear h
  obtain rfl := Option.some.inj H
  go_enter Tryz.func117, Tryz.ntmps117
  go_wp2
  go_ret
  exact ⟨by first | rfl | (simp; done) | (simp [*]; done), by repeat (first | exact Drawn0.refl _ | apply Drawn0.step)⟩
/-! ### lookasideref03_Tag: function 93 -/
def lookasideref03_Tag.f (k : Nat) (a0_0 : Int) (a0_1 : Int) (a0_2 : Int) (a0_3 : Int) (a0_4 : Bool) (a0_5 : Bool) (a0_6 : Bool) (a0_7 : Bool) (a0_8 : Bool) (a0_9 : Bool) (a0_10 : Bool) : Option (Int) := (lookasideref03_bit.f k a0_8 63).bind fun t234 => ((lookasideref02_Tag.f a0_2).bind fun t235 => (some (IntKind.u64.wrap ((IntKind.u64.wrap (t234 + (IntKind.u64.wrap ((IntKind.u64.wrap (a0_1)) * 281474976710656)))) + t235))))
set_option maxHeartbeats 8000000 in
set_option maxRecDepth 100000 in
theorem lookasideref03_Tag.calls (k : Nat) (a0_0 : Int) (a0_1 : Int) (a0_2 : Int) (a0_3 : Int) (a0_4 : Bool) (a0_5 : Bool) (a0_6 : Bool) (a0_7 : Bool) (a0_8 : Bool) (a0_9 : Bool) (a0_10 : Bool) (r : Int) (w : World) (h : lookasideref03_Tag.f k a0_0 a0_1 a0_2 a0_3 a0_4 a0_5 a0_6 a0_7 a0_8 a0_9 a0_10 = some r) :
    Calls Tryz.prog 93 #[.agg #[.int .i64 a0_0, .int .i64 a0_1, .int .u64 a0_2, .int .u64 a0_3, .bool a0_4, .bool a0_5, .bool a0_6, .bool a0_7, .bool a0_8, .bool a0_9, .bool a0_10]] w fun e w' => e = .returned (.int .u64 r) ∧ Below w.heap.size w w' := by
  have hu41 := Tryz.underlying41
  have HB := Aside0.mk (Below.refl w.heap.size w)
  have H : ((lookasideref03_bit.f k a0_8 63).bind fun t234 => ((lookasideref02_Tag.f a0_2).bind fun t235 => (some (IntKind.u64.wrap ((IntKind.u64.wrap (t234 + (IntKind.u64.wrap ((IntKind.u64.wrap (a0_1)) * 281474976710656)))) + t235))))) = some r := h
  clear h
  replace H := Option.bind_eq_some_iff.mp H
  obtain ⟨t234, A20, H⟩ := H
  replace H : ((lookasideref02_Tag.f a0_2).bind fun t235 => (some (IntKind.u64.wrap ((IntKind.u64.wrap (t234 + (IntKind.u64.wrap ((IntKind.u64.wrap (a0_1)) * 281474976710656)))) + t235)))) = some r := H
  have A2 := Aside0.mk A20
  clear A20
  replace H := Option.bind_eq_some_iff.mp H
  obtain ⟨t235, A30, H⟩ := H
  replace H : (some (IntKind.u64.wrap ((IntKind.u64.wrap (t234 + (IntKind.u64.wrap ((IntKind.u64.wrap (a0_1)) * 281474976710656)))) + t235))) = some r := H
  have A3 := Aside0.mk A30
  clear A30
  obtain rfl := Option.some.inj H
  go_enter Tryz.func93, Tryz.ntmps93
  go_wp2_with (((with_reducible refine gate_dst (N := 1) rfl ?_); refine box_event ?hg (N := 1) ?hd (cs := #[.int .i64 a0_0, .int .i64 a0_1, .int .u64 a0_2, .int .u64 a0_3, .bool a0_4, .bool a0_5, .bool a0_6, .bool a0_7, .bool a0_8, .bool a0_9, .bool a0_10]) (t := 41) ?hr ?_; (case hd => rfl); (case hg => rfl); (case hr => first | (go_simp; done) | (go_simp; rfl)); intro gb233 hg w4 hbox hb; have n0_ := Aside0.mk (below_step (by repeat (first | (with_reducible first | exact HB.out | apply below_alloc | apply pw_below_drewN | apply below_drew1) | exact HB.out)) hb); have n1_ := Aside0.mk (hbox); have n2_ := Aside0.mk ((by rw [hg]; exact (below_size (by repeat (first | (with_reducible first | exact HB.out | apply below_alloc | apply pw_below_drewN | apply below_drew1) | exact HB.out))) : w.heap.size ≤ gb233)); have n3_ := Aside0.mk ((by rw [hg]; exact (below_size (by repeat (first | (with_reducible first | exact HB.out | apply below_alloc | apply pw_below_drewN | apply below_drew1) | exact HB.out))) : w.heap.size ≤ gb233)); clear HB; have HB := n0_; have BK233 := n1_; have GW233 := n2_; have GE233 := n3_; clear n0_ n1_ n2_ n3_; clear hb hbox hg; obtain ⟨hcz5_0, hcz5_1, hcz5_2, hcz5_3, hcz5_4, hcz5_5, hcz5_6, hcz5_7, hcz5_8, hcz5_9, hcz5_10⟩ := cy11_25 BK233.out; have hfz5_0 := blk_frozen BK233.out 0; have hfz5_1 := blk_frozen BK233.out 1; have hfz5_2 := blk_frozen BK233.out 2; have hfz5_3 := blk_frozen BK233.out 3; have hfz5_4 := blk_frozen BK233.out 4; have hfz5_5 := blk_frozen BK233.out 5; have hfz5_6 := blk_frozen BK233.out 6; have hfz5_7 := blk_frozen BK233.out 7; have hfz5_8 := blk_frozen BK233.out 8; have hfz5_9 := blk_frozen BK233.out 9; have hfz5_10 := blk_frozen BK233.out 10))
  repeat (go_quiet (first | (go_at_call 116; (with_reducible refine (lookasideref03_bit.calls k a0_8 63 t234 _ A2.out).mono ?_); rintro e w' ⟨rfl, ⟨nd, rfl⟩⟩; (try first | exact ⟨rfl, _, World.drewN_drewN _ _ _⟩ | exact ⟨rfl, _, Eq.trans (World.drewN_drewN _ _ _) (congrArg (World.drewN _) (Nat.add_assoc _ _ _))⟩)) | (go_at_call 117; (with_reducible refine (lookasideref02_Tag.calls a0_2 t235 _ A3.out).mono ?_); rintro e w' ⟨rfl, ⟨nd, rfl⟩⟩; (try first | exact ⟨rfl, _, World.drewN_drewN _ _ _⟩ | exact ⟨rfl, _, Eq.trans (World.drewN_drewN _ _ _) (congrArg (World.drewN _) (Nat.add_assoc _ _ _))⟩))); try go_wp2_with (fail))
  go_ret
  exact ⟨by first | rfl | (simp [errW_none, errW_some] <;> rfl) | (simp [*, errW_none, errW_some] <;> rfl), by repeat (first | (with_reducible first | exact HB.out | apply below_alloc | apply pw_below_drewN | apply below_drew1 | refine below_set ?_ GE233.out) | exact HB.out)⟩
/-! ### lookasideref03_Data: function 95 -/
def lookasideref03_Data.f (k : Nat) (a0_0 : Int) (a0_1 : Int) (a0_2 : Int) (a0_3 : Int) (a0_4 : Bool) (a0_5 : Bool) (a0_6 : Bool) (a0_7 : Bool) (a0_8 : Bool) (a0_9 : Bool) (a0_10 : Bool) : Option (Int) := (lookasideref03_bit.f k true 63).bind fun t267 => ((lookasideref03_bit.f k true 61).bind fun t268 => ((lookasideref03_bit.f k a0_9 60).bind fun t269 => ((lookasideref03_bit.f k a0_7 6).bind fun t270 => ((lookasideref03_bit.f k a0_6 3).bind fun t271 => ((lookasideref03_bit.f k a0_5 2).bind fun t272 => ((lookasideref03_bit.f k a0_4 1).bind fun t273 => ((lookasideref03_bit.f k a0_8 0).bind fun t274 => (some (IntKind.u64.wrap ((IntKind.u64.wrap ((IntKind.u64.wrap ((IntKind.u64.wrap ((IntKind.u64.wrap ((IntKind.u64.wrap ((IntKind.u64.wrap ((IntKind.u64.wrap (t267 + (IntKind.u64.wrap ((IntKind.u64.wrap (a0_0)) * t268)))) + t269)) + a0_3)) + t270)) + t271)) + t272)) + t273)) + t274))))))))))
set_option maxHeartbeats 8000000 in
set_option maxRecDepth 100000 in
theorem lookasideref03_Data.calls (k : Nat) (a0_0 : Int) (a0_1 : Int) (a0_2 : Int) (a0_3 : Int) (a0_4 : Bool) (a0_5 : Bool) (a0_6 : Bool) (a0_7 : Bool) (a0_8 : Bool) (a0_9 : Bool) (a0_10 : Bool) (r : Int) (w : World) (h : lookasideref03_Data.f k a0_0 a0_1 a0_2 a0_3 a0_4 a0_5 a0_6 a0_7 a0_8 a0_9 a0_10 = some r) :
    Calls Tryz.prog 95 #[.agg #[.int .i64 a0_0, .int .i64 a0_1, .int .u64 a0_2, .int .u64 a0_3, .bool a0_4, .bool a0_5, .bool a0_6, .bool a0_7, .bool a0_8, .bool a0_9, .bool a0_10]] w fun e w' => e = .returned (.int .u64 r) ∧ Below w.heap.size w w' := by
  have hu41 := Tryz.underlying41
  have hu39 := Tryz.underlying39
  have HB := Aside0.mk (Below.refl w.heap.size w)
  have H : ((lookasideref03_bit.f k true 63).bind fun t267 => ((lookasideref03_bit.f k true 61).bind fun t268 => ((lookasideref03_bit.f k a0_9 60).bind fun t269 => ((lookasideref03_bit.f k a0_7 6).bind fun t270 => ((lookasideref03_bit.f k a0_6 3).bind fun t271 => ((lookasideref03_bit.f k a0_5 2).bind fun t272 => ((lookasideref03_bit.f k a0_4 1).bind fun t273 => ((lookasideref03_bit.f k a0_8 0).bind fun t274 => (some (IntKind.u64.wrap ((IntKind.u64.wrap ((IntKind.u64.wrap ((IntKind.u64.wrap ((IntKind.u64.wrap ((IntKind.u64.wrap ((IntKind.u64.wrap ((IntKind.u64.wrap (t267 + (IntKind.u64.wrap ((IntKind.u64.wrap (a0_0)) * t268)))) + t269)) + a0_3)) + t270)) + t271)) + t272)) + t273)) + t274))))))))))) = some r := h
  clear h
  replace H := Option.bind_eq_some_iff.mp H
  obtain ⟨t267, A20, H⟩ := H
  replace H : ((lookasideref03_bit.f k true 61).bind fun t268 => ((lookasideref03_bit.f k a0_9 60).bind fun t269 => ((lookasideref03_bit.f k a0_7 6).bind fun t270 => ((lookasideref03_bit.f k a0_6 3).bind fun t271 => ((lookasideref03_bit.f k a0_5 2).bind fun t272 => ((lookasideref03_bit.f k a0_4 1).bind fun t273 => ((lookasideref03_bit.f k a0_8 0).bind fun t274 => (some (IntKind.u64.wrap ((IntKind.u64.wrap ((IntKind.u64.wrap ((IntKind.u64.wrap ((IntKind.u64.wrap ((IntKind.u64.wrap ((IntKind.u64.wrap ((IntKind.u64.wrap (t267 + (IntKind.u64.wrap ((IntKind.u64.wrap (a0_0)) * t268)))) + t269)) + a0_3)) + t270)) + t271)) + t272)) + t273)) + t274)))))))))) = some r := H
  have A2 := Aside0.mk A20
  clear A20
  replace H := Option.bind_eq_some_iff.mp H
  obtain ⟨t268, A30, H⟩ := H
  replace H : ((lookasideref03_bit.f k a0_9 60).bind fun t269 => ((lookasideref03_bit.f k a0_7 6).bind fun t270 => ((lookasideref03_bit.f k a0_6 3).bind fun t271 => ((lookasideref03_bit.f k a0_5 2).bind fun t272 => ((lookasideref03_bit.f k a0_4 1).bind fun t273 => ((lookasideref03_bit.f k a0_8 0).bind fun t274 => (some (IntKind.u64.wrap ((IntKind.u64.wrap ((IntKind.u64.wrap ((IntKind.u64.wrap ((IntKind.u64.wrap ((IntKind.u64.wrap ((IntKind.u64.wrap ((IntKind.u64.wrap (t267 + (IntKind.u64.wrap ((IntKind.u64.wrap (a0_0)) * t268)))) + t269)) + a0_3)) + t270)) + t271)) + t272)) + t273)) + t274))))))))) = some r := H
  have A3 := Aside0.mk A30
  clear A30
  replace H := Option.bind_eq_some_iff.mp H
  obtain ⟨t269, A40, H⟩ := H
  replace H : ((lookasideref03_bit.f k a0_7 6).bind fun t270 => ((lookasideref03_bit.f k a0_6 3).bind fun t271 => ((lookasideref03_bit.f k a0_5 2).bind fun t272 => ((lookasideref03_bit.f k a0_4 1).bind fun t273 => ((lookasideref03_bit.f k a0_8 0).bind fun t274 => (some (IntKind.u64.wrap ((IntKind.u64.wrap ((IntKind.u64.wrap ((IntKind.u64.wrap ((IntKind.u64.wrap ((IntKind.u64.wrap ((IntKind.u64.wrap ((IntKind.u64.wrap (t267 + (IntKind.u64.wrap ((IntKind.u64.wrap (a0_0)) * t268)))) + t269)) + a0_3)) + t270)) + t271)) + t272)) + t273)) + t274)))))))) = some r := H
  have A4 := Aside0.mk A40
  clear A40
  replace H := Option.bind_eq_some_iff.mp H
  obtain ⟨t270, A50, H⟩ := H
  replace H : ((lookasideref03_bit.f k a0_6 3).bind fun t271 => ((lookasideref03_bit.f k a0_5 2).bind fun t272 => ((lookasideref03_bit.f k a0_4 1).bind fun t273 => ((lookasideref03_bit.f k a0_8 0).bind fun t274 => (some (IntKind.u64.wrap ((IntKind.u64.wrap ((IntKind.u64.wrap ((IntKind.u64.wrap ((IntKind.u64.wrap ((IntKind.u64.wrap ((IntKind.u64.wrap ((IntKind.u64.wrap (t267 + (IntKind.u64.wrap ((IntKind.u64.wrap (a0_0)) * t268)))) + t269)) + a0_3)) + t270)) + t271)) + t272)) + t273)) + t274))))))) = some r := H
  have A5 := Aside0.mk A50
  clear A50
  replace H := Option.bind_eq_some_iff.mp H
  obtain ⟨t271, A60, H⟩ := H
  replace H : ((lookasideref03_bit.f k a0_5 2).bind fun t272 => ((lookasideref03_bit.f k a0_4 1).bind fun t273 => ((lookasideref03_bit.f k a0_8 0).bind fun t274 => (some (IntKind.u64.wrap ((IntKind.u64.wrap ((IntKind.u64.wrap ((IntKind.u64.wrap ((IntKind.u64.wrap ((IntKind.u64.wrap ((IntKind.u64.wrap ((IntKind.u64.wrap (t267 + (IntKind.u64.wrap ((IntKind.u64.wrap (a0_0)) * t268)))) + t269)) + a0_3)) + t270)) + t271)) + t272)) + t273)) + t274)))))) = some r := H
  have A6 := Aside0.mk A60
  clear A60
  replace H := Option.bind_eq_some_iff.mp H
  obtain ⟨t272, A70, H⟩ := H
  replace H : ((lookasideref03_bit.f k a0_4 1).bind fun t273 => ((lookasideref03_bit.f k a0_8 0).bind fun t274 => (some (IntKind.u64.wrap ((IntKind.u64.wrap ((IntKind.u64.wrap ((IntKind.u64.wrap ((IntKind.u64.wrap ((IntKind.u64.wrap ((IntKind.u64.wrap ((IntKind.u64.wrap (t267 + (IntKind.u64.wrap ((IntKind.u64.wrap (a0_0)) * t268)))) + t269)) + a0_3)) + t270)) + t271)) + t272)) + t273)) + t274))))) = some r := H
  have A7 := Aside0.mk A70
  clear A70
  replace H := Option.bind_eq_some_iff.mp H
  obtain ⟨t273, A80, H⟩ := H
  replace H : ((lookasideref03_bit.f k a0_8 0).bind fun t274 => (some (IntKind.u64.wrap ((IntKind.u64.wrap ((IntKind.u64.wrap ((IntKind.u64.wrap ((IntKind.u64.wrap ((IntKind.u64.wrap ((IntKind.u64.wrap ((IntKind.u64.wrap (t267 + (IntKind.u64.wrap ((IntKind.u64.wrap (a0_0)) * t268)))) + t269)) + a0_3)) + t270)) + t271)) + t272)) + t273)) + t274)))) = some r := H
  have A8 := Aside0.mk A80
  clear A80
  replace H := Option.bind_eq_some_iff.mp H
  obtain ⟨t274, A90, H⟩ := H
  replace H : (some (IntKind.u64.wrap ((IntKind.u64.wrap ((IntKind.u64.wrap ((IntKind.u64.wrap ((IntKind.u64.wrap ((IntKind.u64.wrap ((IntKind.u64.wrap ((IntKind.u64.wrap (t267 + (IntKind.u64.wrap ((IntKind.u64.wrap (a0_0)) * t268)))) + t269)) + a0_3)) + t270)) + t271)) + t272)) + t273)) + t274))) = some r := H
  have A9 := Aside0.mk A90
  clear A90
  obtain rfl := Option.some.inj H
  go_enter Tryz.func95, Tryz.ntmps95
  go_wp2_with (first | ((with_reducible refine gate_dst (N := 1) rfl ?_); refine box_event ?hg (N := 1) ?hd (cs := #[.int .i64 a0_0, .int .i64 a0_1, .int .u64 a0_2, .int .u64 a0_3, .bool a0_4, .bool a0_5, .bool a0_6, .bool a0_7, .bool a0_8, .bool a0_9, .bool a0_10]) (t := 41) ?hr ?_; (case hd => rfl); (case hg => rfl); (case hr => first | (go_simp; done) | (go_simp; rfl)); intro gb265 hg w10 hbox hb; have n0_ := Aside0.mk (below_step (by repeat (first | (with_reducible first | exact HB.out | apply below_alloc | apply pw_below_drewN | apply below_drew1) | exact HB.out)) hb); have n1_ := Aside0.mk (hbox); have n2_ := Aside0.mk ((by rw [hg]; exact (below_size (by repeat (first | (with_reducible first | exact HB.out | apply below_alloc | apply pw_below_drewN | apply below_drew1) | exact HB.out))) : w.heap.size ≤ gb265)); have n3_ := Aside0.mk ((by rw [hg]; exact (below_size (by repeat (first | (with_reducible first | exact HB.out | apply below_alloc | apply pw_below_drewN | apply below_drew1) | exact HB.out))) : w.heap.size ≤ gb265)); clear HB; have HB := n0_; have BK265 := n1_; have GW265 := n2_; have GE265 := n3_; clear n0_ n1_ n2_ n3_; clear hb hbox hg; obtain ⟨hcz11_0, hcz11_1, hcz11_2, hcz11_3, hcz11_4, hcz11_5, hcz11_6, hcz11_7, hcz11_8, hcz11_9, hcz11_10⟩ := cy11_25 BK265.out; have hfz11_0 := blk_frozen BK265.out 0; have hfz11_1 := blk_frozen BK265.out 1; have hfz11_2 := blk_frozen BK265.out 2; have hfz11_3 := blk_frozen BK265.out 3; have hfz11_4 := blk_frozen BK265.out 4; have hfz11_5 := blk_frozen BK265.out 5; have hfz11_6 := blk_frozen BK265.out 6; have hfz11_7 := blk_frozen BK265.out 7; have hfz11_8 := blk_frozen BK265.out 8; have hfz11_9 := blk_frozen BK265.out 9; have hfz11_10 := blk_frozen BK265.out 10) | ((with_reducible refine gate_dst (N := 3) rfl ?_); refine box_event ?hg (N := 3) ?hd (cs := #[.bool false, .bool false, .bool false, .bool false, .bool false, .bool false]) (t := 39) ?hr ?_; (case hd => rfl); (case hg => rfl); (case hr => first | (go_simp; done) | (go_simp; rfl)); intro gb266 hg w12 hbox hb; have n0_ := Aside0.mk (bb25_ hb BK265.out); have n1_ := Aside0.mk (below_step (by repeat (first | (with_reducible first | exact HB.out | apply below_alloc | apply pw_below_drewN | apply below_drew1 | refine below_set ?_ GE265.out) | exact HB.out)) hb); have n2_ := Aside0.mk (hbox); have n3_ := Aside0.mk ((by rw [hg]; exact (below_size (by repeat (first | (with_reducible first | exact HB.out | apply below_alloc | apply pw_below_drewN | apply below_drew1 | refine below_set ?_ GE265.out) | exact HB.out))) : w.heap.size ≤ gb266)); have n4_ := Aside0.mk ((by rw [hg]; exact (below_size (by repeat (first | (with_reducible first | exact HB.out | apply below_alloc | apply pw_below_drewN | apply below_drew1 | refine below_set ?_ GE265.out) | exact HB.out))) : w.heap.size ≤ gb266)); have n5_ := Aside0.mk ((by rw [hg]; exact Nat.ne_of_lt (blk_lt BK265.out) : gb265 ≠ gb266)); have n6_ := Aside0.mk ((by rw [hg]; exact Nat.ne_of_gt (blk_lt BK265.out) : gb266 ≠ gb265)); clear BK265; clear HB; have BK265 := n0_; have HB := n1_; have BK266 := n2_; have GW266 := n3_; have GE266 := n4_; have NB265_266 := n5_; have NB266_265 := n6_; clear n0_ n1_ n2_ n3_ n4_ n5_ n6_; clear hb hbox hg; have hnb13 := NB266_265.out; have hnc13 := NB265_266.out; obtain ⟨hcz14_0, hcz14_1, hcz14_2, hcz14_3, hcz14_4, hcz14_5⟩ := cy6_25 BK266.out; have hfz14_0 := blk_frozen BK266.out 0; have hfz14_1 := blk_frozen BK266.out 1; have hfz14_2 := blk_frozen BK266.out 2; have hfz14_3 := blk_frozen BK266.out 3; have hfz14_4 := blk_frozen BK266.out 4; have hfz14_5 := blk_frozen BK266.out 5))
  repeat (go_quiet (first | (go_at_call 116; (with_reducible refine (lookasideref03_bit.calls k true 63 t267 _ A2.out).mono ?_); rintro e w' ⟨rfl, ⟨nd, rfl⟩⟩; (try first | exact ⟨rfl, _, World.drewN_drewN _ _ _⟩ | exact ⟨rfl, _, Eq.trans (World.drewN_drewN _ _ _) (congrArg (World.drewN _) (Nat.add_assoc _ _ _))⟩); obtain ⟨hcz15_0, hcz15_1, hcz15_2, hcz15_3, hcz15_4, hcz15_5, hcz15_6, hcz15_7, hcz15_8, hcz15_9, hcz15_10⟩ := cy11_25 BK265.out; have hfz15_0 := blk_frozen BK265.out 0; have hfz15_1 := blk_frozen BK265.out 1; have hfz15_2 := blk_frozen BK265.out 2; have hfz15_3 := blk_frozen BK265.out 3; have hfz15_4 := blk_frozen BK265.out 4; have hfz15_5 := blk_frozen BK265.out 5; have hfz15_6 := blk_frozen BK265.out 6; have hfz15_7 := blk_frozen BK265.out 7; have hfz15_8 := blk_frozen BK265.out 8; have hfz15_9 := blk_frozen BK265.out 9; have hfz15_10 := blk_frozen BK265.out 10) | (go_at_call 116; (with_reducible refine (lookasideref03_bit.calls k true 61 t268 _ A3.out).mono ?_); rintro e w' ⟨rfl, ⟨nd, rfl⟩⟩; (try first | exact ⟨rfl, _, World.drewN_drewN _ _ _⟩ | exact ⟨rfl, _, Eq.trans (World.drewN_drewN _ _ _) (congrArg (World.drewN _) (Nat.add_assoc _ _ _))⟩)) | (go_at_call 116; (with_reducible refine (lookasideref03_bit.calls k a0_9 60 t269 _ A4.out).mono ?_); rintro e w' ⟨rfl, ⟨nd, rfl⟩⟩; (try first | exact ⟨rfl, _, World.drewN_drewN _ _ _⟩ | exact ⟨rfl, _, Eq.trans (World.drewN_drewN _ _ _) (congrArg (World.drewN _) (Nat.add_assoc _ _ _))⟩)) | (go_at_call 116; (with_reducible refine (lookasideref03_bit.calls k a0_7 6 t270 _ A5.out).mono ?_); rintro e w' ⟨rfl, ⟨nd, rfl⟩⟩; (try first | exact ⟨rfl, _, World.drewN_drewN _ _ _⟩ | exact ⟨rfl, _, Eq.trans (World.drewN_drewN _ _ _) (congrArg (World.drewN _) (Nat.add_assoc _ _ _))⟩)) | (go_at_call 116; (with_reducible refine (lookasideref03_bit.calls k a0_6 3 t271 _ A6.out).mono ?_); rintro e w' ⟨rfl, ⟨nd, rfl⟩⟩; (try first | exact ⟨rfl, _, World.drewN_drewN _ _ _⟩ | exact ⟨rfl, _, Eq.trans (World.drewN_drewN _ _ _) (congrArg (World.drewN _) (Nat.add_assoc _ _ _))⟩)) | (go_at_call 116; (with_reducible refine (lookasideref03_bit.calls k a0_5 2 t272 _ A7.out).mono ?_); rintro e w' ⟨rfl, ⟨nd, rfl⟩⟩; (try first | exact ⟨rfl, _, World.drewN_drewN _ _ _⟩ | exact ⟨rfl, _, Eq.trans (World.drewN_drewN _ _ _) (congrArg (World.drewN _) (Nat.add_assoc _ _ _))⟩)) | (go_at_call 116; (with_reducible refine (lookasideref03_bit.calls k a0_4 1 t273 _ A8.out).mono ?_); rintro e w' ⟨rfl, ⟨nd, rfl⟩⟩; (try first | exact ⟨rfl, _, World.drewN_drewN _ _ _⟩ | exact ⟨rfl, _, Eq.trans (World.drewN_drewN _ _ _) (congrArg (World.drewN _) (Nat.add_assoc _ _ _))⟩)) | (go_at_call 116; (with_reducible refine (lookasideref03_bit.calls k a0_8 0 t274 _ A9.out).mono ?_); rintro e w' ⟨rfl, ⟨nd, rfl⟩⟩; (try first | exact ⟨rfl, _, World.drewN_drewN _ _ _⟩ | exact ⟨rfl, _, Eq.trans (World.drewN_drewN _ _ _) (congrArg (World.drewN _) (Nat.add_assoc _ _ _))⟩))); try go_wp2_with (fail))
  go_ret
  exact ⟨by first | rfl | (simp [errW_none, errW_some] <;> rfl) | (simp [*, errW_none, errW_some] <;> rfl), by repeat (first | (with_reducible first | exact HB.out | apply below_alloc | apply pw_below_drewN | apply below_drew1 | refine below_set ?_ GE265.out | refine below_set ?_ GE266.out) | exact HB.out)⟩
/-! ### lookasideref10_put: function 94 -/
def lookasideref10_put.l0 : Nat → List (S141) → Int → Int → Int → List (S141) → Int → Int → Int → Option (Int × Int × (List (S141)))
  | 0, _, _, _, _, _, _, _, _ => none
  | k + 1, x5, x6, x237000, x237001, x237002, x238000, x238001, x238002 => if x6 < (x237002.length : Int) then (if 0 ≤ x6 then (if ((rd_T141 x237002 x6).f0) = x238000 then (lookasideref10_put.l0 k x5 (wrap64 (x6 + 1)) x237000 x237001 x237002 x238000 x238001 x238002) else (if x5.length < 5864062014805 then (lookasideref10_put.l0 k (x5 ++ [(⟨(rd_T141 x237002 x6).f0, (rd_T141 x237002 x6).f1, (rd_T141 x237002 x6).f2⟩ : S141)]) (wrap64 (x6 + 1)) x237000 x237001 x237002 x238000 x238001 x238002) else (none))) else (none)) else ((lookasideref10_Bad.f).bind fun t244 => (if x238001 = t244 then (if x238002 = 0 then (some (x237000, x237001, x5)) else (if x5.length < 5864062014805 then (some (x237000, x237001, (x5 ++ [(⟨x238000, x238001, x238002⟩ : S141)]))) else (none))) else (if x5.length < 5864062014805 then (some (x237000, x237001, (x5 ++ [(⟨x238000, x238001, x238002⟩ : S141)]))) else (none))))
def lookasideref10_put.f (k : Nat) (a0_0 : Int) (a0_1 : Int) (l0_2 : List (S141)) (a1_0 : Int) (a1_1 : Int) (a1_2 : Int) : Option (Int × Int × (List (S141))) := lookasideref10_put.l0 k ([] : List (S141)) 0 a0_0 a0_1 l0_2 a1_0 a1_1 a1_2
set_option maxHeartbeats 8000000 in
set_option maxRecDepth 100000 in
theorem lookasideref10_put.calls (k : Nat) (a0_0 : Int) (a0_1 : Int) (A0_2 : Option Addr) (c0_2 : Nat) (l0_2 : List (S141)) (a1_0 : Int) (a1_1 : Int) (a1_2 : Int) (r1 : Int) (r2 : Int) (r3 : List (S141)) (w : World) (hr0_2 : Kd.C k141 w A0_2 l0_2.length l0_2) (hc0_2 : l0_2.length ≤ c0_2) (h : lookasideref10_put.f k a0_0 a0_1 l0_2 a1_0 a1_1 a1_2 = some (r1, r2, r3)) :
    Calls Tryz.prog 94 #[.agg #[.int .i64 a0_0, .int .i64 a0_1, .slice A0_2 l0_2.length c0_2], .agg #[.int .i64 a1_0, .int .u64 a1_1, .int .u64 a1_2]] w fun e w' => ∃ v2_ : Value, e = .returned (.agg #[.int .i64 r1, .int .i64 r2, v2_]) ∧ Kd.R k141 141 w' w.heap.size (fun _ => True) v2_ r3 ∧ Below w.heap.size w w' := by
  have hu64 := Tryz.underlying64
  have hu141 := Tryz.underlying141
  have HR0_2 := Aside0.mk hr0_2
  have HC0_2 := Aside0.mk hc0_2
  clear hr0_2 hc0_2
  have HB := Aside0.mk (Below.refl w.heap.size w)
  have H : (lookasideref10_put.l0 k ([] : List (S141)) 0 a0_0 a0_1 l0_2 a1_0 a1_1 a1_2) = some (r1, r2, r3) := h
  clear h
  have H' := Aside0.mk H
  clear H
  go_enter Tryz.func94, Tryz.ntmps94
  go_wp2_with (first | ((with_reducible refine gate_dst (N := 2) rfl ?_); refine box_event ?hg (N := 2) ?hd (cs := #[.int .i64 a0_0, .int .i64 a0_1, .slice A0_2 l0_2.length c0_2]) (t := 64) ?hr ?_; (case hd => rfl); (case hg => rfl); (case hr => first | (go_simp; done) | (go_simp; rfl)); intro gb236 hg w3 hbox hb; have n0_ := Aside0.mk (below_step (by repeat (first | (with_reducible first | exact HB.out | apply below_alloc | apply pw_below_drewN | apply below_drew1) | exact HB.out)) hb); have n1_ := Aside0.mk (hbox); have n2_ := Aside0.mk ((by rw [hg]; exact (below_size (by repeat (first | (with_reducible first | exact HB.out | apply below_alloc | apply pw_below_drewN | apply below_drew1) | exact HB.out))) : w.heap.size ≤ gb236)); have n3_ := Aside0.mk ((by rw [hg]; exact (below_size (by repeat (first | (with_reducible first | exact HB.out | apply below_alloc | apply pw_below_drewN | apply below_drew1) | exact HB.out))) : w.heap.size ≤ gb236)); clear HB; have HB := n0_; have BK236 := n1_; have GW236 := n2_; have GE236 := n3_; clear n0_ n1_ n2_ n3_; clear hb hbox hg) | ((with_reducible refine gate_dst (N := 3) rfl ?_); refine box_event ?hg (N := 3) ?hd (cs := #[.int .i64 a1_0, .int .u64 a1_1, .int .u64 a1_2]) (t := 141) ?hr ?_; (case hd => rfl); (case hg => rfl); (case hr => first | (go_simp; done) | (go_simp; rfl)); intro gb237 hg w4 hbox hb; have n0_ := Aside0.mk (bb25_ hb BK236.out); have n1_ := Aside0.mk (below_step (by repeat (first | (with_reducible first | exact HB.out | apply below_alloc | apply pw_below_drewN | apply below_drew1 | refine below_set ?_ GE236.out) | exact HB.out)) hb); have n2_ := Aside0.mk (hbox); have n3_ := Aside0.mk ((by rw [hg]; exact (below_size (by repeat (first | (with_reducible first | exact HB.out | apply below_alloc | apply pw_below_drewN | apply below_drew1 | refine below_set ?_ GE236.out) | exact HB.out))) : w.heap.size ≤ gb237)); have n4_ := Aside0.mk ((by rw [hg]; exact (below_size (by repeat (first | (with_reducible first | exact HB.out | apply below_alloc | apply pw_below_drewN | apply below_drew1 | refine below_set ?_ GE236.out) | exact HB.out))) : w.heap.size ≤ gb237)); have n5_ := Aside0.mk ((by rw [hg]; exact Nat.ne_of_lt (blk_lt BK236.out) : gb236 ≠ gb237)); have n6_ := Aside0.mk ((by rw [hg]; exact Nat.ne_of_gt (blk_lt BK236.out) : gb237 ≠ gb236)); clear BK236; clear HB; have BK236 := n0_; have HB := n1_; have BK237 := n2_; have GW237 := n3_; have GE237 := n4_; have NB236_237 := n5_; have NB237_236 := n6_; clear n0_ n1_ n2_ n3_ n4_ n5_ n6_; clear hb hbox hg) | ((with_reducible refine gate_dst (N := 4) rfl ?_); refine box_event ?hg (N := 4) ?hd (cs := #[.int .i64 0, .int .i64 0, .slice none 0 0]) (t := 64) ?hr ?_; (case hd => rfl); (case hg => rfl); (case hr => first | (go_simp; done) | (go_simp; rfl)); intro gb238 hg w5 hbox hb; have n0_ := Aside0.mk (bb25_ hb BK236.out); have n1_ := Aside0.mk (bb25_ hb BK237.out); have n2_ := Aside0.mk (below_step (by repeat (first | (with_reducible first | exact HB.out | apply below_alloc | apply pw_below_drewN | apply below_drew1 | refine below_set ?_ GE236.out | refine below_set ?_ GE237.out) | exact HB.out)) hb); have n3_ := Aside0.mk (hbox); have n4_ := Aside0.mk ((by rw [hg]; exact (below_size (by repeat (first | (with_reducible first | exact HB.out | apply below_alloc | apply pw_below_drewN | apply below_drew1 | refine below_set ?_ GE236.out | refine below_set ?_ GE237.out) | exact HB.out))) : w.heap.size ≤ gb238)); have n5_ := Aside0.mk ((by rw [hg]; exact (below_size (by repeat (first | (with_reducible first | exact HB.out | apply below_alloc | apply pw_below_drewN | apply below_drew1 | refine below_set ?_ GE236.out | refine below_set ?_ GE237.out) | exact HB.out))) : w.heap.size ≤ gb238)); have n6_ := Aside0.mk ((by rw [hg]; exact Nat.ne_of_lt (blk_lt BK236.out) : gb236 ≠ gb238)); have n7_ := Aside0.mk ((by rw [hg]; exact Nat.ne_of_gt (blk_lt BK236.out) : gb238 ≠ gb236)); have n8_ := Aside0.mk ((by rw [hg]; exact Nat.ne_of_lt (blk_lt BK237.out) : gb237 ≠ gb238)); have n9_ := Aside0.mk ((by rw [hg]; exact Nat.ne_of_gt (blk_lt BK237.out) : gb238 ≠ gb237)); clear BK236; clear BK237; clear HB; have BK236 := n0_; have BK237 := n1_; have HB := n2_; have BK238 := n3_; have GW238 := n4_; have GE238 := n5_; have NB236_238 := n6_; have NB238_236 := n7_; have NB237_238 := n8_; have NB238_237 := n9_; clear n0_ n1_ n2_ n3_ n4_ n5_ n6_ n7_ n8_ n9_; clear hb hbox hg))
  repeat (go_quiet (fail); try go_wp2_with (fail))
  go_loopg [5, 6] k (fun kq v5 v6 w' => ∃ (x5_1 : List (S141)) (x6_1 : Int), v6 = .int .i64 x6_1 ∧ Aside0 (lookasideref10_put.l0 kq x5_1 x6_1 a0_0 a0_1 l0_2 a1_0 a1_1 a1_2 = some (r1, r2, r3)) ∧ Aside0 (kq ≤ k) ∧ Aside0 (Kd.R k141 141 w' w.heap.size (fun k_ => k_ ≠ gb237) v5 x5_1) ∧ Aside0 (w'.heap[gb236]? = some (.cells #[.int .i64 a0_0, .int .i64 a0_1, (.slice A0_2 l0_2.length c0_2)] 64 (0, 0))) ∧ Aside0 (w'.heap[gb237]? = some (.cells #[.int .i64 a1_0, .int .u64 a1_1, .int .u64 a1_2] 141 (0, 0))) ∧ Aside0 (w'.heap[gb238]? = some (.cells #[.int .i64 0, .int .i64 0, (.slice none 0 0)] 64 (0, 0))) ∧ Aside0 (Below w.heap.size w w'))
  case atStart => exact ⟨(([] : List (S141))), (0), (by first | rfl | (simp; done) | (simp [*]; done)), H', ⟨Nat.le_refl _⟩, ⟨by first | exact Kd.R_nil _ _ _ _ _ | exact Kd.N_nil _ _ _ _ _ | exact Kd.V_nil _ _ _ _ _ | exact Kd.Q_nil _ _ _ _ _ | exact Kd.S_nil _ _ _ _ _⟩, ⟨by (with_reducible repeat (first | refine blk_drewN ?_ _ | refine blk_drew ?_ | refine blk_alloc ?_ _)); exact BK236.out⟩, ⟨by (with_reducible repeat (first | refine blk_drewN ?_ _ | refine blk_drew ?_ | refine blk_alloc ?_ _)); exact BK237.out⟩, ⟨by (with_reducible repeat (first | refine blk_drewN ?_ _ | refine blk_drew ?_ | refine blk_alloc ?_ _)); exact BK238.out⟩, ⟨by repeat (first | (with_reducible first | exact HB.out | apply below_alloc | apply pw_below_drewN | apply below_drew1 | refine below_set ?_ GE236.out | refine below_set ?_ GE237.out | refine below_set ?_ GE238.out) | exact HB.out)⟩⟩
  case round =>
    clear H'
    try clear p2
    obtain ⟨x5_1, x6_1, rfl, HA, HK1, HO_5, BK236, BK237, BK238, HB⟩ := hrel
    cases gk with
    | zero => exact absurd HA.out (by simp [lookasideref10_put.l0])
    | succ k1 =>
      have H := HA.out
      clear HA
      simp only [lookasideref10_put.l0] at H
      by_cases c6 : x6_1 < (l0_2.length : Int)
      · rw [if_pos c6] at H
        have c6b0 : decide (x6_1 < (l0_2.length : Int)) = true := decide_eq_true c6
        clear c6
        by_cases c7 : 0 ≤ x6_1
        · rw [if_pos c7] at H
          have c7b0 : decide (0 ≤ x6_1) = true := decide_eq_true c7
          clear c7
          by_cases c8 : ((rd_T141 l0_2 x6_1).f0) = a1_0
          · rw [if_pos c8] at H
            have c8b0 : (((rd_T141 l0_2 x6_1).f0) == a1_0) = true := beq_iff_eq.mpr c8
            have c8b1 : (((rd_T141 l0_2 x6_1).f0) != a1_0) = false := bne_eq_false_iff_eq.mpr c8
            clear c8
            have H' := Aside0.mk H
            clear H
            have hnb9 := NB236_237.out
            have hnc9 := NB237_236.out
            have hnb10 := NB236_238.out
            have hnc10 := NB238_236.out
            obtain ⟨hcz11_0, hcz11_1, hcz11_2⟩ := cy3_25 BK236.out
            have hfz11_0 := blk_frozen BK236.out 0
            have hfz11_1 := blk_frozen BK236.out 1
            have hfz11_2 := blk_frozen BK236.out 2
            have p239 : 0 ≤ (x6_1 : Int) := of_decide_eq_true (by first | (with_reducible assumption) | assumption)
            have q239 : x6_1 < (l0_2.length : Int) := of_decide_eq_true (by first | (with_reducible assumption) | assumption)
            obtain ⟨ad239, e239, hx239_0, hx239_1, hx239_2⟩ := at_T141 HR0_2.out x6_1 p239 q239
            cases e239
            replace hx239_0 := (HB.out.cell (World.block_lt_of_cell? w _ hx239_0)).trans hx239_0
            replace hx239_1 := (HB.out.cell (World.block_lt_of_cell? w _ hx239_1)).trans hx239_1
            replace hx239_2 := (HB.out.cell (World.block_lt_of_cell? w _ hx239_2)).trans hx239_2
            replace p239 := eq_true p239
            replace q239 := eq_true q239
            have hnb12 := NB237_238.out
            have hnc12 := NB238_237.out
            obtain ⟨hcz13_0, hcz13_1, hcz13_2⟩ := cy3_25 BK237.out
            have hfz13_0 := blk_frozen BK237.out 0
            have hfz13_1 := blk_frozen BK237.out 1
            have hfz13_2 := blk_frozen BK237.out 2
            go_wp2
            repeat (go_quiet (fail); try go_wp2)
            go_roundg k1
            case measure => have := HK1.out; omega
            case rel => exact ⟨(x5_1), (wrap64 (x6_1 + 1)), (by first | rfl | (simp; done) | (simp [*]; done)), H', ⟨by have := HK1.out; omega⟩, ⟨by (with_reducible repeat (first | apply Kd.R_alloc | apply Kd.R_drewN | apply Kd.R_drew)); exact HO_5.out⟩, ⟨by (with_reducible repeat (first | refine blk_drewN ?_ _ | refine blk_drew ?_ | refine blk_alloc ?_ _)); exact BK236.out⟩, ⟨by (with_reducible repeat (first | refine blk_drewN ?_ _ | refine blk_drew ?_ | refine blk_alloc ?_ _)); exact BK237.out⟩, ⟨by (with_reducible repeat (first | refine blk_drewN ?_ _ | refine blk_drew ?_ | refine blk_alloc ?_ _)); exact BK238.out⟩, ⟨by repeat (first | (with_reducible first | exact HB.out | apply below_alloc | apply pw_below_drewN | apply below_drew1 | refine below_set ?_ GE236.out | refine below_set ?_ GE237.out | refine below_set ?_ GE238.out) | exact HB.out)⟩⟩
          · rw [if_neg c8] at H
            have c8b0 : (((rd_T141 l0_2 x6_1).f0) == a1_0) = false := beq_eq_false_iff_ne.mpr c8
            have c8b1 : (((rd_T141 l0_2 x6_1).f0) != a1_0) = true := bne_iff_ne.mpr c8
            by_cases c14 : x5_1.length < 5864062014805
            · rw [if_pos c14] at H
              have LMc14 := Aside0.mk c14
              clear c14
              obtain ⟨y241, hy241⟩ : ∃ y_ : List (S141), y_ = (x5_1 ++ [(⟨(rd_T141 l0_2 x6_1).f0, (rd_T141 l0_2 x6_1).f1, (rd_T141 l0_2 x6_1).f2⟩ : S141)]) := ⟨_, rfl⟩
              replace H : (lookasideref10_put.l0 k1 y241 (wrap64 (x6_1 + 1)) a0_0 a0_1 l0_2 a1_0 a1_1 a1_2) = some (r1, r2, r3) := by first | (rw [hy241]; with_reducible exact H) | (have H2_ := (Option.bind_some _ _).symm.trans H; rw [hy241]; with_reducible exact H2_) | (have H2_ := (Option.bind_some _ _).symm.trans H; with_reducible exact H2_) | with_reducible exact H | (rw [hy241]; exact H) | exact H
              have Ny241 := Aside0.mk hy241
              clear hy241
              have H' := Aside0.mk H
              clear H
              have hnb15 := NB236_237.out
              have hnc15 := NB237_236.out
              have hnb16 := NB236_238.out
              have hnc16 := NB238_236.out
              obtain ⟨hcz17_0, hcz17_1, hcz17_2⟩ := cy3_25 BK236.out
              have hfz17_0 := blk_frozen BK236.out 0
              have hfz17_1 := blk_frozen BK236.out 1
              have hfz17_2 := blk_frozen BK236.out 2
              have p239 : 0 ≤ (x6_1 : Int) := of_decide_eq_true (by first | (with_reducible assumption) | assumption)
              have q239 : x6_1 < (l0_2.length : Int) := of_decide_eq_true (by first | (with_reducible assumption) | assumption)
              obtain ⟨ad239, e239, hx239_0, hx239_1, hx239_2⟩ := at_T141 HR0_2.out x6_1 p239 q239
              cases e239
              replace hx239_0 := (HB.out.cell (World.block_lt_of_cell? w _ hx239_0)).trans hx239_0
              replace hx239_1 := (HB.out.cell (World.block_lt_of_cell? w _ hx239_1)).trans hx239_1
              replace hx239_2 := (HB.out.cell (World.block_lt_of_cell? w _ hx239_2)).trans hx239_2
              replace p239 := eq_true p239
              replace q239 := eq_true q239
              have hnb18 := NB237_238.out
              have hnc18 := NB238_237.out
              obtain ⟨hcz19_0, hcz19_1, hcz19_2⟩ := cy3_25 BK237.out
              have hfz19_0 := blk_frozen BK237.out 0
              have hfz19_1 := blk_frozen BK237.out 1
              have hfz19_2 := blk_frozen BK237.out 2
              have p240 : 0 ≤ (x6_1 : Int) := of_decide_eq_true (by first | (with_reducible assumption) | assumption)
              have q240 : x6_1 < (l0_2.length : Int) := of_decide_eq_true (by first | (with_reducible assumption) | assumption)
              obtain ⟨ad240, e240, hx240_0, hx240_1, hx240_2⟩ := at_T141 HR0_2.out x6_1 p240 q240
              obtain rfl : ad239 = ad240 := (by injection e240)
              replace hx240_0 := (HB.out.cell (World.block_lt_of_cell? w _ hx240_0)).trans hx240_0
              replace hx240_1 := (HB.out.cell (World.block_lt_of_cell? w _ hx240_1)).trans hx240_1
              replace hx240_2 := (HB.out.cell (World.block_lt_of_cell? w _ hx240_2)).trans hx240_2
              replace p240 := eq_true p240
              replace q240 := eq_true q240
              go_wp2_with (fail)
              repeat (go_quiet (fail); try go_wp2_with (((with_reducible refine gate_builtin (b := .append) (xs := #[.tmp 23, .tmp 29]) rfl ?_); at_builtin; refine Kd.R_append k141 (w0 := w) w.heap.size rfl (.tmp 23) (.tmp 29) 62 141 (.agg #[(.int .i64 0), (.int .u64 0), (.int .u64 0)]) 24 rfl Tryz.underlying62 info141 rfl (by decide) (by omega) u5 x5_1 (⟨(rd_T141 l0_2 x6_1).f0, (rd_T141 l0_2 x6_1).f1, (rd_T141 l0_2 x6_1).f2⟩ : S141) [.int .i64 ((rd_T141 l0_2 x6_1).f0), .int .u64 ((rd_T141 l0_2 x6_1).f1), .int .u64 ((rd_T141 l0_2 x6_1).f2)] (fun k_ => k_ ≠ gb237) (fun _ => False) rfl rfl ?aP (fun _ hk => hk.elim) ?aF ?aO ?aB ?aS ?aL ?_; (case aP => exact k141_mkM _ _ _ (⟨(rd_T141 l0_2 x6_1).f0, (rd_T141 l0_2 x6_1).f1, (rd_T141 l0_2 x6_1).f2⟩ : S141)); (case aB => exact (by repeat (first | (with_reducible first | exact HB.out | apply below_alloc | apply pw_below_drewN | apply below_drew1 | refine below_set ?_ GE236.out | refine below_set ?_ GE237.out | refine below_set ?_ GE238.out) | exact HB.out))); (case aF => exact (fun k_ hk => Kd.freshB (g := gb237) (o := .cells #[.int .i64 a1_0, .int .u64 a1_1, .int .u64 a1_2] 141 (0, 0)) (by (with_reducible repeat (first | refine blk_drewN ?_ _ | refine blk_drew ?_ | refine blk_alloc ?_ _)); exact BK237.out) k_ hk)); (case aO => exact (by (with_reducible repeat (first | apply Kd.R_alloc | apply Kd.R_drewN | apply Kd.R_drew)); exact HO_5.out)); (case aS => exact (below_size (by repeat (first | (with_reducible first | exact HB.out | apply below_alloc | apply pw_below_drewN | apply below_drew1 | refine below_set ?_ GE236.out | refine below_set ?_ GE237.out | refine below_set ?_ GE238.out) | exact HB.out)))); (case aL => have := LMc14.out; omega); intro v242 w20 ho hb hg hat; rw [← Ny241.out] at ho; have n0_ := Aside0.mk (blk_grown (g := gb236) (o := .cells #[.int .i64 a0_0, .int .i64 a0_1, .slice (some ad239) l0_2.length c0_2] 64 (0, 0)) (by (with_reducible repeat (first | refine blk_drewN ?_ _ | refine blk_drew ?_ | refine blk_alloc ?_ _)); exact BK236.out) hg (Kd.R_ne HO_5.out BK236.out (by decide))); have n1_ := Aside0.mk (blk_grown (g := gb237) (o := .cells #[.int .i64 a1_0, .int .u64 a1_1, .int .u64 a1_2] 141 (0, 0)) (by (with_reducible repeat (first | refine blk_drewN ?_ _ | refine blk_drew ?_ | refine blk_alloc ?_ _)); exact BK237.out) hg (Kd.R_away HO_5.out (fun _ hk => hk))); have n2_ := Aside0.mk (blk_grown (g := gb238) (o := .cells #[.int .i64 0, .int .i64 0, .slice none 0 0] 64 (0, 0)) (by (with_reducible repeat (first | refine blk_drewN ?_ _ | refine blk_drew ?_ | refine blk_alloc ?_ _)); exact BK238.out) hg (Kd.R_ne HO_5.out BK238.out (by decide))); have n3_ := Aside0.mk (hb); have n4_ := Aside0.mk (ho); clear BK236; clear BK237; clear BK238; clear HB; clear HO_5; have BK236 := n0_; have BK237 := n1_; have BK238 := n2_; have HB := n3_; have HO243 := n4_; clear n0_ n1_ n2_ n3_ n4_; clear ho hb hg hat)))
              go_roundg k1
              case measure => have := HK1.out; omega
              case rel => exact ⟨(y241), (wrap64 (x6_1 + 1)), (by first | rfl | (simp; done) | (simp [*]; done)), H', ⟨by have := HK1.out; omega⟩, ⟨by (with_reducible repeat (first | apply Kd.R_alloc | apply Kd.R_drewN | apply Kd.R_drew)); exact HO243.out⟩, ⟨by (with_reducible repeat (first | refine blk_drewN ?_ _ | refine blk_drew ?_ | refine blk_alloc ?_ _)); exact BK236.out⟩, ⟨by (with_reducible repeat (first | refine blk_drewN ?_ _ | refine blk_drew ?_ | refine blk_alloc ?_ _)); exact BK237.out⟩, ⟨by (with_reducible repeat (first | refine blk_drewN ?_ _ | refine blk_drew ?_ | refine blk_alloc ?_ _)); exact BK238.out⟩, ⟨by repeat (first | (with_reducible first | exact HB.out | apply below_alloc | apply pw_below_drewN | apply below_drew1 | refine below_set ?_ GE236.out | refine below_set ?_ GE237.out | refine below_set ?_ GE238.out) | exact HB.out)⟩⟩
            · rw [if_neg c14] at H
              exact absurd H (by simp)
        · rw [if_neg c7] at H
          exact absurd H (by simp)
      · rw [if_neg c6] at H
        have c6b0 : decide (x6_1 < (l0_2.length : Int)) = false := decide_eq_false c6
        clear c6
        replace H := Option.bind_eq_some_iff.mp H
        obtain ⟨t244, A210, H⟩ := H
        replace H : (if a1_1 = t244 then (if a1_2 = 0 then (some (a0_0, a0_1, x5_1)) else (if x5_1.length < 5864062014805 then (some (a0_0, a0_1, (x5_1 ++ [(⟨a1_0, a1_1, a1_2⟩ : S141)]))) else (none))) else (if x5_1.length < 5864062014805 then (some (a0_0, a0_1, (x5_1 ++ [(⟨a1_0, a1_1, a1_2⟩ : S141)]))) else (none))) = some (r1, r2, r3) := H
        have A21 := Aside0.mk A210
        clear A210
        by_cases c22 : a1_1 = t244
        · rw [if_pos c22] at H
          have c22b0 : (a1_1 == t244) = true := beq_iff_eq.mpr c22
          have c22b1 : (a1_1 != t244) = false := bne_eq_false_iff_eq.mpr c22
          clear c22
          by_cases c23 : a1_2 = 0
          · rw [if_pos c23] at H
            have c23b0 : (a1_2 == 0) = true := beq_iff_eq.mpr c23
            have c23b1 : (a1_2 != 0) = false := bne_eq_false_iff_eq.mpr c23
            clear c23
            simp only [Option.some.injEq, Prod.mk.injEq] at H
            obtain ⟨rfl, rfl, rfl⟩ := H
            have hnb24 := NB236_237.out
            have hnc24 := NB237_236.out
            have hnb25 := NB236_238.out
            have hnc25 := NB238_236.out
            obtain ⟨hcz26_0, hcz26_1, hcz26_2⟩ := cy3_25 BK236.out
            have hfz26_0 := blk_frozen BK236.out 0
            have hfz26_1 := blk_frozen BK236.out 1
            have hfz26_2 := blk_frozen BK236.out 2
            have hnb27 := NB237_238.out
            have hnc27 := NB238_237.out
            obtain ⟨hcz28_0, hcz28_1, hcz28_2⟩ := cy3_25 BK237.out
            have hfz28_0 := blk_frozen BK237.out 0
            have hfz28_1 := blk_frozen BK237.out 1
            have hfz28_2 := blk_frozen BK237.out 2
            go_wp2_with (fail)
            repeat (go_quiet ((go_at_call 96; (with_reducible refine (lookasideref10_Bad.calls  t244 _ A21.out).mono ?_); rintro e w' ⟨rfl, ⟨nd, rfl⟩⟩; (try first | exact ⟨rfl, _, World.drewN_drewN _ _ _⟩ | exact ⟨rfl, _, Eq.trans (World.drewN_drewN _ _ _) (congrArg (World.drewN _) (Nat.add_assoc _ _ _))⟩); obtain ⟨Ao29, co29, eo29⟩ := Kd.R_slice HO_5.out; subst eo29; obtain ⟨hcz30_0, hcz30_1, hcz30_2⟩ := cy3_25 BK238.out; have hfz30_0 := blk_frozen BK238.out 0; have hfz30_1 := blk_frozen BK238.out 1; have hfz30_2 := blk_frozen BK238.out 2)); try go_wp2_with (fail))
            refine bodyPost_ret (results_cell_row rfl _ _ gb238 64 #[.int .i64 a0_0, .int .i64 a0_1, .slice Ao29 x5_1.length co29] (0, 0) _ rfl (by (with_reducible repeat (first | refine blk_drewN ?_ _ | refine blk_drew ?_ | refine blk_alloc ?_ _)); refine blk_put (cs := #[.int .i64 a0_0, .int .i64 a0_1, .slice none 0 0]) ?_ 2 _ rfl; refine blk_put (cs := #[.int .i64 a0_0, .int .i64 0, .slice none 0 0]) ?_ 1 _ rfl; refine blk_put (cs := #[.int .i64 0, .int .i64 0, .slice none 0 0]) ?_ 0 _ rfl; refine blk_far ?_ NB238_236.out _; (with_reducible repeat (first | refine blk_drewN ?_ _ | refine blk_drew ?_ | refine blk_alloc ?_ _)); exact BK238.out) Tryz.underlying64 rfl (by kernel_rfl)) rfl ?_
            exact ⟨_, by first | rfl | (simp [errW_none, errW_some] <;> rfl) | (simp [*, errW_none, errW_some] <;> rfl), by (with_reducible repeat (first | apply Kd.R_alloc | apply Kd.R_drewN | apply Kd.R_drew)); exact Kd.R_mono (Kd.R_far (p := ⟨gb238, 2, none⟩) (Kd.R_far (p := ⟨gb238, 1, none⟩) (Kd.R_far (p := ⟨gb238, 0, none⟩) (Kd.R_far (p := ⟨gb236, 2, none⟩) (Kd.R_types (Kd.R_types HO_5.out BK236.out (by decide)) BK238.out (by decide)) (fun _ hk => hk.1.2) (.slice Ao29 x5_1.length co29)) (fun _ hk => hk.2) (.int .i64 a0_0)) (fun _ hk => hk.2) (.int .i64 a0_1)) (fun _ hk => hk.2) (.slice Ao29 x5_1.length co29)) (fun _ hk => trivial), by repeat (first | (with_reducible first | exact HB.out | apply below_alloc | apply pw_below_drewN | apply below_drew1 | refine below_set ?_ GE236.out | refine below_set ?_ GE237.out | refine below_set ?_ GE238.out) | exact HB.out)⟩
          · rw [if_neg c23] at H
            have c23b0 : (a1_2 == 0) = false := beq_eq_false_iff_ne.mpr c23
            have c23b1 : (a1_2 != 0) = true := bne_iff_ne.mpr c23
            by_cases c31 : x5_1.length < 5864062014805
            · rw [if_pos c31] at H
              have LMc31 := Aside0.mk c31
              clear c31
              obtain ⟨y245, hy245⟩ : ∃ y_ : List (S141), y_ = (x5_1 ++ [(⟨a1_0, a1_1, a1_2⟩ : S141)]) := ⟨_, rfl⟩
              replace H : (some (a0_0, a0_1, y245)) = some (r1, r2, r3) := by first | (rw [hy245]; with_reducible exact H) | (have H2_ := (Option.bind_some _ _).symm.trans H; rw [hy245]; with_reducible exact H2_) | (have H2_ := (Option.bind_some _ _).symm.trans H; with_reducible exact H2_) | with_reducible exact H | (rw [hy245]; exact H) | exact H
              have Ny245 := Aside0.mk hy245
              clear hy245
              simp only [Option.some.injEq, Prod.mk.injEq] at H
              obtain ⟨rfl, rfl, rfl⟩ := H
              have hnb32 := NB236_237.out
              have hnc32 := NB237_236.out
              have hnb33 := NB236_238.out
              have hnc33 := NB238_236.out
              obtain ⟨hcz34_0, hcz34_1, hcz34_2⟩ := cy3_25 BK236.out
              have hfz34_0 := blk_frozen BK236.out 0
              have hfz34_1 := blk_frozen BK236.out 1
              have hfz34_2 := blk_frozen BK236.out 2
              have hnb35 := NB237_238.out
              have hnc35 := NB238_237.out
              obtain ⟨hcz36_0, hcz36_1, hcz36_2⟩ := cy3_25 BK237.out
              have hfz36_0 := blk_frozen BK237.out 0
              have hfz36_1 := blk_frozen BK237.out 1
              have hfz36_2 := blk_frozen BK237.out 2
              go_wp2_with (fail)
              repeat (go_quiet ((go_at_call 96; (with_reducible refine (lookasideref10_Bad.calls  t244 _ A21.out).mono ?_); rintro e w' ⟨rfl, ⟨nd, rfl⟩⟩; (try first | exact ⟨rfl, _, World.drewN_drewN _ _ _⟩ | exact ⟨rfl, _, Eq.trans (World.drewN_drewN _ _ _) (congrArg (World.drewN _) (Nat.add_assoc _ _ _))⟩))); try go_wp2_with (((with_reducible refine gate_builtin (b := .append) (xs := #[.tmp 40, .tmp 42]) rfl ?_); at_builtin; refine Kd.R_append k141 (w0 := w) w.heap.size rfl (.tmp 40) (.tmp 42) 62 141 (.agg #[(.int .i64 0), (.int .u64 0), (.int .u64 0)]) 24 rfl Tryz.underlying62 info141 rfl (by decide) (by omega) u5 x5_1 (⟨a1_0, a1_1, a1_2⟩ : S141) [.int .i64 a1_0, .int .u64 a1_1, .int .u64 a1_2] (fun k_ => k_ ≠ gb237) (fun _ => False) rfl rfl ?aP (fun _ hk => hk.elim) ?aF ?aO ?aB ?aS ?aL ?_; (case aP => exact k141_mkM _ _ _ (⟨a1_0, a1_1, a1_2⟩ : S141)); (case aB => exact (by repeat (first | (with_reducible first | exact HB.out | apply below_alloc | apply pw_below_drewN | apply below_drew1 | refine below_set ?_ GE236.out | refine below_set ?_ GE237.out | refine below_set ?_ GE238.out) | exact HB.out))); (case aF => exact (fun k_ hk => Kd.freshB (g := gb237) (o := .cells #[.int .i64 a1_0, .int .u64 a1_1, .int .u64 a1_2] 141 (0, 0)) (by (with_reducible repeat (first | refine blk_drewN ?_ _ | refine blk_drew ?_ | refine blk_alloc ?_ _)); exact BK237.out) k_ hk)); (case aO => exact (by (with_reducible repeat (first | apply Kd.R_alloc | apply Kd.R_drewN | apply Kd.R_drew)); exact HO_5.out)); (case aS => exact (below_size (by repeat (first | (with_reducible first | exact HB.out | apply below_alloc | apply pw_below_drewN | apply below_drew1 | refine below_set ?_ GE236.out | refine below_set ?_ GE237.out | refine below_set ?_ GE238.out) | exact HB.out)))); (case aL => have := LMc31.out; omega); intro v246 w37 ho hb hg hat; rw [← Ny245.out] at ho; have n0_ := Aside0.mk (blk_grown (g := gb236) (o := .cells #[.int .i64 a0_0, .int .i64 a0_1, .slice A0_2 l0_2.length c0_2] 64 (0, 0)) (by (with_reducible repeat (first | refine blk_drewN ?_ _ | refine blk_drew ?_ | refine blk_alloc ?_ _)); exact BK236.out) hg (Kd.R_ne HO_5.out BK236.out (by decide))); have n1_ := Aside0.mk (blk_grown (g := gb237) (o := .cells #[.int .i64 a1_0, .int .u64 a1_1, .int .u64 a1_2] 141 (0, 0)) (by (with_reducible repeat (first | refine blk_drewN ?_ _ | refine blk_drew ?_ | refine blk_alloc ?_ _)); exact BK237.out) hg (Kd.R_away HO_5.out (fun _ hk => hk))); have n2_ := Aside0.mk (blk_grown (g := gb238) (o := .cells #[.int .i64 0, .int .i64 0, .slice none 0 0] 64 (0, 0)) (by (with_reducible repeat (first | refine blk_drewN ?_ _ | refine blk_drew ?_ | refine blk_alloc ?_ _)); exact BK238.out) hg (Kd.R_ne HO_5.out BK238.out (by decide))); have n3_ := Aside0.mk (hb); have n4_ := Aside0.mk (ho); clear BK236; clear BK237; clear BK238; clear HB; clear HO_5; have BK236 := n0_; have BK237 := n1_; have BK238 := n2_; have HB := n3_; have HO247 := n4_; clear n0_ n1_ n2_ n3_ n4_; clear ho hb hg hat; obtain ⟨Ao38, co38, eo38⟩ := Kd.R_slice HO247.out; subst eo38; obtain ⟨hcz39_0, hcz39_1, hcz39_2⟩ := cy3_25 BK236.out; have hfz39_0 := blk_frozen BK236.out 0; have hfz39_1 := blk_frozen BK236.out 1; have hfz39_2 := blk_frozen BK236.out 2; obtain ⟨hcz40_0, hcz40_1, hcz40_2⟩ := cy3_25 BK238.out; have hfz40_0 := blk_frozen BK238.out 0; have hfz40_1 := blk_frozen BK238.out 1; have hfz40_2 := blk_frozen BK238.out 2)))
              refine bodyPost_ret (results_cell_row rfl _ _ gb238 64 #[.int .i64 a0_0, .int .i64 a0_1, .slice Ao38 y245.length co38] (0, 0) _ rfl (by (with_reducible repeat (first | refine blk_drewN ?_ _ | refine blk_drew ?_ | refine blk_alloc ?_ _)); refine blk_put (cs := #[.int .i64 a0_0, .int .i64 a0_1, .slice none 0 0]) ?_ 2 _ rfl; refine blk_put (cs := #[.int .i64 a0_0, .int .i64 0, .slice none 0 0]) ?_ 1 _ rfl; refine blk_put (cs := #[.int .i64 0, .int .i64 0, .slice none 0 0]) ?_ 0 _ rfl; refine blk_far ?_ NB238_236.out _; (with_reducible repeat (first | refine blk_drewN ?_ _ | refine blk_drew ?_ | refine blk_alloc ?_ _)); exact BK238.out) Tryz.underlying64 rfl (by kernel_rfl)) rfl ?_
              exact ⟨_, by first | rfl | (simp [errW_none, errW_some] <;> rfl) | (simp [*, errW_none, errW_some] <;> rfl), by (with_reducible repeat (first | apply Kd.R_alloc | apply Kd.R_drewN | apply Kd.R_drew)); exact Kd.R_mono (Kd.R_far (p := ⟨gb238, 2, none⟩) (Kd.R_far (p := ⟨gb238, 1, none⟩) (Kd.R_far (p := ⟨gb238, 0, none⟩) (Kd.R_far (p := ⟨gb236, 2, none⟩) (Kd.R_types (Kd.R_types HO247.out BK236.out (by decide)) BK238.out (by decide)) (fun _ hk => hk.1.2) (.slice Ao38 y245.length co38)) (fun _ hk => hk.2) (.int .i64 a0_0)) (fun _ hk => hk.2) (.int .i64 a0_1)) (fun _ hk => hk.2) (.slice Ao38 y245.length co38)) (fun _ hk => trivial), by repeat (first | (with_reducible first | exact HB.out | apply below_alloc | apply pw_below_drewN | apply below_drew1 | refine below_set ?_ GE236.out | refine below_set ?_ GE237.out | refine below_set ?_ GE238.out) | exact HB.out)⟩
            · rw [if_neg c31] at H
              exact absurd H (by simp)
        · rw [if_neg c22] at H
          have c22b0 : (a1_1 == t244) = false := beq_eq_false_iff_ne.mpr c22
          have c22b1 : (a1_1 != t244) = true := bne_iff_ne.mpr c22
          by_cases c41 : x5_1.length < 5864062014805
          · rw [if_pos c41] at H
            have LMc41 := Aside0.mk c41
            clear c41
            obtain ⟨y248, hy248⟩ : ∃ y_ : List (S141), y_ = (x5_1 ++ [(⟨a1_0, a1_1, a1_2⟩ : S141)]) := ⟨_, rfl⟩
            replace H : (some (a0_0, a0_1, y248)) = some (r1, r2, r3) := by first | (rw [hy248]; with_reducible exact H) | (have H2_ := (Option.bind_some _ _).symm.trans H; rw [hy248]; with_reducible exact H2_) | (have H2_ := (Option.bind_some _ _).symm.trans H; with_reducible exact H2_) | with_reducible exact H | (rw [hy248]; exact H) | exact H
            have Ny248 := Aside0.mk hy248
            clear hy248
            simp only [Option.some.injEq, Prod.mk.injEq] at H
            obtain ⟨rfl, rfl, rfl⟩ := H
            have hnb42 := NB236_237.out
            have hnc42 := NB237_236.out
            have hnb43 := NB236_238.out
            have hnc43 := NB238_236.out
            obtain ⟨hcz44_0, hcz44_1, hcz44_2⟩ := cy3_25 BK236.out
            have hfz44_0 := blk_frozen BK236.out 0
            have hfz44_1 := blk_frozen BK236.out 1
            have hfz44_2 := blk_frozen BK236.out 2
            have hnb45 := NB237_238.out
            have hnc45 := NB238_237.out
            obtain ⟨hcz46_0, hcz46_1, hcz46_2⟩ := cy3_25 BK237.out
            have hfz46_0 := blk_frozen BK237.out 0
            have hfz46_1 := blk_frozen BK237.out 1
            have hfz46_2 := blk_frozen BK237.out 2
            go_wp2_with (fail)
            repeat (go_quiet ((go_at_call 96; (with_reducible refine (lookasideref10_Bad.calls  t244 _ A21.out).mono ?_); rintro e w' ⟨rfl, ⟨nd, rfl⟩⟩; (try first | exact ⟨rfl, _, World.drewN_drewN _ _ _⟩ | exact ⟨rfl, _, Eq.trans (World.drewN_drewN _ _ _) (congrArg (World.drewN _) (Nat.add_assoc _ _ _))⟩))); try go_wp2_with (((with_reducible refine gate_builtin (b := .append) (xs := #[.tmp 40, .tmp 42]) rfl ?_); at_builtin; refine Kd.R_append k141 (w0 := w) w.heap.size rfl (.tmp 40) (.tmp 42) 62 141 (.agg #[(.int .i64 0), (.int .u64 0), (.int .u64 0)]) 24 rfl Tryz.underlying62 info141 rfl (by decide) (by omega) u5 x5_1 (⟨a1_0, a1_1, a1_2⟩ : S141) [.int .i64 a1_0, .int .u64 a1_1, .int .u64 a1_2] (fun k_ => k_ ≠ gb237) (fun _ => False) rfl rfl ?aP (fun _ hk => hk.elim) ?aF ?aO ?aB ?aS ?aL ?_; (case aP => exact k141_mkM _ _ _ (⟨a1_0, a1_1, a1_2⟩ : S141)); (case aB => exact (by repeat (first | (with_reducible first | exact HB.out | apply below_alloc | apply pw_below_drewN | apply below_drew1 | refine below_set ?_ GE236.out | refine below_set ?_ GE237.out | refine below_set ?_ GE238.out) | exact HB.out))); (case aF => exact (fun k_ hk => Kd.freshB (g := gb237) (o := .cells #[.int .i64 a1_0, .int .u64 a1_1, .int .u64 a1_2] 141 (0, 0)) (by (with_reducible repeat (first | refine blk_drewN ?_ _ | refine blk_drew ?_ | refine blk_alloc ?_ _)); exact BK237.out) k_ hk)); (case aO => exact (by (with_reducible repeat (first | apply Kd.R_alloc | apply Kd.R_drewN | apply Kd.R_drew)); exact HO_5.out)); (case aS => exact (below_size (by repeat (first | (with_reducible first | exact HB.out | apply below_alloc | apply pw_below_drewN | apply below_drew1 | refine below_set ?_ GE236.out | refine below_set ?_ GE237.out | refine below_set ?_ GE238.out) | exact HB.out)))); (case aL => have := LMc41.out; omega); intro v249 w47 ho hb hg hat; rw [← Ny248.out] at ho; have n0_ := Aside0.mk (blk_grown (g := gb236) (o := .cells #[.int .i64 a0_0, .int .i64 a0_1, .slice A0_2 l0_2.length c0_2] 64 (0, 0)) (by (with_reducible repeat (first | refine blk_drewN ?_ _ | refine blk_drew ?_ | refine blk_alloc ?_ _)); exact BK236.out) hg (Kd.R_ne HO_5.out BK236.out (by decide))); have n1_ := Aside0.mk (blk_grown (g := gb237) (o := .cells #[.int .i64 a1_0, .int .u64 a1_1, .int .u64 a1_2] 141 (0, 0)) (by (with_reducible repeat (first | refine blk_drewN ?_ _ | refine blk_drew ?_ | refine blk_alloc ?_ _)); exact BK237.out) hg (Kd.R_away HO_5.out (fun _ hk => hk))); have n2_ := Aside0.mk (blk_grown (g := gb238) (o := .cells #[.int .i64 0, .int .i64 0, .slice none 0 0] 64 (0, 0)) (by (with_reducible repeat (first | refine blk_drewN ?_ _ | refine blk_drew ?_ | refine blk_alloc ?_ _)); exact BK238.out) hg (Kd.R_ne HO_5.out BK238.out (by decide))); have n3_ := Aside0.mk (hb); have n4_ := Aside0.mk (ho); clear BK236; clear BK237; clear BK238; clear HB; clear HO_5; have BK236 := n0_; have BK237 := n1_; have BK238 := n2_; have HB := n3_; have HO250 := n4_; clear n0_ n1_ n2_ n3_ n4_; clear ho hb hg hat; obtain ⟨Ao48, co48, eo48⟩ := Kd.R_slice HO250.out; subst eo48; obtain ⟨hcz49_0, hcz49_1, hcz49_2⟩ := cy3_25 BK236.out; have hfz49_0 := blk_frozen BK236.out 0; have hfz49_1 := blk_frozen BK236.out 1; have hfz49_2 := blk_frozen BK236.out 2; obtain ⟨hcz50_0, hcz50_1, hcz50_2⟩ := cy3_25 BK238.out; have hfz50_0 := blk_frozen BK238.out 0; have hfz50_1 := blk_frozen BK238.out 1; have hfz50_2 := blk_frozen BK238.out 2)))
            refine bodyPost_ret (results_cell_row rfl _ _ gb238 64 #[.int .i64 a0_0, .int .i64 a0_1, .slice Ao48 y248.length co48] (0, 0) _ rfl (by (with_reducible repeat (first | refine blk_drewN ?_ _ | refine blk_drew ?_ | refine blk_alloc ?_ _)); refine blk_put (cs := #[.int .i64 a0_0, .int .i64 a0_1, .slice none 0 0]) ?_ 2 _ rfl; refine blk_put (cs := #[.int .i64 a0_0, .int .i64 0, .slice none 0 0]) ?_ 1 _ rfl; refine blk_put (cs := #[.int .i64 0, .int .i64 0, .slice none 0 0]) ?_ 0 _ rfl; refine blk_far ?_ NB238_236.out _; (with_reducible repeat (first | refine blk_drewN ?_ _ | refine blk_drew ?_ | refine blk_alloc ?_ _)); exact BK238.out) Tryz.underlying64 rfl (by kernel_rfl)) rfl ?_
            exact ⟨_, by first | rfl | (simp [errW_none, errW_some] <;> rfl) | (simp [*, errW_none, errW_some] <;> rfl), by (with_reducible repeat (first | apply Kd.R_alloc | apply Kd.R_drewN | apply Kd.R_drew)); exact Kd.R_mono (Kd.R_far (p := ⟨gb238, 2, none⟩) (Kd.R_far (p := ⟨gb238, 1, none⟩) (Kd.R_far (p := ⟨gb238, 0, none⟩) (Kd.R_far (p := ⟨gb236, 2, none⟩) (Kd.R_types (Kd.R_types HO250.out BK236.out (by decide)) BK238.out (by decide)) (fun _ hk => hk.1.2) (.slice Ao48 y248.length co48)) (fun _ hk => hk.2) (.int .i64 a0_0)) (fun _ hk => hk.2) (.int .i64 a0_1)) (fun _ hk => hk.2) (.slice Ao48 y248.length co48)) (fun _ hk => trivial), by repeat (first | (with_reducible first | exact HB.out | apply below_alloc | apply pw_below_drewN | apply below_drew1 | refine below_set ?_ GE236.out | refine below_set ?_ GE237.out | refine below_set ?_ GE238.out) | exact HB.out)⟩
          · rw [if_neg c41] at H
            exact absurd H (by simp)
end Go.Proofs.YtjnffegjpkbjmaaGreat.QTsbPlays
