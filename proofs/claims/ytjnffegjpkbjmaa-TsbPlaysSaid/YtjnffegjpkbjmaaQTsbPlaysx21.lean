-- Taken out of a text that a program of this session printed (wip/print/myprint.py, wip/print/take.py); Lean checks it.
import Derived.Test.YtjnffegjpkbjmaaQTsbPlaysx20
namespace Go.Proofs.Ytjnffegjpkbjmaa.QTsbPlays
open Go.RowKit Go.Proofs.YtjnffegjpkbjmaaW.PrintWords Go.Proofs.YtjnffegjpkbjmaaW.PrintLast Go.Proofs.YtjnffegjpkbjmaaW.PrintMore
attribute [local go_sem] max2_int min2_int max_two min_two max_three min_three max_four min_four   -- for this text's walks alone
set_option linter.unusedVariables false
set_option linter.unusedSimpArgs false
theorem cy11_21 {W : World} {g : Nat} {t : TypeId} {a0 a1 a2 a3 a4 a5 a6 a7 a8 a9 a10 : Value} {l : List Value} (h : W.heap[g]? = some (.cells (Array.mk (a0 :: a1 :: a2 :: a3 :: a4 :: a5 :: a6 :: a7 :: a8 :: a9 :: a10 :: l)) t (0, 0))) : W.cell? ⟨g, 0, none⟩ = some a0 ∧ W.cell? ⟨g, 1, none⟩ = some a1 ∧ W.cell? ⟨g, 2, none⟩ = some a2 ∧ W.cell? ⟨g, 3, none⟩ = some a3 ∧ W.cell? ⟨g, 4, none⟩ = some a4 ∧ W.cell? ⟨g, 5, none⟩ = some a5 ∧ W.cell? ⟨g, 6, none⟩ = some a6 ∧ W.cell? ⟨g, 7, none⟩ = some a7 ∧ W.cell? ⟨g, 8, none⟩ = some a8 ∧ W.cell? ⟨g, 9, none⟩ = some a9 ∧ W.cell? ⟨g, 10, none⟩ = some a10 := ⟨(blk_cell h 0).trans rfl, (blk_cell h 1).trans rfl, (blk_cell h 2).trans rfl, (blk_cell h 3).trans rfl, (blk_cell h 4).trans rfl, (blk_cell h 5).trans rfl, (blk_cell h 6).trans rfl, (blk_cell h 7).trans rfl, (blk_cell h 8).trans rfl, (blk_cell h 9).trans rfl, (blk_cell h 10).trans rfl⟩
theorem cz2_21 {W : World} {g : Nat} {t : TypeId} {a0 a1 : Value} (h : W.heap[g]? = some (.cells #[a0, a1] t (0, 0))) : W.cell? ⟨g, 0, none⟩ = some a0 ∧ W.cell? ⟨g, 1, none⟩ = some a1 := ⟨(blk_cell h 0).trans rfl, (blk_cell h 1).trans rfl⟩
/-! ### tte_May: function 88 -/
def tte_May.j0 : Nat → Bool → Int → Int → Int → Int → Bool → Bool → Bool → Bool → Bool → Bool → Bool → Option (Bool)
 | 0, _, _, _, _, _, _, _, _, _, _, _, _ => none
 | k + 1, x31, x307000, x307001, x307002, x307003, x307004, x307005, x307006, x307007, x307008, x307009, x307010 => if x31 = true then (some false) else ((page_Hole.f x307002).bind fun t308 => (if t308 = true then (some false) else ((page_Starts.f x307002 x307000).bind fun t309 => (if t309 = true then ((field_Fits.f x307003 41).bind fun t310 => (if t310 = true then ((page_Starts.f x307003 x307000).bind fun t311 => (some t311)) else (some false))) else (some false)))))
def tte_May.f (k : Nat) (a0_0 : Int) (a0_1 : Int) (a0_2 : Int) (a0_3 : Int) (a0_4 : Bool) (a0_5 : Bool) (a0_6 : Bool) (a0_7 : Bool) (a0_8 : Bool) (a0_9 : Bool) (a0_10 : Bool) : Option (Bool) := if a0_10 = true then ((page_May.f a0_0).bind fun t307 => (if t307 = true then (if a0_1 < 0 then (tte_May.j0 k true a0_0 a0_1 a0_2 a0_3 a0_4 a0_5 a0_6 a0_7 a0_8 a0_9 a0_10) else (if a0_1 > 8191 then (tte_May.j0 k true a0_0 a0_1 a0_2 a0_3 a0_4 a0_5 a0_6 a0_7 a0_8 a0_9 a0_10) else (if a0_8 = true then (tte_May.j0 k (a0_1 != 0) a0_0 a0_1 a0_2 a0_3 a0_4 a0_5 a0_6 a0_7 a0_8 a0_9 a0_10) else (tte_May.j0 k false a0_0 a0_1 a0_2 a0_3 a0_4 a0_5 a0_6 a0_7 a0_8 a0_9 a0_10)))) else (tte_May.j0 k true a0_0 a0_1 a0_2 a0_3 a0_4 a0_5 a0_6 a0_7 a0_8 a0_9 a0_10))) else (tte_May.j0 k true a0_0 a0_1 a0_2 a0_3 a0_4 a0_5 a0_6 a0_7 a0_8 a0_9 a0_10)
set_option maxHeartbeats 8000000 in
set_option maxRecDepth 100000 in
theorem tte_May.calls (k : Nat) (a0_0 : Int) (a0_1 : Int) (a0_2 : Int) (a0_3 : Int) (a0_4 : Bool) (a0_5 : Bool) (a0_6 : Bool) (a0_7 : Bool) (a0_8 : Bool) (a0_9 : Bool) (a0_10 : Bool) (r : Bool) (w : World) (h : tte_May.f k a0_0 a0_1 a0_2 a0_3 a0_4 a0_5 a0_6 a0_7 a0_8 a0_9 a0_10 = some r) :
  Calls Try.prog 88 #[.agg #[.int .i64 a0_0, .int .i64 a0_1, .int .u64 a0_2, .int .u64 a0_3, .bool a0_4, .bool a0_5, .bool a0_6, .bool a0_7, .bool a0_8, .bool a0_9, .bool a0_10]] w fun e w' => e = .returned (.bool r) ∧ Below w.heap.size w w' := by
 have hu50 := Try.underlying50
 have HB := Aside0.mk (Below.refl w.heap.size w)
 have H : (if a0_10 = true then ((page_May.f a0_0).bind fun t307 => (if t307 = true then (if a0_1 < 0 then (tte_May.j0 k true a0_0 a0_1 a0_2 a0_3 a0_4 a0_5 a0_6 a0_7 a0_8 a0_9 a0_10) else (if a0_1 > 8191 then (tte_May.j0 k true a0_0 a0_1 a0_2 a0_3 a0_4 a0_5 a0_6 a0_7 a0_8 a0_9 a0_10) else (if a0_8 = true then (tte_May.j0 k (a0_1 != 0) a0_0 a0_1 a0_2 a0_3 a0_4 a0_5 a0_6 a0_7 a0_8 a0_9 a0_10) else (tte_May.j0 k false a0_0 a0_1 a0_2 a0_3 a0_4 a0_5 a0_6 a0_7 a0_8 a0_9 a0_10)))) else (tte_May.j0 k true a0_0 a0_1 a0_2 a0_3 a0_4 a0_5 a0_6 a0_7 a0_8 a0_9 a0_10))) else (tte_May.j0 k true a0_0 a0_1 a0_2 a0_3 a0_4 a0_5 a0_6 a0_7 a0_8 a0_9 a0_10)) = some r := h
 clear h
 have HC2 := Aside0.mk H
 clear H
 go_enter Try.func88, Try.ntmps88
 go_upto_region 1 with (((with_reducible refine gate_dst (N := 1) rfl ?_); refine box_event ?hg (N := 1) ?hd (cs := #[.int .i64 a0_0, .int .i64 a0_1, .int .u64 a0_2, .int .u64 a0_3, .bool a0_4, .bool a0_5, .bool a0_6, .bool a0_7, .bool a0_8, .bool a0_9, .bool a0_10]) (t := 50) ?hr ?_; (case hd => rfl); (case hg => rfl); (case hr => first | (go_simp; done) | (go_simp; rfl)); intro gb306 hg w3 hbox hb; have n0_ := Aside0.mk (below_step (by repeat (first | (with_reducible first | exact HB.out | apply below_alloc | apply pw_below_drewN | apply below_drew1) | exact HB.out)) hb); have n1_ := Aside0.mk (hbox); have n2_ := Aside0.mk ((by rw [hg]; exact (below_size (by repeat (first | (with_reducible first | exact HB.out | apply below_alloc | apply pw_below_drewN | apply below_drew1) | exact HB.out))) : w.heap.size ≤ gb306)); have n3_ := Aside0.mk ((by rw [hg]; exact (below_size (by repeat (first | (with_reducible first | exact HB.out | apply below_alloc | apply pw_below_drewN | apply below_drew1) | exact HB.out))) : w.heap.size ≤ gb306)); clear HB; have HB := n0_; have BK306 := n1_; have GW306 := n2_; have GE306 := n3_; clear n0_ n1_ n2_ n3_; clear hb hbox hg))
 (try simp only [Act.put, List.setIfInBounds_toArray, List.set_cons_zero, List.set_cons_succ])
 go_cut [31] (fun v31 wc => ∃ (kq : Nat) (x31_1 : Bool), v31 = .bool x31_1 ∧ Aside0 (tte_May.j0 kq x31_1 a0_0 a0_1 a0_2 a0_3 a0_4 a0_5 a0_6 a0_7 a0_8 a0_9 a0_10 = some r) ∧ Aside0 (kq ≤ k) ∧ Aside0 (wc.heap[gb306]? = some (.cells #[.int .i64 a0_0, .int .i64 a0_1, .int .u64 a0_2, .int .u64 a0_3, .bool a0_4, .bool a0_5, .bool a0_6, .bool a0_7, .bool a0_8, .bool a0_9, .bool a0_10] 50 (0, 0))) ∧ Aside0 (Below w.heap.size w wc))
 case first =>
  have H := HC2.out
  clear HC2
  by_cases c4 : a0_10 = true
  ·subst c4
   have H1 : ((page_May.f a0_0).bind fun t307 => (if t307 = true then (if a0_1 < 0 then (tte_May.j0 k true a0_0 a0_1 a0_2 a0_3 a0_4 a0_5 a0_6 a0_7 a0_8 a0_9 true) else (if a0_1 > 8191 then (tte_May.j0 k true a0_0 a0_1 a0_2 a0_3 a0_4 a0_5 a0_6 a0_7 a0_8 a0_9 true) else (if a0_8 = true then (tte_May.j0 k (a0_1 != 0) a0_0 a0_1 a0_2 a0_3 a0_4 a0_5 a0_6 a0_7 a0_8 a0_9 true) else (tte_May.j0 k false a0_0 a0_1 a0_2 a0_3 a0_4 a0_5 a0_6 a0_7 a0_8 a0_9 true)))) else (tte_May.j0 k true a0_0 a0_1 a0_2 a0_3 a0_4 a0_5 a0_6 a0_7 a0_8 a0_9 true))) = some r := by rw [if_pos rfl] at H; exact H
   clear H
   have H := H1
   clear H1
   replace H := Option.bind_eq_some_iff.mp H
   obtain ⟨t307, A50, H⟩ := H
   replace H : (if t307 = true then (if a0_1 < 0 then (tte_May.j0 k true a0_0 a0_1 a0_2 a0_3 a0_4 a0_5 a0_6 a0_7 a0_8 a0_9 true) else (if a0_1 > 8191 then (tte_May.j0 k true a0_0 a0_1 a0_2 a0_3 a0_4 a0_5 a0_6 a0_7 a0_8 a0_9 true) else (if a0_8 = true then (tte_May.j0 k (a0_1 != 0) a0_0 a0_1 a0_2 a0_3 a0_4 a0_5 a0_6 a0_7 a0_8 a0_9 true) else (tte_May.j0 k false a0_0 a0_1 a0_2 a0_3 a0_4 a0_5 a0_6 a0_7 a0_8 a0_9 true)))) else (tte_May.j0 k true a0_0 a0_1 a0_2 a0_3 a0_4 a0_5 a0_6 a0_7 a0_8 a0_9 true)) = some r := H
   have A5 := Aside0.mk A50
   clear A50
   by_cases c6 : t307 = true
   ·subst c6
    have H1 : (if a0_1 < 0 then (tte_May.j0 k true a0_0 a0_1 a0_2 a0_3 a0_4 a0_5 a0_6 a0_7 a0_8 a0_9 true) else (if a0_1 > 8191 then (tte_May.j0 k true a0_0 a0_1 a0_2 a0_3 a0_4 a0_5 a0_6 a0_7 a0_8 a0_9 true) else (if a0_8 = true then (tte_May.j0 k (a0_1 != 0) a0_0 a0_1 a0_2 a0_3 a0_4 a0_5 a0_6 a0_7 a0_8 a0_9 true) else (tte_May.j0 k false a0_0 a0_1 a0_2 a0_3 a0_4 a0_5 a0_6 a0_7 a0_8 a0_9 true)))) = some r := by rw [if_pos rfl] at H; exact H
    clear H
    have H := H1
    clear H1
    by_cases c7 : a0_1 < 0
    ·rw [if_pos c7] at H
     have c7b0 : decide (a0_1 < 0) = true := decide_eq_true c7
     clear c7
     (first | rw [c7b0] | (simp only [i64_w, i32_w]; rw [c7b0]) | skip)
     have H' := Aside0.mk H
     clear H
     obtain ⟨hcz8_0, hcz8_1, hcz8_2, hcz8_3, hcz8_4, hcz8_5, hcz8_6, hcz8_7, hcz8_8, hcz8_9, hcz8_10⟩ := cy11_21 BK306.out
     have hfz8_0 := blk_frozen BK306.out 0
     have hfz8_1 := blk_frozen BK306.out 1
     have hfz8_2 := blk_frozen BK306.out 2
     have hfz8_3 := blk_frozen BK306.out 3
     have hfz8_4 := blk_frozen BK306.out 4
     have hfz8_5 := blk_frozen BK306.out 5
     have hfz8_6 := blk_frozen BK306.out 6
     have hfz8_7 := blk_frozen BK306.out 7
     have hfz8_8 := blk_frozen BK306.out 8
     have hfz8_9 := blk_frozen BK306.out 9
     have hfz8_10 := blk_frozen BK306.out 10
     go_wp2_with ((go_at_call 75; (with_reducible refine (page_May.calls a0_0 true _ A5.out).mono ?_); rintro e w' ⟨rfl, ⟨nd, rfl⟩⟩))
     go_meet
     case rel => exact ⟨_, (true), (by first | rfl | (simp; done) | (simp [*]; done)), H', ⟨by first | omega | exact Nat.le_refl _⟩, ⟨by (with_reducible repeat (first | refine blk_drewN ?_ _ | refine blk_drew ?_ | refine blk_alloc ?_ _)); exact BK306.out⟩, ⟨by repeat (first | (with_reducible first | exact HB.out | apply below_alloc | apply pw_below_drewN | apply below_drew1 | refine below_set ?_ GE306.out) | exact HB.out)⟩⟩
    ·rw [if_neg c7] at H
     have c7b0 : decide (a0_1 < 0) = false := decide_eq_false c7
     clear c7
     (first | rw [c7b0] | (simp only [i64_w, i32_w]; rw [c7b0]) | skip)
     by_cases c9 : a0_1 > 8191
     ·rw [if_pos c9] at H
      have c9b0 : decide (8191 < a0_1) = true := decide_eq_true c9
      clear c9
      have H' := Aside0.mk H
      clear H
      obtain ⟨hcz10_0, hcz10_1, hcz10_2, hcz10_3, hcz10_4, hcz10_5, hcz10_6, hcz10_7, hcz10_8, hcz10_9, hcz10_10⟩ := cy11_21 BK306.out
      have hfz10_0 := blk_frozen BK306.out 0
      have hfz10_1 := blk_frozen BK306.out 1
      have hfz10_2 := blk_frozen BK306.out 2
      have hfz10_3 := blk_frozen BK306.out 3
      have hfz10_4 := blk_frozen BK306.out 4
      have hfz10_5 := blk_frozen BK306.out 5
      have hfz10_6 := blk_frozen BK306.out 6
      have hfz10_7 := blk_frozen BK306.out 7
      have hfz10_8 := blk_frozen BK306.out 8
      have hfz10_9 := blk_frozen BK306.out 9
      have hfz10_10 := blk_frozen BK306.out 10
      go_wp2_with ((go_at_call 75; (with_reducible refine (page_May.calls a0_0 true _ A5.out).mono ?_); rintro e w' ⟨rfl, ⟨nd, rfl⟩⟩))
      go_meet
      case rel => exact ⟨_, (true), (by first | rfl | (simp; done) | (simp [*]; done)), H', ⟨by first | omega | exact Nat.le_refl _⟩, ⟨by (with_reducible repeat (first | refine blk_drewN ?_ _ | refine blk_drew ?_ | refine blk_alloc ?_ _)); exact BK306.out⟩, ⟨by repeat (first | (with_reducible first | exact HB.out | apply below_alloc | apply pw_below_drewN | apply below_drew1 | refine below_set ?_ GE306.out) | exact HB.out)⟩⟩
     ·rw [if_neg c9] at H
      have c9b0 : decide (8191 < a0_1) = false := decide_eq_false c9
      clear c9
      by_cases c11 : a0_8 = true
      ·subst c11
       have H1 : (tte_May.j0 k (a0_1 != 0) a0_0 a0_1 a0_2 a0_3 a0_4 a0_5 a0_6 a0_7 true a0_9 true) = some r := by rw [if_pos rfl] at H; exact H
       clear H
       have H := H1
       clear H1
       have H' := Aside0.mk H
       clear H
       obtain ⟨hcz12_0, hcz12_1, hcz12_2, hcz12_3, hcz12_4, hcz12_5, hcz12_6, hcz12_7, hcz12_8, hcz12_9, hcz12_10⟩ := cy11_21 BK306.out
       have hfz12_0 := blk_frozen BK306.out 0
       have hfz12_1 := blk_frozen BK306.out 1
       have hfz12_2 := blk_frozen BK306.out 2
       have hfz12_3 := blk_frozen BK306.out 3
       have hfz12_4 := blk_frozen BK306.out 4
       have hfz12_5 := blk_frozen BK306.out 5
       have hfz12_6 := blk_frozen BK306.out 6
       have hfz12_7 := blk_frozen BK306.out 7
       have hfz12_8 := blk_frozen BK306.out 8
       have hfz12_9 := blk_frozen BK306.out 9
       have hfz12_10 := blk_frozen BK306.out 10
       go_wp2_with ((go_at_call 75; (with_reducible refine (page_May.calls a0_0 true _ A5.out).mono ?_); rintro e w' ⟨rfl, ⟨nd, rfl⟩⟩))
       go_meet
       case rel => exact ⟨_, ((a0_1 != 0)), (by first | rfl | (simp; done) | (simp [*]; done)), H', ⟨by first | omega | exact Nat.le_refl _⟩, ⟨by (with_reducible repeat (first | refine blk_drewN ?_ _ | refine blk_drew ?_ | refine blk_alloc ?_ _)); exact BK306.out⟩, ⟨by repeat (first | (with_reducible first | exact HB.out | apply below_alloc | apply pw_below_drewN | apply below_drew1 | refine below_set ?_ GE306.out) | exact HB.out)⟩⟩
      ·replace c11 := Bool.eq_false_iff.mpr c11
       subst c11
       have H1 : (tte_May.j0 k false a0_0 a0_1 a0_2 a0_3 a0_4 a0_5 a0_6 a0_7 false a0_9 true) = some r := by rw [if_neg (show ¬ (false = true) by decide)] at H; exact H
       clear H
       have H := H1
       clear H1
       have H' := Aside0.mk H
       clear H
       obtain ⟨hcz13_0, hcz13_1, hcz13_2, hcz13_3, hcz13_4, hcz13_5, hcz13_6, hcz13_7, hcz13_8, hcz13_9, hcz13_10⟩ := cy11_21 BK306.out
       have hfz13_0 := blk_frozen BK306.out 0
       have hfz13_1 := blk_frozen BK306.out 1
       have hfz13_2 := blk_frozen BK306.out 2
       have hfz13_3 := blk_frozen BK306.out 3
       have hfz13_4 := blk_frozen BK306.out 4
       have hfz13_5 := blk_frozen BK306.out 5
       have hfz13_6 := blk_frozen BK306.out 6
       have hfz13_7 := blk_frozen BK306.out 7
       have hfz13_8 := blk_frozen BK306.out 8
       have hfz13_9 := blk_frozen BK306.out 9
       have hfz13_10 := blk_frozen BK306.out 10
       go_wp2_with ((go_at_call 75; (with_reducible refine (page_May.calls a0_0 true _ A5.out).mono ?_); rintro e w' ⟨rfl, ⟨nd, rfl⟩⟩))
       go_meet
       case rel => exact ⟨_, (false), (by first | rfl | (simp; done) | (simp [*]; done)), H', ⟨by first | omega | exact Nat.le_refl _⟩, ⟨by (with_reducible repeat (first | refine blk_drewN ?_ _ | refine blk_drew ?_ | refine blk_alloc ?_ _)); exact BK306.out⟩, ⟨by repeat (first | (with_reducible first | exact HB.out | apply below_alloc | apply pw_below_drewN | apply below_drew1 | refine below_set ?_ GE306.out) | exact HB.out)⟩⟩
   ·replace c6 := Bool.eq_false_iff.mpr c6
    subst c6
    have H1 : (tte_May.j0 k true a0_0 a0_1 a0_2 a0_3 a0_4 a0_5 a0_6 a0_7 a0_8 a0_9 true) = some r := by rw [if_neg (show ¬ (false = true) by decide)] at H; exact H
    clear H
    have H := H1
    clear H1
    have H' := Aside0.mk H
    clear H
    obtain ⟨hcz14_0, hcz14_1, hcz14_2, hcz14_3, hcz14_4, hcz14_5, hcz14_6, hcz14_7, hcz14_8, hcz14_9, hcz14_10⟩ := cy11_21 BK306.out
    have hfz14_0 := blk_frozen BK306.out 0
    have hfz14_1 := blk_frozen BK306.out 1
    have hfz14_2 := blk_frozen BK306.out 2
    have hfz14_3 := blk_frozen BK306.out 3
    have hfz14_4 := blk_frozen BK306.out 4
    have hfz14_5 := blk_frozen BK306.out 5
    have hfz14_6 := blk_frozen BK306.out 6
    have hfz14_7 := blk_frozen BK306.out 7
    have hfz14_8 := blk_frozen BK306.out 8
    have hfz14_9 := blk_frozen BK306.out 9
    have hfz14_10 := blk_frozen BK306.out 10
    go_wp2_with ((go_at_call 75; (with_reducible refine (page_May.calls a0_0 false _ A5.out).mono ?_); rintro e w' ⟨rfl, ⟨nd, rfl⟩⟩))
    go_meet
    case rel => exact ⟨_, (true), (by first | rfl | (simp; done) | (simp [*]; done)), H', ⟨by first | omega | exact Nat.le_refl _⟩, ⟨by (with_reducible repeat (first | refine blk_drewN ?_ _ | refine blk_drew ?_ | refine blk_alloc ?_ _)); exact BK306.out⟩, ⟨by repeat (first | (with_reducible first | exact HB.out | apply below_alloc | apply pw_below_drewN | apply below_drew1 | refine below_set ?_ GE306.out) | exact HB.out)⟩⟩
  ·replace c4 := Bool.eq_false_iff.mpr c4
   subst c4
   have H1 : (tte_May.j0 k true a0_0 a0_1 a0_2 a0_3 a0_4 a0_5 a0_6 a0_7 a0_8 a0_9 false) = some r := by rw [if_neg (show ¬ (false = true) by decide)] at H; exact H
   clear H
   have H := H1
   clear H1
   have H' := Aside0.mk H
   clear H
   obtain ⟨hcz15_0, hcz15_1, hcz15_2, hcz15_3, hcz15_4, hcz15_5, hcz15_6, hcz15_7, hcz15_8, hcz15_9, hcz15_10⟩ := cy11_21 BK306.out
   have hfz15_0 := blk_frozen BK306.out 0
   have hfz15_1 := blk_frozen BK306.out 1
   have hfz15_2 := blk_frozen BK306.out 2
   have hfz15_3 := blk_frozen BK306.out 3
   have hfz15_4 := blk_frozen BK306.out 4
   have hfz15_5 := blk_frozen BK306.out 5
   have hfz15_6 := blk_frozen BK306.out 6
   have hfz15_7 := blk_frozen BK306.out 7
   have hfz15_8 := blk_frozen BK306.out 8
   have hfz15_9 := blk_frozen BK306.out 9
   have hfz15_10 := blk_frozen BK306.out 10
   go_wp2
   go_meet
   case rel => exact ⟨_, (true), (by first | rfl | (simp; done) | (simp [*]; done)), H', ⟨by first | omega | exact Nat.le_refl _⟩, ⟨by (with_reducible repeat (first | refine blk_drewN ?_ _ | refine blk_drew ?_ | refine blk_alloc ?_ _)); exact BK306.out⟩, ⟨by repeat (first | (with_reducible first | exact HB.out | apply below_alloc | apply pw_below_drewN | apply below_drew1 | refine below_set ?_ GE306.out) | exact HB.out)⟩⟩
 case rest =>
  clear HC2
  try clear c1
  try clear p2
  try clear c4
  try clear c6
  try clear c7
  try clear c7b0
  try clear c8
  try clear c9
  try clear c9b0
  try clear c11
  try clear hcz10_0
  try clear hcz10_1
  try clear hcz10_10
  try clear hcz10_2
  try clear hcz10_3
  try clear hcz10_4
  try clear hcz10_5
  try clear hcz10_6
  try clear hcz10_7
  try clear hcz10_8
  try clear hcz10_9
  try clear hcz12_0
  try clear hcz12_1
  try clear hcz12_10
  try clear hcz12_2
  try clear hcz12_3
  try clear hcz12_4
  try clear hcz12_5
  try clear hcz12_6
  try clear hcz12_7
  try clear hcz12_8
  try clear hcz12_9
  try clear hcz13_0
  try clear hcz13_1
  try clear hcz13_10
  try clear hcz13_2
  try clear hcz13_3
  try clear hcz13_4
  try clear hcz13_5
  try clear hcz13_6
  try clear hcz13_7
  try clear hcz13_8
  try clear hcz13_9
  try clear hcz14_0
  try clear hcz14_1
  try clear hcz14_10
  try clear hcz14_2
  try clear hcz14_3
  try clear hcz14_4
  try clear hcz14_5
  try clear hcz14_6
  try clear hcz14_7
  try clear hcz14_8
  try clear hcz14_9
  try clear hcz15_0
  try clear hcz15_1
  try clear hcz15_10
  try clear hcz15_2
  try clear hcz15_3
  try clear hcz15_4
  try clear hcz15_5
  try clear hcz15_6
  try clear hcz15_7
  try clear hcz15_8
  try clear hcz15_9
  try clear hcz8_0
  try clear hcz8_1
  try clear hcz8_10
  try clear hcz8_2
  try clear hcz8_3
  try clear hcz8_4
  try clear hcz8_5
  try clear hcz8_6
  try clear hcz8_7
  try clear hcz8_8
  try clear hcz8_9
  try clear hfz10_0
  try clear hfz10_1
  try clear hfz10_10
  try clear hfz10_2
  try clear hfz10_3
  try clear hfz10_4
  try clear hfz10_5
  try clear hfz10_6
  try clear hfz10_7
  try clear hfz10_8
  try clear hfz10_9
  try clear hfz12_0
  try clear hfz12_1
  try clear hfz12_10
  try clear hfz12_2
  try clear hfz12_3
  try clear hfz12_4
  try clear hfz12_5
  try clear hfz12_6
  try clear hfz12_7
  try clear hfz12_8
  try clear hfz12_9
  try clear hfz13_0
  try clear hfz13_1
  try clear hfz13_10
  try clear hfz13_2
  try clear hfz13_3
  try clear hfz13_4
  try clear hfz13_5
  try clear hfz13_6
  try clear hfz13_7
  try clear hfz13_8
  try clear hfz13_9
  try clear hfz14_0
  try clear hfz14_1
  try clear hfz14_10
  try clear hfz14_2
  try clear hfz14_3
  try clear hfz14_4
  try clear hfz14_5
  try clear hfz14_6
  try clear hfz14_7
  try clear hfz14_8
  try clear hfz14_9
  try clear hfz15_0
  try clear hfz15_1
  try clear hfz15_10
  try clear hfz15_2
  try clear hfz15_3
  try clear hfz15_4
  try clear hfz15_5
  try clear hfz15_6
  try clear hfz15_7
  try clear hfz15_8
  try clear hfz15_9
  try clear hfz8_0
  try clear hfz8_1
  try clear hfz8_10
  try clear hfz8_2
  try clear hfz8_3
  try clear hfz8_4
  try clear hfz8_5
  try clear hfz8_6
  try clear hfz8_7
  try clear hfz8_8
  try clear hfz8_9
  obtain ⟨kq, x31_1, rfl, HA, HJ1, BK306, HB⟩ := hcut
  cases kq with
  | zero => exact absurd HA.out (by simp [tte_May.j0])
  | succ kj1 =>
   have H := HA.out
   clear HA
   simp only [tte_May.j0] at H
   by_cases c16 : x31_1 = true
   ·subst c16
    have H1 : (some false) = some r := by rw [if_pos rfl] at H; exact H
    clear H
    have H := H1
    clear H1
    obtain rfl := Option.some.inj H
    go_wp2
    go_ret
    exact ⟨by first | rfl | (simp [errW_none, errW_some] <;> rfl) | (simp [*, errW_none, errW_some] <;> rfl), by repeat (first | (with_reducible first | exact HB.out | apply below_alloc | apply pw_below_drewN | apply below_drew1 | refine below_set ?_ GE306.out) | exact HB.out)⟩
   ·replace c16 := Bool.eq_false_iff.mpr c16
    subst c16
    have H1 : ((page_Hole.f a0_2).bind fun t308 => (if t308 = true then (some false) else ((page_Starts.f a0_2 a0_0).bind fun t309 => (if t309 = true then ((field_Fits.f a0_3 41).bind fun t310 => (if t310 = true then ((page_Starts.f a0_3 a0_0).bind fun t311 => (some t311)) else (some false))) else (some false))))) = some r := by rw [if_neg (show ¬ (false = true) by decide)] at H; exact H
    clear H
    have H := H1
    clear H1
    replace H := Option.bind_eq_some_iff.mp H
    obtain ⟨t308, A170, H⟩ := H
    replace H : (if t308 = true then (some false) else ((page_Starts.f a0_2 a0_0).bind fun t309 => (if t309 = true then ((field_Fits.f a0_3 41).bind fun t310 => (if t310 = true then ((page_Starts.f a0_3 a0_0).bind fun t311 => (some t311)) else (some false))) else (some false)))) = some r := H
    have A17 := Aside0.mk A170
    clear A170
    by_cases c18 : t308 = true
    ·subst c18
     have H1 : (some false) = some r := by rw [if_pos rfl] at H; exact H
     clear H
     have H := H1
     clear H1
     obtain rfl := Option.some.inj H
     obtain ⟨hcz19_0, hcz19_1, hcz19_2, hcz19_3, hcz19_4, hcz19_5, hcz19_6, hcz19_7, hcz19_8, hcz19_9, hcz19_10⟩ := cy11_21 BK306.out
     have hfz19_0 := blk_frozen BK306.out 0
     have hfz19_1 := blk_frozen BK306.out 1
     have hfz19_2 := blk_frozen BK306.out 2
     have hfz19_3 := blk_frozen BK306.out 3
     have hfz19_4 := blk_frozen BK306.out 4
     have hfz19_5 := blk_frozen BK306.out 5
     have hfz19_6 := blk_frozen BK306.out 6
     have hfz19_7 := blk_frozen BK306.out 7
     have hfz19_8 := blk_frozen BK306.out 8
     have hfz19_9 := blk_frozen BK306.out 9
     have hfz19_10 := blk_frozen BK306.out 10
     go_wp2_with (((with_reducible refine gate_callee (f := 114) rfl ?_); refine goesL_ (some 34) rfl rfl Try.func114 (by kernel_rfl) rfl #[.int .u64 a0_2] rfl (by (try simp only [List.map_toArray, List.map_cons, List.map_nil]); first | done | rfl | (simp only [List.length_drop, List.length_take]; rfl)) ?_; (with_reducible refine (page_Hole.calls a0_2 true _ A17.out).mono ?_); rintro e w' ⟨rfl, ⟨nd, rfl⟩⟩; refine ⟨_, rfl, ?_⟩))
     go_ret
     exact ⟨by first | rfl | (simp [errW_none, errW_some] <;> rfl) | (simp [*, errW_none, errW_some] <;> rfl), by repeat (first | (with_reducible first | exact HB.out | apply below_alloc | apply pw_below_drewN | apply below_drew1 | refine below_set ?_ GE306.out) | exact HB.out)⟩
    ·replace c18 := Bool.eq_false_iff.mpr c18
     subst c18
     have H1 : ((page_Starts.f a0_2 a0_0).bind fun t309 => (if t309 = true then ((field_Fits.f a0_3 41).bind fun t310 => (if t310 = true then ((page_Starts.f a0_3 a0_0).bind fun t311 => (some t311)) else (some false))) else (some false))) = some r := by rw [if_neg (show ¬ (false = true) by decide)] at H; exact H
     clear H
     have H := H1
     clear H1
     replace H := Option.bind_eq_some_iff.mp H
     obtain ⟨t309, A200, H⟩ := H
     replace H : (if t309 = true then ((field_Fits.f a0_3 41).bind fun t310 => (if t310 = true then ((page_Starts.f a0_3 a0_0).bind fun t311 => (some t311)) else (some false))) else (some false)) = some r := H
     have A20 := Aside0.mk A200
     clear A200
     by_cases c21 : t309 = true
     ·subst c21
      have H1 : ((field_Fits.f a0_3 41).bind fun t310 => (if t310 = true then ((page_Starts.f a0_3 a0_0).bind fun t311 => (some t311)) else (some false))) = some r := by rw [if_pos rfl] at H; exact H
      clear H
      have H := H1
      clear H1
      replace H := Option.bind_eq_some_iff.mp H
      obtain ⟨t310, A220, H⟩ := H
      replace H : (if t310 = true then ((page_Starts.f a0_3 a0_0).bind fun t311 => (some t311)) else (some false)) = some r := H
      have A22 := Aside0.mk A220
      clear A220
      by_cases c23 : t310 = true
      ·subst c23
       have H1 : ((page_Starts.f a0_3 a0_0).bind fun t311 => (some t311)) = some r := by rw [if_pos rfl] at H; exact H
       clear H
       have H := H1
       clear H1
       replace H := Option.bind_eq_some_iff.mp H
       obtain ⟨t311, A240, H⟩ := H
       replace H : (some t311) = some r := H
       have A24 := Aside0.mk A240
       clear A240
       obtain rfl := Option.some.inj H
       obtain ⟨hcz25_0, hcz25_1, hcz25_2, hcz25_3, hcz25_4, hcz25_5, hcz25_6, hcz25_7, hcz25_8, hcz25_9, hcz25_10⟩ := cy11_21 BK306.out
       have hfz25_0 := blk_frozen BK306.out 0
       have hfz25_1 := blk_frozen BK306.out 1
       have hfz25_2 := blk_frozen BK306.out 2
       have hfz25_3 := blk_frozen BK306.out 3
       have hfz25_4 := blk_frozen BK306.out 4
       have hfz25_5 := blk_frozen BK306.out 5
       have hfz25_6 := blk_frozen BK306.out 6
       have hfz25_7 := blk_frozen BK306.out 7
       have hfz25_8 := blk_frozen BK306.out 8
       have hfz25_9 := blk_frozen BK306.out 9
       have hfz25_10 := blk_frozen BK306.out 10
       go_wp2_with (first | ((with_reducible refine gate_callee (f := 114) rfl ?_); refine goesL_ (some 34) rfl rfl Try.func114 (by kernel_rfl) rfl #[.int .u64 a0_2] rfl (by (try simp only [List.map_toArray, List.map_cons, List.map_nil]); first | done | rfl | (simp only [List.length_drop, List.length_take]; rfl)) ?_; (with_reducible refine (page_Hole.calls a0_2 false _ A17.out).mono ?_); rintro e w' ⟨rfl, ⟨nd, rfl⟩⟩; refine ⟨_, rfl, ?_⟩) | (go_at_call 115; (with_reducible refine (page_Starts.calls a0_2 a0_0 true _ A20.out).mono ?_); rintro e w' ⟨rfl, ⟨nd, rfl⟩⟩) | (go_at_call 116; (with_reducible refine (field_Fits.calls a0_3 41 true _ A22.out).mono ?_); rintro e w' ⟨rfl, ⟨nd, rfl⟩⟩) | (go_at_call 115; (with_reducible refine (page_Starts.calls a0_3 a0_0 t311 _ A24.out).mono ?_); rintro e w' ⟨rfl, ⟨nd, rfl⟩⟩))
       go_ret
       exact ⟨by first | rfl | (simp [errW_none, errW_some] <;> rfl) | (simp [*, errW_none, errW_some] <;> rfl), by repeat (first | (with_reducible first | exact HB.out | apply below_alloc | apply pw_below_drewN | apply below_drew1 | refine below_set ?_ GE306.out) | exact HB.out)⟩
      ·replace c23 := Bool.eq_false_iff.mpr c23
       subst c23
       have H1 : (some false) = some r := by rw [if_neg (show ¬ (false = true) by decide)] at H; exact H
       clear H
       have H := H1
       clear H1
       obtain rfl := Option.some.inj H
       obtain ⟨hcz26_0, hcz26_1, hcz26_2, hcz26_3, hcz26_4, hcz26_5, hcz26_6, hcz26_7, hcz26_8, hcz26_9, hcz26_10⟩ := cy11_21 BK306.out
       have hfz26_0 := blk_frozen BK306.out 0
       have hfz26_1 := blk_frozen BK306.out 1
       have hfz26_2 := blk_frozen BK306.out 2
       have hfz26_3 := blk_frozen BK306.out 3
       have hfz26_4 := blk_frozen BK306.out 4
       have hfz26_5 := blk_frozen BK306.out 5
       have hfz26_6 := blk_frozen BK306.out 6
       have hfz26_7 := blk_frozen BK306.out 7
       have hfz26_8 := blk_frozen BK306.out 8
       have hfz26_9 := blk_frozen BK306.out 9
       have hfz26_10 := blk_frozen BK306.out 10
       go_wp2_with (first | ((with_reducible refine gate_callee (f := 114) rfl ?_); refine goesL_ (some 34) rfl rfl Try.func114 (by kernel_rfl) rfl #[.int .u64 a0_2] rfl (by (try simp only [List.map_toArray, List.map_cons, List.map_nil]); first | done | rfl | (simp only [List.length_drop, List.length_take]; rfl)) ?_; (with_reducible refine (page_Hole.calls a0_2 false _ A17.out).mono ?_); rintro e w' ⟨rfl, ⟨nd, rfl⟩⟩; refine ⟨_, rfl, ?_⟩) | (go_at_call 115; (with_reducible refine (page_Starts.calls a0_2 a0_0 true _ A20.out).mono ?_); rintro e w' ⟨rfl, ⟨nd, rfl⟩⟩) | (go_at_call 116; (with_reducible refine (field_Fits.calls a0_3 41 false _ A22.out).mono ?_); rintro e w' ⟨rfl, ⟨nd, rfl⟩⟩))
       go_ret
       exact ⟨by first | rfl | (simp [errW_none, errW_some] <;> rfl) | (simp [*, errW_none, errW_some] <;> rfl), by repeat (first | (with_reducible first | exact HB.out | apply below_alloc | apply pw_below_drewN | apply below_drew1 | refine below_set ?_ GE306.out) | exact HB.out)⟩
     ·replace c21 := Bool.eq_false_iff.mpr c21
      subst c21
      have H1 : (some false) = some r := by rw [if_neg (show ¬ (false = true) by decide)] at H; exact H
      clear H
      have H := H1
      clear H1
      obtain rfl := Option.some.inj H
      obtain ⟨hcz27_0, hcz27_1, hcz27_2, hcz27_3, hcz27_4, hcz27_5, hcz27_6, hcz27_7, hcz27_8, hcz27_9, hcz27_10⟩ := cy11_21 BK306.out
      have hfz27_0 := blk_frozen BK306.out 0
      have hfz27_1 := blk_frozen BK306.out 1
      have hfz27_2 := blk_frozen BK306.out 2
      have hfz27_3 := blk_frozen BK306.out 3
      have hfz27_4 := blk_frozen BK306.out 4
      have hfz27_5 := blk_frozen BK306.out 5
      have hfz27_6 := blk_frozen BK306.out 6
      have hfz27_7 := blk_frozen BK306.out 7
      have hfz27_8 := blk_frozen BK306.out 8
      have hfz27_9 := blk_frozen BK306.out 9
      have hfz27_10 := blk_frozen BK306.out 10
      go_wp2_with (first | ((with_reducible refine gate_callee (f := 114) rfl ?_); refine goesL_ (some 34) rfl rfl Try.func114 (by kernel_rfl) rfl #[.int .u64 a0_2] rfl (by (try simp only [List.map_toArray, List.map_cons, List.map_nil]); first | done | rfl | (simp only [List.length_drop, List.length_take]; rfl)) ?_; (with_reducible refine (page_Hole.calls a0_2 false _ A17.out).mono ?_); rintro e w' ⟨rfl, ⟨nd, rfl⟩⟩; refine ⟨_, rfl, ?_⟩) | (go_at_call 115; (with_reducible refine (page_Starts.calls a0_2 a0_0 false _ A20.out).mono ?_); rintro e w' ⟨rfl, ⟨nd, rfl⟩⟩))
      go_ret
      exact ⟨by first | rfl | (simp [errW_none, errW_some] <;> rfl) | (simp [*, errW_none, errW_some] <;> rfl), by repeat (first | (with_reducible first | exact HB.out | apply below_alloc | apply pw_below_drewN | apply below_drew1 | refine below_set ?_ GE306.out) | exact HB.out)⟩

-- NOT PRINTED: function 56 (tsb_Tsb_may)
/-! ### field_Put: function 96 -/
def field_Put.f (a0 : Int) (a1 : Int) (a2 : Int) (a3 : Int) : Option (Int) := (field_May.f a1 a2).bind fun t312 => (if t312 = true then ((field_Mask.f a1 a2).bind fun t313 => (if 0 ≤ a1 then (some (Go.bits .or .u64 (Go.bits .andNot .u64 a0 t313) (Go.bits .and .u64 (shl .u64 a3 a1) t313))) else (none))) else (some a0))
set_option maxHeartbeats 8000000 in
set_option maxRecDepth 100000 in
theorem field_Put.calls (a0 : Int) (a1 : Int) (a2 : Int) (a3 : Int) (r : Int) (w : World) (h : field_Put.f a0 a1 a2 a3 = some r) :
  Calls Try.prog 96 #[.int .u64 a0, .int .i64 a1, .int .i64 a2, .int .u64 a3] w fun e w' => e = .returned (.int .u64 r) ∧ Drawn0 w w' := by
 have H : ((field_May.f a1 a2).bind fun t312 => (if t312 = true then ((field_Mask.f a1 a2).bind fun t313 => (if 0 ≤ a1 then (some (Go.bits .or .u64 (Go.bits .andNot .u64 a0 t313) (Go.bits .and .u64 (shl .u64 a3 a1) t313))) else (none))) else (some a0))) = some r := h
 clear h
 replace H := Option.bind_eq_some_iff.mp H
 obtain ⟨t312, A50, H⟩ := H
 replace H : (if t312 = true then ((field_Mask.f a1 a2).bind fun t313 => (if 0 ≤ a1 then (some (Go.bits .or .u64 (Go.bits .andNot .u64 a0 t313) (Go.bits .and .u64 (shl .u64 a3 a1) t313))) else (none))) else (some a0)) = some r := H
 have A5 := Aside0.mk A50
 clear A50
 by_cases c6 : t312 = true
 ·subst c6
  have H1 : ((field_Mask.f a1 a2).bind fun t313 => (if 0 ≤ a1 then (some (Go.bits .or .u64 (Go.bits .andNot .u64 a0 t313) (Go.bits .and .u64 (shl .u64 a3 a1) t313))) else (none))) = some r := by rw [if_pos rfl] at H; exact H
  clear H
  have H := H1
  clear H1
  replace H := Option.bind_eq_some_iff.mp H
  obtain ⟨t313, A70, H⟩ := H
  replace H : (if 0 ≤ a1 then (some (Go.bits .or .u64 (Go.bits .andNot .u64 a0 t313) (Go.bits .and .u64 (shl .u64 a3 a1) t313))) else (none)) = some r := H
  have A7 := Aside0.mk A70
  clear A70
  by_cases c8 : 0 ≤ a1
  ·rw [if_pos c8] at H
   have c8b0 := eq_true c8
   have c8b1 : decide (0 ≤ a1) = true := decide_eq_true c8
   clear c8
   obtain ⟨ji9, hji9⟩ : ∃ j_ : Int, (shl .u64 a3 a1) = j_ := ⟨_, rfl⟩
   replace H : (some (Go.bits .or .u64 (Go.bits .andNot .u64 a0 t313) (Go.bits .and .u64 (ji9) t313))) = some r := by first | (rw [hji9] at H; exact H) | (simp only [hji9] at H ⊢; exact H)
   (try rw [hji9] at A5)
   (try rw [hji9] at A7)
   have hji9_ : (IntKind.u64.wrap (a3 * 2 ^ min a1.toNat 64)) = ji9 := hji9
   have hji9z : a1 ≤ 64 → (IntKind.u64.wrap (a3 * 2 ^ a1.toNat)) = ji9 := shl_small hji9
   obtain rfl := Option.some.inj H
   go_enter Try.func96, Try.ntmps96
   go_wp2_with (first | ((with_reducible refine gate_callee (f := 120) rfl ?_); refine goesL_ (some 12) rfl rfl Try.func120 (by kernel_rfl) rfl #[.int .i64 a1, .int .i64 a2] rfl (by (try simp only [List.map_toArray, List.map_cons, List.map_nil]); first | done | rfl | (simp only [List.length_drop, List.length_take]; rfl)) ?_; (with_reducible refine (field_May.calls a1 a2 true _ A5.out).mono ?_); rintro e w' ⟨rfl, ⟨nd, rfl⟩⟩; refine ⟨_, rfl, ?_⟩) | ((with_reducible refine gate_callee (f := 108) rfl ?_); refine goesL_ (some 17) rfl rfl Try.func108 (by kernel_rfl) rfl #[.int .i64 a1, .int .i64 a2] rfl (by (try simp only [List.map_toArray, List.map_cons, List.map_nil]); first | done | rfl | (simp only [List.length_drop, List.length_take]; rfl)) ?_; (with_reducible refine (field_Mask.calls a1 a2 t313 _ A7.out).mono ?_); rintro e w' ⟨rfl, ⟨nd, rfl⟩⟩; refine ⟨_, rfl, ?_⟩))
   go_ret
   exact ⟨by first | rfl | (simp; done) | (simp only [← hji9] <;> (first | rfl | simp)) | (simp [*]; done), by repeat (first | exact Drawn0.refl _ | apply Drawn0.step)⟩
  ·rw [if_neg c8] at H
   exact absurd H (by simp)
 ·replace c6 := Bool.eq_false_iff.mpr c6
  subst c6
  have H1 : (some a0) = some r := by rw [if_neg (show ¬ (false = true) by decide)] at H; exact H
  clear H
  have H := H1
  clear H1
  obtain rfl := Option.some.inj H
  go_enter Try.func96, Try.ntmps96
  go_wp2_with (((with_reducible refine gate_callee (f := 120) rfl ?_); refine goesL_ (some 12) rfl rfl Try.func120 (by kernel_rfl) rfl #[.int .i64 a1, .int .i64 a2] rfl (by (try simp only [List.map_toArray, List.map_cons, List.map_nil]); first | done | rfl | (simp only [List.length_drop, List.length_take]; rfl)) ?_; (with_reducible refine (field_May.calls a1 a2 false _ A5.out).mono ?_); rintro e w' ⟨rfl, ⟨nd, rfl⟩⟩; refine ⟨_, rfl, ?_⟩))
  go_ret
  exact ⟨by first | rfl | (simp; done) | (simp [*]; done), by repeat (first | exact Drawn0.refl _ | apply Drawn0.step)⟩
/-! ### field_Set: function 95 -/
def field_Set.f (a0 : Int) (a1 : Int) (a2 : Bool) : Option (Int) := if a2 = true then ((field_Put.f a0 a1 1 1).bind fun t314 => (some t314)) else ((field_Put.f a0 a1 1 0).bind fun t315 => (some t315))
set_option maxHeartbeats 8000000 in
set_option maxRecDepth 100000 in
theorem field_Set.calls (a0 : Int) (a1 : Int) (a2 : Bool) (r : Int) (w : World) (h : field_Set.f a0 a1 a2 = some r) :
  Calls Try.prog 95 #[.int .u64 a0, .int .i64 a1, .bool a2] w fun e w' => e = .returned (.int .u64 r) ∧ Drawn0 w w' := by
 have H : (if a2 = true then ((field_Put.f a0 a1 1 1).bind fun t314 => (some t314)) else ((field_Put.f a0 a1 1 0).bind fun t315 => (some t315))) = some r := h
 clear h
 by_cases c4 : a2 = true
 ·subst c4
  have H1 : ((field_Put.f a0 a1 1 1).bind fun t314 => (some t314)) = some r := by rw [if_pos rfl] at H; exact H
  clear H
  have H := H1
  clear H1
  replace H := Option.bind_eq_some_iff.mp H
  obtain ⟨t314, A50, H⟩ := H
  replace H : (some t314) = some r := H
  have A5 := Aside0.mk A50
  clear A50
  obtain rfl := Option.some.inj H
  go_enter Try.func95, Try.ntmps95
  go_wp2_with (((with_reducible refine gate_callee (f := 96) rfl ?_); refine goesL_ (some 12) rfl rfl Try.func96 (by kernel_rfl) rfl #[.int .u64 a0, .int .i64 a1, .int .i64 1, .int .u64 1] rfl (by (try simp only [List.map_toArray, List.map_cons, List.map_nil]); first | done | rfl | (simp only [List.length_drop, List.length_take]; rfl)) ?_; (with_reducible refine (field_Put.calls a0 a1 1 1 t314 _ A5.out).mono ?_); rintro e w' ⟨rfl, ⟨nd, rfl⟩⟩; refine ⟨_, rfl, ?_⟩))
  go_ret
  exact ⟨by first | rfl | (simp; done) | (simp [*]; done), by repeat (first | exact Drawn0.refl _ | apply Drawn0.step)⟩
 ·replace c4 := Bool.eq_false_iff.mpr c4
  subst c4
  have H1 : ((field_Put.f a0 a1 1 0).bind fun t315 => (some t315)) = some r := by rw [if_neg (show ¬ (false = true) by decide)] at H; exact H
  clear H
  have H := H1
  clear H1
  replace H := Option.bind_eq_some_iff.mp H
  obtain ⟨t315, A60, H⟩ := H
  replace H : (some t315) = some r := H
  have A6 := Aside0.mk A60
  clear A60
  obtain rfl := Option.some.inj H
  go_enter Try.func95, Try.ntmps95
  go_wp2_with (((with_reducible refine gate_callee (f := 96) rfl ?_); refine goesL_ (some 12) rfl rfl Try.func96 (by kernel_rfl) rfl #[.int .u64 a0, .int .i64 a1, .int .i64 1, .int .u64 0] rfl (by (try simp only [List.map_toArray, List.map_cons, List.map_nil]); first | done | rfl | (simp only [List.length_drop, List.length_take]; rfl)) ?_; (with_reducible refine (field_Put.calls a0 a1 1 0 t315 _ A6.out).mono ?_); rintro e w' ⟨rfl, ⟨nd, rfl⟩⟩; refine ⟨_, rfl, ?_⟩))
  go_ret
  exact ⟨by first | rfl | (simp; done) | (simp [*]; done), by repeat (first | exact Drawn0.refl _ | apply Drawn0.step)⟩
/-! ### tte_flags: function 97 -/
/-- The attributes' bits, as tte.flags tells them of an Attr at cell 4 of block b. -/
def tte_flags.fl (b : Nat) : Array Value := #[.int .i64 60, .pointer (some ⟨b, 9, none⟩), .int .i64 6, .pointer (some ⟨b, 7, none⟩), .int .i64 3, .pointer (some ⟨b, 6, none⟩), .int .i64 2, .pointer (some ⟨b, 5, none⟩), .int .i64 1, .pointer (some ⟨b, 4, none⟩), .int .i64 0, .pointer (some ⟨b, 8, none⟩)]
set_option maxHeartbeats 8000000 in
set_option maxRecDepth 100000 in
theorem tte_flags.calls4 (b : Nat) (w : World) : Calls Try.prog 97 #[.pointer (some ⟨b, 4, none⟩)] w fun e w' => e = .returned (.agg (tte_flags.fl b)) ∧ Below w.heap.size w w' := by
 have hu1 := Try.underlying140
 have hu2 := Try.underlying141
 have hu3 := Try.underlying48
 go_enter Try.func97, Try.ntmps97
 go_wp2_with ((with_reducible refine gate_dst (N := 2) rfl ?_); refine box_event ?hg (N := 2) ?hd (cs := #[.int .i64 0, .pointer none, .int .i64 0, .pointer none, .int .i64 0, .pointer none, .int .i64 0, .pointer none, .int .i64 0, .pointer none, .int .i64 0, .pointer none]) (t := 141) ?hr ?_; (case hd => rfl); (case hg => rfl); (case hr => first | (go_simp; done) | (go_simp; rfl)); intro gb hgb w1 hbox0 hb0; have hge := Aside0.mk (Nat.le_of_eq hgb.symm); have hbox := Aside0.mk hbox0; have hb := Aside0.mk hb0; clear hgb hbox0 hb0)
 go_still_tail 25, (by kernel_rfl)
 change wpList _ _ _ _ _ w1.drew
 have hbx := Aside0.mk (show w1.drew.heap[gb]? = some _ from hbox.out)
 have hbb := Aside0.mk (show Below w.heap.size w w1.drew from hb.out.drew)
 generalize w1.drew = w2 at hbx hbb ⊢
 refine wpList_store_row rfl 141 (.tmp 2) (.tmp 27) rfl gb (tte_flags.fl b) rfl rfl 141 _ hbx.out (by kernel_rfl) rfl (by kernel_rfl) ?_
 go_wp2
 refine bodyPost_ret (results_cell_row rfl _ _ gb 141 (tte_flags.fl b) (0, 0) _ rfl (setRow_heap _ gb _ _ _ _ hbx.out) Try.underlying141 rfl (by kernel_rfl)) rfl ?_
 exact ⟨rfl, below_setRow hbb.out hge.out _⟩
/-! ### tte_Data: function 65 -/
theorem tte_Data.row_other {w : World} {g k : Nat} {cs cs2 : Array Value} {t : TypeId} (h : w.heap[g]? = some (.cells cs2 t (0, 0))) (hk : w.heap[k]? = none ∨ g ≠ k) : (w.setRow k cs).heap[g]? = some (.cells cs2 t (0, 0)) := by
 rw [setRow_other w k g cs ?_]
 ·exact h
 ·rcases hk with hk | hk
  ·intro e; rw [e, hk] at h; cases h
  ·exact hk
def tte_Data.f (a0_0 : Int) (a0_1 : Int) (a0_2 : Int) (a0_3 : Int) (a0_4 : Bool) (a0_5 : Bool) (a0_6 : Bool) (a0_7 : Bool) (a0_8 : Bool) (a0_9 : Bool) (a0_10 : Bool) : Option Int :=
 if a0_10 = true then (field_Set.f 0 63 true).bind fun t1 => (field_Put.f t1 61 2 (IntKind.u64.wrap a0_0)).bind fun t2 => (field_Put.f t2 13 28 (a0_3 / 8192)).bind fun t3 => (field_Set.f t3 60 a0_9).bind fun t4 => (field_Set.f t4 6 a0_7).bind fun t5 => (field_Set.f t5 3 a0_6).bind fun t6 => (field_Set.f t6 2 a0_5).bind fun t7 => (field_Set.f t7 1 a0_4).bind fun t8 => field_Set.f t8 0 a0_8 else some 0
/-- What the word is behind k rounds. -/
def tte_Data.At (t3 t4 t5 t6 t7 t8 t9 : Int) (k : Nat) (x : Int) : Prop := (k = 0 ∧ x = t3) ∨ (k = 1 ∧ x = t4) ∨ (k = 2 ∧ x = t5) ∨ (k = 3 ∧ x = t6) ∨ (k = 4 ∧ x = t7) ∨ (k = 5 ∧ x = t8) ∨ (k = 6 ∧ x = t9)
set_option maxHeartbeats 8000000 in
set_option maxRecDepth 100000 in
theorem tte_Data.no (a0_0 : Int) (a0_1 : Int) (a0_2 : Int) (a0_3 : Int) (a0_4 : Bool) (a0_5 : Bool) (a0_6 : Bool) (a0_7 : Bool) (a0_8 : Bool) (a0_9 : Bool) (w : World) :
  Calls Try.prog 65 #[.agg #[.int .i64 a0_0, .int .i64 a0_1, .int .u64 a0_2, .int .u64 a0_3, .bool a0_4, .bool a0_5, .bool a0_6, .bool a0_7, .bool a0_8, .bool a0_9, .bool false]] w fun e w' => e = .returned (.int .u64 0) ∧ Below w.heap.size w w' := by
 have hu26 := Try.underlying50
 go_enter Try.func65, Try.ntmps65
 go_wp2
 go_ret
 exact ⟨rfl, (Below.refl _ _).alloc (Nat.le_refl _) _⟩
set_option maxHeartbeats 8000000 in
set_option maxRecDepth 100000 in
theorem tte_Data.yes (a0_0 : Int) (a0_1 : Int) (a0_2 : Int) (a0_3 : Int) (a0_4 : Bool) (a0_5 : Bool) (a0_6 : Bool) (a0_7 : Bool) (a0_8 : Bool) (a0_9 : Bool) (t1 t2 t3 t4 t5 t6 t7 t8 t9 : Int) (w : World)
  (h1 : field_Set.f 0 63 true = some t1) (h2 : field_Put.f t1 61 2 (IntKind.u64.wrap a0_0) = some t2) (h3 : field_Put.f t2 13 28 (a0_3 / 8192) = some t3) (h4 : field_Set.f t3 60 a0_9 = some t4) (h5 : field_Set.f t4 6 a0_7 = some t5) (h6 : field_Set.f t5 3 a0_6 = some t6) (h7 : field_Set.f t6 2 a0_5 = some t7) (h8 : field_Set.f t7 1 a0_4 = some t8) (h9 : field_Set.f t8 0 a0_8 = some t9) :
  Calls Try.prog 65 #[.agg #[.int .i64 a0_0, .int .i64 a0_1, .int .u64 a0_2, .int .u64 a0_3, .bool a0_4, .bool a0_5, .bool a0_6, .bool a0_7, .bool a0_8, .bool a0_9, .bool true]] w fun e w' => e = .returned (.int .u64 t9) ∧ Below w.heap.size w w' := by
 have A1 := Aside0.mk h1
 clear h1
 have A2 := Aside0.mk h2
 clear h2
 have A3 := Aside0.mk h3
 clear h3
 have A4 := Aside0.mk h4
 clear h4
 have A5 := Aside0.mk h5
 clear h5
 have A6 := Aside0.mk h6
 clear h6
 have A7 := Aside0.mk h7
 clear h7
 have A8 := Aside0.mk h8
 clear h8
 have A9 := Aside0.mk h9
 clear h9
 have j0 : ∀ (b : Nat) (W : World), (Instr.index 141 (.agg (tte_flags.fl b)) (.int .i64 0)).run Try.prog W = .ok (.agg #[.int .i64 60, .pointer (some ⟨b, 9, none⟩)]) W := fun _ _ => by kernel_rfl
 have j1 : ∀ (b : Nat) (W : World), (Instr.index 141 (.agg (tte_flags.fl b)) (.int .i64 1)).run Try.prog W = .ok (.agg #[.int .i64 6, .pointer (some ⟨b, 7, none⟩)]) W := fun _ _ => by kernel_rfl
 have j2 : ∀ (b : Nat) (W : World), (Instr.index 141 (.agg (tte_flags.fl b)) (.int .i64 2)).run Try.prog W = .ok (.agg #[.int .i64 3, .pointer (some ⟨b, 6, none⟩)]) W := fun _ _ => by kernel_rfl
 have j3 : ∀ (b : Nat) (W : World), (Instr.index 141 (.agg (tte_flags.fl b)) (.int .i64 3)).run Try.prog W = .ok (.agg #[.int .i64 2, .pointer (some ⟨b, 5, none⟩)]) W := fun _ _ => by kernel_rfl
 have j4 : ∀ (b : Nat) (W : World), (Instr.index 141 (.agg (tte_flags.fl b)) (.int .i64 4)).run Try.prog W = .ok (.agg #[.int .i64 1, .pointer (some ⟨b, 4, none⟩)]) W := fun _ _ => by kernel_rfl
 have j5 : ∀ (b : Nat) (W : World), (Instr.index 141 (.agg (tte_flags.fl b)) (.int .i64 5)).run Try.prog W = .ok (.agg #[.int .i64 0, .pointer (some ⟨b, 8, none⟩)]) W := fun _ _ => by kernel_rfl
 have hu26 := Try.underlying50
 have hu61 := Try.underlying140
 go_enter Try.func65, Try.ntmps65
 go_wp2_with (first | ((with_reducible refine gate_dst (N := 1) rfl ?_); refine box_event ?hg (N := 1) ?hd (cs := #[.int .i64 a0_0, .int .i64 a0_1, .int .u64 a0_2, .int .u64 a0_3, .bool a0_4, .bool a0_5, .bool a0_6, .bool a0_7, .bool a0_8, .bool a0_9, .bool true]) (t := 50) ?hr ?_; (case hd => rfl); (case hg => rfl); (case hr => first | (go_simp; done) | (go_simp; rfl)); intro gb hgb w1 hbox0 hb0; have hge := Aside0.mk (Nat.le_of_eq hgb.symm); have q0 : w1.cell? ⟨gb, 0, none⟩ = some (.int .i64 a0_0) := blk_cell hbox0 0; have q3 : w1.cell? ⟨gb, 3, none⟩ = some (.int .u64 a0_3) := blk_cell hbox0 3; have q10 : w1.cell? ⟨gb, 10, none⟩ = some (.bool true) := blk_cell hbox0 10; have hbox := Aside0.mk hbox0; have hb := Aside0.mk hb0; clear hgb hbox0 hb0) | ((with_reducible refine gate_callee (f := 95) rfl ?_); refine goesL_ (some 9) rfl rfl Try.func95 (by kernel_rfl) rfl #[.int .u64 0, .int .i64 63, .bool true] rfl (by (try simp only [List.map_toArray, List.map_cons, List.map_nil]); first | done | rfl | (simp only [List.length_drop, List.length_take]; rfl)) ?_; (with_reducible refine (field_Set.calls 0 63 true t1 _ A1.out).mono ?_); rintro e w' ⟨rfl, ⟨nd, rfl⟩⟩; refine ⟨_, rfl, ?_⟩) | ((with_reducible refine gate_callee (f := 96) rfl ?_); refine goesL_ (some 14) rfl rfl Try.func96 (by kernel_rfl) rfl #[.int .u64 t1, .int .i64 61, .int .i64 2, .int .u64 (IntKind.u64.wrap a0_0)] rfl (by (try simp only [List.map_toArray, List.map_cons, List.map_nil]); first | done | rfl | (simp only [List.length_drop, List.length_take]; rfl)) ?_; (with_reducible refine (field_Put.calls t1 61 2 (IntKind.u64.wrap a0_0) t2 _ A2.out).mono ?_); rintro e w' ⟨rfl, ⟨nd, rfl⟩⟩; refine ⟨_, rfl, ?_⟩) | ((with_reducible refine gate_callee (f := 96) rfl ?_); refine goesL_ (some 19) rfl rfl Try.func96 (by kernel_rfl) rfl #[.int .u64 t2, .int .i64 13, .int .i64 28, .int .u64 (a0_3 / 8192)] rfl (by (try simp only [List.map_toArray, List.map_cons, List.map_nil]); first | done | rfl | (simp only [List.length_drop, List.length_take]; rfl)) ?_; (with_reducible refine (field_Put.calls t2 13 28 (a0_3 / 8192) t3 _ A3.out).mono ?_); rintro e w' ⟨rfl, ⟨nd, rfl⟩⟩; refine ⟨_, rfl, ?_⟩) | (go_at_call 97; refine (tte_flags.calls4 gb _).mono ?_; rintro e w2 ⟨rfl, hb2⟩; have hbx := Aside0.mk (show w2.heap[gb]? = some _ from blk_below (blk_drewN hbox.out _) hb2); have hbb := Aside0.mk (show Below w.heap.size w w2 from below_step (pw_below_drewN hb.out _) hb2); clear hb2))
 clear q0 q3 q10
 go_loopw [3, 22] (fun v3 v22 wr => ∃ (k : Nat) (x : Int), v22 = .int .i64 k ∧ v3 = .int .u64 x ∧ Aside0 (tte_Data.At t3 t4 t5 t6 t7 t8 t9 k x) ∧ Aside0 (wr.heap[gb]? = some (.cells #[.int .i64 a0_0, .int .i64 a0_1, .int .u64 a0_2, .int .u64 a0_3, .bool a0_4, .bool a0_5, .bool a0_6, .bool a0_7, .bool a0_8, .bool a0_9, .bool true] 50 (0, 0))) ∧ Aside0 (Below w.heap.size w wr)) (fun _ v22 _ => 6 - (intOf v22).toNat)
 case atStart => exact ⟨0, t3, rfl, rfl, ⟨.inl ⟨rfl, rfl⟩⟩, hbx, hbb⟩
 case round =>
  clear hbox hb hbx hbb
  obtain ⟨k, x, rfl, rfl, hAt, hE, hB⟩ := hrel
  have hAt := hAt.out
  rcases hAt with ⟨rfl, rfl⟩ | ⟨rfl, rfl⟩ | ⟨rfl, rfl⟩ | ⟨rfl, rfl⟩ | ⟨rfl, rfl⟩ | ⟨rfl, rfl⟩ | ⟨rfl, rfl⟩
  ·have i0 := j0 gb
   go_wp2_with (first | ((with_reducible refine gate_dst (N := 5) rfl ?_); refine box_event ?hg (N := 5) ?hd (cs := #[.int .i64 0, .pointer none]) (t := 140) ?hr ?_; (case hd => rfl); (case hg => rfl); (case hr => first | (go_simp; done) | (go_simp; rfl)); intro g5 hg5 w1 hbox0 hb0; have hge5 := Aside0.mk (show wr.heap.size ≤ g5 from Nat.le_of_eq hg5.symm); have hbox := Aside0.mk hbox0; have hE1 := Aside0.mk (show w1.heap[gb]? = some _ from blk_below hE.out hb0); have hB1 := Aside0.mk (show Below w.heap.size w w1 from below_step hB.out hb0); clear hg5 hbox0 hb0) | ((with_reducible refine gate_store (t := 140) (p := 5) rfl ?_); refine wpList_store_row rfl 140 (.tmp 5) (.tmp 24) rfl g5 #[.int .i64 60, .pointer (some ⟨gb, 9, none⟩)] rfl rfl 140 _ hbox.out (by kernel_rfl) rfl (by kernel_rfl) ?_; have n1 := Aside0.mk (setRow_heap w1 g5 _ #[.int .i64 60, .pointer (some ⟨gb, 9, none⟩)] _ _ hbox.out); have n2 := Aside0.mk (tte_Data.row_other (cs := #[.int .i64 60, .pointer (some ⟨gb, 9, none⟩)]) hE1.out (.inr (Nat.ne_of_lt (Nat.lt_of_lt_of_le (blk_lt hE.out) hge5.out)))); have n3 := Aside0.mk (below_setRow hB1.out (Nat.le_trans hB.out.size hge5.out) #[.int .i64 60, .pointer (some ⟨gb, 9, none⟩)]); generalize w1.setRow g5 #[.int .i64 60, .pointer (some ⟨gb, 9, none⟩)] = w3 at n1 n2 n3 ⊢; have q0 : w3.cell? ⟨g5, 0, none⟩ = some (.int .i64 60) := blk_cell n1.out 0; have q1 : w3.cell? ⟨g5, 1, none⟩ = some (.pointer (some ⟨gb, 9, none⟩)) := blk_cell n1.out 1; have q2 : w3.cell? ⟨gb, 9, none⟩ = some (.bool a0_9) := blk_cell n2.out 9))
   go_quiet ((go_at_call 95; (with_reducible refine (field_Set.calls _ _ _ _ _ A4.out).mono ?_); rintro e w' ⟨rfl, ⟨nd, rfl⟩⟩; exact ⟨rfl, _, World.drewN_drewN _ _ _⟩))
   go_wp2
   go_roundw
   case rel => exact ⟨1, _, by go_num, rfl, ⟨.inr (.inl ⟨rfl, rfl⟩)⟩, ⟨n2.out⟩, ⟨pw_below_drewN n3.out _⟩⟩
   case measure => simp [intOf]
  ·have i1 := j1 gb
   go_wp2_with (first | ((with_reducible refine gate_dst (N := 5) rfl ?_); refine box_event ?hg (N := 5) ?hd (cs := #[.int .i64 0, .pointer none]) (t := 140) ?hr ?_; (case hd => rfl); (case hg => rfl); (case hr => first | (go_simp; done) | (go_simp; rfl)); intro g5 hg5 w1 hbox0 hb0; have hge5 := Aside0.mk (show wr.heap.size ≤ g5 from Nat.le_of_eq hg5.symm); have hbox := Aside0.mk hbox0; have hE1 := Aside0.mk (show w1.heap[gb]? = some _ from blk_below hE.out hb0); have hB1 := Aside0.mk (show Below w.heap.size w w1 from below_step hB.out hb0); clear hg5 hbox0 hb0) | ((with_reducible refine gate_store (t := 140) (p := 5) rfl ?_); refine wpList_store_row rfl 140 (.tmp 5) (.tmp 24) rfl g5 #[.int .i64 6, .pointer (some ⟨gb, 7, none⟩)] rfl rfl 140 _ hbox.out (by kernel_rfl) rfl (by kernel_rfl) ?_; have n1 := Aside0.mk (setRow_heap w1 g5 _ #[.int .i64 6, .pointer (some ⟨gb, 7, none⟩)] _ _ hbox.out); have n2 := Aside0.mk (tte_Data.row_other (cs := #[.int .i64 6, .pointer (some ⟨gb, 7, none⟩)]) hE1.out (.inr (Nat.ne_of_lt (Nat.lt_of_lt_of_le (blk_lt hE.out) hge5.out)))); have n3 := Aside0.mk (below_setRow hB1.out (Nat.le_trans hB.out.size hge5.out) #[.int .i64 6, .pointer (some ⟨gb, 7, none⟩)]); generalize w1.setRow g5 #[.int .i64 6, .pointer (some ⟨gb, 7, none⟩)] = w3 at n1 n2 n3 ⊢; have q0 : w3.cell? ⟨g5, 0, none⟩ = some (.int .i64 6) := blk_cell n1.out 0; have q1 : w3.cell? ⟨g5, 1, none⟩ = some (.pointer (some ⟨gb, 7, none⟩)) := blk_cell n1.out 1; have q2 : w3.cell? ⟨gb, 7, none⟩ = some (.bool a0_7) := blk_cell n2.out 7))
   go_quiet ((go_at_call 95; (with_reducible refine (field_Set.calls _ _ _ _ _ A5.out).mono ?_); rintro e w' ⟨rfl, ⟨nd, rfl⟩⟩; exact ⟨rfl, _, World.drewN_drewN _ _ _⟩))
   go_wp2
   go_roundw
   case rel => exact ⟨2, _, by go_num, rfl, ⟨.inr (.inr (.inl ⟨rfl, rfl⟩))⟩, ⟨n2.out⟩, ⟨pw_below_drewN n3.out _⟩⟩
   case measure => simp [intOf]
  ·have i2 := j2 gb
   go_wp2_with (first | ((with_reducible refine gate_dst (N := 5) rfl ?_); refine box_event ?hg (N := 5) ?hd (cs := #[.int .i64 0, .pointer none]) (t := 140) ?hr ?_; (case hd => rfl); (case hg => rfl); (case hr => first | (go_simp; done) | (go_simp; rfl)); intro g5 hg5 w1 hbox0 hb0; have hge5 := Aside0.mk (show wr.heap.size ≤ g5 from Nat.le_of_eq hg5.symm); have hbox := Aside0.mk hbox0; have hE1 := Aside0.mk (show w1.heap[gb]? = some _ from blk_below hE.out hb0); have hB1 := Aside0.mk (show Below w.heap.size w w1 from below_step hB.out hb0); clear hg5 hbox0 hb0) | ((with_reducible refine gate_store (t := 140) (p := 5) rfl ?_); refine wpList_store_row rfl 140 (.tmp 5) (.tmp 24) rfl g5 #[.int .i64 3, .pointer (some ⟨gb, 6, none⟩)] rfl rfl 140 _ hbox.out (by kernel_rfl) rfl (by kernel_rfl) ?_; have n1 := Aside0.mk (setRow_heap w1 g5 _ #[.int .i64 3, .pointer (some ⟨gb, 6, none⟩)] _ _ hbox.out); have n2 := Aside0.mk (tte_Data.row_other (cs := #[.int .i64 3, .pointer (some ⟨gb, 6, none⟩)]) hE1.out (.inr (Nat.ne_of_lt (Nat.lt_of_lt_of_le (blk_lt hE.out) hge5.out)))); have n3 := Aside0.mk (below_setRow hB1.out (Nat.le_trans hB.out.size hge5.out) #[.int .i64 3, .pointer (some ⟨gb, 6, none⟩)]); generalize w1.setRow g5 #[.int .i64 3, .pointer (some ⟨gb, 6, none⟩)] = w3 at n1 n2 n3 ⊢; have q0 : w3.cell? ⟨g5, 0, none⟩ = some (.int .i64 3) := blk_cell n1.out 0; have q1 : w3.cell? ⟨g5, 1, none⟩ = some (.pointer (some ⟨gb, 6, none⟩)) := blk_cell n1.out 1; have q2 : w3.cell? ⟨gb, 6, none⟩ = some (.bool a0_6) := blk_cell n2.out 6))
   go_quiet ((go_at_call 95; (with_reducible refine (field_Set.calls _ _ _ _ _ A6.out).mono ?_); rintro e w' ⟨rfl, ⟨nd, rfl⟩⟩; exact ⟨rfl, _, World.drewN_drewN _ _ _⟩))
   go_wp2
   go_roundw
   case rel => exact ⟨3, _, by go_num, rfl, ⟨.inr (.inr (.inr (.inl ⟨rfl, rfl⟩)))⟩, ⟨n2.out⟩, ⟨pw_below_drewN n3.out _⟩⟩
   case measure => simp [intOf]
  ·have i3 := j3 gb
   go_wp2_with (first | ((with_reducible refine gate_dst (N := 5) rfl ?_); refine box_event ?hg (N := 5) ?hd (cs := #[.int .i64 0, .pointer none]) (t := 140) ?hr ?_; (case hd => rfl); (case hg => rfl); (case hr => first | (go_simp; done) | (go_simp; rfl)); intro g5 hg5 w1 hbox0 hb0; have hge5 := Aside0.mk (show wr.heap.size ≤ g5 from Nat.le_of_eq hg5.symm); have hbox := Aside0.mk hbox0; have hE1 := Aside0.mk (show w1.heap[gb]? = some _ from blk_below hE.out hb0); have hB1 := Aside0.mk (show Below w.heap.size w w1 from below_step hB.out hb0); clear hg5 hbox0 hb0) | ((with_reducible refine gate_store (t := 140) (p := 5) rfl ?_); refine wpList_store_row rfl 140 (.tmp 5) (.tmp 24) rfl g5 #[.int .i64 2, .pointer (some ⟨gb, 5, none⟩)] rfl rfl 140 _ hbox.out (by kernel_rfl) rfl (by kernel_rfl) ?_; have n1 := Aside0.mk (setRow_heap w1 g5 _ #[.int .i64 2, .pointer (some ⟨gb, 5, none⟩)] _ _ hbox.out); have n2 := Aside0.mk (tte_Data.row_other (cs := #[.int .i64 2, .pointer (some ⟨gb, 5, none⟩)]) hE1.out (.inr (Nat.ne_of_lt (Nat.lt_of_lt_of_le (blk_lt hE.out) hge5.out)))); have n3 := Aside0.mk (below_setRow hB1.out (Nat.le_trans hB.out.size hge5.out) #[.int .i64 2, .pointer (some ⟨gb, 5, none⟩)]); generalize w1.setRow g5 #[.int .i64 2, .pointer (some ⟨gb, 5, none⟩)] = w3 at n1 n2 n3 ⊢; have q0 : w3.cell? ⟨g5, 0, none⟩ = some (.int .i64 2) := blk_cell n1.out 0; have q1 : w3.cell? ⟨g5, 1, none⟩ = some (.pointer (some ⟨gb, 5, none⟩)) := blk_cell n1.out 1; have q2 : w3.cell? ⟨gb, 5, none⟩ = some (.bool a0_5) := blk_cell n2.out 5))
   go_quiet ((go_at_call 95; (with_reducible refine (field_Set.calls _ _ _ _ _ A7.out).mono ?_); rintro e w' ⟨rfl, ⟨nd, rfl⟩⟩; exact ⟨rfl, _, World.drewN_drewN _ _ _⟩))
   go_wp2
   go_roundw
   case rel => exact ⟨4, _, by go_num, rfl, ⟨.inr (.inr (.inr (.inr (.inl ⟨rfl, rfl⟩))))⟩, ⟨n2.out⟩, ⟨pw_below_drewN n3.out _⟩⟩
   case measure => simp [intOf]
  ·have i4 := j4 gb
   go_wp2_with (first | ((with_reducible refine gate_dst (N := 5) rfl ?_); refine box_event ?hg (N := 5) ?hd (cs := #[.int .i64 0, .pointer none]) (t := 140) ?hr ?_; (case hd => rfl); (case hg => rfl); (case hr => first | (go_simp; done) | (go_simp; rfl)); intro g5 hg5 w1 hbox0 hb0; have hge5 := Aside0.mk (show wr.heap.size ≤ g5 from Nat.le_of_eq hg5.symm); have hbox := Aside0.mk hbox0; have hE1 := Aside0.mk (show w1.heap[gb]? = some _ from blk_below hE.out hb0); have hB1 := Aside0.mk (show Below w.heap.size w w1 from below_step hB.out hb0); clear hg5 hbox0 hb0) | ((with_reducible refine gate_store (t := 140) (p := 5) rfl ?_); refine wpList_store_row rfl 140 (.tmp 5) (.tmp 24) rfl g5 #[.int .i64 1, .pointer (some ⟨gb, 4, none⟩)] rfl rfl 140 _ hbox.out (by kernel_rfl) rfl (by kernel_rfl) ?_; have n1 := Aside0.mk (setRow_heap w1 g5 _ #[.int .i64 1, .pointer (some ⟨gb, 4, none⟩)] _ _ hbox.out); have n2 := Aside0.mk (tte_Data.row_other (cs := #[.int .i64 1, .pointer (some ⟨gb, 4, none⟩)]) hE1.out (.inr (Nat.ne_of_lt (Nat.lt_of_lt_of_le (blk_lt hE.out) hge5.out)))); have n3 := Aside0.mk (below_setRow hB1.out (Nat.le_trans hB.out.size hge5.out) #[.int .i64 1, .pointer (some ⟨gb, 4, none⟩)]); generalize w1.setRow g5 #[.int .i64 1, .pointer (some ⟨gb, 4, none⟩)] = w3 at n1 n2 n3 ⊢; have q0 : w3.cell? ⟨g5, 0, none⟩ = some (.int .i64 1) := blk_cell n1.out 0; have q1 : w3.cell? ⟨g5, 1, none⟩ = some (.pointer (some ⟨gb, 4, none⟩)) := blk_cell n1.out 1; have q2 : w3.cell? ⟨gb, 4, none⟩ = some (.bool a0_4) := blk_cell n2.out 4))
   go_quiet ((go_at_call 95; (with_reducible refine (field_Set.calls _ _ _ _ _ A8.out).mono ?_); rintro e w' ⟨rfl, ⟨nd, rfl⟩⟩; exact ⟨rfl, _, World.drewN_drewN _ _ _⟩))
   go_wp2
   go_roundw
   case rel => exact ⟨5, _, by go_num, rfl, ⟨.inr (.inr (.inr (.inr (.inr (.inl ⟨rfl, rfl⟩)))))⟩, ⟨n2.out⟩, ⟨pw_below_drewN n3.out _⟩⟩
   case measure => simp [intOf]
  ·have i5 := j5 gb
   go_wp2_with (first | ((with_reducible refine gate_dst (N := 5) rfl ?_); refine box_event ?hg (N := 5) ?hd (cs := #[.int .i64 0, .pointer none]) (t := 140) ?hr ?_; (case hd => rfl); (case hg => rfl); (case hr => first | (go_simp; done) | (go_simp; rfl)); intro g5 hg5 w1 hbox0 hb0; have hge5 := Aside0.mk (show wr.heap.size ≤ g5 from Nat.le_of_eq hg5.symm); have hbox := Aside0.mk hbox0; have hE1 := Aside0.mk (show w1.heap[gb]? = some _ from blk_below hE.out hb0); have hB1 := Aside0.mk (show Below w.heap.size w w1 from below_step hB.out hb0); clear hg5 hbox0 hb0) | ((with_reducible refine gate_store (t := 140) (p := 5) rfl ?_); refine wpList_store_row rfl 140 (.tmp 5) (.tmp 24) rfl g5 #[.int .i64 0, .pointer (some ⟨gb, 8, none⟩)] rfl rfl 140 _ hbox.out (by kernel_rfl) rfl (by kernel_rfl) ?_; have n1 := Aside0.mk (setRow_heap w1 g5 _ #[.int .i64 0, .pointer (some ⟨gb, 8, none⟩)] _ _ hbox.out); have n2 := Aside0.mk (tte_Data.row_other (cs := #[.int .i64 0, .pointer (some ⟨gb, 8, none⟩)]) hE1.out (.inr (Nat.ne_of_lt (Nat.lt_of_lt_of_le (blk_lt hE.out) hge5.out)))); have n3 := Aside0.mk (below_setRow hB1.out (Nat.le_trans hB.out.size hge5.out) #[.int .i64 0, .pointer (some ⟨gb, 8, none⟩)]); generalize w1.setRow g5 #[.int .i64 0, .pointer (some ⟨gb, 8, none⟩)] = w3 at n1 n2 n3 ⊢; have q0 : w3.cell? ⟨g5, 0, none⟩ = some (.int .i64 0) := blk_cell n1.out 0; have q1 : w3.cell? ⟨g5, 1, none⟩ = some (.pointer (some ⟨gb, 8, none⟩)) := blk_cell n1.out 1; have q2 : w3.cell? ⟨gb, 8, none⟩ = some (.bool a0_8) := blk_cell n2.out 8))
   go_quiet ((go_at_call 95; (with_reducible refine (field_Set.calls _ _ _ _ _ A9.out).mono ?_); rintro e w' ⟨rfl, ⟨nd, rfl⟩⟩; exact ⟨rfl, _, World.drewN_drewN _ _ _⟩))
   go_wp2
   go_roundw
   case rel => exact ⟨6, _, by go_num, rfl, ⟨.inr (.inr (.inr (.inr (.inr (.inr (⟨rfl, rfl⟩))))))⟩, ⟨n2.out⟩, ⟨pw_below_drewN n3.out _⟩⟩
   case measure => simp [intOf]
  ·go_wp2
   go_ret
   exact ⟨rfl, hB.out⟩
theorem tte_Data.calls (a0_0 : Int) (a0_1 : Int) (a0_2 : Int) (a0_3 : Int) (a0_4 : Bool) (a0_5 : Bool) (a0_6 : Bool) (a0_7 : Bool) (a0_8 : Bool) (a0_9 : Bool) (a0_10 : Bool) (r : Int) (w : World) (h : tte_Data.f a0_0 a0_1 a0_2 a0_3 a0_4 a0_5 a0_6 a0_7 a0_8 a0_9 a0_10 = some r) :
  Calls Try.prog 65 #[.agg #[.int .i64 a0_0, .int .i64 a0_1, .int .u64 a0_2, .int .u64 a0_3, .bool a0_4, .bool a0_5, .bool a0_6, .bool a0_7, .bool a0_8, .bool a0_9, .bool a0_10]] w fun e w' => e = .returned (.int .u64 r) ∧ Below w.heap.size w w' := by
 unfold tte_Data.f at h
 cases a0_10 with
 | false =>
  rw [if_neg (by decide)] at h
  obtain rfl := Option.some.inj h
  exact tte_Data.no a0_0 a0_1 a0_2 a0_3 a0_4 a0_5 a0_6 a0_7 a0_8 a0_9 w
 | true =>
  rw [if_pos rfl] at h
  obtain ⟨t1, h1, h⟩ := Option.bind_eq_some_iff.mp h
  obtain ⟨t2, h2, h⟩ := Option.bind_eq_some_iff.mp h
  obtain ⟨t3, h3, h⟩ := Option.bind_eq_some_iff.mp h
  obtain ⟨t4, h4, h⟩ := Option.bind_eq_some_iff.mp h
  obtain ⟨t5, h5, h⟩ := Option.bind_eq_some_iff.mp h
  obtain ⟨t6, h6, h⟩ := Option.bind_eq_some_iff.mp h
  obtain ⟨t7, h7, h⟩ := Option.bind_eq_some_iff.mp h
  obtain ⟨t8, h8, h⟩ := Option.bind_eq_some_iff.mp h
  exact tte_Data.yes a0_0 a0_1 a0_2 a0_3 a0_4 a0_5 a0_6 a0_7 a0_8 a0_9 t1 t2 t3 t4 t5 t6 t7 t8 r w h1 h2 h3 h4 h5 h6 h7 h8 h


-- NOT PRINTED: function 28 (tsb_Tsb_PutData)
/-! ### page_Tag: function 121 -/
def page_Tag.f (a0 : Int) : Option (Int) := (field_Get.f a0 22 22).bind fun t316 => (some t316)
set_option maxHeartbeats 8000000 in
set_option maxRecDepth 100000 in
theorem page_Tag.calls (a0 : Int) (r : Int) (w : World) (h : page_Tag.f a0 = some r) :
  Calls Try.prog 121 #[.int .u64 a0] w fun e w' => e = .returned (.int .u64 r) ∧ Drawn0 w w' := by
 have H : ((field_Get.f a0 22 22).bind fun t316 => (some t316)) = some r := h
 clear h
 replace H := Option.bind_eq_some_iff.mp H
 obtain ⟨t316, A20, H⟩ := H
 replace H : (some t316) = some r := H
 have A2 := Aside0.mk A20
 clear A20
 obtain rfl := Option.some.inj H
 go_enter Try.func121, Try.ntmps121
 go_wp2_with (((with_reducible refine gate_callee (f := 106) rfl ?_); refine goesL_ (some 4) rfl rfl Try.func106 (by kernel_rfl) rfl #[.int .u64 a0, .int .i64 22, .int .i64 22] rfl (by (try simp only [List.map_toArray, List.map_cons, List.map_nil]); first | done | rfl | (simp only [List.length_drop, List.length_take]; rfl)) ?_; (with_reducible refine (field_Get.calls a0 22 22 t316 _ A2.out).mono ?_); rintro e w' ⟨rfl, ⟨nd, rfl⟩⟩; refine ⟨_, rfl, ?_⟩))
 go_ret
 exact ⟨by first | rfl | (simp; done) | (simp [*]; done), by repeat (first | exact Drawn0.refl _ | apply Drawn0.step)⟩
/-! ### tte_Target: function 98 -/
def tte_Target.f (a0 : Int) (a1 : Int) : Option (Int) := (page_Tag.f a0).bind fun t317 => ((field_Put.f t317 48 13 (IntKind.u64.wrap (a1))).bind fun t318 => (some t318))
set_option maxHeartbeats 8000000 in
set_option maxRecDepth 100000 in
theorem tte_Target.calls (a0 : Int) (a1 : Int) (r : Int) (w : World) (h : tte_Target.f a0 a1 = some r) :
  Calls Try.prog 98 #[.int .u64 a0, .int .i64 a1] w fun e w' => e = .returned (.int .u64 r) ∧ Drawn0 w w' := by
 have H : ((page_Tag.f a0).bind fun t317 => ((field_Put.f t317 48 13 (IntKind.u64.wrap (a1))).bind fun t318 => (some t318))) = some r := h
 clear h
 replace H := Option.bind_eq_some_iff.mp H
 obtain ⟨t317, A30, H⟩ := H
 replace H : ((field_Put.f t317 48 13 (IntKind.u64.wrap (a1))).bind fun t318 => (some t318)) = some r := H
 have A3 := Aside0.mk A30
 clear A30
 replace H := Option.bind_eq_some_iff.mp H
 obtain ⟨t318, A40, H⟩ := H
 replace H : (some t318) = some r := H
 have A4 := Aside0.mk A40
 clear A40
 obtain rfl := Option.some.inj H
 go_enter Try.func98, Try.ntmps98
 go_wp2_with (first | ((with_reducible refine gate_callee (f := 121) rfl ?_); refine goesL_ (some 6) rfl rfl Try.func121 (by kernel_rfl) rfl #[.int .u64 a0] rfl (by (try simp only [List.map_toArray, List.map_cons, List.map_nil]); first | done | rfl | (simp only [List.length_drop, List.length_take]; rfl)) ?_; (with_reducible refine (page_Tag.calls a0 t317 _ A3.out).mono ?_); rintro e w' ⟨rfl, ⟨nd, rfl⟩⟩; refine ⟨_, rfl, ?_⟩) | ((with_reducible refine gate_callee (f := 96) rfl ?_); refine goesL_ (some 9) rfl rfl Try.func96 (by kernel_rfl) rfl #[.int .u64 t317, .int .i64 48, .int .i64 13, .int .u64 (IntKind.u64.wrap (a1))] rfl (by (try simp only [List.map_toArray, List.map_cons, List.map_nil]); first | done | rfl | (simp only [List.length_drop, List.length_take]; rfl)) ?_; (with_reducible refine (field_Put.calls t317 48 13 (IntKind.u64.wrap (a1)) t318 _ A4.out).mono ?_); rintro e w' ⟨rfl, ⟨nd, rfl⟩⟩; refine ⟨_, rfl, ?_⟩))
 go_ret
 exact ⟨by first | rfl | (simp; done) | (simp [*]; done), by repeat (first | exact Drawn0.refl _ | apply Drawn0.step)⟩
/-! ### tte_Tag: function 66 -/
def tte_Tag.f (a0_0 : Int) (a0_1 : Int) (a0_2 : Int) (a0_3 : Int) (a0_4 : Bool) (a0_5 : Bool) (a0_6 : Bool) (a0_7 : Bool) (a0_8 : Bool) (a0_9 : Bool) (a0_10 : Bool) : Option (Int) := (tte_Target.f a0_2 a0_1).bind fun t320 => ((field_Set.f t320 63 a0_8).bind fun t321 => (some t321))
set_option maxHeartbeats 8000000 in
set_option maxRecDepth 100000 in
theorem tte_Tag.calls (a0_0 : Int) (a0_1 : Int) (a0_2 : Int) (a0_3 : Int) (a0_4 : Bool) (a0_5 : Bool) (a0_6 : Bool) (a0_7 : Bool) (a0_8 : Bool) (a0_9 : Bool) (a0_10 : Bool) (r : Int) (w : World) (h : tte_Tag.f a0_0 a0_1 a0_2 a0_3 a0_4 a0_5 a0_6 a0_7 a0_8 a0_9 a0_10 = some r) :
  Calls Try.prog 66 #[.agg #[.int .i64 a0_0, .int .i64 a0_1, .int .u64 a0_2, .int .u64 a0_3, .bool a0_4, .bool a0_5, .bool a0_6, .bool a0_7, .bool a0_8, .bool a0_9, .bool a0_10]] w fun e w' => e = .returned (.int .u64 r) ∧ Below w.heap.size w w' := by
 have hu50 := Try.underlying50
 have HB := Aside0.mk (Below.refl w.heap.size w)
 have H : ((tte_Target.f a0_2 a0_1).bind fun t320 => ((field_Set.f t320 63 a0_8).bind fun t321 => (some t321))) = some r := h
 clear h
 replace H := Option.bind_eq_some_iff.mp H
 obtain ⟨t320, A20, H⟩ := H
 replace H : ((field_Set.f t320 63 a0_8).bind fun t321 => (some t321)) = some r := H
 have A2 := Aside0.mk A20
 clear A20
 replace H := Option.bind_eq_some_iff.mp H
 obtain ⟨t321, A30, H⟩ := H
 replace H : (some t321) = some r := H
 have A3 := Aside0.mk A30
 clear A30
 obtain rfl := Option.some.inj H
 go_enter Try.func66, Try.ntmps66
 go_wp2_with (((with_reducible refine gate_dst (N := 1) rfl ?_); refine box_event ?hg (N := 1) ?hd (cs := #[.int .i64 a0_0, .int .i64 a0_1, .int .u64 a0_2, .int .u64 a0_3, .bool a0_4, .bool a0_5, .bool a0_6, .bool a0_7, .bool a0_8, .bool a0_9, .bool a0_10]) (t := 50) ?hr ?_; (case hd => rfl); (case hg => rfl); (case hr => first | (go_simp; done) | (go_simp; rfl)); intro gb319 hg w4 hbox hb; have n0_ := Aside0.mk (below_step (by repeat (first | (with_reducible first | exact HB.out | apply below_alloc | apply pw_below_drewN | apply below_drew1) | exact HB.out)) hb); have n1_ := Aside0.mk (hbox); have n2_ := Aside0.mk ((by rw [hg]; exact (below_size (by repeat (first | (with_reducible first | exact HB.out | apply below_alloc | apply pw_below_drewN | apply below_drew1) | exact HB.out))) : w.heap.size ≤ gb319)); have n3_ := Aside0.mk ((by rw [hg]; exact (below_size (by repeat (first | (with_reducible first | exact HB.out | apply below_alloc | apply pw_below_drewN | apply below_drew1) | exact HB.out))) : w.heap.size ≤ gb319)); clear HB; have HB := n0_; have BK319 := n1_; have GW319 := n2_; have GE319 := n3_; clear n0_ n1_ n2_ n3_; clear hb hbox hg; obtain ⟨hcz5_0, hcz5_1, hcz5_2, hcz5_3, hcz5_4, hcz5_5, hcz5_6, hcz5_7, hcz5_8, hcz5_9, hcz5_10⟩ := cy11_21 BK319.out; have hfz5_0 := blk_frozen BK319.out 0; have hfz5_1 := blk_frozen BK319.out 1; have hfz5_2 := blk_frozen BK319.out 2; have hfz5_3 := blk_frozen BK319.out 3; have hfz5_4 := blk_frozen BK319.out 4; have hfz5_5 := blk_frozen BK319.out 5; have hfz5_6 := blk_frozen BK319.out 6; have hfz5_7 := blk_frozen BK319.out 7; have hfz5_8 := blk_frozen BK319.out 8; have hfz5_9 := blk_frozen BK319.out 9; have hfz5_10 := blk_frozen BK319.out 10))
 repeat (go_quiet (first | (go_at_call 98; (with_reducible refine (tte_Target.calls a0_2 a0_1 t320 _ A2.out).mono ?_); rintro e w' ⟨rfl, ⟨nd, rfl⟩⟩; (try first | exact ⟨rfl, _, World.drewN_drewN _ _ _⟩ | exact ⟨rfl, _, Eq.trans (World.drewN_drewN _ _ _) (congrArg (World.drewN _) (Nat.add_assoc _ _ _))⟩)) | (go_at_call 95; (with_reducible refine (field_Set.calls t320 63 a0_8 t321 _ A3.out).mono ?_); rintro e w' ⟨rfl, ⟨nd, rfl⟩⟩; (try first | exact ⟨rfl, _, World.drewN_drewN _ _ _⟩ | exact ⟨rfl, _, Eq.trans (World.drewN_drewN _ _ _) (congrArg (World.drewN _) (Nat.add_assoc _ _ _))⟩))); try go_wp2_with (fail))
 go_ret
 exact ⟨by first | rfl | (simp [errW_none, errW_some] <;> rfl) | (simp [*, errW_none, errW_some] <;> rfl), by repeat (first | (with_reducible first | exact HB.out | apply below_alloc | apply pw_below_drewN | apply below_drew1 | refine below_set ?_ GE319.out) | exact HB.out)⟩

-- NOT PRINTED: function 29 (tsb_Tsb_PutTag)

-- NOT PRINTED: function 22 (tsb_Tsb_Insert)

-- NOT PRINTED: function 89 (memory_Memory_Pair)
/-! ### tte_Valid: function 117 -/
def tte_Valid.f (a0 : Int) : Option (Bool) := (field_Bit.f a0 63).bind fun t323 => (some t323)
set_option maxHeartbeats 8000000 in
set_option maxRecDepth 100000 in
theorem tte_Valid.calls (a0 : Int) (r : Bool) (w : World) (h : tte_Valid.f a0 = some r) :
  Calls Try.prog 117 #[.int .u64 a0] w fun e w' => e = .returned (.bool r) ∧ Drawn0 w w' := by
 have H : ((field_Bit.f a0 63).bind fun t323 => (some t323)) = some r := h
 clear h
 replace H := Option.bind_eq_some_iff.mp H
 obtain ⟨t323, A20, H⟩ := H
 replace H : (some t323) = some r := H
 have A2 := Aside0.mk A20
 clear A20
 obtain rfl := Option.some.inj H
 go_enter Try.func117, Try.ntmps117
 go_wp2_with (((with_reducible refine gate_callee (f := 107) rfl ?_); refine goesL_ (some 4) rfl rfl Try.func107 (by kernel_rfl) rfl #[.int .u64 a0, .int .i64 63] rfl (by (try simp only [List.map_toArray, List.map_cons, List.map_nil]); first | done | rfl | (simp only [List.length_drop, List.length_take]; rfl)) ?_; (with_reducible refine (field_Bit.calls a0 63 t323 _ A2.out).mono ?_); rintro e w' ⟨rfl, ⟨nd, rfl⟩⟩; refine ⟨_, rfl, ?_⟩))
 go_ret
 exact ⟨by first | rfl | (simp; done) | (simp [*]; done), by repeat (first | exact Drawn0.refl _ | apply Drawn0.step)⟩
/-! ### page_Base: function 118 -/
def page_Base.f (a0 : Int) (a1 : Int) : Option (Int) := (page_May.f a1).bind fun t324 => (if t324 = true then ((page_Offset.f a0 a1).bind fun t325 => (some (IntKind.u64.wrap (a0 - t325)))) else (some 0))
set_option maxHeartbeats 8000000 in
set_option maxRecDepth 100000 in
theorem page_Base.calls (a0 : Int) (a1 : Int) (r : Int) (w : World) (h : page_Base.f a0 a1 = some r) :
  Calls Try.prog 118 #[.int .u64 a0, .int .i64 a1] w fun e w' => e = .returned (.int .u64 r) ∧ Drawn0 w w' := by
 have H : ((page_May.f a1).bind fun t324 => (if t324 = true then ((page_Offset.f a0 a1).bind fun t325 => (some (IntKind.u64.wrap (a0 - t325)))) else (some 0))) = some r := h
 clear h
 replace H := Option.bind_eq_some_iff.mp H
 obtain ⟨t324, A30, H⟩ := H
 replace H : (if t324 = true then ((page_Offset.f a0 a1).bind fun t325 => (some (IntKind.u64.wrap (a0 - t325)))) else (some 0)) = some r := H
 have A3 := Aside0.mk A30
 clear A30
 by_cases c4 : t324 = true
 ·subst c4
  have H1 : ((page_Offset.f a0 a1).bind fun t325 => (some (IntKind.u64.wrap (a0 - t325)))) = some r := by rw [if_pos rfl] at H; exact H
  clear H
  have H := H1
  clear H1
  replace H := Option.bind_eq_some_iff.mp H
  obtain ⟨t325, A50, H⟩ := H
  replace H : (some (IntKind.u64.wrap (a0 - t325))) = some r := H
  have A5 := Aside0.mk A50
  clear A50
  obtain rfl := Option.some.inj H
  go_enter Try.func118, Try.ntmps118
  go_wp2_with (first | ((with_reducible refine gate_callee (f := 75) rfl ?_); refine goesL_ (some 6) rfl rfl Try.func75 (by kernel_rfl) rfl #[.int .i64 a1] rfl (by (try simp only [List.map_toArray, List.map_cons, List.map_nil]); first | done | rfl | (simp only [List.length_drop, List.length_take]; rfl)) ?_; (with_reducible refine (page_May.calls a1 true _ A3.out).mono ?_); rintro e w' ⟨rfl, ⟨nd, rfl⟩⟩; refine ⟨_, rfl, ?_⟩) | ((with_reducible refine gate_callee (f := 130) rfl ?_); refine goesL_ (some 11) rfl rfl Try.func130 (by kernel_rfl) rfl #[.int .u64 a0, .int .i64 a1] rfl (by (try simp only [List.map_toArray, List.map_cons, List.map_nil]); first | done | rfl | (simp only [List.length_drop, List.length_take]; rfl)) ?_; (with_reducible refine (page_Offset.calls a0 a1 t325 _ A5.out).mono ?_); rintro e w' ⟨rfl, ⟨nd, rfl⟩⟩; refine ⟨_, rfl, ?_⟩))
  go_ret
  exact ⟨by first | rfl | (simp; done) | (simp [*]; done), by repeat (first | exact Drawn0.refl _ | apply Drawn0.step)⟩
 ·replace c4 := Bool.eq_false_iff.mpr c4
  subst c4
  have H1 : (some 0) = some r := by rw [if_neg (show ¬ (false = true) by decide)] at H; exact H
  clear H
  have H := H1
  clear H1
  obtain rfl := Option.some.inj H
  go_enter Try.func118, Try.ntmps118
  go_wp2_with (((with_reducible refine gate_callee (f := 75) rfl ?_); refine goesL_ (some 6) rfl rfl Try.func75 (by kernel_rfl) rfl #[.int .i64 a1] rfl (by (try simp only [List.map_toArray, List.map_cons, List.map_nil]); first | done | rfl | (simp only [List.length_drop, List.length_take]; rfl)) ?_; (with_reducible refine (page_May.calls a1 false _ A3.out).mono ?_); rintro e w' ⟨rfl, ⟨nd, rfl⟩⟩; refine ⟨_, rfl, ?_⟩))
  go_ret
  exact ⟨by first | rfl | (simp; done) | (simp [*]; done), by repeat (first | exact Drawn0.refl _ | apply Drawn0.step)⟩
/-! ### tte_Read: function 90 -/
theorem tte_Read.cz2 {W : World} {g : Nat} {t : TypeId} {a0 a1 : Value} (h : W.heap[g]? = some (.cells #[a0, a1] t (0, 0))) : W.cell? ⟨g, 0, none⟩ = some a0 ∧ W.cell? ⟨g, 1, none⟩ = some a1 := ⟨(blk_cell h 0).trans rfl, (blk_cell h 1).trans rfl⟩
theorem tte_Read.cz11 {W : World} {g : Nat} {t : TypeId} {a0 a1 a2 a3 a4 a5 a6 a7 a8 a9 a10 : Value} (h : W.heap[g]? = some (.cells #[a0, a1, a2, a3, a4, a5, a6, a7, a8, a9, a10] t (0, 0))) : W.cell? ⟨g, 0, none⟩ = some a0 ∧ W.cell? ⟨g, 1, none⟩ = some a1 ∧ W.cell? ⟨g, 2, none⟩ = some a2 ∧ W.cell? ⟨g, 3, none⟩ = some a3 ∧ W.cell? ⟨g, 4, none⟩ = some a4 ∧ W.cell? ⟨g, 5, none⟩ = some a5 ∧ W.cell? ⟨g, 6, none⟩ = some a6 ∧ W.cell? ⟨g, 7, none⟩ = some a7 ∧ W.cell? ⟨g, 8, none⟩ = some a8 ∧ W.cell? ⟨g, 9, none⟩ = some a9 ∧ W.cell? ⟨g, 10, none⟩ = some a10 := ⟨(blk_cell h 0).trans rfl, (blk_cell h 1).trans rfl, (blk_cell h 2).trans rfl, (blk_cell h 3).trans rfl, (blk_cell h 4).trans rfl, (blk_cell h 5).trans rfl, (blk_cell h 6).trans rfl, (blk_cell h 7).trans rfl, (blk_cell h 8).trans rfl, (blk_cell h 9).trans rfl, (blk_cell h 10).trans rfl⟩
/-- What the last line answers, of the entry that was read. -/
def tte_Read.e (k : Nat) (a0 a1 s c V P : Int) (v p x l g q : Bool) : Option (Int × Int × Int × Int × Bool × Bool × Bool × Bool × Bool × Bool × Bool × Int) :=
 (tte_May.f k s c V P v p x l g q true).bind fun m => if m = true then (tte_Tag.f s c V P v p x l g q true).bind fun tg => if tg = a0 then (tte_Data.f s c V P v p x l g q true).bind fun d => if d = a1 then some (s, c, V, P, v, p, x, l, g, q, true, 0) else some (0, 0, 0, 0, false, false, false, false, false, false, false, 2) else some (0, 0, 0, 0, false, false, false, false, false, false, false, 2) else some (0, 0, 0, 0, false, false, false, false, false, false, false, 2)
def tte_Read.f (k : Nat) (a0 a1 a2 : Int) : Option (Int × Int × Int × Int × Bool × Bool × Bool × Bool × Bool × Bool × Bool × Int) := (page_Hole.f a2).bind fun b1 => if b1 = true then some (0, 0, 0, 0, false, false, false, false, false, false, false, 3) else (tte_Valid.f a1).bind fun b2 => if b2 = true then (field_Get.f a1 61 2).bind fun t1 => (field_Get.f a0 48 13).bind fun t2 => (page_Base.f a2 (wrap64 t1)).bind fun t3 => (field_Get.f a1 13 28).bind fun t4 => (field_Bit.f a1 60).bind fun q => (field_Bit.f a1 6).bind fun l => (field_Bit.f a1 3).bind fun x => (field_Bit.f a1 2).bind fun p => (field_Bit.f a1 1).bind fun v => (field_Bit.f a1 0).bind fun g => tte_Read.e k a0 a1 (wrap64 t1) (wrap64 t2) t3 (IntKind.u64.wrap (t4 * 8192)) v p x l g q else some (0, 0, 0, 0, false, false, false, false, false, false, false, 11)
set_option maxHeartbeats 8000000 in
set_option maxRecDepth 100000 in
theorem tte_Read.hole (a0 a1 a2 : Int) (w : World) (h0 : page_Hole.f a2 = some true) :
  Calls Try.prog 90 #[.int .u64 a0, .int .u64 a1, .int .u64 a2] w fun e w' => e = .returned (.tuple #[.agg #[.int .i64 0, .int .i64 0, .int .u64 0, .int .u64 0, .bool false, .bool false, .bool false, .bool false, .bool false, .bool false, .bool false], .int .i64 3]) ∧ Below w.heap.size w w' := by
 have A0 := Aside0.mk h0
 clear h0
 have HB := Aside0.mk (Below.refl w.heap.size w)
 have hu26 := Try.underlying50
 go_enter Try.func90, Try.ntmps90
 go_wp2_with (first | ((with_reducible refine gate_dst (N := 6) rfl ?_); refine box_event ?hg (N := 6) ?hd (cs := #[.int .i64 0, .int .i64 0, .int .u64 0, .int .u64 0, .bool false, .bool false, .bool false, .bool false, .bool false, .bool false, .bool false]) (t := 50) ?hr ?_; (case hd => rfl); (case hg => rfl); (case hr => first | (go_simp; done) | (go_simp; rfl)); intro g6 hgb w1 hbox0 hb; have GE6 := Aside0.mk (Nat.le_trans HB.out.size (Nat.le_of_eq hgb.symm)); have H6 := Aside0.mk hbox0; have m_HB := Aside0.mk (show Below w.heap.size w w1 from below_step HB.out hb); clear HB; have HB := m_HB; clear m_HB; clear hgb hbox0 hb) | ((with_reducible refine gate_callee (f := 114) rfl ?_); refine goesL_ (some 13) rfl rfl Try.func114 (by kernel_rfl) rfl #[.int .u64 a2] rfl (by (try simp only [List.map_toArray, List.map_cons, List.map_nil]); first | done | rfl | (simp only [List.length_drop, List.length_take]; rfl)) ?_; (with_reducible refine (page_Hole.calls a2 _ _ A0.out).mono ?_); rintro e wn ⟨rfl, hdr⟩; refine ⟨_, rfl, ?_⟩; have m_H6 := Aside0.mk (show wn.heap[g6]? = some _ from by obtain ⟨nd, rfl⟩ := hdr; exact blk_drewN H6.out _); have m_HB := Aside0.mk (show Below w.heap.size w wn from by obtain ⟨nd, rfl⟩ := hdr; exact pw_below_drewN HB.out _); clear H6 HB; have H6 := m_H6; have HB := m_HB; clear m_H6 m_HB; clear hdr) | ((with_reducible refine gate_store (t := 50) (p := 6) rfl ?_); refine wpList_store_row rfl 50 (.tmp 6) (.tmp 14) rfl g6 #[.int .i64 0, .int .i64 0, .int .u64 0, .int .u64 0, .bool false, .bool false, .bool false, .bool false, .bool false, .bool false, .bool false] rfl rfl 50 _ H6.out (by kernel_rfl) rfl (by kernel_rfl) ?_; have n1 := Aside0.mk (setRow_heap _ g6 _ #[.int .i64 0, .int .i64 0, .int .u64 0, .int .u64 0, .bool false, .bool false, .bool false, .bool false, .bool false, .bool false, .bool false] _ _ H6.out); have n2 := Aside0.mk (below_setRow HB.out GE6.out #[.int .i64 0, .int .i64 0, .int .u64 0, .int .u64 0, .bool false, .bool false, .bool false, .bool false, .bool false, .bool false, .bool false]); generalize World.setRow _ g6 #[.int .i64 0, .int .i64 0, .int .u64 0, .int .u64 0, .bool false, .bool false, .bool false, .bool false, .bool false, .bool false, .bool false] = w3 at n1 n2 ⊢; clear H6 HB; have H6 := n1; have HB := n2; clear n1 n2; obtain ⟨qH6_0, qH6_1, qH6_2, qH6_3, qH6_4, qH6_5, qH6_6, qH6_7, qH6_8, qH6_9, qH6_10⟩ := tte_Read.cz11 H6.out))
 (try simp only [Exit.inBlock, Exit.then]); refine bodyPost_ret (results_ct rfl _ _ g6 50 #[.int .i64 0, .int .i64 0, .int .u64 0, .int .u64 0, .bool false, .bool false, .bool false, .bool false, .bool false, .bool false, .bool false] (0, 0) _ rfl H6.out hu26 rfl (by kernel_rfl)) rfl ?_; exact ⟨rfl, HB.out⟩
set_option maxHeartbeats 8000000 in
set_option maxRecDepth 100000 in
theorem tte_Read.state (a0 a1 a2 : Int) (w : World) (h0 : page_Hole.f a2 = some false) (h1 : tte_Valid.f a1 = some false) :
  Calls Try.prog 90 #[.int .u64 a0, .int .u64 a1, .int .u64 a2] w fun e w' => e = .returned (.tuple #[.agg #[.int .i64 0, .int .i64 0, .int .u64 0, .int .u64 0, .bool false, .bool false, .bool false, .bool false, .bool false, .bool false, .bool false], .int .i64 11]) ∧ Below w.heap.size w w' := by
 have A0 := Aside0.mk h0
 clear h0
 have A1 := Aside0.mk h1
 clear h1
 have HB := Aside0.mk (Below.refl w.heap.size w)
 have hu26 := Try.underlying50
 go_enter Try.func90, Try.ntmps90
 go_wp2_with (first | ((with_reducible refine gate_dst (N := 6) rfl ?_); refine box_event ?hg (N := 6) ?hd (cs := #[.int .i64 0, .int .i64 0, .int .u64 0, .int .u64 0, .bool false, .bool false, .bool false, .bool false, .bool false, .bool false, .bool false]) (t := 50) ?hr ?_; (case hd => rfl); (case hg => rfl); (case hr => first | (go_simp; done) | (go_simp; rfl)); intro g6 hgb w1 hbox0 hb; have GE6 := Aside0.mk (Nat.le_trans HB.out.size (Nat.le_of_eq hgb.symm)); have H6 := Aside0.mk hbox0; have m_HB := Aside0.mk (show Below w.heap.size w w1 from below_step HB.out hb); clear HB; have HB := m_HB; clear m_HB; clear hgb hbox0 hb) | ((with_reducible refine gate_callee (f := 114) rfl ?_); refine goesL_ (some 13) rfl rfl Try.func114 (by kernel_rfl) rfl #[.int .u64 a2] rfl (by (try simp only [List.map_toArray, List.map_cons, List.map_nil]); first | done | rfl | (simp only [List.length_drop, List.length_take]; rfl)) ?_; (with_reducible refine (page_Hole.calls a2 _ _ A0.out).mono ?_); rintro e wn ⟨rfl, hdr⟩; refine ⟨_, rfl, ?_⟩; have m_H6 := Aside0.mk (show wn.heap[g6]? = some _ from by obtain ⟨nd, rfl⟩ := hdr; exact blk_drewN H6.out _); have m_HB := Aside0.mk (show Below w.heap.size w wn from by obtain ⟨nd, rfl⟩ := hdr; exact pw_below_drewN HB.out _); clear H6 HB; have H6 := m_H6; have HB := m_HB; clear m_H6 m_HB; clear hdr) | ((with_reducible refine gate_callee (f := 117) rfl ?_); refine goesL_ (some 17) rfl rfl Try.func117 (by kernel_rfl) rfl #[.int .u64 a1] rfl (by (try simp only [List.map_toArray, List.map_cons, List.map_nil]); first | done | rfl | (simp only [List.length_drop, List.length_take]; rfl)) ?_; (with_reducible refine (tte_Valid.calls a1 _ _ A1.out).mono ?_); rintro e wn ⟨rfl, hdr⟩; refine ⟨_, rfl, ?_⟩; have m_H6 := Aside0.mk (show wn.heap[g6]? = some _ from by obtain ⟨nd, rfl⟩ := hdr; exact blk_drewN H6.out _); have m_HB := Aside0.mk (show Below w.heap.size w wn from by obtain ⟨nd, rfl⟩ := hdr; exact pw_below_drewN HB.out _); clear H6 HB; have H6 := m_H6; have HB := m_HB; clear m_H6 m_HB; clear hdr) | ((with_reducible refine gate_store (t := 50) (p := 6) rfl ?_); refine wpList_store_row rfl 50 (.tmp 6) (.tmp 19) rfl g6 #[.int .i64 0, .int .i64 0, .int .u64 0, .int .u64 0, .bool false, .bool false, .bool false, .bool false, .bool false, .bool false, .bool false] rfl rfl 50 _ H6.out (by kernel_rfl) rfl (by kernel_rfl) ?_; have n1 := Aside0.mk (setRow_heap _ g6 _ #[.int .i64 0, .int .i64 0, .int .u64 0, .int .u64 0, .bool false, .bool false, .bool false, .bool false, .bool false, .bool false, .bool false] _ _ H6.out); have n2 := Aside0.mk (below_setRow HB.out GE6.out #[.int .i64 0, .int .i64 0, .int .u64 0, .int .u64 0, .bool false, .bool false, .bool false, .bool false, .bool false, .bool false, .bool false]); generalize World.setRow _ g6 #[.int .i64 0, .int .i64 0, .int .u64 0, .int .u64 0, .bool false, .bool false, .bool false, .bool false, .bool false, .bool false, .bool false] = w3 at n1 n2 ⊢; clear H6 HB; have H6 := n1; have HB := n2; clear n1 n2; obtain ⟨qH6_0, qH6_1, qH6_2, qH6_3, qH6_4, qH6_5, qH6_6, qH6_7, qH6_8, qH6_9, qH6_10⟩ := tte_Read.cz11 H6.out))
 (try simp only [Exit.inBlock, Exit.then]); refine bodyPost_ret (results_ct rfl _ _ g6 50 #[.int .i64 0, .int .i64 0, .int .u64 0, .int .u64 0, .bool false, .bool false, .bool false, .bool false, .bool false, .bool false, .bool false] (0, 0) _ rfl H6.out hu26 rfl (by kernel_rfl)) rfl ?_; exact ⟨rfl, HB.out⟩
noncomputable def tte_Read.T11 : Bool × List (List Nat × List Nat) := rtab .any (opsOf Try.f90 11)
def tte_Read.B11 : List Nat := [0, 1, 0, 0, 8, 28, 63, 127]
theorem tte_Read.tab11 : rtab .any (opsOf Try.f90 11) = tte_Read.T11 := rfl
theorem tte_Read.bits11 : waitsOk tte_Read.T11.2 tte_Read.B11 = true := by kernel_rfl
/-- What the entry is behind k rounds. -/
def tte_Read.At (t1 t2 t3 t4 : Int) (q l x p v g : Bool) (g8 k : Nat) (W : World) : Prop := (k = 0 ∧ W.heap[g8]? = some (.cells #[.int .i64 (wrap64 t1), .int .i64 (wrap64 t2), .int .u64 t3, .int .u64 (IntKind.u64.wrap (t4 * 8192)), .bool false, .bool false, .bool false, .bool false, .bool false, .bool false, .bool true] 50 (0, 0))) ∨ (k = 1 ∧ W.heap[g8]? = some (.cells #[.int .i64 (wrap64 t1), .int .i64 (wrap64 t2), .int .u64 t3, .int .u64 (IntKind.u64.wrap (t4 * 8192)), .bool false, .bool false, .bool false, .bool false, .bool false, .bool q, .bool true] 50 (0, 0))) ∨ (k = 2 ∧ W.heap[g8]? = some (.cells #[.int .i64 (wrap64 t1), .int .i64 (wrap64 t2), .int .u64 t3, .int .u64 (IntKind.u64.wrap (t4 * 8192)), .bool false, .bool false, .bool false, .bool l, .bool false, .bool q, .bool true] 50 (0, 0))) ∨ (k = 3 ∧ W.heap[g8]? = some (.cells #[.int .i64 (wrap64 t1), .int .i64 (wrap64 t2), .int .u64 t3, .int .u64 (IntKind.u64.wrap (t4 * 8192)), .bool false, .bool false, .bool x, .bool l, .bool false, .bool q, .bool true] 50 (0, 0))) ∨ (k = 4 ∧ W.heap[g8]? = some (.cells #[.int .i64 (wrap64 t1), .int .i64 (wrap64 t2), .int .u64 t3, .int .u64 (IntKind.u64.wrap (t4 * 8192)), .bool false, .bool p, .bool x, .bool l, .bool false, .bool q, .bool true] 50 (0, 0))) ∨ (k = 5 ∧ W.heap[g8]? = some (.cells #[.int .i64 (wrap64 t1), .int .i64 (wrap64 t2), .int .u64 t3, .int .u64 (IntKind.u64.wrap (t4 * 8192)), .bool v, .bool p, .bool x, .bool l, .bool false, .bool q, .bool true] 50 (0, 0))) ∨ (k = 6 ∧ W.heap[g8]? = some (.cells #[.int .i64 (wrap64 t1), .int .i64 (wrap64 t2), .int .u64 t3, .int .u64 (IntKind.u64.wrap (t4 * 8192)), .bool v, .bool p, .bool x, .bool l, .bool g, .bool q, .bool true] 50 (0, 0)))
set_option maxHeartbeats 8000000 in
set_option maxRecDepth 100000 in
theorem tte_Read.core (k : Nat) (a0 a1 a2 t1 t2 t3 t4 : Int) (q l x p v g : Bool) (r0 r1 r2 r3 : Int) (r4 r5 r6 r7 r8 r9 r10 : Bool) (r11 : Int) (w : World) (h0 : page_Hole.f a2 = some false) (h1 : tte_Valid.f a1 = some true) (h2 : field_Get.f a1 61 2 = some t1) (h3 : field_Get.f a0 48 13 = some t2) (h4 : page_Base.f a2 (wrap64 t1) = some t3) (h5 : field_Get.f a1 13 28 = some t4) (h6 : field_Bit.f a1 60 = some q) (h7 : field_Bit.f a1 6 = some l) (h8 : field_Bit.f a1 3 = some x) (h9 : field_Bit.f a1 2 = some p) (h10 : field_Bit.f a1 1 = some v) (h11 : field_Bit.f a1 0 = some g) (hE : tte_Read.e k a0 a1 (wrap64 t1) (wrap64 t2) t3 (IntKind.u64.wrap (t4 * 8192)) v p x l g q = some (r0, r1, r2, r3, r4, r5, r6, r7, r8, r9, r10, r11)) :
  Calls Try.prog 90 #[.int .u64 a0, .int .u64 a1, .int .u64 a2] w fun e w' => e = .returned (.tuple #[.agg #[.int .i64 r0, .int .i64 r1, .int .u64 r2, .int .u64 r3, .bool r4, .bool r5, .bool r6, .bool r7, .bool r8, .bool r9, .bool r10], .int .i64 r11]) ∧ Below w.heap.size w w' := by
 have A0 := Aside0.mk h0
 clear h0
 have A1 := Aside0.mk h1
 clear h1
 have A2 := Aside0.mk h2
 clear h2
 have A3 := Aside0.mk h3
 clear h3
 have A4 := Aside0.mk h4
 clear h4
 have A5 := Aside0.mk h5
 clear h5
 have A6 := Aside0.mk h6
 clear h6
 have A7 := Aside0.mk h7
 clear h7
 have A8 := Aside0.mk h8
 clear h8
 have A9 := Aside0.mk h9
 clear h9
 have A10 := Aside0.mk h10
 clear h10
 have A11 := Aside0.mk h11
 clear h11
 have AE := Aside0.mk hE
 clear hE
 have j0 : ∀ (b : Nat) (W : World), (Instr.index 141 (.agg (tte_flags.fl b)) (.int .i64 0)).run Try.prog W = .ok (.agg #[.int .i64 60, .pointer (some ⟨b, 9, none⟩)]) W := fun _ _ => by kernel_rfl
 have j1 : ∀ (b : Nat) (W : World), (Instr.index 141 (.agg (tte_flags.fl b)) (.int .i64 1)).run Try.prog W = .ok (.agg #[.int .i64 6, .pointer (some ⟨b, 7, none⟩)]) W := fun _ _ => by kernel_rfl
 have j2 : ∀ (b : Nat) (W : World), (Instr.index 141 (.agg (tte_flags.fl b)) (.int .i64 2)).run Try.prog W = .ok (.agg #[.int .i64 3, .pointer (some ⟨b, 6, none⟩)]) W := fun _ _ => by kernel_rfl
 have j3 : ∀ (b : Nat) (W : World), (Instr.index 141 (.agg (tte_flags.fl b)) (.int .i64 3)).run Try.prog W = .ok (.agg #[.int .i64 2, .pointer (some ⟨b, 5, none⟩)]) W := fun _ _ => by kernel_rfl
 have j4 : ∀ (b : Nat) (W : World), (Instr.index 141 (.agg (tte_flags.fl b)) (.int .i64 4)).run Try.prog W = .ok (.agg #[.int .i64 1, .pointer (some ⟨b, 4, none⟩)]) W := fun _ _ => by kernel_rfl
 have j5 : ∀ (b : Nat) (W : World), (Instr.index 141 (.agg (tte_flags.fl b)) (.int .i64 5)).run Try.prog W = .ok (.agg #[.int .i64 0, .pointer (some ⟨b, 8, none⟩)]) W := fun _ _ => by kernel_rfl
 have HB := Aside0.mk (Below.refl w.heap.size w)
 have hu26 := Try.underlying50
 have hu61 := Try.underlying140
 go_enter Try.func90, Try.ntmps90
 go_wp2_with (first | ((with_reducible refine gate_dst (N := 6) rfl ?_); refine box_event ?hg (N := 6) ?hd (cs := #[.int .i64 0, .int .i64 0, .int .u64 0, .int .u64 0, .bool false, .bool false, .bool false, .bool false, .bool false, .bool false, .bool false]) (t := 50) ?hr ?_; (case hd => rfl); (case hg => rfl); (case hr => first | (go_simp; done) | (go_simp; rfl)); intro g6 hgb w1 hbox0 hb; have GE6 := Aside0.mk (Nat.le_trans HB.out.size (Nat.le_of_eq hgb.symm)); have H6 := Aside0.mk hbox0; have m_HB := Aside0.mk (show Below w.heap.size w w1 from below_step HB.out hb); clear HB; have HB := m_HB; clear m_HB; clear hgb hbox0 hb) | ((with_reducible refine gate_callee (f := 114) rfl ?_); refine goesL_ (some 13) rfl rfl Try.func114 (by kernel_rfl) rfl #[.int .u64 a2] rfl (by (try simp only [List.map_toArray, List.map_cons, List.map_nil]); first | done | rfl | (simp only [List.length_drop, List.length_take]; rfl)) ?_; (with_reducible refine (page_Hole.calls a2 _ _ A0.out).mono ?_); rintro e wn ⟨rfl, hdr⟩; refine ⟨_, rfl, ?_⟩; have m_H6 := Aside0.mk (show wn.heap[g6]? = some _ from by obtain ⟨nd, rfl⟩ := hdr; exact blk_drewN H6.out _); have m_HB := Aside0.mk (show Below w.heap.size w wn from by obtain ⟨nd, rfl⟩ := hdr; exact pw_below_drewN HB.out _); clear H6 HB; have H6 := m_H6; have HB := m_HB; clear m_H6 m_HB; clear hdr) | ((with_reducible refine gate_callee (f := 117) rfl ?_); refine goesL_ (some 17) rfl rfl Try.func117 (by kernel_rfl) rfl #[.int .u64 a1] rfl (by (try simp only [List.map_toArray, List.map_cons, List.map_nil]); first | done | rfl | (simp only [List.length_drop, List.length_take]; rfl)) ?_; (with_reducible refine (tte_Valid.calls a1 _ _ A1.out).mono ?_); rintro e wn ⟨rfl, hdr⟩; refine ⟨_, rfl, ?_⟩; have m_H6 := Aside0.mk (show wn.heap[g6]? = some _ from by obtain ⟨nd, rfl⟩ := hdr; exact blk_drewN H6.out _); have m_HB := Aside0.mk (show Below w.heap.size w wn from by obtain ⟨nd, rfl⟩ := hdr; exact pw_below_drewN HB.out _); clear H6 HB; have H6 := m_H6; have HB := m_HB; clear m_H6 m_HB; clear hdr) | ((with_reducible refine gate_callee (f := 106) rfl ?_); refine goesL_ (some 21) rfl rfl Try.func106 (by kernel_rfl) rfl #[.int .u64 a1, .int .i64 61, .int .i64 2] rfl (by (try simp only [List.map_toArray, List.map_cons, List.map_nil]); first | done | rfl | (simp only [List.length_drop, List.length_take]; rfl)) ?_; (with_reducible refine (field_Get.calls a1 61 2 _ _ A2.out).mono ?_); rintro e wn ⟨rfl, hdr⟩; refine ⟨_, rfl, ?_⟩; have m_H6 := Aside0.mk (show wn.heap[g6]? = some _ from by obtain ⟨nd, rfl⟩ := hdr; exact blk_drewN H6.out _); have m_HB := Aside0.mk (show Below w.heap.size w wn from by obtain ⟨nd, rfl⟩ := hdr; exact pw_below_drewN HB.out _); clear H6 HB; have H6 := m_H6; have HB := m_HB; clear m_H6 m_HB; clear hdr) | ((with_reducible refine gate_callee (f := 106) rfl ?_); refine goesL_ (some 24) rfl rfl Try.func106 (by kernel_rfl) rfl #[.int .u64 a0, .int .i64 48, .int .i64 13] rfl (by (try simp only [List.map_toArray, List.map_cons, List.map_nil]); first | done | rfl | (simp only [List.length_drop, List.length_take]; rfl)) ?_; (with_reducible refine (field_Get.calls a0 48 13 _ _ A3.out).mono ?_); rintro e wn ⟨rfl, hdr⟩; refine ⟨_, rfl, ?_⟩; have m_H6 := Aside0.mk (show wn.heap[g6]? = some _ from by obtain ⟨nd, rfl⟩ := hdr; exact blk_drewN H6.out _); have m_HB := Aside0.mk (show Below w.heap.size w wn from by obtain ⟨nd, rfl⟩ := hdr; exact pw_below_drewN HB.out _); clear H6 HB; have H6 := m_H6; have HB := m_HB; clear m_H6 m_HB; clear hdr) | ((with_reducible refine gate_dst (N := 8) rfl ?_); refine box_event ?hg (N := 8) ?hd (cs := #[.int .i64 0, .int .i64 0, .int .u64 0, .int .u64 0, .bool false, .bool false, .bool false, .bool false, .bool false, .bool false, .bool false]) (t := 50) ?hr ?_; (case hd => rfl); (case hg => rfl); (case hr => first | (go_simp; done) | (go_simp; rfl)); intro g8 hgb w3 hbox0 hb; have GE8 := Aside0.mk (Nat.le_trans HB.out.size (Nat.le_of_eq hgb.symm)); have NE_g6_g8 := Aside0.mk (Nat.ne_of_lt (Nat.lt_of_lt_of_le (blk_lt H6.out) (Nat.le_of_eq hgb.symm))); have H8 := Aside0.mk hbox0; have m_H6 := Aside0.mk (show w3.heap[g6]? = some _ from blk_below H6.out hb); have m_HB := Aside0.mk (show Below w.heap.size w w3 from below_step HB.out hb); clear H6 HB; have H6 := m_H6; have HB := m_HB; clear m_H6 m_HB; clear hgb hbox0 hb) | ((with_reducible refine gate_store (t := 50) (p := 8) rfl ?_); refine wpList_store_row rfl 50 (.tmp 8) (.tmp 26) rfl g8 #[.int .i64 (wrap64 t1), .int .i64 (wrap64 t2), .int .u64 0, .int .u64 0, .bool false, .bool false, .bool false, .bool false, .bool false, .bool false, .bool true] rfl rfl 50 _ H8.out (by kernel_rfl) rfl (by kernel_rfl) ?_; have n1 := Aside0.mk (setRow_heap _ g8 _ #[.int .i64 (wrap64 t1), .int .i64 (wrap64 t2), .int .u64 0, .int .u64 0, .bool false, .bool false, .bool false, .bool false, .bool false, .bool false, .bool true] _ _ H8.out); have n2 := Aside0.mk (below_setRow HB.out GE8.out #[.int .i64 (wrap64 t1), .int .i64 (wrap64 t2), .int .u64 0, .int .u64 0, .bool false, .bool false, .bool false, .bool false, .bool false, .bool false, .bool true]); have k_H6 := Aside0.mk (tte_Data.row_other (cs := #[.int .i64 (wrap64 t1), .int .i64 (wrap64 t2), .int .u64 0, .int .u64 0, .bool false, .bool false, .bool false, .bool false, .bool false, .bool false, .bool true]) H6.out (.inr NE_g6_g8.out)); generalize World.setRow _ g8 #[.int .i64 (wrap64 t1), .int .i64 (wrap64 t2), .int .u64 0, .int .u64 0, .bool false, .bool false, .bool false, .bool false, .bool false, .bool false, .bool true] = w4 at n1 n2 k_H6 ⊢; clear H8 HB; have H8 := n1; have HB := n2; clear n1 n2; clear H6; have H6 := k_H6; clear k_H6; obtain ⟨qH8_0, qH8_1, qH8_2, qH8_3, qH8_4, qH8_5, qH8_6, qH8_7, qH8_8, qH8_9, qH8_10⟩ := tte_Read.cz11 H8.out) | ((with_reducible refine gate_callee (f := 118) rfl ?_); refine goesL_ (some 30) rfl rfl Try.func118 (by kernel_rfl) rfl #[.int .u64 a2, .int .i64 (wrap64 t1)] rfl (by (try simp only [List.map_toArray, List.map_cons, List.map_nil]); first | done | rfl | (simp only [List.length_drop, List.length_take]; rfl)) ?_; (with_reducible refine (page_Base.calls a2 (wrap64 t1) _ _ A4.out).mono ?_); rintro e wn ⟨rfl, hdr⟩; refine ⟨_, rfl, ?_⟩; have m_H6 := Aside0.mk (show wn.heap[g6]? = some _ from by obtain ⟨nd, rfl⟩ := hdr; exact blk_drewN H6.out _); have m_H8 := Aside0.mk (show wn.heap[g8]? = some _ from by obtain ⟨nd, rfl⟩ := hdr; exact blk_drewN H8.out _); have m_HB := Aside0.mk (show Below w.heap.size w wn from by obtain ⟨nd, rfl⟩ := hdr; exact pw_below_drewN HB.out _); clear H6 H8 HB; have H6 := m_H6; have H8 := m_H8; have HB := m_HB; clear m_H6 m_H8 m_HB; clear hdr; obtain ⟨qH8_0, qH8_1, qH8_2, qH8_3, qH8_4, qH8_5, qH8_6, qH8_7, qH8_8, qH8_9, qH8_10⟩ := tte_Read.cz11 H8.out; have fH8 := blk_frozen H8.out 2) | ((with_reducible refine gate_store (t := 38) (p := 31) rfl ?_); refine store_event rfl rfl rfl (w1 := wn.setCell ⟨g8, 2, none⟩ (.int .u64 t3)) ?hr ?_; (case hr => first | (go_simp; done) | (go_simp; rfl)); intro w6 hw; have m_H8 := Aside0.mk (show w6.heap[g8]? = some (.cells #[.int .i64 (wrap64 t1), .int .i64 (wrap64 t2), .int .u64 t3, .int .u64 0, .bool false, .bool false, .bool false, .bool false, .bool false, .bool false, .bool true] 50 (0, 0)) from by rw [hw]; exact blk_put H8.out 2 _ rfl); have m_H6 := Aside0.mk (show w6.heap[g6]? = some _ from by rw [hw]; exact blk_far H6.out NE_g6_g8.out _); have m_HB := Aside0.mk (show Below w.heap.size w w6 from by rw [hw]; exact below_set HB.out GE8.out); clear hw HB H8 H6; have H8 := m_H8; have HB := m_HB; have H6 := m_H6; clear m_H6; clear m_HB m_H8; obtain ⟨qH8_0, qH8_1, qH8_2, qH8_3, qH8_4, qH8_5, qH8_6, qH8_7, qH8_8, qH8_9, qH8_10⟩ := tte_Read.cz11 H8.out) | ((with_reducible refine gate_callee (f := 106) rfl ?_); refine goesL_ (some 33) rfl rfl Try.func106 (by kernel_rfl) rfl #[.int .u64 a1, .int .i64 13, .int .i64 28] rfl (by (try simp only [List.map_toArray, List.map_cons, List.map_nil]); first | done | rfl | (simp only [List.length_drop, List.length_take]; rfl)) ?_; (with_reducible refine (field_Get.calls a1 13 28 _ _ A5.out).mono ?_); rintro e wn ⟨rfl, hdr⟩; refine ⟨_, rfl, ?_⟩; have m_H6 := Aside0.mk (show wn.heap[g6]? = some _ from by obtain ⟨nd, rfl⟩ := hdr; exact blk_drewN H6.out _); have m_H8 := Aside0.mk (show wn.heap[g8]? = some _ from by obtain ⟨nd, rfl⟩ := hdr; exact blk_drewN H8.out _); have m_HB := Aside0.mk (show Below w.heap.size w wn from by obtain ⟨nd, rfl⟩ := hdr; exact pw_below_drewN HB.out _); clear H6 H8 HB; have H6 := m_H6; have H8 := m_H8; have HB := m_HB; clear m_H6 m_H8 m_HB; clear hdr; obtain ⟨qH8_0, qH8_1, qH8_2, qH8_3, qH8_4, qH8_5, qH8_6, qH8_7, qH8_8, qH8_9, qH8_10⟩ := tte_Read.cz11 H8.out; have fH8 := blk_frozen H8.out 3) | ((with_reducible refine gate_store (t := 38) (p := 35) rfl ?_); refine store_event rfl rfl rfl (w1 := wn.setCell ⟨g8, 3, none⟩ (.int .u64 (IntKind.u64.wrap (t4 * 8192)))) ?hr ?_; (case hr => first | (go_simp; done) | (go_simp; rfl)); intro w7 hw; have m_H8 := Aside0.mk (show w7.heap[g8]? = some (.cells #[.int .i64 (wrap64 t1), .int .i64 (wrap64 t2), .int .u64 t3, .int .u64 (IntKind.u64.wrap (t4 * 8192)), .bool false, .bool false, .bool false, .bool false, .bool false, .bool false, .bool true] 50 (0, 0)) from by rw [hw]; exact blk_put H8.out 3 _ rfl); have m_H6 := Aside0.mk (show w7.heap[g6]? = some _ from by rw [hw]; exact blk_far H6.out NE_g6_g8.out _); have m_HB := Aside0.mk (show Below w.heap.size w w7 from by rw [hw]; exact below_set HB.out GE8.out); clear hw HB H8 H6; have H8 := m_H8; have HB := m_HB; have H6 := m_H6; clear m_H6; clear m_HB m_H8; obtain ⟨qH8_0, qH8_1, qH8_2, qH8_3, qH8_4, qH8_5, qH8_6, qH8_7, qH8_8, qH8_9, qH8_10⟩ := tte_Read.cz11 H8.out) | (go_at_call 97; refine (tte_flags.calls4 g8 _).mono ?_; rintro e w8 ⟨rfl, hb⟩; have m_H6 := Aside0.mk (show w8.heap[g6]? = some _ from blk_below H6.out hb); have m_H8 := Aside0.mk (show w8.heap[g8]? = some _ from blk_below H8.out hb); have m_HB := Aside0.mk (show Below w.heap.size w w8 from below_step HB.out hb); clear H6 H8 HB; have H6 := m_H6; have H8 := m_H8; have HB := m_HB; clear m_H6 m_H8 m_HB; clear hb))
 go_loopw [38] (fun v38 wr => ∃ k_ : Nat, v38 = .int .i64 k_ ∧ Aside0 (tte_Read.At t1 t2 t3 t4 q l x p v g g8 k_ wr) ∧ Aside0 (wr.heap[g6]? = some (.cells #[.int .i64 0, .int .i64 0, .int .u64 0, .int .u64 0, .bool false, .bool false, .bool false, .bool false, .bool false, .bool false, .bool false] 50 (0, 0))) ∧ Aside0 (Below w.heap.size w wr)) (fun v38 _ => 6 - (intOf v38).toNat)
 case atStart => exact ⟨0, rfl, ⟨.inl ⟨rfl, H8.out⟩⟩, H6, HB⟩
 case round =>
  clear H6 H8 HB
  obtain ⟨k_, rfl, hAt, H6, HB⟩ := hrel
  have hAt := hAt.out
  rcases hAt with ⟨rfl, h8⟩ | ⟨rfl, h8⟩ | ⟨rfl, h8⟩ | ⟨rfl, h8⟩ | ⟨rfl, h8⟩ | ⟨rfl, h8⟩ | ⟨rfl, h8⟩
  ·have H8 := Aside0.mk h8
   clear h8
   have i0 := j0 g8
   go_wp2_with (first | ((with_reducible refine gate_dst (N := 10) rfl ?_); refine box_event ?hg (N := 10) ?hd (cs := #[.int .i64 0, .pointer none]) (t := 140) ?hr ?_; (case hd => rfl); (case hg => rfl); (case hr => first | (go_simp; done) | (go_simp; rfl)); intro g10 hgb w9 hbox0 hb; have GE10 := Aside0.mk (Nat.le_trans HB.out.size (Nat.le_of_eq hgb.symm)); have NE_g6_g10 := Aside0.mk (Nat.ne_of_lt (Nat.lt_of_lt_of_le (blk_lt H6.out) (Nat.le_of_eq hgb.symm))); have NE_g8_g10 := Aside0.mk (Nat.ne_of_lt (Nat.lt_of_lt_of_le (blk_lt H8.out) (Nat.le_of_eq hgb.symm))); have H10 := Aside0.mk hbox0; have m_H6 := Aside0.mk (show w9.heap[g6]? = some _ from blk_below H6.out hb); have m_H8 := Aside0.mk (show w9.heap[g8]? = some _ from blk_below H8.out hb); have m_HB := Aside0.mk (show Below w.heap.size w w9 from below_step HB.out hb); clear H6 H8 HB; have H6 := m_H6; have H8 := m_H8; have HB := m_HB; clear m_H6 m_H8 m_HB; clear hgb hbox0 hb) | ((with_reducible refine gate_store (t := 140) (p := 10) rfl ?_); refine wpList_store_row rfl 140 (.tmp 10) (.tmp 40) rfl g10 #[.int .i64 60, .pointer (some ⟨g8, 9, none⟩)] rfl rfl 140 _ H10.out (by kernel_rfl) rfl (by kernel_rfl) ?_; have n1 := Aside0.mk (setRow_heap _ g10 _ #[.int .i64 60, .pointer (some ⟨g8, 9, none⟩)] _ _ H10.out); have n2 := Aside0.mk (below_setRow HB.out GE10.out #[.int .i64 60, .pointer (some ⟨g8, 9, none⟩)]); have k_H6 := Aside0.mk (tte_Data.row_other (cs := #[.int .i64 60, .pointer (some ⟨g8, 9, none⟩)]) H6.out (.inr NE_g6_g10.out)); have k_H8 := Aside0.mk (tte_Data.row_other (cs := #[.int .i64 60, .pointer (some ⟨g8, 9, none⟩)]) H8.out (.inr NE_g8_g10.out)); generalize World.setRow _ g10 #[.int .i64 60, .pointer (some ⟨g8, 9, none⟩)] = w10 at n1 n2 k_H6 k_H8 ⊢; clear H10 HB; have H10 := n1; have HB := n2; clear n1 n2; clear H6; have H6 := k_H6; clear k_H6; clear H8; have H8 := k_H8; clear k_H8; obtain ⟨qH10_0, qH10_1⟩ := tte_Read.cz2 H10.out))
   refine start_ (n := 8) (S := fun w' => w'.cell? ⟨g10, 0, none⟩ = some (.int .i64 60) ∧ w'.cell? ⟨g10, 1, none⟩ = some (.pointer (some ⟨g8, 9, none⟩))) (ds := [7]) #[false, false, false, false, false, false, false, false] (by kernel_rfl) rfl rfl (cz2_21 H10.out) (fun hHeld => ?_)
   refine with_tabW tte_Read.tab11 tte_Read.bits11 (fun HT_ HW_ => ?_)
   have m_H6 := Aside0.mk (show w10.drew.heap[g6]? = some _ from blk_drew H6.out)
   have m_H8 := Aside0.mk (show w10.drew.heap[g8]? = some _ from blk_drew H8.out)
   have m_HB := Aside0.mk (show Below w.heap.size w w10.drew from Below.drew HB.out)
   have m_H10 := Aside0.mk (show w10.drew.heap[g10]? = some _ from blk_drew H10.out)
   clear H6 H8 HB H10
   have H6 := m_H6
   have H8 := m_H8
   have HB := m_HB
   have H10 := m_H10
   clear m_H6 m_H8 m_HB m_H10
   generalize w10.drew = w11 at H6 H8 H10 HB hHeld ⊢
   refine pure_ (i := 0) (N := some 41) (v := ?_) (a' := ?_) #[true, false, false, false, false, false, false, false] rfl rfl (any_of HT_.out (by kernel_rfl)) (fun _ _ _ h => h) (Or.inl ⟨by rfl, ?_⟩) ?_ ?_
   rotate_left
   ·intro w'
    go_simp
    with_reducible rfl
   rotate_left
   ·simp only [ap_]
    rfl
   refine take_ (i := 1) (N := some 42) (v := ?_) (a' := ?_) #[true, true, false, false, false, false, false, false] rfl rfl (take_ofW HT_.out HW_.out (by kernel_rfl)) (fun _ _ _ h => h) (Or.inl ⟨by rfl, ?_⟩) hHeld ?_ ?_
   rotate_left
   ·rintro w' ⟨s0, s1⟩
    go_simp
    with_reducible rfl
   rotate_left
   ·simp only [ap_]
    rfl
   refine pure_ (i := 2) (N := some 43) (v := ?_) (a' := ?_) #[true, true, true, false, false, false, false, false] rfl rfl (any_of HT_.out (by kernel_rfl)) (fun _ _ _ h => h) (Or.inl ⟨by rfl, ?_⟩) ?_ ?_
   rotate_left
   ·intro w'
    go_simp
    with_reducible rfl
   rotate_left
   ·simp only [ap_]
    rfl
   refine pure_ (i := 3) (N := some 44) (v := ?_) (a' := ?_) #[true, true, true, true, false, false, false, false] rfl rfl (any_of HT_.out (by kernel_rfl)) (fun _ _ _ h => h) (Or.inl ⟨by rfl, ?_⟩) ?_ ?_
   rotate_left
   ·intro w'
    go_simp
    with_reducible rfl
   rotate_left
   ·simp only [ap_]
    rfl
   refine take_ (i := 4) (N := some 45) (v := ?_) (a' := ?_) #[true, true, true, true, true, false, false, false] rfl rfl (take_ofW HT_.out HW_.out (by kernel_rfl)) (fun _ _ _ h => h) (Or.inl ⟨by rfl, ?_⟩) hHeld ?_ ?_
   rotate_left
   ·rintro w' ⟨s0, s1⟩
    go_simp
    with_reducible rfl
   rotate_left
   ·simp only [ap_]
    rfl
   refine one_ (i := 5) (N := some 46) #[true, true, true, true, true, true, false, false] rfl rfl (one_of HT_.out (by kernel_rfl)) (by decide) (fun K hK => ?_)
   refine goes_ Try.func107 (by kernel_rfl) rfl #[.int .u64 a1, .int .i64 60] (by rfl) rfl rfl (by (try simp only [List.map_toArray, List.map_cons, List.map_nil]); first | done | rfl) ?_
   with_reducible refine (field_Bit.calls a1 60 q _ A6.out).mono ?_
   rintro e wn ⟨rfl, hdr⟩
   refine ⟨_, rfl, ?_⟩
   have m_H6 := Aside0.mk (show wn.heap[g6]? = some _ from by obtain ⟨nd, rfl⟩ := hdr; exact blk_drewN H6.out _)
   have m_H8 := Aside0.mk (show wn.heap[g8]? = some _ from by obtain ⟨nd, rfl⟩ := hdr; exact blk_drewN H8.out _)
   have m_HB := Aside0.mk (show Below w.heap.size w wn from by obtain ⟨nd, rfl⟩ := hdr; exact pw_below_drewN HB.out _)
   have m_H10 := Aside0.mk (show wn.heap[g10]? = some _ from by obtain ⟨nd, rfl⟩ := hdr; exact blk_drewN H10.out _)
   clear H6 H8 HB H10
   have H6 := m_H6
   have H8 := m_H8
   have HB := m_HB
   have H10 := m_H10
   clear m_H6 m_H8 m_HB m_H10
   clear hdr
   refine hK.out _ _ (cz2_21 H10.out) (fun hHeld => ?_)
   clear hK K
   refine norm_ (a' := ?_) ?_ ?_
   rotate_left
   ·show Act.put _ (some 46) _ = _
    simp only [ap_]
    rfl
   refine pure_ (i := 6) (N := some 47) (v := ?_) (a' := ?_) #[true, true, true, true, true, true, true, false] rfl rfl (any_of HT_.out (by kernel_rfl)) (fun _ _ _ h => h) (Or.inl ⟨by rfl, ?_⟩) ?_ ?_
   rotate_left
   ·intro w'
    go_simp
    with_reducible rfl
   rotate_left
   ·simp only [ap_]
    rfl
   have qs : wn.cell? ⟨g8, 9, none⟩ = some (.bool false) := blk_cell H8.out 9
   have fs := blk_frozen H8.out 9
   refine last_ (i := 7) (N := none) #[true, true, true, true, true, true, true, true] rfl rfl (one_of HT_.out (by kernel_rfl)) (by decide) (fun K hK => ?_)
   refine skip_ (w1 := ?_) (by rfl) rfl ?_ ?_
   rotate_left
   ·go_simp
    rfl
   refine hK.out _ _ ?_
   clear hK K
   refine done_ (done_of HT_.out (by kernel_rfl)) ?_
   go_wp2
   go_roundw
   case rel => exact ⟨1, by go_num, ⟨.inr (.inl ⟨rfl, blk_put H8.out 9 _ rfl⟩)⟩, ⟨blk_far H6.out NE_g6_g8.out _⟩, ⟨below_set HB.out GE8.out⟩⟩
   case measure => simp [intOf]
  ·have H8 := Aside0.mk h8
   clear h8
   have i1 := j1 g8
   go_wp2_with (first | ((with_reducible refine gate_dst (N := 10) rfl ?_); refine box_event ?hg (N := 10) ?hd (cs := #[.int .i64 0, .pointer none]) (t := 140) ?hr ?_; (case hd => rfl); (case hg => rfl); (case hr => first | (go_simp; done) | (go_simp; rfl)); intro g10 hgb w9 hbox0 hb; have GE10 := Aside0.mk (Nat.le_trans HB.out.size (Nat.le_of_eq hgb.symm)); have NE_g6_g10 := Aside0.mk (Nat.ne_of_lt (Nat.lt_of_lt_of_le (blk_lt H6.out) (Nat.le_of_eq hgb.symm))); have NE_g8_g10 := Aside0.mk (Nat.ne_of_lt (Nat.lt_of_lt_of_le (blk_lt H8.out) (Nat.le_of_eq hgb.symm))); have H10 := Aside0.mk hbox0; have m_H6 := Aside0.mk (show w9.heap[g6]? = some _ from blk_below H6.out hb); have m_H8 := Aside0.mk (show w9.heap[g8]? = some _ from blk_below H8.out hb); have m_HB := Aside0.mk (show Below w.heap.size w w9 from below_step HB.out hb); clear H6 H8 HB; have H6 := m_H6; have H8 := m_H8; have HB := m_HB; clear m_H6 m_H8 m_HB; clear hgb hbox0 hb) | ((with_reducible refine gate_store (t := 140) (p := 10) rfl ?_); refine wpList_store_row rfl 140 (.tmp 10) (.tmp 40) rfl g10 #[.int .i64 6, .pointer (some ⟨g8, 7, none⟩)] rfl rfl 140 _ H10.out (by kernel_rfl) rfl (by kernel_rfl) ?_; have n1 := Aside0.mk (setRow_heap _ g10 _ #[.int .i64 6, .pointer (some ⟨g8, 7, none⟩)] _ _ H10.out); have n2 := Aside0.mk (below_setRow HB.out GE10.out #[.int .i64 6, .pointer (some ⟨g8, 7, none⟩)]); have k_H6 := Aside0.mk (tte_Data.row_other (cs := #[.int .i64 6, .pointer (some ⟨g8, 7, none⟩)]) H6.out (.inr NE_g6_g10.out)); have k_H8 := Aside0.mk (tte_Data.row_other (cs := #[.int .i64 6, .pointer (some ⟨g8, 7, none⟩)]) H8.out (.inr NE_g8_g10.out)); generalize World.setRow _ g10 #[.int .i64 6, .pointer (some ⟨g8, 7, none⟩)] = w10 at n1 n2 k_H6 k_H8 ⊢; clear H10 HB; have H10 := n1; have HB := n2; clear n1 n2; clear H6; have H6 := k_H6; clear k_H6; clear H8; have H8 := k_H8; clear k_H8; obtain ⟨qH10_0, qH10_1⟩ := tte_Read.cz2 H10.out))
   refine start_ (n := 8) (S := fun w' => w'.cell? ⟨g10, 0, none⟩ = some (.int .i64 6) ∧ w'.cell? ⟨g10, 1, none⟩ = some (.pointer (some ⟨g8, 7, none⟩))) (ds := [7]) #[false, false, false, false, false, false, false, false] (by kernel_rfl) rfl rfl (cz2_21 H10.out) (fun hHeld => ?_)
   refine with_tabW tte_Read.tab11 tte_Read.bits11 (fun HT_ HW_ => ?_)
   have m_H6 := Aside0.mk (show w10.drew.heap[g6]? = some _ from blk_drew H6.out)
   have m_H8 := Aside0.mk (show w10.drew.heap[g8]? = some _ from blk_drew H8.out)
   have m_HB := Aside0.mk (show Below w.heap.size w w10.drew from Below.drew HB.out)
   have m_H10 := Aside0.mk (show w10.drew.heap[g10]? = some _ from blk_drew H10.out)
   clear H6 H8 HB H10
   have H6 := m_H6
   have H8 := m_H8
   have HB := m_HB
   have H10 := m_H10
   clear m_H6 m_H8 m_HB m_H10
   generalize w10.drew = w11 at H6 H8 H10 HB hHeld ⊢
   refine pure_ (i := 0) (N := some 41) (v := ?_) (a' := ?_) #[true, false, false, false, false, false, false, false] rfl rfl (any_of HT_.out (by kernel_rfl)) (fun _ _ _ h => h) (Or.inl ⟨by rfl, ?_⟩) ?_ ?_
   rotate_left
   ·intro w'
    go_simp
    with_reducible rfl
   rotate_left
   ·simp only [ap_]
    rfl
   refine take_ (i := 1) (N := some 42) (v := ?_) (a' := ?_) #[true, true, false, false, false, false, false, false] rfl rfl (take_ofW HT_.out HW_.out (by kernel_rfl)) (fun _ _ _ h => h) (Or.inl ⟨by rfl, ?_⟩) hHeld ?_ ?_
   rotate_left
   ·rintro w' ⟨s0, s1⟩
    go_simp
    with_reducible rfl
   rotate_left
   ·simp only [ap_]
    rfl
   refine pure_ (i := 2) (N := some 43) (v := ?_) (a' := ?_) #[true, true, true, false, false, false, false, false] rfl rfl (any_of HT_.out (by kernel_rfl)) (fun _ _ _ h => h) (Or.inl ⟨by rfl, ?_⟩) ?_ ?_
   rotate_left
   ·intro w'
    go_simp
    with_reducible rfl
   rotate_left
   ·simp only [ap_]
    rfl
   refine pure_ (i := 3) (N := some 44) (v := ?_) (a' := ?_) #[true, true, true, true, false, false, false, false] rfl rfl (any_of HT_.out (by kernel_rfl)) (fun _ _ _ h => h) (Or.inl ⟨by rfl, ?_⟩) ?_ ?_
   rotate_left
   ·intro w'
    go_simp
    with_reducible rfl
   rotate_left
   ·simp only [ap_]
    rfl
   refine take_ (i := 4) (N := some 45) (v := ?_) (a' := ?_) #[true, true, true, true, true, false, false, false] rfl rfl (take_ofW HT_.out HW_.out (by kernel_rfl)) (fun _ _ _ h => h) (Or.inl ⟨by rfl, ?_⟩) hHeld ?_ ?_
   rotate_left
   ·rintro w' ⟨s0, s1⟩
    go_simp
    with_reducible rfl
   rotate_left
   ·simp only [ap_]
    rfl
   refine one_ (i := 5) (N := some 46) #[true, true, true, true, true, true, false, false] rfl rfl (one_of HT_.out (by kernel_rfl)) (by decide) (fun K hK => ?_)
   refine goes_ Try.func107 (by kernel_rfl) rfl #[.int .u64 a1, .int .i64 6] (by rfl) rfl rfl (by (try simp only [List.map_toArray, List.map_cons, List.map_nil]); first | done | rfl) ?_
   with_reducible refine (field_Bit.calls a1 6 l _ A7.out).mono ?_
   rintro e wn ⟨rfl, hdr⟩
   refine ⟨_, rfl, ?_⟩
   have m_H6 := Aside0.mk (show wn.heap[g6]? = some _ from by obtain ⟨nd, rfl⟩ := hdr; exact blk_drewN H6.out _)
   have m_H8 := Aside0.mk (show wn.heap[g8]? = some _ from by obtain ⟨nd, rfl⟩ := hdr; exact blk_drewN H8.out _)
   have m_HB := Aside0.mk (show Below w.heap.size w wn from by obtain ⟨nd, rfl⟩ := hdr; exact pw_below_drewN HB.out _)
   have m_H10 := Aside0.mk (show wn.heap[g10]? = some _ from by obtain ⟨nd, rfl⟩ := hdr; exact blk_drewN H10.out _)
   clear H6 H8 HB H10
   have H6 := m_H6
   have H8 := m_H8
   have HB := m_HB
   have H10 := m_H10
   clear m_H6 m_H8 m_HB m_H10
   clear hdr
   refine hK.out _ _ (cz2_21 H10.out) (fun hHeld => ?_)
   clear hK K
   refine norm_ (a' := ?_) ?_ ?_
   rotate_left
   ·show Act.put _ (some 46) _ = _
    simp only [ap_]
    rfl
   refine pure_ (i := 6) (N := some 47) (v := ?_) (a' := ?_) #[true, true, true, true, true, true, true, false] rfl rfl (any_of HT_.out (by kernel_rfl)) (fun _ _ _ h => h) (Or.inl ⟨by rfl, ?_⟩) ?_ ?_
   rotate_left
   ·intro w'
    go_simp
    with_reducible rfl
   rotate_left
   ·simp only [ap_]
    rfl
   have qs : wn.cell? ⟨g8, 7, none⟩ = some (.bool false) := blk_cell H8.out 7
   have fs := blk_frozen H8.out 7
   refine last_ (i := 7) (N := none) #[true, true, true, true, true, true, true, true] rfl rfl (one_of HT_.out (by kernel_rfl)) (by decide) (fun K hK => ?_)
   refine skip_ (w1 := ?_) (by rfl) rfl ?_ ?_
   rotate_left
   ·go_simp
    rfl
   refine hK.out _ _ ?_
   clear hK K
   refine done_ (done_of HT_.out (by kernel_rfl)) ?_
   go_wp2
   go_roundw
   case rel => exact ⟨2, by go_num, ⟨.inr (.inr (.inl ⟨rfl, blk_put H8.out 7 _ rfl⟩))⟩, ⟨blk_far H6.out NE_g6_g8.out _⟩, ⟨below_set HB.out GE8.out⟩⟩
   case measure => simp [intOf]
  ·have H8 := Aside0.mk h8
   clear h8
   have i2 := j2 g8
   go_wp2_with (first | ((with_reducible refine gate_dst (N := 10) rfl ?_); refine box_event ?hg (N := 10) ?hd (cs := #[.int .i64 0, .pointer none]) (t := 140) ?hr ?_; (case hd => rfl); (case hg => rfl); (case hr => first | (go_simp; done) | (go_simp; rfl)); intro g10 hgb w9 hbox0 hb; have GE10 := Aside0.mk (Nat.le_trans HB.out.size (Nat.le_of_eq hgb.symm)); have NE_g6_g10 := Aside0.mk (Nat.ne_of_lt (Nat.lt_of_lt_of_le (blk_lt H6.out) (Nat.le_of_eq hgb.symm))); have NE_g8_g10 := Aside0.mk (Nat.ne_of_lt (Nat.lt_of_lt_of_le (blk_lt H8.out) (Nat.le_of_eq hgb.symm))); have H10 := Aside0.mk hbox0; have m_H6 := Aside0.mk (show w9.heap[g6]? = some _ from blk_below H6.out hb); have m_H8 := Aside0.mk (show w9.heap[g8]? = some _ from blk_below H8.out hb); have m_HB := Aside0.mk (show Below w.heap.size w w9 from below_step HB.out hb); clear H6 H8 HB; have H6 := m_H6; have H8 := m_H8; have HB := m_HB; clear m_H6 m_H8 m_HB; clear hgb hbox0 hb) | ((with_reducible refine gate_store (t := 140) (p := 10) rfl ?_); refine wpList_store_row rfl 140 (.tmp 10) (.tmp 40) rfl g10 #[.int .i64 3, .pointer (some ⟨g8, 6, none⟩)] rfl rfl 140 _ H10.out (by kernel_rfl) rfl (by kernel_rfl) ?_; have n1 := Aside0.mk (setRow_heap _ g10 _ #[.int .i64 3, .pointer (some ⟨g8, 6, none⟩)] _ _ H10.out); have n2 := Aside0.mk (below_setRow HB.out GE10.out #[.int .i64 3, .pointer (some ⟨g8, 6, none⟩)]); have k_H6 := Aside0.mk (tte_Data.row_other (cs := #[.int .i64 3, .pointer (some ⟨g8, 6, none⟩)]) H6.out (.inr NE_g6_g10.out)); have k_H8 := Aside0.mk (tte_Data.row_other (cs := #[.int .i64 3, .pointer (some ⟨g8, 6, none⟩)]) H8.out (.inr NE_g8_g10.out)); generalize World.setRow _ g10 #[.int .i64 3, .pointer (some ⟨g8, 6, none⟩)] = w10 at n1 n2 k_H6 k_H8 ⊢; clear H10 HB; have H10 := n1; have HB := n2; clear n1 n2; clear H6; have H6 := k_H6; clear k_H6; clear H8; have H8 := k_H8; clear k_H8; obtain ⟨qH10_0, qH10_1⟩ := tte_Read.cz2 H10.out))
   refine start_ (n := 8) (S := fun w' => w'.cell? ⟨g10, 0, none⟩ = some (.int .i64 3) ∧ w'.cell? ⟨g10, 1, none⟩ = some (.pointer (some ⟨g8, 6, none⟩))) (ds := [7]) #[false, false, false, false, false, false, false, false] (by kernel_rfl) rfl rfl (cz2_21 H10.out) (fun hHeld => ?_)
   refine with_tabW tte_Read.tab11 tte_Read.bits11 (fun HT_ HW_ => ?_)
   have m_H6 := Aside0.mk (show w10.drew.heap[g6]? = some _ from blk_drew H6.out)
   have m_H8 := Aside0.mk (show w10.drew.heap[g8]? = some _ from blk_drew H8.out)
   have m_HB := Aside0.mk (show Below w.heap.size w w10.drew from Below.drew HB.out)
   have m_H10 := Aside0.mk (show w10.drew.heap[g10]? = some _ from blk_drew H10.out)
   clear H6 H8 HB H10
   have H6 := m_H6
   have H8 := m_H8
   have HB := m_HB
   have H10 := m_H10
   clear m_H6 m_H8 m_HB m_H10
   generalize w10.drew = w11 at H6 H8 H10 HB hHeld ⊢
   refine pure_ (i := 0) (N := some 41) (v := ?_) (a' := ?_) #[true, false, false, false, false, false, false, false] rfl rfl (any_of HT_.out (by kernel_rfl)) (fun _ _ _ h => h) (Or.inl ⟨by rfl, ?_⟩) ?_ ?_
   rotate_left
   ·intro w'
    go_simp
    with_reducible rfl
   rotate_left
   ·simp only [ap_]
    rfl
   refine take_ (i := 1) (N := some 42) (v := ?_) (a' := ?_) #[true, true, false, false, false, false, false, false] rfl rfl (take_ofW HT_.out HW_.out (by kernel_rfl)) (fun _ _ _ h => h) (Or.inl ⟨by rfl, ?_⟩) hHeld ?_ ?_
   rotate_left
   ·rintro w' ⟨s0, s1⟩
    go_simp
    with_reducible rfl
   rotate_left
   ·simp only [ap_]
    rfl
   refine pure_ (i := 2) (N := some 43) (v := ?_) (a' := ?_) #[true, true, true, false, false, false, false, false] rfl rfl (any_of HT_.out (by kernel_rfl)) (fun _ _ _ h => h) (Or.inl ⟨by rfl, ?_⟩) ?_ ?_
   rotate_left
   ·intro w'
    go_simp
    with_reducible rfl
   rotate_left
   ·simp only [ap_]
    rfl
   refine pure_ (i := 3) (N := some 44) (v := ?_) (a' := ?_) #[true, true, true, true, false, false, false, false] rfl rfl (any_of HT_.out (by kernel_rfl)) (fun _ _ _ h => h) (Or.inl ⟨by rfl, ?_⟩) ?_ ?_
   rotate_left
   ·intro w'
    go_simp
    with_reducible rfl
   rotate_left
   ·simp only [ap_]
    rfl
   refine take_ (i := 4) (N := some 45) (v := ?_) (a' := ?_) #[true, true, true, true, true, false, false, false] rfl rfl (take_ofW HT_.out HW_.out (by kernel_rfl)) (fun _ _ _ h => h) (Or.inl ⟨by rfl, ?_⟩) hHeld ?_ ?_
   rotate_left
   ·rintro w' ⟨s0, s1⟩
    go_simp
    with_reducible rfl
   rotate_left
   ·simp only [ap_]
    rfl
   refine one_ (i := 5) (N := some 46) #[true, true, true, true, true, true, false, false] rfl rfl (one_of HT_.out (by kernel_rfl)) (by decide) (fun K hK => ?_)
   refine goes_ Try.func107 (by kernel_rfl) rfl #[.int .u64 a1, .int .i64 3] (by rfl) rfl rfl (by (try simp only [List.map_toArray, List.map_cons, List.map_nil]); first | done | rfl) ?_
   with_reducible refine (field_Bit.calls a1 3 x _ A8.out).mono ?_
   rintro e wn ⟨rfl, hdr⟩
   refine ⟨_, rfl, ?_⟩
   have m_H6 := Aside0.mk (show wn.heap[g6]? = some _ from by obtain ⟨nd, rfl⟩ := hdr; exact blk_drewN H6.out _)
   have m_H8 := Aside0.mk (show wn.heap[g8]? = some _ from by obtain ⟨nd, rfl⟩ := hdr; exact blk_drewN H8.out _)
   have m_HB := Aside0.mk (show Below w.heap.size w wn from by obtain ⟨nd, rfl⟩ := hdr; exact pw_below_drewN HB.out _)
   have m_H10 := Aside0.mk (show wn.heap[g10]? = some _ from by obtain ⟨nd, rfl⟩ := hdr; exact blk_drewN H10.out _)
   clear H6 H8 HB H10
   have H6 := m_H6
   have H8 := m_H8
   have HB := m_HB
   have H10 := m_H10
   clear m_H6 m_H8 m_HB m_H10
   clear hdr
   refine hK.out _ _ (cz2_21 H10.out) (fun hHeld => ?_)
   clear hK K
   refine norm_ (a' := ?_) ?_ ?_
   rotate_left
   ·show Act.put _ (some 46) _ = _
    simp only [ap_]
    rfl
   refine pure_ (i := 6) (N := some 47) (v := ?_) (a' := ?_) #[true, true, true, true, true, true, true, false] rfl rfl (any_of HT_.out (by kernel_rfl)) (fun _ _ _ h => h) (Or.inl ⟨by rfl, ?_⟩) ?_ ?_
   rotate_left
   ·intro w'
    go_simp
    with_reducible rfl
   rotate_left
   ·simp only [ap_]
    rfl
   have qs : wn.cell? ⟨g8, 6, none⟩ = some (.bool false) := blk_cell H8.out 6
   have fs := blk_frozen H8.out 6
   refine last_ (i := 7) (N := none) #[true, true, true, true, true, true, true, true] rfl rfl (one_of HT_.out (by kernel_rfl)) (by decide) (fun K hK => ?_)
   refine skip_ (w1 := ?_) (by rfl) rfl ?_ ?_
   rotate_left
   ·go_simp
    rfl
   refine hK.out _ _ ?_
   clear hK K
   refine done_ (done_of HT_.out (by kernel_rfl)) ?_
   go_wp2
   go_roundw
   case rel => exact ⟨3, by go_num, ⟨.inr (.inr (.inr (.inl ⟨rfl, blk_put H8.out 6 _ rfl⟩)))⟩, ⟨blk_far H6.out NE_g6_g8.out _⟩, ⟨below_set HB.out GE8.out⟩⟩
   case measure => simp [intOf]
  ·have H8 := Aside0.mk h8
   clear h8
   have i3 := j3 g8
   go_wp2_with (first | ((with_reducible refine gate_dst (N := 10) rfl ?_); refine box_event ?hg (N := 10) ?hd (cs := #[.int .i64 0, .pointer none]) (t := 140) ?hr ?_; (case hd => rfl); (case hg => rfl); (case hr => first | (go_simp; done) | (go_simp; rfl)); intro g10 hgb w9 hbox0 hb; have GE10 := Aside0.mk (Nat.le_trans HB.out.size (Nat.le_of_eq hgb.symm)); have NE_g6_g10 := Aside0.mk (Nat.ne_of_lt (Nat.lt_of_lt_of_le (blk_lt H6.out) (Nat.le_of_eq hgb.symm))); have NE_g8_g10 := Aside0.mk (Nat.ne_of_lt (Nat.lt_of_lt_of_le (blk_lt H8.out) (Nat.le_of_eq hgb.symm))); have H10 := Aside0.mk hbox0; have m_H6 := Aside0.mk (show w9.heap[g6]? = some _ from blk_below H6.out hb); have m_H8 := Aside0.mk (show w9.heap[g8]? = some _ from blk_below H8.out hb); have m_HB := Aside0.mk (show Below w.heap.size w w9 from below_step HB.out hb); clear H6 H8 HB; have H6 := m_H6; have H8 := m_H8; have HB := m_HB; clear m_H6 m_H8 m_HB; clear hgb hbox0 hb) | ((with_reducible refine gate_store (t := 140) (p := 10) rfl ?_); refine wpList_store_row rfl 140 (.tmp 10) (.tmp 40) rfl g10 #[.int .i64 2, .pointer (some ⟨g8, 5, none⟩)] rfl rfl 140 _ H10.out (by kernel_rfl) rfl (by kernel_rfl) ?_; have n1 := Aside0.mk (setRow_heap _ g10 _ #[.int .i64 2, .pointer (some ⟨g8, 5, none⟩)] _ _ H10.out); have n2 := Aside0.mk (below_setRow HB.out GE10.out #[.int .i64 2, .pointer (some ⟨g8, 5, none⟩)]); have k_H6 := Aside0.mk (tte_Data.row_other (cs := #[.int .i64 2, .pointer (some ⟨g8, 5, none⟩)]) H6.out (.inr NE_g6_g10.out)); have k_H8 := Aside0.mk (tte_Data.row_other (cs := #[.int .i64 2, .pointer (some ⟨g8, 5, none⟩)]) H8.out (.inr NE_g8_g10.out)); generalize World.setRow _ g10 #[.int .i64 2, .pointer (some ⟨g8, 5, none⟩)] = w10 at n1 n2 k_H6 k_H8 ⊢; clear H10 HB; have H10 := n1; have HB := n2; clear n1 n2; clear H6; have H6 := k_H6; clear k_H6; clear H8; have H8 := k_H8; clear k_H8; obtain ⟨qH10_0, qH10_1⟩ := tte_Read.cz2 H10.out))
   refine start_ (n := 8) (S := fun w' => w'.cell? ⟨g10, 0, none⟩ = some (.int .i64 2) ∧ w'.cell? ⟨g10, 1, none⟩ = some (.pointer (some ⟨g8, 5, none⟩))) (ds := [7]) #[false, false, false, false, false, false, false, false] (by kernel_rfl) rfl rfl (cz2_21 H10.out) (fun hHeld => ?_)
   refine with_tabW tte_Read.tab11 tte_Read.bits11 (fun HT_ HW_ => ?_)
   have m_H6 := Aside0.mk (show w10.drew.heap[g6]? = some _ from blk_drew H6.out)
   have m_H8 := Aside0.mk (show w10.drew.heap[g8]? = some _ from blk_drew H8.out)
   have m_HB := Aside0.mk (show Below w.heap.size w w10.drew from Below.drew HB.out)
   have m_H10 := Aside0.mk (show w10.drew.heap[g10]? = some _ from blk_drew H10.out)
   clear H6 H8 HB H10
   have H6 := m_H6
   have H8 := m_H8
   have HB := m_HB
   have H10 := m_H10
   clear m_H6 m_H8 m_HB m_H10
   generalize w10.drew = w11 at H6 H8 H10 HB hHeld ⊢
   refine pure_ (i := 0) (N := some 41) (v := ?_) (a' := ?_) #[true, false, false, false, false, false, false, false] rfl rfl (any_of HT_.out (by kernel_rfl)) (fun _ _ _ h => h) (Or.inl ⟨by rfl, ?_⟩) ?_ ?_
   rotate_left
   ·intro w'
    go_simp
    with_reducible rfl
   rotate_left
   ·simp only [ap_]
    rfl
   refine take_ (i := 1) (N := some 42) (v := ?_) (a' := ?_) #[true, true, false, false, false, false, false, false] rfl rfl (take_ofW HT_.out HW_.out (by kernel_rfl)) (fun _ _ _ h => h) (Or.inl ⟨by rfl, ?_⟩) hHeld ?_ ?_
   rotate_left
   ·rintro w' ⟨s0, s1⟩
    go_simp
    with_reducible rfl
   rotate_left
   ·simp only [ap_]
    rfl
   refine pure_ (i := 2) (N := some 43) (v := ?_) (a' := ?_) #[true, true, true, false, false, false, false, false] rfl rfl (any_of HT_.out (by kernel_rfl)) (fun _ _ _ h => h) (Or.inl ⟨by rfl, ?_⟩) ?_ ?_
   rotate_left
   ·intro w'
    go_simp
    with_reducible rfl
   rotate_left
   ·simp only [ap_]
    rfl
   refine pure_ (i := 3) (N := some 44) (v := ?_) (a' := ?_) #[true, true, true, true, false, false, false, false] rfl rfl (any_of HT_.out (by kernel_rfl)) (fun _ _ _ h => h) (Or.inl ⟨by rfl, ?_⟩) ?_ ?_
   rotate_left
   ·intro w'
    go_simp
    with_reducible rfl
   rotate_left
   ·simp only [ap_]
    rfl
   refine take_ (i := 4) (N := some 45) (v := ?_) (a' := ?_) #[true, true, true, true, true, false, false, false] rfl rfl (take_ofW HT_.out HW_.out (by kernel_rfl)) (fun _ _ _ h => h) (Or.inl ⟨by rfl, ?_⟩) hHeld ?_ ?_
   rotate_left
   ·rintro w' ⟨s0, s1⟩
    go_simp
    with_reducible rfl
   rotate_left
   ·simp only [ap_]
    rfl
   refine one_ (i := 5) (N := some 46) #[true, true, true, true, true, true, false, false] rfl rfl (one_of HT_.out (by kernel_rfl)) (by decide) (fun K hK => ?_)
   refine goes_ Try.func107 (by kernel_rfl) rfl #[.int .u64 a1, .int .i64 2] (by rfl) rfl rfl (by (try simp only [List.map_toArray, List.map_cons, List.map_nil]); first | done | rfl) ?_
   with_reducible refine (field_Bit.calls a1 2 p _ A9.out).mono ?_
   rintro e wn ⟨rfl, hdr⟩
   refine ⟨_, rfl, ?_⟩
   have m_H6 := Aside0.mk (show wn.heap[g6]? = some _ from by obtain ⟨nd, rfl⟩ := hdr; exact blk_drewN H6.out _)
   have m_H8 := Aside0.mk (show wn.heap[g8]? = some _ from by obtain ⟨nd, rfl⟩ := hdr; exact blk_drewN H8.out _)
   have m_HB := Aside0.mk (show Below w.heap.size w wn from by obtain ⟨nd, rfl⟩ := hdr; exact pw_below_drewN HB.out _)
   have m_H10 := Aside0.mk (show wn.heap[g10]? = some _ from by obtain ⟨nd, rfl⟩ := hdr; exact blk_drewN H10.out _)
   clear H6 H8 HB H10
   have H6 := m_H6
   have H8 := m_H8
   have HB := m_HB
   have H10 := m_H10
   clear m_H6 m_H8 m_HB m_H10
   clear hdr
   refine hK.out _ _ (cz2_21 H10.out) (fun hHeld => ?_)
   clear hK K
   refine norm_ (a' := ?_) ?_ ?_
   rotate_left
   ·show Act.put _ (some 46) _ = _
    simp only [ap_]
    rfl
   refine pure_ (i := 6) (N := some 47) (v := ?_) (a' := ?_) #[true, true, true, true, true, true, true, false] rfl rfl (any_of HT_.out (by kernel_rfl)) (fun _ _ _ h => h) (Or.inl ⟨by rfl, ?_⟩) ?_ ?_
   rotate_left
   ·intro w'
    go_simp
    with_reducible rfl
   rotate_left
   ·simp only [ap_]
    rfl
   have qs : wn.cell? ⟨g8, 5, none⟩ = some (.bool false) := blk_cell H8.out 5
   have fs := blk_frozen H8.out 5
   refine last_ (i := 7) (N := none) #[true, true, true, true, true, true, true, true] rfl rfl (one_of HT_.out (by kernel_rfl)) (by decide) (fun K hK => ?_)
   refine skip_ (w1 := ?_) (by rfl) rfl ?_ ?_
   rotate_left
   ·go_simp
    rfl
   refine hK.out _ _ ?_
   clear hK K
   refine done_ (done_of HT_.out (by kernel_rfl)) ?_
   go_wp2
   go_roundw
   case rel => exact ⟨4, by go_num, ⟨.inr (.inr (.inr (.inr (.inl ⟨rfl, blk_put H8.out 5 _ rfl⟩))))⟩, ⟨blk_far H6.out NE_g6_g8.out _⟩, ⟨below_set HB.out GE8.out⟩⟩
   case measure => simp [intOf]
  ·have H8 := Aside0.mk h8
   clear h8
   have i4 := j4 g8
   go_wp2_with (first | ((with_reducible refine gate_dst (N := 10) rfl ?_); refine box_event ?hg (N := 10) ?hd (cs := #[.int .i64 0, .pointer none]) (t := 140) ?hr ?_; (case hd => rfl); (case hg => rfl); (case hr => first | (go_simp; done) | (go_simp; rfl)); intro g10 hgb w9 hbox0 hb; have GE10 := Aside0.mk (Nat.le_trans HB.out.size (Nat.le_of_eq hgb.symm)); have NE_g6_g10 := Aside0.mk (Nat.ne_of_lt (Nat.lt_of_lt_of_le (blk_lt H6.out) (Nat.le_of_eq hgb.symm))); have NE_g8_g10 := Aside0.mk (Nat.ne_of_lt (Nat.lt_of_lt_of_le (blk_lt H8.out) (Nat.le_of_eq hgb.symm))); have H10 := Aside0.mk hbox0; have m_H6 := Aside0.mk (show w9.heap[g6]? = some _ from blk_below H6.out hb); have m_H8 := Aside0.mk (show w9.heap[g8]? = some _ from blk_below H8.out hb); have m_HB := Aside0.mk (show Below w.heap.size w w9 from below_step HB.out hb); clear H6 H8 HB; have H6 := m_H6; have H8 := m_H8; have HB := m_HB; clear m_H6 m_H8 m_HB; clear hgb hbox0 hb) | ((with_reducible refine gate_store (t := 140) (p := 10) rfl ?_); refine wpList_store_row rfl 140 (.tmp 10) (.tmp 40) rfl g10 #[.int .i64 1, .pointer (some ⟨g8, 4, none⟩)] rfl rfl 140 _ H10.out (by kernel_rfl) rfl (by kernel_rfl) ?_; have n1 := Aside0.mk (setRow_heap _ g10 _ #[.int .i64 1, .pointer (some ⟨g8, 4, none⟩)] _ _ H10.out); have n2 := Aside0.mk (below_setRow HB.out GE10.out #[.int .i64 1, .pointer (some ⟨g8, 4, none⟩)]); have k_H6 := Aside0.mk (tte_Data.row_other (cs := #[.int .i64 1, .pointer (some ⟨g8, 4, none⟩)]) H6.out (.inr NE_g6_g10.out)); have k_H8 := Aside0.mk (tte_Data.row_other (cs := #[.int .i64 1, .pointer (some ⟨g8, 4, none⟩)]) H8.out (.inr NE_g8_g10.out)); generalize World.setRow _ g10 #[.int .i64 1, .pointer (some ⟨g8, 4, none⟩)] = w10 at n1 n2 k_H6 k_H8 ⊢; clear H10 HB; have H10 := n1; have HB := n2; clear n1 n2; clear H6; have H6 := k_H6; clear k_H6; clear H8; have H8 := k_H8; clear k_H8; obtain ⟨qH10_0, qH10_1⟩ := tte_Read.cz2 H10.out))
   refine start_ (n := 8) (S := fun w' => w'.cell? ⟨g10, 0, none⟩ = some (.int .i64 1) ∧ w'.cell? ⟨g10, 1, none⟩ = some (.pointer (some ⟨g8, 4, none⟩))) (ds := [7]) #[false, false, false, false, false, false, false, false] (by kernel_rfl) rfl rfl (cz2_21 H10.out) (fun hHeld => ?_)
   refine with_tabW tte_Read.tab11 tte_Read.bits11 (fun HT_ HW_ => ?_)
   have m_H6 := Aside0.mk (show w10.drew.heap[g6]? = some _ from blk_drew H6.out)
   have m_H8 := Aside0.mk (show w10.drew.heap[g8]? = some _ from blk_drew H8.out)
   have m_HB := Aside0.mk (show Below w.heap.size w w10.drew from Below.drew HB.out)
   have m_H10 := Aside0.mk (show w10.drew.heap[g10]? = some _ from blk_drew H10.out)
   clear H6 H8 HB H10
   have H6 := m_H6
   have H8 := m_H8
   have HB := m_HB
   have H10 := m_H10
   clear m_H6 m_H8 m_HB m_H10
   generalize w10.drew = w11 at H6 H8 H10 HB hHeld ⊢
   refine pure_ (i := 0) (N := some 41) (v := ?_) (a' := ?_) #[true, false, false, false, false, false, false, false] rfl rfl (any_of HT_.out (by kernel_rfl)) (fun _ _ _ h => h) (Or.inl ⟨by rfl, ?_⟩) ?_ ?_
   rotate_left
   ·intro w'
    go_simp
    with_reducible rfl
   rotate_left
   ·simp only [ap_]
    rfl
   refine take_ (i := 1) (N := some 42) (v := ?_) (a' := ?_) #[true, true, false, false, false, false, false, false] rfl rfl (take_ofW HT_.out HW_.out (by kernel_rfl)) (fun _ _ _ h => h) (Or.inl ⟨by rfl, ?_⟩) hHeld ?_ ?_
   rotate_left
   ·rintro w' ⟨s0, s1⟩
    go_simp
    with_reducible rfl
   rotate_left
   ·simp only [ap_]
    rfl
   refine pure_ (i := 2) (N := some 43) (v := ?_) (a' := ?_) #[true, true, true, false, false, false, false, false] rfl rfl (any_of HT_.out (by kernel_rfl)) (fun _ _ _ h => h) (Or.inl ⟨by rfl, ?_⟩) ?_ ?_
   rotate_left
   ·intro w'
    go_simp
    with_reducible rfl
   rotate_left
   ·simp only [ap_]
    rfl
   refine pure_ (i := 3) (N := some 44) (v := ?_) (a' := ?_) #[true, true, true, true, false, false, false, false] rfl rfl (any_of HT_.out (by kernel_rfl)) (fun _ _ _ h => h) (Or.inl ⟨by rfl, ?_⟩) ?_ ?_
   rotate_left
   ·intro w'
    go_simp
    with_reducible rfl
   rotate_left
   ·simp only [ap_]
    rfl
   refine take_ (i := 4) (N := some 45) (v := ?_) (a' := ?_) #[true, true, true, true, true, false, false, false] rfl rfl (take_ofW HT_.out HW_.out (by kernel_rfl)) (fun _ _ _ h => h) (Or.inl ⟨by rfl, ?_⟩) hHeld ?_ ?_
   rotate_left
   ·rintro w' ⟨s0, s1⟩
    go_simp
    with_reducible rfl
   rotate_left
   ·simp only [ap_]
    rfl
   refine one_ (i := 5) (N := some 46) #[true, true, true, true, true, true, false, false] rfl rfl (one_of HT_.out (by kernel_rfl)) (by decide) (fun K hK => ?_)
   refine goes_ Try.func107 (by kernel_rfl) rfl #[.int .u64 a1, .int .i64 1] (by rfl) rfl rfl (by (try simp only [List.map_toArray, List.map_cons, List.map_nil]); first | done | rfl) ?_
   with_reducible refine (field_Bit.calls a1 1 v _ A10.out).mono ?_
   rintro e wn ⟨rfl, hdr⟩
   refine ⟨_, rfl, ?_⟩
   have m_H6 := Aside0.mk (show wn.heap[g6]? = some _ from by obtain ⟨nd, rfl⟩ := hdr; exact blk_drewN H6.out _)
   have m_H8 := Aside0.mk (show wn.heap[g8]? = some _ from by obtain ⟨nd, rfl⟩ := hdr; exact blk_drewN H8.out _)
   have m_HB := Aside0.mk (show Below w.heap.size w wn from by obtain ⟨nd, rfl⟩ := hdr; exact pw_below_drewN HB.out _)
   have m_H10 := Aside0.mk (show wn.heap[g10]? = some _ from by obtain ⟨nd, rfl⟩ := hdr; exact blk_drewN H10.out _)
   clear H6 H8 HB H10
   have H6 := m_H6
   have H8 := m_H8
   have HB := m_HB
   have H10 := m_H10
   clear m_H6 m_H8 m_HB m_H10
   clear hdr
   refine hK.out _ _ (cz2_21 H10.out) (fun hHeld => ?_)
   clear hK K
   refine norm_ (a' := ?_) ?_ ?_
   rotate_left
   ·show Act.put _ (some 46) _ = _
    simp only [ap_]
    rfl
   refine pure_ (i := 6) (N := some 47) (v := ?_) (a' := ?_) #[true, true, true, true, true, true, true, false] rfl rfl (any_of HT_.out (by kernel_rfl)) (fun _ _ _ h => h) (Or.inl ⟨by rfl, ?_⟩) ?_ ?_
   rotate_left
   ·intro w'
    go_simp
    with_reducible rfl
   rotate_left
   ·simp only [ap_]
    rfl
   have qs : wn.cell? ⟨g8, 4, none⟩ = some (.bool false) := blk_cell H8.out 4
   have fs := blk_frozen H8.out 4
   refine last_ (i := 7) (N := none) #[true, true, true, true, true, true, true, true] rfl rfl (one_of HT_.out (by kernel_rfl)) (by decide) (fun K hK => ?_)
   refine skip_ (w1 := ?_) (by rfl) rfl ?_ ?_
   rotate_left
   ·go_simp
    rfl
   refine hK.out _ _ ?_
   clear hK K
   refine done_ (done_of HT_.out (by kernel_rfl)) ?_
   go_wp2
   go_roundw
   case rel => exact ⟨5, by go_num, ⟨.inr (.inr (.inr (.inr (.inr (.inl ⟨rfl, blk_put H8.out 4 _ rfl⟩)))))⟩, ⟨blk_far H6.out NE_g6_g8.out _⟩, ⟨below_set HB.out GE8.out⟩⟩
   case measure => simp [intOf]
  ·have H8 := Aside0.mk h8
   clear h8
   have i5 := j5 g8
   go_wp2_with (first | ((with_reducible refine gate_dst (N := 10) rfl ?_); refine box_event ?hg (N := 10) ?hd (cs := #[.int .i64 0, .pointer none]) (t := 140) ?hr ?_; (case hd => rfl); (case hg => rfl); (case hr => first | (go_simp; done) | (go_simp; rfl)); intro g10 hgb w9 hbox0 hb; have GE10 := Aside0.mk (Nat.le_trans HB.out.size (Nat.le_of_eq hgb.symm)); have NE_g6_g10 := Aside0.mk (Nat.ne_of_lt (Nat.lt_of_lt_of_le (blk_lt H6.out) (Nat.le_of_eq hgb.symm))); have NE_g8_g10 := Aside0.mk (Nat.ne_of_lt (Nat.lt_of_lt_of_le (blk_lt H8.out) (Nat.le_of_eq hgb.symm))); have H10 := Aside0.mk hbox0; have m_H6 := Aside0.mk (show w9.heap[g6]? = some _ from blk_below H6.out hb); have m_H8 := Aside0.mk (show w9.heap[g8]? = some _ from blk_below H8.out hb); have m_HB := Aside0.mk (show Below w.heap.size w w9 from below_step HB.out hb); clear H6 H8 HB; have H6 := m_H6; have H8 := m_H8; have HB := m_HB; clear m_H6 m_H8 m_HB; clear hgb hbox0 hb) | ((with_reducible refine gate_store (t := 140) (p := 10) rfl ?_); refine wpList_store_row rfl 140 (.tmp 10) (.tmp 40) rfl g10 #[.int .i64 0, .pointer (some ⟨g8, 8, none⟩)] rfl rfl 140 _ H10.out (by kernel_rfl) rfl (by kernel_rfl) ?_; have n1 := Aside0.mk (setRow_heap _ g10 _ #[.int .i64 0, .pointer (some ⟨g8, 8, none⟩)] _ _ H10.out); have n2 := Aside0.mk (below_setRow HB.out GE10.out #[.int .i64 0, .pointer (some ⟨g8, 8, none⟩)]); have k_H6 := Aside0.mk (tte_Data.row_other (cs := #[.int .i64 0, .pointer (some ⟨g8, 8, none⟩)]) H6.out (.inr NE_g6_g10.out)); have k_H8 := Aside0.mk (tte_Data.row_other (cs := #[.int .i64 0, .pointer (some ⟨g8, 8, none⟩)]) H8.out (.inr NE_g8_g10.out)); generalize World.setRow _ g10 #[.int .i64 0, .pointer (some ⟨g8, 8, none⟩)] = w10 at n1 n2 k_H6 k_H8 ⊢; clear H10 HB; have H10 := n1; have HB := n2; clear n1 n2; clear H6; have H6 := k_H6; clear k_H6; clear H8; have H8 := k_H8; clear k_H8; obtain ⟨qH10_0, qH10_1⟩ := tte_Read.cz2 H10.out))
   refine start_ (n := 8) (S := fun w' => w'.cell? ⟨g10, 0, none⟩ = some (.int .i64 0) ∧ w'.cell? ⟨g10, 1, none⟩ = some (.pointer (some ⟨g8, 8, none⟩))) (ds := [7]) #[false, false, false, false, false, false, false, false] (by kernel_rfl) rfl rfl (cz2_21 H10.out) (fun hHeld => ?_)
   refine with_tabW tte_Read.tab11 tte_Read.bits11 (fun HT_ HW_ => ?_)
   have m_H6 := Aside0.mk (show w10.drew.heap[g6]? = some _ from blk_drew H6.out)
   have m_H8 := Aside0.mk (show w10.drew.heap[g8]? = some _ from blk_drew H8.out)
   have m_HB := Aside0.mk (show Below w.heap.size w w10.drew from Below.drew HB.out)
   have m_H10 := Aside0.mk (show w10.drew.heap[g10]? = some _ from blk_drew H10.out)
   clear H6 H8 HB H10
   have H6 := m_H6
   have H8 := m_H8
   have HB := m_HB
   have H10 := m_H10
   clear m_H6 m_H8 m_HB m_H10
   generalize w10.drew = w11 at H6 H8 H10 HB hHeld ⊢
   refine pure_ (i := 0) (N := some 41) (v := ?_) (a' := ?_) #[true, false, false, false, false, false, false, false] rfl rfl (any_of HT_.out (by kernel_rfl)) (fun _ _ _ h => h) (Or.inl ⟨by rfl, ?_⟩) ?_ ?_
   rotate_left
   ·intro w'
    go_simp
    with_reducible rfl
   rotate_left
   ·simp only [ap_]
    rfl
   refine take_ (i := 1) (N := some 42) (v := ?_) (a' := ?_) #[true, true, false, false, false, false, false, false] rfl rfl (take_ofW HT_.out HW_.out (by kernel_rfl)) (fun _ _ _ h => h) (Or.inl ⟨by rfl, ?_⟩) hHeld ?_ ?_
   rotate_left
   ·rintro w' ⟨s0, s1⟩
    go_simp
    with_reducible rfl
   rotate_left
   ·simp only [ap_]
    rfl
   refine pure_ (i := 2) (N := some 43) (v := ?_) (a' := ?_) #[true, true, true, false, false, false, false, false] rfl rfl (any_of HT_.out (by kernel_rfl)) (fun _ _ _ h => h) (Or.inl ⟨by rfl, ?_⟩) ?_ ?_
   rotate_left
   ·intro w'
    go_simp
    with_reducible rfl
   rotate_left
   ·simp only [ap_]
    rfl
   refine pure_ (i := 3) (N := some 44) (v := ?_) (a' := ?_) #[true, true, true, true, false, false, false, false] rfl rfl (any_of HT_.out (by kernel_rfl)) (fun _ _ _ h => h) (Or.inl ⟨by rfl, ?_⟩) ?_ ?_
   rotate_left
   ·intro w'
    go_simp
    with_reducible rfl
   rotate_left
   ·simp only [ap_]
    rfl
   refine take_ (i := 4) (N := some 45) (v := ?_) (a' := ?_) #[true, true, true, true, true, false, false, false] rfl rfl (take_ofW HT_.out HW_.out (by kernel_rfl)) (fun _ _ _ h => h) (Or.inl ⟨by rfl, ?_⟩) hHeld ?_ ?_
   rotate_left
   ·rintro w' ⟨s0, s1⟩
    go_simp
    with_reducible rfl
   rotate_left
   ·simp only [ap_]
    rfl
   refine one_ (i := 5) (N := some 46) #[true, true, true, true, true, true, false, false] rfl rfl (one_of HT_.out (by kernel_rfl)) (by decide) (fun K hK => ?_)
   refine goes_ Try.func107 (by kernel_rfl) rfl #[.int .u64 a1, .int .i64 0] (by rfl) rfl rfl (by (try simp only [List.map_toArray, List.map_cons, List.map_nil]); first | done | rfl) ?_
   with_reducible refine (field_Bit.calls a1 0 g _ A11.out).mono ?_
   rintro e wn ⟨rfl, hdr⟩
   refine ⟨_, rfl, ?_⟩
   have m_H6 := Aside0.mk (show wn.heap[g6]? = some _ from by obtain ⟨nd, rfl⟩ := hdr; exact blk_drewN H6.out _)
   have m_H8 := Aside0.mk (show wn.heap[g8]? = some _ from by obtain ⟨nd, rfl⟩ := hdr; exact blk_drewN H8.out _)
   have m_HB := Aside0.mk (show Below w.heap.size w wn from by obtain ⟨nd, rfl⟩ := hdr; exact pw_below_drewN HB.out _)
   have m_H10 := Aside0.mk (show wn.heap[g10]? = some _ from by obtain ⟨nd, rfl⟩ := hdr; exact blk_drewN H10.out _)
   clear H6 H8 HB H10
   have H6 := m_H6
   have H8 := m_H8
   have HB := m_HB
   have H10 := m_H10
   clear m_H6 m_H8 m_HB m_H10
   clear hdr
   refine hK.out _ _ (cz2_21 H10.out) (fun hHeld => ?_)
   clear hK K
   refine norm_ (a' := ?_) ?_ ?_
   rotate_left
   ·show Act.put _ (some 46) _ = _
    simp only [ap_]
    rfl
   refine pure_ (i := 6) (N := some 47) (v := ?_) (a' := ?_) #[true, true, true, true, true, true, true, false] rfl rfl (any_of HT_.out (by kernel_rfl)) (fun _ _ _ h => h) (Or.inl ⟨by rfl, ?_⟩) ?_ ?_
   rotate_left
   ·intro w'
    go_simp
    with_reducible rfl
   rotate_left
   ·simp only [ap_]
    rfl
   have qs : wn.cell? ⟨g8, 8, none⟩ = some (.bool false) := blk_cell H8.out 8
   have fs := blk_frozen H8.out 8
   refine last_ (i := 7) (N := none) #[true, true, true, true, true, true, true, true] rfl rfl (one_of HT_.out (by kernel_rfl)) (by decide) (fun K hK => ?_)
   refine skip_ (w1 := ?_) (by rfl) rfl ?_ ?_
   rotate_left
   ·go_simp
    rfl
   refine hK.out _ _ ?_
   clear hK K
   refine done_ (done_of HT_.out (by kernel_rfl)) ?_
   go_wp2
   go_roundw
   case rel => exact ⟨6, by go_num, ⟨.inr (.inr (.inr (.inr (.inr (.inr (⟨rfl, blk_put H8.out 8 _ rfl⟩))))))⟩, ⟨blk_far H6.out NE_g6_g8.out _⟩, ⟨below_set HB.out GE8.out⟩⟩
   case measure => simp [intOf]
  ·have H8 := Aside0.mk h8
   clear h8
   have hE := AE.out
   unfold tte_Read.e at hE
   clear AE
   obtain ⟨m, hm, hE⟩ := Option.bind_eq_some_iff.mp hE
   have AM := Aside0.mk hm
   clear hm
   obtain ⟨qH8_0, qH8_1, qH8_2, qH8_3, qH8_4, qH8_5, qH8_6, qH8_7, qH8_8, qH8_9, qH8_10⟩ := tte_Read.cz11 H8.out
   cases m with
   | false =>
    rw [if_neg (by decide)] at hE
    have hE := Option.some.inj hE; simp only [Prod.mk.injEq] at hE; obtain ⟨rfl, rfl, rfl, rfl, rfl, rfl, rfl, rfl, rfl, rfl, rfl, rfl⟩ := hE
    go_wp2_with (first | ((with_reducible refine gate_callee (f := 88) rfl ?_); refine goesL_ (some 50) rfl rfl Try.func88 (by kernel_rfl) rfl #[.agg #[.int .i64 (wrap64 t1), .int .i64 (wrap64 t2), .int .u64 t3, .int .u64 (IntKind.u64.wrap (t4 * 8192)), .bool v, .bool p, .bool x, .bool l, .bool g, .bool q, .bool true]] rfl (by (try simp only [List.map_toArray, List.map_cons, List.map_nil]); first | done | rfl | (simp only [List.length_drop, List.length_take]; rfl)) ?_; (with_reducible refine (tte_May.calls k (wrap64 t1) (wrap64 t2) t3 (IntKind.u64.wrap (t4 * 8192)) v p x l g q true _ _ AM.out).mono ?_); rintro e wn ⟨rfl, hb⟩; refine ⟨_, rfl, ?_⟩; have m_H6 := Aside0.mk (show wn.heap[g6]? = some _ from blk_below H6.out hb); have m_H8 := Aside0.mk (show wn.heap[g8]? = some _ from blk_below H8.out hb); have m_HB := Aside0.mk (show Below w.heap.size w wn from below_step HB.out hb); clear H6 H8 HB; have H6 := m_H6; have H8 := m_H8; have HB := m_HB; clear m_H6 m_H8 m_HB; clear hb; obtain ⟨qH8_0, qH8_1, qH8_2, qH8_3, qH8_4, qH8_5, qH8_6, qH8_7, qH8_8, qH8_9, qH8_10⟩ := tte_Read.cz11 H8.out) | ((with_reducible refine gate_store (t := 50) (p := 6) rfl ?_); refine wpList_store_row rfl 50 (.tmp 6) (.tmp 64) rfl g6 #[.int .i64 0, .int .i64 0, .int .u64 0, .int .u64 0, .bool false, .bool false, .bool false, .bool false, .bool false, .bool false, .bool false] rfl rfl 50 _ H6.out (by kernel_rfl) rfl (by kernel_rfl) ?_; have n1 := Aside0.mk (setRow_heap _ g6 _ #[.int .i64 0, .int .i64 0, .int .u64 0, .int .u64 0, .bool false, .bool false, .bool false, .bool false, .bool false, .bool false, .bool false] _ _ H6.out); have n2 := Aside0.mk (below_setRow HB.out GE6.out #[.int .i64 0, .int .i64 0, .int .u64 0, .int .u64 0, .bool false, .bool false, .bool false, .bool false, .bool false, .bool false, .bool false]); generalize World.setRow _ g6 #[.int .i64 0, .int .i64 0, .int .u64 0, .int .u64 0, .bool false, .bool false, .bool false, .bool false, .bool false, .bool false, .bool false] = w20 at n1 n2 ⊢; clear H6 HB; have H6 := n1; have HB := n2; clear n1 n2; obtain ⟨qH6_0, qH6_1, qH6_2, qH6_3, qH6_4, qH6_5, qH6_6, qH6_7, qH6_8, qH6_9, qH6_10⟩ := tte_Read.cz11 H6.out))
    (try simp only [Exit.inBlock, Exit.then]); refine bodyPost_ret (results_ct rfl _ _ g6 50 #[.int .i64 0, .int .i64 0, .int .u64 0, .int .u64 0, .bool false, .bool false, .bool false, .bool false, .bool false, .bool false, .bool false] (0, 0) _ rfl H6.out hu26 rfl (by kernel_rfl)) rfl ?_; exact ⟨rfl, HB.out⟩
   | true =>
    rw [if_pos rfl] at hE
    obtain ⟨tg, hm, hE⟩ := Option.bind_eq_some_iff.mp hE
    have AT := Aside0.mk hm
    clear hm
    by_cases ht : tg = a0
    ·rw [if_pos ht] at hE
     have ht1 : (tg != a0) = false := bne_eq_false_iff_eq.mpr ht
     clear ht
     obtain ⟨d, hm, hE⟩ := Option.bind_eq_some_iff.mp hE
     have AD := Aside0.mk hm
     clear hm
     by_cases hd : d = a1
     ·rw [if_pos hd] at hE
      have hd1 : (d != a1) = false := bne_eq_false_iff_eq.mpr hd
      clear hd
      have hE := Option.some.inj hE; simp only [Prod.mk.injEq] at hE; obtain ⟨rfl, rfl, rfl, rfl, rfl, rfl, rfl, rfl, rfl, rfl, rfl, rfl⟩ := hE
      go_wp2_with (first | ((with_reducible refine gate_callee (f := 88) rfl ?_); refine goesL_ (some 50) rfl rfl Try.func88 (by kernel_rfl) rfl #[.agg #[.int .i64 (wrap64 t1), .int .i64 (wrap64 t2), .int .u64 t3, .int .u64 (IntKind.u64.wrap (t4 * 8192)), .bool v, .bool p, .bool x, .bool l, .bool g, .bool q, .bool true]] rfl (by (try simp only [List.map_toArray, List.map_cons, List.map_nil]); first | done | rfl | (simp only [List.length_drop, List.length_take]; rfl)) ?_; (with_reducible refine (tte_May.calls k (wrap64 t1) (wrap64 t2) t3 (IntKind.u64.wrap (t4 * 8192)) v p x l g q true _ _ AM.out).mono ?_); rintro e wn ⟨rfl, hb⟩; refine ⟨_, rfl, ?_⟩; have m_H6 := Aside0.mk (show wn.heap[g6]? = some _ from blk_below H6.out hb); have m_H8 := Aside0.mk (show wn.heap[g8]? = some _ from blk_below H8.out hb); have m_HB := Aside0.mk (show Below w.heap.size w wn from below_step HB.out hb); clear H6 H8 HB; have H6 := m_H6; have H8 := m_H8; have HB := m_HB; clear m_H6 m_H8 m_HB; clear hb; obtain ⟨qH8_0, qH8_1, qH8_2, qH8_3, qH8_4, qH8_5, qH8_6, qH8_7, qH8_8, qH8_9, qH8_10⟩ := tte_Read.cz11 H8.out) | (go_at_call 66; (with_reducible refine (tte_Tag.calls (wrap64 t1) (wrap64 t2) t3 (IntKind.u64.wrap (t4 * 8192)) v p x l g q true _ _ AT.out).mono ?_); rintro e wn ⟨rfl, hb⟩; have m_H6 := Aside0.mk (show wn.heap[g6]? = some _ from blk_below H6.out hb); have m_H8 := Aside0.mk (show wn.heap[g8]? = some _ from blk_below H8.out hb); have m_HB := Aside0.mk (show Below w.heap.size w wn from below_step HB.out hb); clear H6 H8 HB; have H6 := m_H6; have H8 := m_H8; have HB := m_HB; clear m_H6 m_H8 m_HB; clear hb; obtain ⟨qH8_0, qH8_1, qH8_2, qH8_3, qH8_4, qH8_5, qH8_6, qH8_7, qH8_8, qH8_9, qH8_10⟩ := tte_Read.cz11 H8.out) | (go_at_call 65; (with_reducible refine (tte_Data.calls (wrap64 t1) (wrap64 t2) t3 (IntKind.u64.wrap (t4 * 8192)) v p x l g q true _ _ AD.out).mono ?_); rintro e wn ⟨rfl, hb⟩; have m_H6 := Aside0.mk (show wn.heap[g6]? = some _ from blk_below H6.out hb); have m_H8 := Aside0.mk (show wn.heap[g8]? = some _ from blk_below H8.out hb); have m_HB := Aside0.mk (show Below w.heap.size w wn from below_step HB.out hb); clear H6 H8 HB; have H6 := m_H6; have H8 := m_H8; have HB := m_HB; clear m_H6 m_H8 m_HB; clear hb; obtain ⟨qH8_0, qH8_1, qH8_2, qH8_3, qH8_4, qH8_5, qH8_6, qH8_7, qH8_8, qH8_9, qH8_10⟩ := tte_Read.cz11 H8.out) | ((with_reducible refine gate_store (t := 50) (p := 6) rfl ?_); refine wpList_store_row rfl 50 (.tmp 6) (.tmp 65) rfl g6 #[.int .i64 (wrap64 t1), .int .i64 (wrap64 t2), .int .u64 t3, .int .u64 (IntKind.u64.wrap (t4 * 8192)), .bool v, .bool p, .bool x, .bool l, .bool g, .bool q, .bool true] rfl rfl 50 _ H6.out (by kernel_rfl) rfl (by kernel_rfl) ?_; have n1 := Aside0.mk (setRow_heap _ g6 _ #[.int .i64 (wrap64 t1), .int .i64 (wrap64 t2), .int .u64 t3, .int .u64 (IntKind.u64.wrap (t4 * 8192)), .bool v, .bool p, .bool x, .bool l, .bool g, .bool q, .bool true] _ _ H6.out); have n2 := Aside0.mk (below_setRow HB.out GE6.out #[.int .i64 (wrap64 t1), .int .i64 (wrap64 t2), .int .u64 t3, .int .u64 (IntKind.u64.wrap (t4 * 8192)), .bool v, .bool p, .bool x, .bool l, .bool g, .bool q, .bool true]); generalize World.setRow _ g6 #[.int .i64 (wrap64 t1), .int .i64 (wrap64 t2), .int .u64 t3, .int .u64 (IntKind.u64.wrap (t4 * 8192)), .bool v, .bool p, .bool x, .bool l, .bool g, .bool q, .bool true] = w20 at n1 n2 ⊢; clear H6 HB; have H6 := n1; have HB := n2; clear n1 n2; obtain ⟨qH6_0, qH6_1, qH6_2, qH6_3, qH6_4, qH6_5, qH6_6, qH6_7, qH6_8, qH6_9, qH6_10⟩ := tte_Read.cz11 H6.out))
      (try simp only [Exit.inBlock, Exit.then]); refine bodyPost_ret (results_ct rfl _ _ g6 50 #[.int .i64 (wrap64 t1), .int .i64 (wrap64 t2), .int .u64 t3, .int .u64 (IntKind.u64.wrap (t4 * 8192)), .bool v, .bool p, .bool x, .bool l, .bool g, .bool q, .bool true] (0, 0) _ rfl H6.out hu26 rfl (by kernel_rfl)) rfl ?_; exact ⟨rfl, HB.out⟩
     ·rw [if_neg hd] at hE
      have hd1 : (d != a1) = true := bne_iff_ne.mpr hd
      clear hd
      have hE := Option.some.inj hE; simp only [Prod.mk.injEq] at hE; obtain ⟨rfl, rfl, rfl, rfl, rfl, rfl, rfl, rfl, rfl, rfl, rfl, rfl⟩ := hE
      go_wp2_with (first | ((with_reducible refine gate_callee (f := 88) rfl ?_); refine goesL_ (some 50) rfl rfl Try.func88 (by kernel_rfl) rfl #[.agg #[.int .i64 (wrap64 t1), .int .i64 (wrap64 t2), .int .u64 t3, .int .u64 (IntKind.u64.wrap (t4 * 8192)), .bool v, .bool p, .bool x, .bool l, .bool g, .bool q, .bool true]] rfl (by (try simp only [List.map_toArray, List.map_cons, List.map_nil]); first | done | rfl | (simp only [List.length_drop, List.length_take]; rfl)) ?_; (with_reducible refine (tte_May.calls k (wrap64 t1) (wrap64 t2) t3 (IntKind.u64.wrap (t4 * 8192)) v p x l g q true _ _ AM.out).mono ?_); rintro e wn ⟨rfl, hb⟩; refine ⟨_, rfl, ?_⟩; have m_H6 := Aside0.mk (show wn.heap[g6]? = some _ from blk_below H6.out hb); have m_H8 := Aside0.mk (show wn.heap[g8]? = some _ from blk_below H8.out hb); have m_HB := Aside0.mk (show Below w.heap.size w wn from below_step HB.out hb); clear H6 H8 HB; have H6 := m_H6; have H8 := m_H8; have HB := m_HB; clear m_H6 m_H8 m_HB; clear hb; obtain ⟨qH8_0, qH8_1, qH8_2, qH8_3, qH8_4, qH8_5, qH8_6, qH8_7, qH8_8, qH8_9, qH8_10⟩ := tte_Read.cz11 H8.out) | (go_at_call 66; (with_reducible refine (tte_Tag.calls (wrap64 t1) (wrap64 t2) t3 (IntKind.u64.wrap (t4 * 8192)) v p x l g q true _ _ AT.out).mono ?_); rintro e wn ⟨rfl, hb⟩; have m_H6 := Aside0.mk (show wn.heap[g6]? = some _ from blk_below H6.out hb); have m_H8 := Aside0.mk (show wn.heap[g8]? = some _ from blk_below H8.out hb); have m_HB := Aside0.mk (show Below w.heap.size w wn from below_step HB.out hb); clear H6 H8 HB; have H6 := m_H6; have H8 := m_H8; have HB := m_HB; clear m_H6 m_H8 m_HB; clear hb; obtain ⟨qH8_0, qH8_1, qH8_2, qH8_3, qH8_4, qH8_5, qH8_6, qH8_7, qH8_8, qH8_9, qH8_10⟩ := tte_Read.cz11 H8.out) | (go_at_call 65; (with_reducible refine (tte_Data.calls (wrap64 t1) (wrap64 t2) t3 (IntKind.u64.wrap (t4 * 8192)) v p x l g q true _ _ AD.out).mono ?_); rintro e wn ⟨rfl, hb⟩; have m_H6 := Aside0.mk (show wn.heap[g6]? = some _ from blk_below H6.out hb); have m_H8 := Aside0.mk (show wn.heap[g8]? = some _ from blk_below H8.out hb); have m_HB := Aside0.mk (show Below w.heap.size w wn from below_step HB.out hb); clear H6 H8 HB; have H6 := m_H6; have H8 := m_H8; have HB := m_HB; clear m_H6 m_H8 m_HB; clear hb; obtain ⟨qH8_0, qH8_1, qH8_2, qH8_3, qH8_4, qH8_5, qH8_6, qH8_7, qH8_8, qH8_9, qH8_10⟩ := tte_Read.cz11 H8.out) | ((with_reducible refine gate_store (t := 50) (p := 6) rfl ?_); refine wpList_store_row rfl 50 (.tmp 6) (.tmp 64) rfl g6 #[.int .i64 0, .int .i64 0, .int .u64 0, .int .u64 0, .bool false, .bool false, .bool false, .bool false, .bool false, .bool false, .bool false] rfl rfl 50 _ H6.out (by kernel_rfl) rfl (by kernel_rfl) ?_; have n1 := Aside0.mk (setRow_heap _ g6 _ #[.int .i64 0, .int .i64 0, .int .u64 0, .int .u64 0, .bool false, .bool false, .bool false, .bool false, .bool false, .bool false, .bool false] _ _ H6.out); have n2 := Aside0.mk (below_setRow HB.out GE6.out #[.int .i64 0, .int .i64 0, .int .u64 0, .int .u64 0, .bool false, .bool false, .bool false, .bool false, .bool false, .bool false, .bool false]); generalize World.setRow _ g6 #[.int .i64 0, .int .i64 0, .int .u64 0, .int .u64 0, .bool false, .bool false, .bool false, .bool false, .bool false, .bool false, .bool false] = w20 at n1 n2 ⊢; clear H6 HB; have H6 := n1; have HB := n2; clear n1 n2; obtain ⟨qH6_0, qH6_1, qH6_2, qH6_3, qH6_4, qH6_5, qH6_6, qH6_7, qH6_8, qH6_9, qH6_10⟩ := tte_Read.cz11 H6.out))
      (try simp only [Exit.inBlock, Exit.then]); refine bodyPost_ret (results_ct rfl _ _ g6 50 #[.int .i64 0, .int .i64 0, .int .u64 0, .int .u64 0, .bool false, .bool false, .bool false, .bool false, .bool false, .bool false, .bool false] (0, 0) _ rfl H6.out hu26 rfl (by kernel_rfl)) rfl ?_; exact ⟨rfl, HB.out⟩
    ·rw [if_neg ht] at hE
     have ht1 : (tg != a0) = true := bne_iff_ne.mpr ht
     clear ht
     have hE := Option.some.inj hE; simp only [Prod.mk.injEq] at hE; obtain ⟨rfl, rfl, rfl, rfl, rfl, rfl, rfl, rfl, rfl, rfl, rfl, rfl⟩ := hE
     go_wp2_with (first | ((with_reducible refine gate_callee (f := 88) rfl ?_); refine goesL_ (some 50) rfl rfl Try.func88 (by kernel_rfl) rfl #[.agg #[.int .i64 (wrap64 t1), .int .i64 (wrap64 t2), .int .u64 t3, .int .u64 (IntKind.u64.wrap (t4 * 8192)), .bool v, .bool p, .bool x, .bool l, .bool g, .bool q, .bool true]] rfl (by (try simp only [List.map_toArray, List.map_cons, List.map_nil]); first | done | rfl | (simp only [List.length_drop, List.length_take]; rfl)) ?_; (with_reducible refine (tte_May.calls k (wrap64 t1) (wrap64 t2) t3 (IntKind.u64.wrap (t4 * 8192)) v p x l g q true _ _ AM.out).mono ?_); rintro e wn ⟨rfl, hb⟩; refine ⟨_, rfl, ?_⟩; have m_H6 := Aside0.mk (show wn.heap[g6]? = some _ from blk_below H6.out hb); have m_H8 := Aside0.mk (show wn.heap[g8]? = some _ from blk_below H8.out hb); have m_HB := Aside0.mk (show Below w.heap.size w wn from below_step HB.out hb); clear H6 H8 HB; have H6 := m_H6; have H8 := m_H8; have HB := m_HB; clear m_H6 m_H8 m_HB; clear hb; obtain ⟨qH8_0, qH8_1, qH8_2, qH8_3, qH8_4, qH8_5, qH8_6, qH8_7, qH8_8, qH8_9, qH8_10⟩ := tte_Read.cz11 H8.out) | (go_at_call 66; (with_reducible refine (tte_Tag.calls (wrap64 t1) (wrap64 t2) t3 (IntKind.u64.wrap (t4 * 8192)) v p x l g q true _ _ AT.out).mono ?_); rintro e wn ⟨rfl, hb⟩; have m_H6 := Aside0.mk (show wn.heap[g6]? = some _ from blk_below H6.out hb); have m_H8 := Aside0.mk (show wn.heap[g8]? = some _ from blk_below H8.out hb); have m_HB := Aside0.mk (show Below w.heap.size w wn from below_step HB.out hb); clear H6 H8 HB; have H6 := m_H6; have H8 := m_H8; have HB := m_HB; clear m_H6 m_H8 m_HB; clear hb; obtain ⟨qH8_0, qH8_1, qH8_2, qH8_3, qH8_4, qH8_5, qH8_6, qH8_7, qH8_8, qH8_9, qH8_10⟩ := tte_Read.cz11 H8.out) | ((with_reducible refine gate_store (t := 50) (p := 6) rfl ?_); refine wpList_store_row rfl 50 (.tmp 6) (.tmp 64) rfl g6 #[.int .i64 0, .int .i64 0, .int .u64 0, .int .u64 0, .bool false, .bool false, .bool false, .bool false, .bool false, .bool false, .bool false] rfl rfl 50 _ H6.out (by kernel_rfl) rfl (by kernel_rfl) ?_; have n1 := Aside0.mk (setRow_heap _ g6 _ #[.int .i64 0, .int .i64 0, .int .u64 0, .int .u64 0, .bool false, .bool false, .bool false, .bool false, .bool false, .bool false, .bool false] _ _ H6.out); have n2 := Aside0.mk (below_setRow HB.out GE6.out #[.int .i64 0, .int .i64 0, .int .u64 0, .int .u64 0, .bool false, .bool false, .bool false, .bool false, .bool false, .bool false, .bool false]); generalize World.setRow _ g6 #[.int .i64 0, .int .i64 0, .int .u64 0, .int .u64 0, .bool false, .bool false, .bool false, .bool false, .bool false, .bool false, .bool false] = w20 at n1 n2 ⊢; clear H6 HB; have H6 := n1; have HB := n2; clear n1 n2; obtain ⟨qH6_0, qH6_1, qH6_2, qH6_3, qH6_4, qH6_5, qH6_6, qH6_7, qH6_8, qH6_9, qH6_10⟩ := tte_Read.cz11 H6.out))
     (try simp only [Exit.inBlock, Exit.then]); refine bodyPost_ret (results_ct rfl _ _ g6 50 #[.int .i64 0, .int .i64 0, .int .u64 0, .int .u64 0, .bool false, .bool false, .bool false, .bool false, .bool false, .bool false, .bool false] (0, 0) _ rfl H6.out hu26 rfl (by kernel_rfl)) rfl ?_; exact ⟨rfl, HB.out⟩
theorem tte_Read.calls (k : Nat) (a0 a1 a2 : Int) (r0 r1 r2 r3 : Int) (r4 r5 r6 r7 r8 r9 r10 : Bool) (r11 : Int) (w : World) (h : tte_Read.f k a0 a1 a2 = some (r0, r1, r2, r3, r4, r5, r6, r7, r8, r9, r10, r11)) :
  Calls Try.prog 90 #[.int .u64 a0, .int .u64 a1, .int .u64 a2] w fun e w' => e = .returned (.tuple #[.agg #[.int .i64 r0, .int .i64 r1, .int .u64 r2, .int .u64 r3, .bool r4, .bool r5, .bool r6, .bool r7, .bool r8, .bool r9, .bool r10], .int .i64 r11]) ∧ Below w.heap.size w w' := by
 unfold tte_Read.f at h
 obtain ⟨b1, h0, h⟩ := Option.bind_eq_some_iff.mp h
 cases b1 with
 | true =>
  rw [if_pos rfl] at h
  have h := Option.some.inj h; simp only [Prod.mk.injEq] at h; obtain ⟨rfl, rfl, rfl, rfl, rfl, rfl, rfl, rfl, rfl, rfl, rfl, rfl⟩ := h
  exact tte_Read.hole a0 a1 a2 w h0
 | false =>
  rw [if_neg (by decide)] at h
  obtain ⟨b2, h1, h⟩ := Option.bind_eq_some_iff.mp h
  cases b2 with
  | false =>
   rw [if_neg (by decide)] at h
   have h := Option.some.inj h; simp only [Prod.mk.injEq] at h; obtain ⟨rfl, rfl, rfl, rfl, rfl, rfl, rfl, rfl, rfl, rfl, rfl, rfl⟩ := h
   exact tte_Read.state a0 a1 a2 w h0 h1
  | true =>
   rw [if_pos rfl] at h
   obtain ⟨t1, h2, h⟩ := Option.bind_eq_some_iff.mp h
   obtain ⟨t2, h3, h⟩ := Option.bind_eq_some_iff.mp h
   obtain ⟨t3, h4, h⟩ := Option.bind_eq_some_iff.mp h
   obtain ⟨t4, h5, h⟩ := Option.bind_eq_some_iff.mp h
   obtain ⟨q, h6, h⟩ := Option.bind_eq_some_iff.mp h
   obtain ⟨l, h7, h⟩ := Option.bind_eq_some_iff.mp h
   obtain ⟨x, h8, h⟩ := Option.bind_eq_some_iff.mp h
   obtain ⟨p, h9, h⟩ := Option.bind_eq_some_iff.mp h
   obtain ⟨v, h10, h⟩ := Option.bind_eq_some_iff.mp h
   obtain ⟨g, h11, h⟩ := Option.bind_eq_some_iff.mp h
   exact tte_Read.core k a0 a1 a2 t1 t2 t3 t4 q l x p v g r0 r1 r2 r3 r4 r5 r6 r7 r8 r9 r10 r11 w h0 h1 h2 h3 h4 h5 h6 h7 h8 h9 h10 h11 h


-- NOT PRINTED: function 58 (tsb_Tsb_read)
/-! ### page_In: function 92 -/
def page_In.f (a0 : Int) (a1 : Int) (a2 : Int) : Option (Bool) := (page_May.f a2).bind fun t326 => (if t326 = true then ((page_Base.f a0 a2).bind fun t327 => ((page_Base.f a1 a2).bind fun t328 => (some (t327 == t328)))) else (some false))
set_option maxHeartbeats 8000000 in
set_option maxRecDepth 100000 in
theorem page_In.calls (a0 : Int) (a1 : Int) (a2 : Int) (r : Bool) (w : World) (h : page_In.f a0 a1 a2 = some r) :
  Calls Try.prog 92 #[.int .u64 a0, .int .u64 a1, .int .i64 a2] w fun e w' => e = .returned (.bool r) ∧ Drawn0 w w' := by
 have H : ((page_May.f a2).bind fun t326 => (if t326 = true then ((page_Base.f a0 a2).bind fun t327 => ((page_Base.f a1 a2).bind fun t328 => (some (t327 == t328)))) else (some false))) = some r := h
 clear h
 replace H := Option.bind_eq_some_iff.mp H
 obtain ⟨t326, A40, H⟩ := H
 replace H : (if t326 = true then ((page_Base.f a0 a2).bind fun t327 => ((page_Base.f a1 a2).bind fun t328 => (some (t327 == t328)))) else (some false)) = some r := H
 have A4 := Aside0.mk A40
 clear A40
 by_cases c5 : t326 = true
 ·subst c5
  have H1 : ((page_Base.f a0 a2).bind fun t327 => ((page_Base.f a1 a2).bind fun t328 => (some (t327 == t328)))) = some r := by rw [if_pos rfl] at H; exact H
  clear H
  have H := H1
  clear H1
  replace H := Option.bind_eq_some_iff.mp H
  obtain ⟨t327, A60, H⟩ := H
  replace H : ((page_Base.f a1 a2).bind fun t328 => (some (t327 == t328))) = some r := H
  have A6 := Aside0.mk A60
  clear A60
  replace H := Option.bind_eq_some_iff.mp H
  obtain ⟨t328, A70, H⟩ := H
  replace H : (some (t327 == t328)) = some r := H
  have A7 := Aside0.mk A70
  clear A70
  obtain rfl := Option.some.inj H
  go_enter Try.func92, Try.ntmps92
  go_wp2_with (first | ((with_reducible refine gate_callee (f := 75) rfl ?_); refine goesL_ (some 8) rfl rfl Try.func75 (by kernel_rfl) rfl #[.int .i64 a2] rfl (by (try simp only [List.map_toArray, List.map_cons, List.map_nil]); first | done | rfl | (simp only [List.length_drop, List.length_take]; rfl)) ?_; (with_reducible refine (page_May.calls a2 true _ A4.out).mono ?_); rintro e w' ⟨rfl, ⟨nd, rfl⟩⟩; refine ⟨_, rfl, ?_⟩) | (go_at_call 118; (with_reducible refine (page_Base.calls a0 a2 t327 _ A6.out).mono ?_); rintro e w' ⟨rfl, ⟨nd, rfl⟩⟩) | (go_at_call 118; (with_reducible refine (page_Base.calls a1 a2 t328 _ A7.out).mono ?_); rintro e w' ⟨rfl, ⟨nd, rfl⟩⟩))
  go_ret
  exact ⟨by first | rfl | (simp; done) | (simp [*]; done), by repeat (first | exact Drawn0.refl _ | apply Drawn0.step)⟩
 ·replace c5 := Bool.eq_false_iff.mpr c5
  subst c5
  have H1 : (some false) = some r := by rw [if_neg (show ¬ (false = true) by decide)] at H; exact H
  clear H
  have H := H1
  clear H1
  obtain rfl := Option.some.inj H
  go_enter Try.func92, Try.ntmps92
  go_wp2_with (((with_reducible refine gate_callee (f := 75) rfl ?_); refine goesL_ (some 8) rfl rfl Try.func75 (by kernel_rfl) rfl #[.int .i64 a2] rfl (by (try simp only [List.map_toArray, List.map_cons, List.map_nil]); first | done | rfl | (simp only [List.length_drop, List.length_take]; rfl)) ?_; (with_reducible refine (page_May.calls a2 false _ A4.out).mono ?_); rintro e w' ⟨rfl, ⟨nd, rfl⟩⟩; refine ⟨_, rfl, ?_⟩))
  go_ret
  exact ⟨by first | rfl | (simp; done) | (simp [*]; done), by repeat (first | exact Drawn0.refl _ | apply Drawn0.step)⟩
/-! ### tte_Hits: function 60 -/
def tte_Hits.f (a0_0 : Int) (a0_1 : Int) (a0_2 : Int) (a0_3 : Int) (a0_4 : Bool) (a0_5 : Bool) (a0_6 : Bool) (a0_7 : Bool) (a0_8 : Bool) (a0_9 : Bool) (a0_10 : Bool) (a1 : Int) (a2 : Int) : Option (Bool) := if a0_10 = true then ((page_In.f a1 a0_2 a0_0).bind fun t330 => (if t330 = true then (if a0_8 = true then (some true) else (some (a0_1 == a2))) else (some false))) else (some false)
set_option maxHeartbeats 8000000 in
set_option maxRecDepth 100000 in
theorem tte_Hits.calls (a0_0 : Int) (a0_1 : Int) (a0_2 : Int) (a0_3 : Int) (a0_4 : Bool) (a0_5 : Bool) (a0_6 : Bool) (a0_7 : Bool) (a0_8 : Bool) (a0_9 : Bool) (a0_10 : Bool) (a1 : Int) (a2 : Int) (r : Bool) (w : World) (h : tte_Hits.f a0_0 a0_1 a0_2 a0_3 a0_4 a0_5 a0_6 a0_7 a0_8 a0_9 a0_10 a1 a2 = some r) :
  Calls Try.prog 60 #[.agg #[.int .i64 a0_0, .int .i64 a0_1, .int .u64 a0_2, .int .u64 a0_3, .bool a0_4, .bool a0_5, .bool a0_6, .bool a0_7, .bool a0_8, .bool a0_9, .bool a0_10], .int .u64 a1, .int .i64 a2] w fun e w' => e = .returned (.bool r) ∧ Below w.heap.size w w' := by
 have hu50 := Try.underlying50
 have HB := Aside0.mk (Below.refl w.heap.size w)
 have H : (if a0_10 = true then ((page_In.f a1 a0_2 a0_0).bind fun t330 => (if t330 = true then (if a0_8 = true then (some true) else (some (a0_1 == a2))) else (some false))) else (some false)) = some r := h
 clear h
 by_cases c4 : a0_10 = true
 ·subst c4
  have H1 : ((page_In.f a1 a0_2 a0_0).bind fun t330 => (if t330 = true then (if a0_8 = true then (some true) else (some (a0_1 == a2))) else (some false))) = some r := by rw [if_pos rfl] at H; exact H
  clear H
  have H := H1
  clear H1
  replace H := Option.bind_eq_some_iff.mp H
  obtain ⟨t330, A50, H⟩ := H
  replace H : (if t330 = true then (if a0_8 = true then (some true) else (some (a0_1 == a2))) else (some false)) = some r := H
  have A5 := Aside0.mk A50
  clear A50
  by_cases c6 : t330 = true
  ·subst c6
   have H1 : (if a0_8 = true then (some true) else (some (a0_1 == a2))) = some r := by rw [if_pos rfl] at H; exact H
   clear H
   have H := H1
   clear H1
   by_cases c7 : a0_8 = true
   ·subst c7
    have H1 : (some true) = some r := by rw [if_pos rfl] at H; exact H
    clear H
    have H := H1
    clear H1
    obtain rfl := Option.some.inj H
    go_enter Try.func60, Try.ntmps60
    go_wp2_with (first | ((with_reducible refine gate_dst (N := 3) rfl ?_); refine box_event ?hg (N := 3) ?hd (cs := #[.int .i64 a0_0, .int .i64 a0_1, .int .u64 a0_2, .int .u64 a0_3, .bool a0_4, .bool a0_5, .bool a0_6, .bool a0_7, .bool true, .bool a0_9, .bool true]) (t := 50) ?hr ?_; (case hd => rfl); (case hg => rfl); (case hr => first | (go_simp; done) | (go_simp; rfl)); intro gb329 hg w8 hbox hb; have n0_ := Aside0.mk (below_step (by repeat (first | (with_reducible first | exact HB.out | apply below_alloc | apply pw_below_drewN | apply below_drew1) | exact HB.out)) hb); have n1_ := Aside0.mk (hbox); have n2_ := Aside0.mk ((by rw [hg]; exact (below_size (by repeat (first | (with_reducible first | exact HB.out | apply below_alloc | apply pw_below_drewN | apply below_drew1) | exact HB.out))) : w.heap.size ≤ gb329)); have n3_ := Aside0.mk ((by rw [hg]; exact (below_size (by repeat (first | (with_reducible first | exact HB.out | apply below_alloc | apply pw_below_drewN | apply below_drew1) | exact HB.out))) : w.heap.size ≤ gb329)); clear HB; have HB := n0_; have BK329 := n1_; have GW329 := n2_; have GE329 := n3_; clear n0_ n1_ n2_ n3_; clear hb hbox hg; obtain ⟨hcz9_0, hcz9_1, hcz9_2, hcz9_3, hcz9_4, hcz9_5, hcz9_6, hcz9_7, hcz9_8, hcz9_9, hcz9_10⟩ := cy11_21 BK329.out; have hfz9_0 := blk_frozen BK329.out 0; have hfz9_1 := blk_frozen BK329.out 1; have hfz9_2 := blk_frozen BK329.out 2; have hfz9_3 := blk_frozen BK329.out 3; have hfz9_4 := blk_frozen BK329.out 4; have hfz9_5 := blk_frozen BK329.out 5; have hfz9_6 := blk_frozen BK329.out 6; have hfz9_7 := blk_frozen BK329.out 7; have hfz9_8 := blk_frozen BK329.out 8; have hfz9_9 := blk_frozen BK329.out 9; have hfz9_10 := blk_frozen BK329.out 10) | (go_at_call 92; (with_reducible refine (page_In.calls a1 a0_2 a0_0 true _ A5.out).mono ?_); rintro e w' ⟨rfl, ⟨nd, rfl⟩⟩))
    go_ret
    exact ⟨by first | rfl | (simp [errW_none, errW_some] <;> rfl) | (simp [*, errW_none, errW_some] <;> rfl), by repeat (first | (with_reducible first | exact HB.out | apply below_alloc | apply pw_below_drewN | apply below_drew1 | refine below_set ?_ GE329.out) | exact HB.out)⟩
   ·replace c7 := Bool.eq_false_iff.mpr c7
    subst c7
    have H1 : (some (a0_1 == a2)) = some r := by rw [if_neg (show ¬ (false = true) by decide)] at H; exact H
    clear H
    have H := H1
    clear H1
    obtain rfl := Option.some.inj H
    go_enter Try.func60, Try.ntmps60
    go_wp2_with (first | ((with_reducible refine gate_dst (N := 3) rfl ?_); refine box_event ?hg (N := 3) ?hd (cs := #[.int .i64 a0_0, .int .i64 a0_1, .int .u64 a0_2, .int .u64 a0_3, .bool a0_4, .bool a0_5, .bool a0_6, .bool a0_7, .bool false, .bool a0_9, .bool true]) (t := 50) ?hr ?_; (case hd => rfl); (case hg => rfl); (case hr => first | (go_simp; done) | (go_simp; rfl)); intro gb329 hg w10 hbox hb; have n0_ := Aside0.mk (below_step (by repeat (first | (with_reducible first | exact HB.out | apply below_alloc | apply pw_below_drewN | apply below_drew1) | exact HB.out)) hb); have n1_ := Aside0.mk (hbox); have n2_ := Aside0.mk ((by rw [hg]; exact (below_size (by repeat (first | (with_reducible first | exact HB.out | apply below_alloc | apply pw_below_drewN | apply below_drew1) | exact HB.out))) : w.heap.size ≤ gb329)); have n3_ := Aside0.mk ((by rw [hg]; exact (below_size (by repeat (first | (with_reducible first | exact HB.out | apply below_alloc | apply pw_below_drewN | apply below_drew1) | exact HB.out))) : w.heap.size ≤ gb329)); clear HB; have HB := n0_; have BK329 := n1_; have GW329 := n2_; have GE329 := n3_; clear n0_ n1_ n2_ n3_; clear hb hbox hg; obtain ⟨hcz11_0, hcz11_1, hcz11_2, hcz11_3, hcz11_4, hcz11_5, hcz11_6, hcz11_7, hcz11_8, hcz11_9, hcz11_10⟩ := cy11_21 BK329.out; have hfz11_0 := blk_frozen BK329.out 0; have hfz11_1 := blk_frozen BK329.out 1; have hfz11_2 := blk_frozen BK329.out 2; have hfz11_3 := blk_frozen BK329.out 3; have hfz11_4 := blk_frozen BK329.out 4; have hfz11_5 := blk_frozen BK329.out 5; have hfz11_6 := blk_frozen BK329.out 6; have hfz11_7 := blk_frozen BK329.out 7; have hfz11_8 := blk_frozen BK329.out 8; have hfz11_9 := blk_frozen BK329.out 9; have hfz11_10 := blk_frozen BK329.out 10) | (go_at_call 92; (with_reducible refine (page_In.calls a1 a0_2 a0_0 true _ A5.out).mono ?_); rintro e w' ⟨rfl, ⟨nd, rfl⟩⟩))
    go_ret
    exact ⟨by first | rfl | (simp [errW_none, errW_some] <;> rfl) | (simp [*, errW_none, errW_some] <;> rfl), by repeat (first | (with_reducible first | exact HB.out | apply below_alloc | apply pw_below_drewN | apply below_drew1 | refine below_set ?_ GE329.out) | exact HB.out)⟩
  ·replace c6 := Bool.eq_false_iff.mpr c6
   subst c6
   have H1 : (some false) = some r := by rw [if_neg (show ¬ (false = true) by decide)] at H; exact H
   clear H
   have H := H1
   clear H1
   obtain rfl := Option.some.inj H
   go_enter Try.func60, Try.ntmps60
   go_wp2_with (first | ((with_reducible refine gate_dst (N := 3) rfl ?_); refine box_event ?hg (N := 3) ?hd (cs := #[.int .i64 a0_0, .int .i64 a0_1, .int .u64 a0_2, .int .u64 a0_3, .bool a0_4, .bool a0_5, .bool a0_6, .bool a0_7, .bool a0_8, .bool a0_9, .bool true]) (t := 50) ?hr ?_; (case hd => rfl); (case hg => rfl); (case hr => first | (go_simp; done) | (go_simp; rfl)); intro gb329 hg w12 hbox hb; have n0_ := Aside0.mk (below_step (by repeat (first | (with_reducible first | exact HB.out | apply below_alloc | apply pw_below_drewN | apply below_drew1) | exact HB.out)) hb); have n1_ := Aside0.mk (hbox); have n2_ := Aside0.mk ((by rw [hg]; exact (below_size (by repeat (first | (with_reducible first | exact HB.out | apply below_alloc | apply pw_below_drewN | apply below_drew1) | exact HB.out))) : w.heap.size ≤ gb329)); have n3_ := Aside0.mk ((by rw [hg]; exact (below_size (by repeat (first | (with_reducible first | exact HB.out | apply below_alloc | apply pw_below_drewN | apply below_drew1) | exact HB.out))) : w.heap.size ≤ gb329)); clear HB; have HB := n0_; have BK329 := n1_; have GW329 := n2_; have GE329 := n3_; clear n0_ n1_ n2_ n3_; clear hb hbox hg; obtain ⟨hcz13_0, hcz13_1, hcz13_2, hcz13_3, hcz13_4, hcz13_5, hcz13_6, hcz13_7, hcz13_8, hcz13_9, hcz13_10⟩ := cy11_21 BK329.out; have hfz13_0 := blk_frozen BK329.out 0; have hfz13_1 := blk_frozen BK329.out 1; have hfz13_2 := blk_frozen BK329.out 2; have hfz13_3 := blk_frozen BK329.out 3; have hfz13_4 := blk_frozen BK329.out 4; have hfz13_5 := blk_frozen BK329.out 5; have hfz13_6 := blk_frozen BK329.out 6; have hfz13_7 := blk_frozen BK329.out 7; have hfz13_8 := blk_frozen BK329.out 8; have hfz13_9 := blk_frozen BK329.out 9; have hfz13_10 := blk_frozen BK329.out 10) | (go_at_call 92; (with_reducible refine (page_In.calls a1 a0_2 a0_0 false _ A5.out).mono ?_); rintro e w' ⟨rfl, ⟨nd, rfl⟩⟩))
   go_ret
   exact ⟨by first | rfl | (simp [errW_none, errW_some] <;> rfl) | (simp [*, errW_none, errW_some] <;> rfl), by repeat (first | (with_reducible first | exact HB.out | apply below_alloc | apply pw_below_drewN | apply below_drew1 | refine below_set ?_ GE329.out) | exact HB.out)⟩
 ·replace c4 := Bool.eq_false_iff.mpr c4
  subst c4
  have H1 : (some false) = some r := by rw [if_neg (show ¬ (false = true) by decide)] at H; exact H
  clear H
  have H := H1
  clear H1
  obtain rfl := Option.some.inj H
  go_enter Try.func60, Try.ntmps60
  go_wp2_with (((with_reducible refine gate_dst (N := 3) rfl ?_); refine box_event ?hg (N := 3) ?hd (cs := #[.int .i64 a0_0, .int .i64 a0_1, .int .u64 a0_2, .int .u64 a0_3, .bool a0_4, .bool a0_5, .bool a0_6, .bool a0_7, .bool a0_8, .bool a0_9, .bool false]) (t := 50) ?hr ?_; (case hd => rfl); (case hg => rfl); (case hr => first | (go_simp; done) | (go_simp; rfl)); intro gb329 hg w14 hbox hb; have n0_ := Aside0.mk (below_step (by repeat (first | (with_reducible first | exact HB.out | apply below_alloc | apply pw_below_drewN | apply below_drew1) | exact HB.out)) hb); have n1_ := Aside0.mk (hbox); have n2_ := Aside0.mk ((by rw [hg]; exact (below_size (by repeat (first | (with_reducible first | exact HB.out | apply below_alloc | apply pw_below_drewN | apply below_drew1) | exact HB.out))) : w.heap.size ≤ gb329)); have n3_ := Aside0.mk ((by rw [hg]; exact (below_size (by repeat (first | (with_reducible first | exact HB.out | apply below_alloc | apply pw_below_drewN | apply below_drew1) | exact HB.out))) : w.heap.size ≤ gb329)); clear HB; have HB := n0_; have BK329 := n1_; have GW329 := n2_; have GE329 := n3_; clear n0_ n1_ n2_ n3_; clear hb hbox hg; obtain ⟨hcz15_0, hcz15_1, hcz15_2, hcz15_3, hcz15_4, hcz15_5, hcz15_6, hcz15_7, hcz15_8, hcz15_9, hcz15_10⟩ := cy11_21 BK329.out; have hfz15_0 := blk_frozen BK329.out 0; have hfz15_1 := blk_frozen BK329.out 1; have hfz15_2 := blk_frozen BK329.out 2; have hfz15_3 := blk_frozen BK329.out 3; have hfz15_4 := blk_frozen BK329.out 4; have hfz15_5 := blk_frozen BK329.out 5; have hfz15_6 := blk_frozen BK329.out 6; have hfz15_7 := blk_frozen BK329.out 7; have hfz15_8 := blk_frozen BK329.out 8; have hfz15_9 := blk_frozen BK329.out 9; have hfz15_10 := blk_frozen BK329.out 10))
  go_ret
  exact ⟨by first | rfl | (simp [errW_none, errW_some] <;> rfl) | (simp [*, errW_none, errW_some] <;> rfl), by repeat (first | (with_reducible first | exact HB.out | apply below_alloc | apply pw_below_drewN | apply below_drew1 | refine below_set ?_ GE329.out) | exact HB.out)⟩

-- NOT PRINTED: function 24 (tsb_Tsb_Find)

-- NOT PRINTED: function 26 (lookasidelaw10_lives)
end Go.Proofs.Ytjnffegjpkbjmaa.QTsbPlays
-- halved
