-- Printed by a program of this session (wip/print/myprint.py) out of the translation; Lean checks it.
import Derived.Test.YtecbngibhobgbaaQTteRoundx0
import Derived.Test.YtecbngibhobgbaaQTteRoundx2
import Derived.Test.YtecbngibhobgbaaQTteRoundx4
namespace Go.Proofs.Ytecbngibhobgbaa.QTteRound
open Go.RowKit Go.Proofs.YtecbngibhobgbaaW.PrintWords Go.Proofs.YtecbngibhobgbaaW.PrintLast Go.Proofs.YtecbngibhobgbaaW.PrintMore
attribute [local go_sem] max2_int min2_int max_two min_two max_three min_three max_four min_four   -- for this text's walks alone
set_option linter.unusedVariables false
set_option linter.unusedSimpArgs false
theorem bb5_ {w2 w' : World} {g : Nat} {o : Obj} (hb : Below w2.heap.size w2 w') (h : w2.heap[g]? = some o) : w'.heap[g]? = some o := blk_below h hb

/-! ### tte_May: function 22 -/
def tte_May.j0 : Nat → Bool → Int → Int → Int → Int → Bool → Bool → Bool → Bool → Bool → Bool → Bool → Option (Bool)
  | 0, _, _, _, _, _, _, _, _, _, _, _, _ => none
  | k + 1, x31, x134000, x134001, x134002, x134003, x134004, x134005, x134006, x134007, x134008, x134009, x134010 => if x31 = true then (some false) else ((page_Hole.f x134002).bind fun t135 => (if t135 = true then (some false) else ((page_Starts.f x134002 x134000).bind fun t136 => (if t136 = true then ((field_Fits.f x134003 41).bind fun t137 => (if t137 = true then ((page_Starts.f x134003 x134000).bind fun t138 => (some t138)) else (some false))) else (some false)))))
def tte_May.f (k : Nat) (a0_0 : Int) (a0_1 : Int) (a0_2 : Int) (a0_3 : Int) (a0_4 : Bool) (a0_5 : Bool) (a0_6 : Bool) (a0_7 : Bool) (a0_8 : Bool) (a0_9 : Bool) (a0_10 : Bool) : Option (Bool) := if a0_10 = true then ((page_May.f a0_0).bind fun t134 => (if t134 = true then (if a0_1 < 0 then (tte_May.j0 k true a0_0 a0_1 a0_2 a0_3 a0_4 a0_5 a0_6 a0_7 a0_8 a0_9 a0_10) else (if a0_1 > 8191 then (tte_May.j0 k true a0_0 a0_1 a0_2 a0_3 a0_4 a0_5 a0_6 a0_7 a0_8 a0_9 a0_10) else (if a0_8 = true then (tte_May.j0 k (a0_1 != 0) a0_0 a0_1 a0_2 a0_3 a0_4 a0_5 a0_6 a0_7 a0_8 a0_9 a0_10) else (tte_May.j0 k false a0_0 a0_1 a0_2 a0_3 a0_4 a0_5 a0_6 a0_7 a0_8 a0_9 a0_10)))) else (tte_May.j0 k true a0_0 a0_1 a0_2 a0_3 a0_4 a0_5 a0_6 a0_7 a0_8 a0_9 a0_10))) else (tte_May.j0 k true a0_0 a0_1 a0_2 a0_3 a0_4 a0_5 a0_6 a0_7 a0_8 a0_9 a0_10)
theorem tte_May.mono_l : ∀ k, (∀ y0 y1 y2 y3 y4 y5 y6 y7 y8 y9 y10 y11, LeO (tte_May.j0 k y0 y1 y2 y3 y4 y5 y6 y7 y8 y9 y10 y11) (tte_May.j0 (k + 1) y0 y1 y2 y3 y4 y5 y6 y7 y8 y9 y10 y11))
  | 0 => fun _ _ _ _ _ _ _ _ _ _ _ _ r h => by simp [tte_May.j0] at h
  | k + 1 => by
    have ih0 := tte_May.mono_l k
    · intro y0 y1 y2 y3 y4 y5 y6 y7 y8 y9 y10 y11
      unfold tte_May.j0
      repeat' first
      | (with_reducible exact ih0 _ _ _ _ _ _ _ _ _ _ _ _)
      | (with_reducible exact LeO.refl _)
      | (with_reducible exact LeO.none _)
      | (with_reducible refine LeO.ite ?_ ?_)
      | (with_reducible refine LeO.bind ?_ (fun _ => ?_))
      | exact ih0 _ _ _ _ _ _ _ _ _ _ _ _
      | exact LeO.none _
      | refine LeO.ite ?_ ?_
      | refine LeO.bind ?_ (fun _ => ?_)
theorem tte_May.mono : ∀ a0 a1 a2 a3 a4 a5 a6 a7 a8 a9 a10 k, LeO (tte_May.f k a0 a1 a2 a3 a4 a5 a6 a7 a8 a9 a10) (tte_May.f (k + 1) a0 a1 a2 a3 a4 a5 a6 a7 a8 a9 a10) := by
  intro a0 a1 a2 a3 a4 a5 a6 a7 a8 a9 a10 k
  have ih0 := tte_May.mono_l k
  unfold tte_May.f
  repeat' first
      | (with_reducible exact ih0 _ _ _ _ _ _ _ _ _ _ _ _)
      | (with_reducible exact LeO.refl _)
      | (with_reducible exact LeO.none _)
      | (with_reducible refine LeO.ite ?_ ?_)
      | (with_reducible refine LeO.bind ?_ (fun _ => ?_))
      | exact ih0 _ _ _ _ _ _ _ _ _ _ _ _
      | exact LeO.none _
      | refine LeO.ite ?_ ?_
      | refine LeO.bind ?_ (fun _ => ?_)
set_option maxHeartbeats 8000000 in
set_option maxRecDepth 100000 in
theorem tte_May.calls (k : Nat) (a0_0 : Int) (a0_1 : Int) (a0_2 : Int) (a0_3 : Int) (a0_4 : Bool) (a0_5 : Bool) (a0_6 : Bool) (a0_7 : Bool) (a0_8 : Bool) (a0_9 : Bool) (a0_10 : Bool) (r : Bool) (w : World) (h : tte_May.f k a0_0 a0_1 a0_2 a0_3 a0_4 a0_5 a0_6 a0_7 a0_8 a0_9 a0_10 = some r) :
    Calls Try.prog 22 #[.agg #[.int .i64 a0_0, .int .i64 a0_1, .int .u64 a0_2, .int .u64 a0_3, .bool a0_4, .bool a0_5, .bool a0_6, .bool a0_7, .bool a0_8, .bool a0_9, .bool a0_10]] w fun e w' => e = .returned (.bool r) ∧ Below w.heap.size w w' := by
  have hu26 := Try.underlying26
  have HB := Aside0.mk (Below.refl w.heap.size w)
  have H : (if a0_10 = true then ((page_May.f a0_0).bind fun t134 => (if t134 = true then (if a0_1 < 0 then (tte_May.j0 k true a0_0 a0_1 a0_2 a0_3 a0_4 a0_5 a0_6 a0_7 a0_8 a0_9 a0_10) else (if a0_1 > 8191 then (tte_May.j0 k true a0_0 a0_1 a0_2 a0_3 a0_4 a0_5 a0_6 a0_7 a0_8 a0_9 a0_10) else (if a0_8 = true then (tte_May.j0 k (a0_1 != 0) a0_0 a0_1 a0_2 a0_3 a0_4 a0_5 a0_6 a0_7 a0_8 a0_9 a0_10) else (tte_May.j0 k false a0_0 a0_1 a0_2 a0_3 a0_4 a0_5 a0_6 a0_7 a0_8 a0_9 a0_10)))) else (tte_May.j0 k true a0_0 a0_1 a0_2 a0_3 a0_4 a0_5 a0_6 a0_7 a0_8 a0_9 a0_10))) else (tte_May.j0 k true a0_0 a0_1 a0_2 a0_3 a0_4 a0_5 a0_6 a0_7 a0_8 a0_9 a0_10)) = some r := h
  clear h
  have HC2 := Aside0.mk H
  clear H
  go_enter Try.func22, Try.ntmps22
  go_upto_region 1 with (first | ((with_reducible refine gate_dst (N := 1) rfl ?_); refine box_event ?hg (N := 1) ?hd (cs := #[.int .i64 a0_0, .int .i64 a0_1, .int .u64 a0_2, .int .u64 a0_3, .bool a0_4, .bool a0_5, .bool a0_6, .bool a0_7, .bool a0_8, .bool a0_9, .bool a0_10]) (t := 26) ?hr ?_; (case hd => rfl); (case hg => rfl); (case hr => first | (go_simp; done) | (go_simp; rfl)); intro gb133 hg w3 hbox hb; have n0_ := Aside0.mk (below_step (by repeat (first | (with_reducible first | exact HB.out | apply below_alloc | apply pw_below_drewN | apply below_drew1) | exact HB.out)) hb); have n1_ := Aside0.mk (hbox); have n2_ := Aside0.mk ((by rw [hg]; exact (below_size (by repeat (first | (with_reducible first | exact HB.out | apply below_alloc | apply pw_below_drewN | apply below_drew1) | exact HB.out))) : w.heap.size ≤ gb133)); have n3_ := Aside0.mk ((by rw [hg]; exact (below_size (by repeat (first | (with_reducible first | exact HB.out | apply below_alloc | apply pw_below_drewN | apply below_drew1) | exact HB.out))) : w.heap.size ≤ gb133)); clear HB; have HB := n0_; have BK133 := n1_; have GW133 := n2_; have GE133 := n3_; clear n0_ n1_ n2_ n3_; clear hb hbox hg))
  (try simp only [Act.put, List.setIfInBounds_toArray, List.set_cons_zero, List.set_cons_succ])
  go_cut [31] (fun v31 wc => ∃ (kq : Nat) (x31_1 : Bool), v31 = .bool x31_1 ∧ Aside0 (tte_May.j0 kq x31_1 a0_0 a0_1 a0_2 a0_3 a0_4 a0_5 a0_6 a0_7 a0_8 a0_9 a0_10 = some r) ∧ Aside0 (kq ≤ k) ∧ Aside0 (wc.heap[gb133]? = some (.cells #[.int .i64 a0_0, .int .i64 a0_1, .int .u64 a0_2, .int .u64 a0_3, .bool a0_4, .bool a0_5, .bool a0_6, .bool a0_7, .bool a0_8, .bool a0_9, .bool a0_10] 26 (0, 0))) ∧ Aside0 (Below w.heap.size w wc))
  case first =>
    have H := HC2.out
    clear HC2
    by_cases c4 : a0_10 = true
    · subst c4
      have H1 : ((page_May.f a0_0).bind fun t134 => (if t134 = true then (if a0_1 < 0 then (tte_May.j0 k true a0_0 a0_1 a0_2 a0_3 a0_4 a0_5 a0_6 a0_7 a0_8 a0_9 true) else (if a0_1 > 8191 then (tte_May.j0 k true a0_0 a0_1 a0_2 a0_3 a0_4 a0_5 a0_6 a0_7 a0_8 a0_9 true) else (if a0_8 = true then (tte_May.j0 k (a0_1 != 0) a0_0 a0_1 a0_2 a0_3 a0_4 a0_5 a0_6 a0_7 a0_8 a0_9 true) else (tte_May.j0 k false a0_0 a0_1 a0_2 a0_3 a0_4 a0_5 a0_6 a0_7 a0_8 a0_9 true)))) else (tte_May.j0 k true a0_0 a0_1 a0_2 a0_3 a0_4 a0_5 a0_6 a0_7 a0_8 a0_9 true))) = some r := by rw [if_pos rfl] at H; exact H
      clear H
      have H := H1
      clear H1
      replace H := Option.bind_eq_some_iff.mp H
      obtain ⟨t134, A50, H⟩ := H
      replace H : (if t134 = true then (if a0_1 < 0 then (tte_May.j0 k true a0_0 a0_1 a0_2 a0_3 a0_4 a0_5 a0_6 a0_7 a0_8 a0_9 true) else (if a0_1 > 8191 then (tte_May.j0 k true a0_0 a0_1 a0_2 a0_3 a0_4 a0_5 a0_6 a0_7 a0_8 a0_9 true) else (if a0_8 = true then (tte_May.j0 k (a0_1 != 0) a0_0 a0_1 a0_2 a0_3 a0_4 a0_5 a0_6 a0_7 a0_8 a0_9 true) else (tte_May.j0 k false a0_0 a0_1 a0_2 a0_3 a0_4 a0_5 a0_6 a0_7 a0_8 a0_9 true)))) else (tte_May.j0 k true a0_0 a0_1 a0_2 a0_3 a0_4 a0_5 a0_6 a0_7 a0_8 a0_9 true)) = some r := H
      have A5 := Aside0.mk A50
      clear A50
      by_cases c6 : t134 = true
      · subst c6
        have H1 : (if a0_1 < 0 then (tte_May.j0 k true a0_0 a0_1 a0_2 a0_3 a0_4 a0_5 a0_6 a0_7 a0_8 a0_9 true) else (if a0_1 > 8191 then (tte_May.j0 k true a0_0 a0_1 a0_2 a0_3 a0_4 a0_5 a0_6 a0_7 a0_8 a0_9 true) else (if a0_8 = true then (tte_May.j0 k (a0_1 != 0) a0_0 a0_1 a0_2 a0_3 a0_4 a0_5 a0_6 a0_7 a0_8 a0_9 true) else (tte_May.j0 k false a0_0 a0_1 a0_2 a0_3 a0_4 a0_5 a0_6 a0_7 a0_8 a0_9 true)))) = some r := by rw [if_pos rfl] at H; exact H
        clear H
        have H := H1
        clear H1
        by_cases c7 : a0_1 < 0
        · rw [if_pos c7] at H
          have c7b0 : decide (a0_1 < 0) = true := decide_eq_true c7
          clear c7
          (first | rw [c7b0] | (simp only [i64_w, i32_w]; rw [c7b0]) | skip)
          have H' := Aside0.mk H
          clear H
          have hcz8_0 : w3.cell? ⟨gb133, 0, none⟩ = some (.int .i64 a0_0) := (blk_cell BK133.out 0).trans rfl
          have hcz8_1 : w3.cell? ⟨gb133, 1, none⟩ = some (.int .i64 a0_1) := (blk_cell BK133.out 1).trans rfl
          have hcz8_2 : w3.cell? ⟨gb133, 2, none⟩ = some (.int .u64 a0_2) := (blk_cell BK133.out 2).trans rfl
          have hcz8_3 : w3.cell? ⟨gb133, 3, none⟩ = some (.int .u64 a0_3) := (blk_cell BK133.out 3).trans rfl
          have hcz8_4 : w3.cell? ⟨gb133, 4, none⟩ = some (.bool a0_4) := (blk_cell BK133.out 4).trans rfl
          have hcz8_5 : w3.cell? ⟨gb133, 5, none⟩ = some (.bool a0_5) := (blk_cell BK133.out 5).trans rfl
          have hcz8_6 : w3.cell? ⟨gb133, 6, none⟩ = some (.bool a0_6) := (blk_cell BK133.out 6).trans rfl
          have hcz8_7 : w3.cell? ⟨gb133, 7, none⟩ = some (.bool a0_7) := (blk_cell BK133.out 7).trans rfl
          have hcz8_8 : w3.cell? ⟨gb133, 8, none⟩ = some (.bool a0_8) := (blk_cell BK133.out 8).trans rfl
          have hcz8_9 : w3.cell? ⟨gb133, 9, none⟩ = some (.bool a0_9) := (blk_cell BK133.out 9).trans rfl
          have hcz8_10 : w3.cell? ⟨gb133, 10, none⟩ = some (.bool true) := (blk_cell BK133.out 10).trans rfl
          have hfz8_0 := blk_frozen BK133.out 0
          have hfz8_1 := blk_frozen BK133.out 1
          have hfz8_2 := blk_frozen BK133.out 2
          have hfz8_3 := blk_frozen BK133.out 3
          have hfz8_4 := blk_frozen BK133.out 4
          have hfz8_5 := blk_frozen BK133.out 5
          have hfz8_6 := blk_frozen BK133.out 6
          have hfz8_7 := blk_frozen BK133.out 7
          have hfz8_8 := blk_frozen BK133.out 8
          have hfz8_9 := blk_frozen BK133.out 9
          have hfz8_10 := blk_frozen BK133.out 10
          go_wp2_with (first | (go_at_call 53; (with_reducible refine (page_May.calls a0_0 true _ A5.out).mono ?_); rintro e w' ⟨rfl, ⟨nd, rfl⟩⟩))
          go_meet
          case rel => exact ⟨_, (true), (by first | rfl | (simp; done) | (simp [*]; done)), H', ⟨by first | omega | exact Nat.le_refl _⟩, ⟨by (with_reducible repeat (first | refine blk_drewN ?_ _ | refine blk_drew ?_ | refine blk_alloc ?_ _)); exact BK133.out⟩, ⟨by repeat (first | (with_reducible first | exact HB.out | apply below_alloc | apply pw_below_drewN | apply below_drew1 | refine below_set ?_ GE133.out) | exact HB.out)⟩⟩
        · rw [if_neg c7] at H
          have c7b0 : decide (a0_1 < 0) = false := decide_eq_false c7
          clear c7
          (first | rw [c7b0] | (simp only [i64_w, i32_w]; rw [c7b0]) | skip)
          by_cases c9 : a0_1 > 8191
          · rw [if_pos c9] at H
            have c9b0 : decide (8191 < a0_1) = true := decide_eq_true c9
            clear c9
            have H' := Aside0.mk H
            clear H
            have hcz10_0 : w3.cell? ⟨gb133, 0, none⟩ = some (.int .i64 a0_0) := (blk_cell BK133.out 0).trans rfl
            have hcz10_1 : w3.cell? ⟨gb133, 1, none⟩ = some (.int .i64 a0_1) := (blk_cell BK133.out 1).trans rfl
            have hcz10_2 : w3.cell? ⟨gb133, 2, none⟩ = some (.int .u64 a0_2) := (blk_cell BK133.out 2).trans rfl
            have hcz10_3 : w3.cell? ⟨gb133, 3, none⟩ = some (.int .u64 a0_3) := (blk_cell BK133.out 3).trans rfl
            have hcz10_4 : w3.cell? ⟨gb133, 4, none⟩ = some (.bool a0_4) := (blk_cell BK133.out 4).trans rfl
            have hcz10_5 : w3.cell? ⟨gb133, 5, none⟩ = some (.bool a0_5) := (blk_cell BK133.out 5).trans rfl
            have hcz10_6 : w3.cell? ⟨gb133, 6, none⟩ = some (.bool a0_6) := (blk_cell BK133.out 6).trans rfl
            have hcz10_7 : w3.cell? ⟨gb133, 7, none⟩ = some (.bool a0_7) := (blk_cell BK133.out 7).trans rfl
            have hcz10_8 : w3.cell? ⟨gb133, 8, none⟩ = some (.bool a0_8) := (blk_cell BK133.out 8).trans rfl
            have hcz10_9 : w3.cell? ⟨gb133, 9, none⟩ = some (.bool a0_9) := (blk_cell BK133.out 9).trans rfl
            have hcz10_10 : w3.cell? ⟨gb133, 10, none⟩ = some (.bool true) := (blk_cell BK133.out 10).trans rfl
            have hfz10_0 := blk_frozen BK133.out 0
            have hfz10_1 := blk_frozen BK133.out 1
            have hfz10_2 := blk_frozen BK133.out 2
            have hfz10_3 := blk_frozen BK133.out 3
            have hfz10_4 := blk_frozen BK133.out 4
            have hfz10_5 := blk_frozen BK133.out 5
            have hfz10_6 := blk_frozen BK133.out 6
            have hfz10_7 := blk_frozen BK133.out 7
            have hfz10_8 := blk_frozen BK133.out 8
            have hfz10_9 := blk_frozen BK133.out 9
            have hfz10_10 := blk_frozen BK133.out 10
            go_wp2_with (first | (go_at_call 53; (with_reducible refine (page_May.calls a0_0 true _ A5.out).mono ?_); rintro e w' ⟨rfl, ⟨nd, rfl⟩⟩))
            go_meet
            case rel => exact ⟨_, (true), (by first | rfl | (simp; done) | (simp [*]; done)), H', ⟨by first | omega | exact Nat.le_refl _⟩, ⟨by (with_reducible repeat (first | refine blk_drewN ?_ _ | refine blk_drew ?_ | refine blk_alloc ?_ _)); exact BK133.out⟩, ⟨by repeat (first | (with_reducible first | exact HB.out | apply below_alloc | apply pw_below_drewN | apply below_drew1 | refine below_set ?_ GE133.out) | exact HB.out)⟩⟩
          · rw [if_neg c9] at H
            have c9b0 : decide (8191 < a0_1) = false := decide_eq_false c9
            clear c9
            by_cases c11 : a0_8 = true
            · subst c11
              have H1 : (tte_May.j0 k (a0_1 != 0) a0_0 a0_1 a0_2 a0_3 a0_4 a0_5 a0_6 a0_7 true a0_9 true) = some r := by rw [if_pos rfl] at H; exact H
              clear H
              have H := H1
              clear H1
              have H' := Aside0.mk H
              clear H
              have hcz12_0 : w3.cell? ⟨gb133, 0, none⟩ = some (.int .i64 a0_0) := (blk_cell BK133.out 0).trans rfl
              have hcz12_1 : w3.cell? ⟨gb133, 1, none⟩ = some (.int .i64 a0_1) := (blk_cell BK133.out 1).trans rfl
              have hcz12_2 : w3.cell? ⟨gb133, 2, none⟩ = some (.int .u64 a0_2) := (blk_cell BK133.out 2).trans rfl
              have hcz12_3 : w3.cell? ⟨gb133, 3, none⟩ = some (.int .u64 a0_3) := (blk_cell BK133.out 3).trans rfl
              have hcz12_4 : w3.cell? ⟨gb133, 4, none⟩ = some (.bool a0_4) := (blk_cell BK133.out 4).trans rfl
              have hcz12_5 : w3.cell? ⟨gb133, 5, none⟩ = some (.bool a0_5) := (blk_cell BK133.out 5).trans rfl
              have hcz12_6 : w3.cell? ⟨gb133, 6, none⟩ = some (.bool a0_6) := (blk_cell BK133.out 6).trans rfl
              have hcz12_7 : w3.cell? ⟨gb133, 7, none⟩ = some (.bool a0_7) := (blk_cell BK133.out 7).trans rfl
              have hcz12_8 : w3.cell? ⟨gb133, 8, none⟩ = some (.bool true) := (blk_cell BK133.out 8).trans rfl
              have hcz12_9 : w3.cell? ⟨gb133, 9, none⟩ = some (.bool a0_9) := (blk_cell BK133.out 9).trans rfl
              have hcz12_10 : w3.cell? ⟨gb133, 10, none⟩ = some (.bool true) := (blk_cell BK133.out 10).trans rfl
              have hfz12_0 := blk_frozen BK133.out 0
              have hfz12_1 := blk_frozen BK133.out 1
              have hfz12_2 := blk_frozen BK133.out 2
              have hfz12_3 := blk_frozen BK133.out 3
              have hfz12_4 := blk_frozen BK133.out 4
              have hfz12_5 := blk_frozen BK133.out 5
              have hfz12_6 := blk_frozen BK133.out 6
              have hfz12_7 := blk_frozen BK133.out 7
              have hfz12_8 := blk_frozen BK133.out 8
              have hfz12_9 := blk_frozen BK133.out 9
              have hfz12_10 := blk_frozen BK133.out 10
              go_wp2_with (first | (go_at_call 53; (with_reducible refine (page_May.calls a0_0 true _ A5.out).mono ?_); rintro e w' ⟨rfl, ⟨nd, rfl⟩⟩))
              go_meet
              case rel => exact ⟨_, ((a0_1 != 0)), (by first | rfl | (simp; done) | (simp [*]; done)), H', ⟨by first | omega | exact Nat.le_refl _⟩, ⟨by (with_reducible repeat (first | refine blk_drewN ?_ _ | refine blk_drew ?_ | refine blk_alloc ?_ _)); exact BK133.out⟩, ⟨by repeat (first | (with_reducible first | exact HB.out | apply below_alloc | apply pw_below_drewN | apply below_drew1 | refine below_set ?_ GE133.out) | exact HB.out)⟩⟩
            · replace c11 := Bool.eq_false_iff.mpr c11
              subst c11
              have H1 : (tte_May.j0 k false a0_0 a0_1 a0_2 a0_3 a0_4 a0_5 a0_6 a0_7 false a0_9 true) = some r := by rw [if_neg (show ¬ (false = true) by decide)] at H; exact H
              clear H
              have H := H1
              clear H1
              have H' := Aside0.mk H
              clear H
              have hcz13_0 : w3.cell? ⟨gb133, 0, none⟩ = some (.int .i64 a0_0) := (blk_cell BK133.out 0).trans rfl
              have hcz13_1 : w3.cell? ⟨gb133, 1, none⟩ = some (.int .i64 a0_1) := (blk_cell BK133.out 1).trans rfl
              have hcz13_2 : w3.cell? ⟨gb133, 2, none⟩ = some (.int .u64 a0_2) := (blk_cell BK133.out 2).trans rfl
              have hcz13_3 : w3.cell? ⟨gb133, 3, none⟩ = some (.int .u64 a0_3) := (blk_cell BK133.out 3).trans rfl
              have hcz13_4 : w3.cell? ⟨gb133, 4, none⟩ = some (.bool a0_4) := (blk_cell BK133.out 4).trans rfl
              have hcz13_5 : w3.cell? ⟨gb133, 5, none⟩ = some (.bool a0_5) := (blk_cell BK133.out 5).trans rfl
              have hcz13_6 : w3.cell? ⟨gb133, 6, none⟩ = some (.bool a0_6) := (blk_cell BK133.out 6).trans rfl
              have hcz13_7 : w3.cell? ⟨gb133, 7, none⟩ = some (.bool a0_7) := (blk_cell BK133.out 7).trans rfl
              have hcz13_8 : w3.cell? ⟨gb133, 8, none⟩ = some (.bool false) := (blk_cell BK133.out 8).trans rfl
              have hcz13_9 : w3.cell? ⟨gb133, 9, none⟩ = some (.bool a0_9) := (blk_cell BK133.out 9).trans rfl
              have hcz13_10 : w3.cell? ⟨gb133, 10, none⟩ = some (.bool true) := (blk_cell BK133.out 10).trans rfl
              have hfz13_0 := blk_frozen BK133.out 0
              have hfz13_1 := blk_frozen BK133.out 1
              have hfz13_2 := blk_frozen BK133.out 2
              have hfz13_3 := blk_frozen BK133.out 3
              have hfz13_4 := blk_frozen BK133.out 4
              have hfz13_5 := blk_frozen BK133.out 5
              have hfz13_6 := blk_frozen BK133.out 6
              have hfz13_7 := blk_frozen BK133.out 7
              have hfz13_8 := blk_frozen BK133.out 8
              have hfz13_9 := blk_frozen BK133.out 9
              have hfz13_10 := blk_frozen BK133.out 10
              go_wp2_with (first | (go_at_call 53; (with_reducible refine (page_May.calls a0_0 true _ A5.out).mono ?_); rintro e w' ⟨rfl, ⟨nd, rfl⟩⟩))
              go_meet
              case rel => exact ⟨_, (false), (by first | rfl | (simp; done) | (simp [*]; done)), H', ⟨by first | omega | exact Nat.le_refl _⟩, ⟨by (with_reducible repeat (first | refine blk_drewN ?_ _ | refine blk_drew ?_ | refine blk_alloc ?_ _)); exact BK133.out⟩, ⟨by repeat (first | (with_reducible first | exact HB.out | apply below_alloc | apply pw_below_drewN | apply below_drew1 | refine below_set ?_ GE133.out) | exact HB.out)⟩⟩
      · replace c6 := Bool.eq_false_iff.mpr c6
        subst c6
        have H1 : (tte_May.j0 k true a0_0 a0_1 a0_2 a0_3 a0_4 a0_5 a0_6 a0_7 a0_8 a0_9 true) = some r := by rw [if_neg (show ¬ (false = true) by decide)] at H; exact H
        clear H
        have H := H1
        clear H1
        have H' := Aside0.mk H
        clear H
        have hcz14_0 : w3.cell? ⟨gb133, 0, none⟩ = some (.int .i64 a0_0) := (blk_cell BK133.out 0).trans rfl
        have hcz14_1 : w3.cell? ⟨gb133, 1, none⟩ = some (.int .i64 a0_1) := (blk_cell BK133.out 1).trans rfl
        have hcz14_2 : w3.cell? ⟨gb133, 2, none⟩ = some (.int .u64 a0_2) := (blk_cell BK133.out 2).trans rfl
        have hcz14_3 : w3.cell? ⟨gb133, 3, none⟩ = some (.int .u64 a0_3) := (blk_cell BK133.out 3).trans rfl
        have hcz14_4 : w3.cell? ⟨gb133, 4, none⟩ = some (.bool a0_4) := (blk_cell BK133.out 4).trans rfl
        have hcz14_5 : w3.cell? ⟨gb133, 5, none⟩ = some (.bool a0_5) := (blk_cell BK133.out 5).trans rfl
        have hcz14_6 : w3.cell? ⟨gb133, 6, none⟩ = some (.bool a0_6) := (blk_cell BK133.out 6).trans rfl
        have hcz14_7 : w3.cell? ⟨gb133, 7, none⟩ = some (.bool a0_7) := (blk_cell BK133.out 7).trans rfl
        have hcz14_8 : w3.cell? ⟨gb133, 8, none⟩ = some (.bool a0_8) := (blk_cell BK133.out 8).trans rfl
        have hcz14_9 : w3.cell? ⟨gb133, 9, none⟩ = some (.bool a0_9) := (blk_cell BK133.out 9).trans rfl
        have hcz14_10 : w3.cell? ⟨gb133, 10, none⟩ = some (.bool true) := (blk_cell BK133.out 10).trans rfl
        have hfz14_0 := blk_frozen BK133.out 0
        have hfz14_1 := blk_frozen BK133.out 1
        have hfz14_2 := blk_frozen BK133.out 2
        have hfz14_3 := blk_frozen BK133.out 3
        have hfz14_4 := blk_frozen BK133.out 4
        have hfz14_5 := blk_frozen BK133.out 5
        have hfz14_6 := blk_frozen BK133.out 6
        have hfz14_7 := blk_frozen BK133.out 7
        have hfz14_8 := blk_frozen BK133.out 8
        have hfz14_9 := blk_frozen BK133.out 9
        have hfz14_10 := blk_frozen BK133.out 10
        go_wp2_with (first | (go_at_call 53; (with_reducible refine (page_May.calls a0_0 false _ A5.out).mono ?_); rintro e w' ⟨rfl, ⟨nd, rfl⟩⟩))
        go_meet
        case rel => exact ⟨_, (true), (by first | rfl | (simp; done) | (simp [*]; done)), H', ⟨by first | omega | exact Nat.le_refl _⟩, ⟨by (with_reducible repeat (first | refine blk_drewN ?_ _ | refine blk_drew ?_ | refine blk_alloc ?_ _)); exact BK133.out⟩, ⟨by repeat (first | (with_reducible first | exact HB.out | apply below_alloc | apply pw_below_drewN | apply below_drew1 | refine below_set ?_ GE133.out) | exact HB.out)⟩⟩
    · replace c4 := Bool.eq_false_iff.mpr c4
      subst c4
      have H1 : (tte_May.j0 k true a0_0 a0_1 a0_2 a0_3 a0_4 a0_5 a0_6 a0_7 a0_8 a0_9 false) = some r := by rw [if_neg (show ¬ (false = true) by decide)] at H; exact H
      clear H
      have H := H1
      clear H1
      have H' := Aside0.mk H
      clear H
      have hcz15_0 : w3.cell? ⟨gb133, 0, none⟩ = some (.int .i64 a0_0) := (blk_cell BK133.out 0).trans rfl
      have hcz15_1 : w3.cell? ⟨gb133, 1, none⟩ = some (.int .i64 a0_1) := (blk_cell BK133.out 1).trans rfl
      have hcz15_2 : w3.cell? ⟨gb133, 2, none⟩ = some (.int .u64 a0_2) := (blk_cell BK133.out 2).trans rfl
      have hcz15_3 : w3.cell? ⟨gb133, 3, none⟩ = some (.int .u64 a0_3) := (blk_cell BK133.out 3).trans rfl
      have hcz15_4 : w3.cell? ⟨gb133, 4, none⟩ = some (.bool a0_4) := (blk_cell BK133.out 4).trans rfl
      have hcz15_5 : w3.cell? ⟨gb133, 5, none⟩ = some (.bool a0_5) := (blk_cell BK133.out 5).trans rfl
      have hcz15_6 : w3.cell? ⟨gb133, 6, none⟩ = some (.bool a0_6) := (blk_cell BK133.out 6).trans rfl
      have hcz15_7 : w3.cell? ⟨gb133, 7, none⟩ = some (.bool a0_7) := (blk_cell BK133.out 7).trans rfl
      have hcz15_8 : w3.cell? ⟨gb133, 8, none⟩ = some (.bool a0_8) := (blk_cell BK133.out 8).trans rfl
      have hcz15_9 : w3.cell? ⟨gb133, 9, none⟩ = some (.bool a0_9) := (blk_cell BK133.out 9).trans rfl
      have hcz15_10 : w3.cell? ⟨gb133, 10, none⟩ = some (.bool false) := (blk_cell BK133.out 10).trans rfl
      have hfz15_0 := blk_frozen BK133.out 0
      have hfz15_1 := blk_frozen BK133.out 1
      have hfz15_2 := blk_frozen BK133.out 2
      have hfz15_3 := blk_frozen BK133.out 3
      have hfz15_4 := blk_frozen BK133.out 4
      have hfz15_5 := blk_frozen BK133.out 5
      have hfz15_6 := blk_frozen BK133.out 6
      have hfz15_7 := blk_frozen BK133.out 7
      have hfz15_8 := blk_frozen BK133.out 8
      have hfz15_9 := blk_frozen BK133.out 9
      have hfz15_10 := blk_frozen BK133.out 10
      go_wp2
      go_meet
      case rel => exact ⟨_, (true), (by first | rfl | (simp; done) | (simp [*]; done)), H', ⟨by first | omega | exact Nat.le_refl _⟩, ⟨by (with_reducible repeat (first | refine blk_drewN ?_ _ | refine blk_drew ?_ | refine blk_alloc ?_ _)); exact BK133.out⟩, ⟨by repeat (first | (with_reducible first | exact HB.out | apply below_alloc | apply pw_below_drewN | apply below_drew1 | refine below_set ?_ GE133.out) | exact HB.out)⟩⟩
  case rest =>
    clear HC2
    try clear c1
    try clear c2
    try clear p2
    try clear c4
    try clear c6
    try clear c7
    try clear c7b0
    try clear c9
    try clear c9b0
    try clear c11
    try clear hcz10_0
    try clear hcz10_1
    try clear hcz10_10
    try clear hcz10_2
    try clear hcz10_3
    try clear hcz10_4
    try clear hcz10_5
    try clear hcz10_6
    try clear hcz10_7
    try clear hcz10_8
    try clear hcz10_9
    try clear hcz12_0
    try clear hcz12_1
    try clear hcz12_10
    try clear hcz12_2
    try clear hcz12_3
    try clear hcz12_4
    try clear hcz12_5
    try clear hcz12_6
    try clear hcz12_7
    try clear hcz12_8
    try clear hcz12_9
    try clear hcz13_0
    try clear hcz13_1
    try clear hcz13_10
    try clear hcz13_2
    try clear hcz13_3
    try clear hcz13_4
    try clear hcz13_5
    try clear hcz13_6
    try clear hcz13_7
    try clear hcz13_8
    try clear hcz13_9
    try clear hcz14_0
    try clear hcz14_1
    try clear hcz14_10
    try clear hcz14_2
    try clear hcz14_3
    try clear hcz14_4
    try clear hcz14_5
    try clear hcz14_6
    try clear hcz14_7
    try clear hcz14_8
    try clear hcz14_9
    try clear hcz15_0
    try clear hcz15_1
    try clear hcz15_10
    try clear hcz15_2
    try clear hcz15_3
    try clear hcz15_4
    try clear hcz15_5
    try clear hcz15_6
    try clear hcz15_7
    try clear hcz15_8
    try clear hcz15_9
    try clear hcz8_0
    try clear hcz8_1
    try clear hcz8_10
    try clear hcz8_2
    try clear hcz8_3
    try clear hcz8_4
    try clear hcz8_5
    try clear hcz8_6
    try clear hcz8_7
    try clear hcz8_8
    try clear hcz8_9
    try clear hfz10_0
    try clear hfz10_1
    try clear hfz10_10
    try clear hfz10_2
    try clear hfz10_3
    try clear hfz10_4
    try clear hfz10_5
    try clear hfz10_6
    try clear hfz10_7
    try clear hfz10_8
    try clear hfz10_9
    try clear hfz12_0
    try clear hfz12_1
    try clear hfz12_10
    try clear hfz12_2
    try clear hfz12_3
    try clear hfz12_4
    try clear hfz12_5
    try clear hfz12_6
    try clear hfz12_7
    try clear hfz12_8
    try clear hfz12_9
    try clear hfz13_0
    try clear hfz13_1
    try clear hfz13_10
    try clear hfz13_2
    try clear hfz13_3
    try clear hfz13_4
    try clear hfz13_5
    try clear hfz13_6
    try clear hfz13_7
    try clear hfz13_8
    try clear hfz13_9
    try clear hfz14_0
    try clear hfz14_1
    try clear hfz14_10
    try clear hfz14_2
    try clear hfz14_3
    try clear hfz14_4
    try clear hfz14_5
    try clear hfz14_6
    try clear hfz14_7
    try clear hfz14_8
    try clear hfz14_9
    try clear hfz15_0
    try clear hfz15_1
    try clear hfz15_10
    try clear hfz15_2
    try clear hfz15_3
    try clear hfz15_4
    try clear hfz15_5
    try clear hfz15_6
    try clear hfz15_7
    try clear hfz15_8
    try clear hfz15_9
    try clear hfz8_0
    try clear hfz8_1
    try clear hfz8_10
    try clear hfz8_2
    try clear hfz8_3
    try clear hfz8_4
    try clear hfz8_5
    try clear hfz8_6
    try clear hfz8_7
    try clear hfz8_8
    try clear hfz8_9
    obtain ⟨kq, x31_1, rfl, HA, HJ1, BK133, HB⟩ := hcut
    cases kq with
    | zero => exact absurd HA.out (by simp [tte_May.j0])
    | succ kj1 =>
      have H := HA.out
      clear HA
      simp only [tte_May.j0] at H
      by_cases c16 : x31_1 = true
      · subst c16
        have H1 : (some false) = some r := by rw [if_pos rfl] at H; exact H
        clear H
        have H := H1
        clear H1
        obtain rfl := Option.some.inj H
        go_wp2
        go_ret
        exact ⟨by first | rfl | (simp [errW_none, errW_some] <;> rfl) | (simp [*, errW_none, errW_some] <;> rfl), by repeat (first | (with_reducible first | exact HB.out | apply below_alloc | apply pw_below_drewN | apply below_drew1 | refine below_set ?_ GE133.out) | exact HB.out)⟩
      · replace c16 := Bool.eq_false_iff.mpr c16
        subst c16
        have H1 : ((page_Hole.f a0_2).bind fun t135 => (if t135 = true then (some false) else ((page_Starts.f a0_2 a0_0).bind fun t136 => (if t136 = true then ((field_Fits.f a0_3 41).bind fun t137 => (if t137 = true then ((page_Starts.f a0_3 a0_0).bind fun t138 => (some t138)) else (some false))) else (some false))))) = some r := by rw [if_neg (show ¬ (false = true) by decide)] at H; exact H
        clear H
        have H := H1
        clear H1
        replace H := Option.bind_eq_some_iff.mp H
        obtain ⟨t135, A170, H⟩ := H
        replace H : (if t135 = true then (some false) else ((page_Starts.f a0_2 a0_0).bind fun t136 => (if t136 = true then ((field_Fits.f a0_3 41).bind fun t137 => (if t137 = true then ((page_Starts.f a0_3 a0_0).bind fun t138 => (some t138)) else (some false))) else (some false)))) = some r := H
        have A17 := Aside0.mk A170
        clear A170
        by_cases c18 : t135 = true
        · subst c18
          have H1 : (some false) = some r := by rw [if_pos rfl] at H; exact H
          clear H
          have H := H1
          clear H1
          obtain rfl := Option.some.inj H
          have hcz19_0 : wc.cell? ⟨gb133, 0, none⟩ = some (.int .i64 a0_0) := (blk_cell BK133.out 0).trans rfl
          have hcz19_1 : wc.cell? ⟨gb133, 1, none⟩ = some (.int .i64 a0_1) := (blk_cell BK133.out 1).trans rfl
          have hcz19_2 : wc.cell? ⟨gb133, 2, none⟩ = some (.int .u64 a0_2) := (blk_cell BK133.out 2).trans rfl
          have hcz19_3 : wc.cell? ⟨gb133, 3, none⟩ = some (.int .u64 a0_3) := (blk_cell BK133.out 3).trans rfl
          have hcz19_4 : wc.cell? ⟨gb133, 4, none⟩ = some (.bool a0_4) := (blk_cell BK133.out 4).trans rfl
          have hcz19_5 : wc.cell? ⟨gb133, 5, none⟩ = some (.bool a0_5) := (blk_cell BK133.out 5).trans rfl
          have hcz19_6 : wc.cell? ⟨gb133, 6, none⟩ = some (.bool a0_6) := (blk_cell BK133.out 6).trans rfl
          have hcz19_7 : wc.cell? ⟨gb133, 7, none⟩ = some (.bool a0_7) := (blk_cell BK133.out 7).trans rfl
          have hcz19_8 : wc.cell? ⟨gb133, 8, none⟩ = some (.bool a0_8) := (blk_cell BK133.out 8).trans rfl
          have hcz19_9 : wc.cell? ⟨gb133, 9, none⟩ = some (.bool a0_9) := (blk_cell BK133.out 9).trans rfl
          have hcz19_10 : wc.cell? ⟨gb133, 10, none⟩ = some (.bool a0_10) := (blk_cell BK133.out 10).trans rfl
          have hfz19_0 := blk_frozen BK133.out 0
          have hfz19_1 := blk_frozen BK133.out 1
          have hfz19_2 := blk_frozen BK133.out 2
          have hfz19_3 := blk_frozen BK133.out 3
          have hfz19_4 := blk_frozen BK133.out 4
          have hfz19_5 := blk_frozen BK133.out 5
          have hfz19_6 := blk_frozen BK133.out 6
          have hfz19_7 := blk_frozen BK133.out 7
          have hfz19_8 := blk_frozen BK133.out 8
          have hfz19_9 := blk_frozen BK133.out 9
          have hfz19_10 := blk_frozen BK133.out 10
          go_wp2_with (first | ((with_reducible refine gate_callee (f := 54) rfl ?_); refine goesL_ (some 34) rfl rfl Try.func54 (by kernel_rfl) rfl #[.int .u64 a0_2] rfl (by (try simp only [List.map_toArray, List.map_cons, List.map_nil]); first | done | rfl | (simp only [List.length_drop, List.length_take]; rfl)) ?_; (with_reducible refine (page_Hole.calls a0_2 true _ A17.out).mono ?_); rintro e w' ⟨rfl, ⟨nd, rfl⟩⟩; refine ⟨_, rfl, ?_⟩))
          go_ret
          exact ⟨by first | rfl | (simp [errW_none, errW_some] <;> rfl) | (simp [*, errW_none, errW_some] <;> rfl), by repeat (first | (with_reducible first | exact HB.out | apply below_alloc | apply pw_below_drewN | apply below_drew1 | refine below_set ?_ GE133.out) | exact HB.out)⟩
        · replace c18 := Bool.eq_false_iff.mpr c18
          subst c18
          have H1 : ((page_Starts.f a0_2 a0_0).bind fun t136 => (if t136 = true then ((field_Fits.f a0_3 41).bind fun t137 => (if t137 = true then ((page_Starts.f a0_3 a0_0).bind fun t138 => (some t138)) else (some false))) else (some false))) = some r := by rw [if_neg (show ¬ (false = true) by decide)] at H; exact H
          clear H
          have H := H1
          clear H1
          replace H := Option.bind_eq_some_iff.mp H
          obtain ⟨t136, A200, H⟩ := H
          replace H : (if t136 = true then ((field_Fits.f a0_3 41).bind fun t137 => (if t137 = true then ((page_Starts.f a0_3 a0_0).bind fun t138 => (some t138)) else (some false))) else (some false)) = some r := H
          have A20 := Aside0.mk A200
          clear A200
          by_cases c21 : t136 = true
          · subst c21
            have H1 : ((field_Fits.f a0_3 41).bind fun t137 => (if t137 = true then ((page_Starts.f a0_3 a0_0).bind fun t138 => (some t138)) else (some false))) = some r := by rw [if_pos rfl] at H; exact H
            clear H
            have H := H1
            clear H1
            replace H := Option.bind_eq_some_iff.mp H
            obtain ⟨t137, A220, H⟩ := H
            replace H : (if t137 = true then ((page_Starts.f a0_3 a0_0).bind fun t138 => (some t138)) else (some false)) = some r := H
            have A22 := Aside0.mk A220
            clear A220
            by_cases c23 : t137 = true
            · subst c23
              have H1 : ((page_Starts.f a0_3 a0_0).bind fun t138 => (some t138)) = some r := by rw [if_pos rfl] at H; exact H
              clear H
              have H := H1
              clear H1
              replace H := Option.bind_eq_some_iff.mp H
              obtain ⟨t138, A240, H⟩ := H
              replace H : (some t138) = some r := H
              have A24 := Aside0.mk A240
              clear A240
              obtain rfl := Option.some.inj H
              have hcz25_0 : wc.cell? ⟨gb133, 0, none⟩ = some (.int .i64 a0_0) := (blk_cell BK133.out 0).trans rfl
              have hcz25_1 : wc.cell? ⟨gb133, 1, none⟩ = some (.int .i64 a0_1) := (blk_cell BK133.out 1).trans rfl
              have hcz25_2 : wc.cell? ⟨gb133, 2, none⟩ = some (.int .u64 a0_2) := (blk_cell BK133.out 2).trans rfl
              have hcz25_3 : wc.cell? ⟨gb133, 3, none⟩ = some (.int .u64 a0_3) := (blk_cell BK133.out 3).trans rfl
              have hcz25_4 : wc.cell? ⟨gb133, 4, none⟩ = some (.bool a0_4) := (blk_cell BK133.out 4).trans rfl
              have hcz25_5 : wc.cell? ⟨gb133, 5, none⟩ = some (.bool a0_5) := (blk_cell BK133.out 5).trans rfl
              have hcz25_6 : wc.cell? ⟨gb133, 6, none⟩ = some (.bool a0_6) := (blk_cell BK133.out 6).trans rfl
              have hcz25_7 : wc.cell? ⟨gb133, 7, none⟩ = some (.bool a0_7) := (blk_cell BK133.out 7).trans rfl
              have hcz25_8 : wc.cell? ⟨gb133, 8, none⟩ = some (.bool a0_8) := (blk_cell BK133.out 8).trans rfl
              have hcz25_9 : wc.cell? ⟨gb133, 9, none⟩ = some (.bool a0_9) := (blk_cell BK133.out 9).trans rfl
              have hcz25_10 : wc.cell? ⟨gb133, 10, none⟩ = some (.bool a0_10) := (blk_cell BK133.out 10).trans rfl
              have hfz25_0 := blk_frozen BK133.out 0
              have hfz25_1 := blk_frozen BK133.out 1
              have hfz25_2 := blk_frozen BK133.out 2
              have hfz25_3 := blk_frozen BK133.out 3
              have hfz25_4 := blk_frozen BK133.out 4
              have hfz25_5 := blk_frozen BK133.out 5
              have hfz25_6 := blk_frozen BK133.out 6
              have hfz25_7 := blk_frozen BK133.out 7
              have hfz25_8 := blk_frozen BK133.out 8
              have hfz25_9 := blk_frozen BK133.out 9
              have hfz25_10 := blk_frozen BK133.out 10
              go_wp2_with (first | ((with_reducible refine gate_callee (f := 54) rfl ?_); refine goesL_ (some 34) rfl rfl Try.func54 (by kernel_rfl) rfl #[.int .u64 a0_2] rfl (by (try simp only [List.map_toArray, List.map_cons, List.map_nil]); first | done | rfl | (simp only [List.length_drop, List.length_take]; rfl)) ?_; (with_reducible refine (page_Hole.calls a0_2 false _ A17.out).mono ?_); rintro e w' ⟨rfl, ⟨nd, rfl⟩⟩; refine ⟨_, rfl, ?_⟩) | (go_at_call 55; (with_reducible refine (page_Starts.calls a0_2 a0_0 true _ A20.out).mono ?_); rintro e w' ⟨rfl, ⟨nd, rfl⟩⟩) | (go_at_call 56; (with_reducible refine (field_Fits.calls a0_3 41 true _ A22.out).mono ?_); rintro e w' ⟨rfl, ⟨nd, rfl⟩⟩) | (go_at_call 55; (with_reducible refine (page_Starts.calls a0_3 a0_0 t138 _ A24.out).mono ?_); rintro e w' ⟨rfl, ⟨nd, rfl⟩⟩))
              go_ret
              exact ⟨by first | rfl | (simp [errW_none, errW_some] <;> rfl) | (simp [*, errW_none, errW_some] <;> rfl), by repeat (first | (with_reducible first | exact HB.out | apply below_alloc | apply pw_below_drewN | apply below_drew1 | refine below_set ?_ GE133.out) | exact HB.out)⟩
            · replace c23 := Bool.eq_false_iff.mpr c23
              subst c23
              have H1 : (some false) = some r := by rw [if_neg (show ¬ (false = true) by decide)] at H; exact H
              clear H
              have H := H1
              clear H1
              obtain rfl := Option.some.inj H
              have hcz26_0 : wc.cell? ⟨gb133, 0, none⟩ = some (.int .i64 a0_0) := (blk_cell BK133.out 0).trans rfl
              have hcz26_1 : wc.cell? ⟨gb133, 1, none⟩ = some (.int .i64 a0_1) := (blk_cell BK133.out 1).trans rfl
              have hcz26_2 : wc.cell? ⟨gb133, 2, none⟩ = some (.int .u64 a0_2) := (blk_cell BK133.out 2).trans rfl
              have hcz26_3 : wc.cell? ⟨gb133, 3, none⟩ = some (.int .u64 a0_3) := (blk_cell BK133.out 3).trans rfl
              have hcz26_4 : wc.cell? ⟨gb133, 4, none⟩ = some (.bool a0_4) := (blk_cell BK133.out 4).trans rfl
              have hcz26_5 : wc.cell? ⟨gb133, 5, none⟩ = some (.bool a0_5) := (blk_cell BK133.out 5).trans rfl
              have hcz26_6 : wc.cell? ⟨gb133, 6, none⟩ = some (.bool a0_6) := (blk_cell BK133.out 6).trans rfl
              have hcz26_7 : wc.cell? ⟨gb133, 7, none⟩ = some (.bool a0_7) := (blk_cell BK133.out 7).trans rfl
              have hcz26_8 : wc.cell? ⟨gb133, 8, none⟩ = some (.bool a0_8) := (blk_cell BK133.out 8).trans rfl
              have hcz26_9 : wc.cell? ⟨gb133, 9, none⟩ = some (.bool a0_9) := (blk_cell BK133.out 9).trans rfl
              have hcz26_10 : wc.cell? ⟨gb133, 10, none⟩ = some (.bool a0_10) := (blk_cell BK133.out 10).trans rfl
              have hfz26_0 := blk_frozen BK133.out 0
              have hfz26_1 := blk_frozen BK133.out 1
              have hfz26_2 := blk_frozen BK133.out 2
              have hfz26_3 := blk_frozen BK133.out 3
              have hfz26_4 := blk_frozen BK133.out 4
              have hfz26_5 := blk_frozen BK133.out 5
              have hfz26_6 := blk_frozen BK133.out 6
              have hfz26_7 := blk_frozen BK133.out 7
              have hfz26_8 := blk_frozen BK133.out 8
              have hfz26_9 := blk_frozen BK133.out 9
              have hfz26_10 := blk_frozen BK133.out 10
              go_wp2_with (first | ((with_reducible refine gate_callee (f := 54) rfl ?_); refine goesL_ (some 34) rfl rfl Try.func54 (by kernel_rfl) rfl #[.int .u64 a0_2] rfl (by (try simp only [List.map_toArray, List.map_cons, List.map_nil]); first | done | rfl | (simp only [List.length_drop, List.length_take]; rfl)) ?_; (with_reducible refine (page_Hole.calls a0_2 false _ A17.out).mono ?_); rintro e w' ⟨rfl, ⟨nd, rfl⟩⟩; refine ⟨_, rfl, ?_⟩) | (go_at_call 55; (with_reducible refine (page_Starts.calls a0_2 a0_0 true _ A20.out).mono ?_); rintro e w' ⟨rfl, ⟨nd, rfl⟩⟩) | (go_at_call 56; (with_reducible refine (field_Fits.calls a0_3 41 false _ A22.out).mono ?_); rintro e w' ⟨rfl, ⟨nd, rfl⟩⟩))
              go_ret
              exact ⟨by first | rfl | (simp [errW_none, errW_some] <;> rfl) | (simp [*, errW_none, errW_some] <;> rfl), by repeat (first | (with_reducible first | exact HB.out | apply below_alloc | apply pw_below_drewN | apply below_drew1 | refine below_set ?_ GE133.out) | exact HB.out)⟩
          · replace c21 := Bool.eq_false_iff.mpr c21
            subst c21
            have H1 : (some false) = some r := by rw [if_neg (show ¬ (false = true) by decide)] at H; exact H
            clear H
            have H := H1
            clear H1
            obtain rfl := Option.some.inj H
            have hcz27_0 : wc.cell? ⟨gb133, 0, none⟩ = some (.int .i64 a0_0) := (blk_cell BK133.out 0).trans rfl
            have hcz27_1 : wc.cell? ⟨gb133, 1, none⟩ = some (.int .i64 a0_1) := (blk_cell BK133.out 1).trans rfl
            have hcz27_2 : wc.cell? ⟨gb133, 2, none⟩ = some (.int .u64 a0_2) := (blk_cell BK133.out 2).trans rfl
            have hcz27_3 : wc.cell? ⟨gb133, 3, none⟩ = some (.int .u64 a0_3) := (blk_cell BK133.out 3).trans rfl
            have hcz27_4 : wc.cell? ⟨gb133, 4, none⟩ = some (.bool a0_4) := (blk_cell BK133.out 4).trans rfl
            have hcz27_5 : wc.cell? ⟨gb133, 5, none⟩ = some (.bool a0_5) := (blk_cell BK133.out 5).trans rfl
            have hcz27_6 : wc.cell? ⟨gb133, 6, none⟩ = some (.bool a0_6) := (blk_cell BK133.out 6).trans rfl
            have hcz27_7 : wc.cell? ⟨gb133, 7, none⟩ = some (.bool a0_7) := (blk_cell BK133.out 7).trans rfl
            have hcz27_8 : wc.cell? ⟨gb133, 8, none⟩ = some (.bool a0_8) := (blk_cell BK133.out 8).trans rfl
            have hcz27_9 : wc.cell? ⟨gb133, 9, none⟩ = some (.bool a0_9) := (blk_cell BK133.out 9).trans rfl
            have hcz27_10 : wc.cell? ⟨gb133, 10, none⟩ = some (.bool a0_10) := (blk_cell BK133.out 10).trans rfl
            have hfz27_0 := blk_frozen BK133.out 0
            have hfz27_1 := blk_frozen BK133.out 1
            have hfz27_2 := blk_frozen BK133.out 2
            have hfz27_3 := blk_frozen BK133.out 3
            have hfz27_4 := blk_frozen BK133.out 4
            have hfz27_5 := blk_frozen BK133.out 5
            have hfz27_6 := blk_frozen BK133.out 6
            have hfz27_7 := blk_frozen BK133.out 7
            have hfz27_8 := blk_frozen BK133.out 8
            have hfz27_9 := blk_frozen BK133.out 9
            have hfz27_10 := blk_frozen BK133.out 10
            go_wp2_with (first | ((with_reducible refine gate_callee (f := 54) rfl ?_); refine goesL_ (some 34) rfl rfl Try.func54 (by kernel_rfl) rfl #[.int .u64 a0_2] rfl (by (try simp only [List.map_toArray, List.map_cons, List.map_nil]); first | done | rfl | (simp only [List.length_drop, List.length_take]; rfl)) ?_; (with_reducible refine (page_Hole.calls a0_2 false _ A17.out).mono ?_); rintro e w' ⟨rfl, ⟨nd, rfl⟩⟩; refine ⟨_, rfl, ?_⟩) | (go_at_call 55; (with_reducible refine (page_Starts.calls a0_2 a0_0 false _ A20.out).mono ?_); rintro e w' ⟨rfl, ⟨nd, rfl⟩⟩))
            go_ret
            exact ⟨by first | rfl | (simp [errW_none, errW_some] <;> rfl) | (simp [*, errW_none, errW_some] <;> rfl), by repeat (first | (with_reducible first | exact HB.out | apply below_alloc | apply pw_below_drewN | apply below_drew1 | refine below_set ?_ GE133.out) | exact HB.out)⟩

/-! ### lookasidelaw03_lives: function 17 -/
def lookasidelaw03_lives.f (k : Nat)  : Option (Bool) := (tte_Tag.f 0 1 8192 16384 true false false false false false true).bind fun t140 => (if t140 = 281474976710656 then ((tte_Data.f 0 1 8192 16384 true false false false false false true).bind fun t141 => (if t141 = 9223372036854792194 then ((tte_May.f k 0 1 8192 16384 true false false false false false true).bind fun t142 => (some t142)) else (some false))) else (some false))
theorem lookasidelaw03_lives.mono : ∀ k, LeO (lookasidelaw03_lives.f k ) (lookasidelaw03_lives.f (k + 1) ) := by
  intro  k
  unfold lookasidelaw03_lives.f
  repeat' first
      | (with_reducible exact tte_May.mono _ _ _ _ _ _ _ _ _ _ _ _)
      | (with_reducible exact LeO.refl _)
      | (with_reducible exact LeO.none _)
      | (with_reducible refine LeO.ite ?_ ?_)
      | (with_reducible refine LeO.bind ?_ (fun _ => ?_))
      | exact tte_May.mono _ _ _ _ _ _ _ _ _ _ _ _
      | exact LeO.none _
      | refine LeO.ite ?_ ?_
      | refine LeO.bind ?_ (fun _ => ?_)
set_option maxHeartbeats 8000000 in
set_option maxRecDepth 100000 in
theorem lookasidelaw03_lives.calls (k : Nat)  (r : Bool) (w : World) (h : lookasidelaw03_lives.f k  = some r) :
    Calls Try.prog 17 #[] w fun e w' => e = .returned (.bool r) ∧ Below w.heap.size w w' := by
  have hu24 := Try.underlying24
  have hu26 := Try.underlying26
  have HB := Aside0.mk (Below.refl w.heap.size w)
  have H : ((tte_Tag.f 0 1 8192 16384 true false false false false false true).bind fun t140 => (if t140 = 281474976710656 then ((tte_Data.f 0 1 8192 16384 true false false false false false true).bind fun t141 => (if t141 = 9223372036854792194 then ((tte_May.f k 0 1 8192 16384 true false false false false false true).bind fun t142 => (some t142)) else (some false))) else (some false))) = some r := h
  clear h
  replace H := Option.bind_eq_some_iff.mp H
  obtain ⟨t140, A10, H⟩ := H
  replace H : (if t140 = 281474976710656 then ((tte_Data.f 0 1 8192 16384 true false false false false false true).bind fun t141 => (if t141 = 9223372036854792194 then ((tte_May.f k 0 1 8192 16384 true false false false false false true).bind fun t142 => (some t142)) else (some false))) else (some false)) = some r := H
  have A1 := Aside0.mk A10
  clear A10
  by_cases c2 : t140 = 281474976710656
  · rw [if_pos c2] at H
    have c2b0 : (t140 == 281474976710656) = true := beq_iff_eq.mpr c2
    have c2b1 : (t140 != 281474976710656) = false := bne_eq_false_iff_eq.mpr c2
    clear c2
    replace H := Option.bind_eq_some_iff.mp H
    obtain ⟨t141, A30, H⟩ := H
    replace H : (if t141 = 9223372036854792194 then ((tte_May.f k 0 1 8192 16384 true false false false false false true).bind fun t142 => (some t142)) else (some false)) = some r := H
    have A3 := Aside0.mk A30
    clear A30
    by_cases c4 : t141 = 9223372036854792194
    · rw [if_pos c4] at H
      have c4b0 : (t141 == 9223372036854792194) = true := beq_iff_eq.mpr c4
      have c4b1 : (t141 != 9223372036854792194) = false := bne_eq_false_iff_eq.mpr c4
      clear c4
      replace H := Option.bind_eq_some_iff.mp H
      obtain ⟨t142, A50, H⟩ := H
      replace H : (some t142) = some r := H
      have A5 := Aside0.mk A50
      clear A50
      obtain rfl := Option.some.inj H
      go_enter Try.func17, Try.ntmps17
      go_wp2_with (first | ((with_reducible refine gate_dst (N := 1) rfl ?_); refine box_event ?hg (N := 1) ?hd (cs := #[.int .i64 0, .int .i64 0, .int .u64 0, .int .u64 0, .bool false, .bool false, .bool false, .bool false, .bool false, .bool false, .bool false]) (t := 26) ?hr ?_; (case hd => rfl); (case hg => rfl); (case hr => first | (go_simp; done) | (go_simp; rfl)); intro gb139 hg w6 hbox hb; have n0_ := Aside0.mk (below_step (by repeat (first | (with_reducible first | exact HB.out | apply below_alloc | apply pw_below_drewN | apply below_drew1) | exact HB.out)) hb); have n1_ := Aside0.mk (hbox); have n2_ := Aside0.mk ((by rw [hg]; exact (below_size (by repeat (first | (with_reducible first | exact HB.out | apply below_alloc | apply pw_below_drewN | apply below_drew1) | exact HB.out))) : w.heap.size ≤ gb139)); have n3_ := Aside0.mk ((by rw [hg]; exact (below_size (by repeat (first | (with_reducible first | exact HB.out | apply below_alloc | apply pw_below_drewN | apply below_drew1) | exact HB.out))) : w.heap.size ≤ gb139)); clear HB; have HB := n0_; have BK139 := n1_; have GW139 := n2_; have GE139 := n3_; clear n0_ n1_ n2_ n3_; clear hb hbox hg; have hcz7_0 : w6.cell? ⟨gb139, 0, none⟩ = some (.int .i64 0) := (blk_cell BK139.out 0).trans rfl; have hcz7_1 : w6.cell? ⟨gb139, 1, none⟩ = some (.int .i64 0) := (blk_cell BK139.out 1).trans rfl; have hcz7_2 : w6.cell? ⟨gb139, 2, none⟩ = some (.int .u64 0) := (blk_cell BK139.out 2).trans rfl; have hcz7_3 : w6.cell? ⟨gb139, 3, none⟩ = some (.int .u64 0) := (blk_cell BK139.out 3).trans rfl; have hcz7_4 : w6.cell? ⟨gb139, 4, none⟩ = some (.bool false) := (blk_cell BK139.out 4).trans rfl; have hcz7_5 : w6.cell? ⟨gb139, 5, none⟩ = some (.bool false) := (blk_cell BK139.out 5).trans rfl; have hcz7_6 : w6.cell? ⟨gb139, 6, none⟩ = some (.bool false) := (blk_cell BK139.out 6).trans rfl; have hcz7_7 : w6.cell? ⟨gb139, 7, none⟩ = some (.bool false) := (blk_cell BK139.out 7).trans rfl; have hcz7_8 : w6.cell? ⟨gb139, 8, none⟩ = some (.bool false) := (blk_cell BK139.out 8).trans rfl; have hcz7_9 : w6.cell? ⟨gb139, 9, none⟩ = some (.bool false) := (blk_cell BK139.out 9).trans rfl; have hcz7_10 : w6.cell? ⟨gb139, 10, none⟩ = some (.bool false) := (blk_cell BK139.out 10).trans rfl; have hfz7_0 := blk_frozen BK139.out 0; have hfz7_1 := blk_frozen BK139.out 1; have hfz7_2 := blk_frozen BK139.out 2; have hfz7_3 := blk_frozen BK139.out 3; have hfz7_4 := blk_frozen BK139.out 4; have hfz7_5 := blk_frozen BK139.out 5; have hfz7_6 := blk_frozen BK139.out 6; have hfz7_7 := blk_frozen BK139.out 7; have hfz7_8 := blk_frozen BK139.out 8; have hfz7_9 := blk_frozen BK139.out 9; have hfz7_10 := blk_frozen BK139.out 10) | ((with_reducible refine gate_callee (f := 14) rfl ?_); refine goesL_ (some 5) rfl rfl Try.func14 (by kernel_rfl) rfl #[.agg #[.int .i64 0, .int .i64 1, .int .u64 8192, .int .u64 16384, .bool true, .bool false, .bool false, .bool false, .bool false, .bool false, .bool true]] rfl (by (try simp only [List.map_toArray, List.map_cons, List.map_nil]); first | done | rfl | (simp only [List.length_drop, List.length_take]; rfl)) ?_; (with_reducible refine (tte_Tag.calls 0 1 8192 16384 true false false false false false true t140 _ A1.out).mono ?_); rintro e w8 ⟨rfl, hb⟩; refine ⟨_, rfl, ?_⟩; have n0_ := Aside0.mk (blk_below (g := gb139) (o := .cells #[.int .i64 0, .int .i64 1, .int .u64 8192, .int .u64 16384, .bool true, .bool false, .bool false, .bool false, .bool false, .bool false, .bool true] 26 (0, 0)) (by (with_reducible repeat (first | refine blk_drewN ?_ _ | refine blk_drew ?_ | refine blk_alloc ?_ _)); refine blk_put (cs := #[.int .i64 0, .int .i64 1, .int .u64 8192, .int .u64 16384, .bool true, .bool false, .bool false, .bool false, .bool false, .bool false, .bool false]) ?_ 10 _ rfl; refine blk_put (cs := #[.int .i64 0, .int .i64 1, .int .u64 8192, .int .u64 16384, .bool true, .bool false, .bool false, .bool false, .bool false, .bool false, .bool false]) ?_ 9 _ rfl; refine blk_put (cs := #[.int .i64 0, .int .i64 1, .int .u64 8192, .int .u64 16384, .bool true, .bool false, .bool false, .bool false, .bool false, .bool false, .bool false]) ?_ 8 _ rfl; refine blk_put (cs := #[.int .i64 0, .int .i64 1, .int .u64 8192, .int .u64 16384, .bool true, .bool false, .bool false, .bool false, .bool false, .bool false, .bool false]) ?_ 7 _ rfl; refine blk_put (cs := #[.int .i64 0, .int .i64 1, .int .u64 8192, .int .u64 16384, .bool true, .bool false, .bool false, .bool false, .bool false, .bool false, .bool false]) ?_ 6 _ rfl; refine blk_put (cs := #[.int .i64 0, .int .i64 1, .int .u64 8192, .int .u64 16384, .bool true, .bool false, .bool false, .bool false, .bool false, .bool false, .bool false]) ?_ 5 _ rfl; refine blk_put (cs := #[.int .i64 0, .int .i64 1, .int .u64 8192, .int .u64 16384, .bool false, .bool false, .bool false, .bool false, .bool false, .bool false, .bool false]) ?_ 4 _ rfl; refine blk_put (cs := #[.int .i64 0, .int .i64 1, .int .u64 8192, .int .u64 0, .bool false, .bool false, .bool false, .bool false, .bool false, .bool false, .bool false]) ?_ 3 _ rfl; refine blk_put (cs := #[.int .i64 0, .int .i64 1, .int .u64 0, .int .u64 0, .bool false, .bool false, .bool false, .bool false, .bool false, .bool false, .bool false]) ?_ 2 _ rfl; refine blk_put (cs := #[.int .i64 0, .int .i64 0, .int .u64 0, .int .u64 0, .bool false, .bool false, .bool false, .bool false, .bool false, .bool false, .bool false]) ?_ 1 _ rfl; refine blk_put (cs := #[.int .i64 0, .int .i64 0, .int .u64 0, .int .u64 0, .bool false, .bool false, .bool false, .bool false, .bool false, .bool false, .bool false]) ?_ 0 _ rfl; (with_reducible repeat (first | refine blk_drewN ?_ _ | refine blk_drew ?_ | refine blk_alloc ?_ _)); exact BK139.out) hb); have n1_ := Aside0.mk (below_step (by repeat (first | (with_reducible first | exact HB.out | apply below_alloc | apply pw_below_drewN | apply below_drew1 | refine below_set ?_ GE139.out) | exact HB.out)) hb); clear BK139; clear HB; have BK139 := n0_; have HB := n1_; clear n0_ n1_; (try clear hb); (try clear hb2); (try clear hk); (try clear hi); have hcz9_0 : w8.cell? ⟨gb139, 0, none⟩ = some (.int .i64 0) := (blk_cell BK139.out 0).trans rfl; have hcz9_1 : w8.cell? ⟨gb139, 1, none⟩ = some (.int .i64 1) := (blk_cell BK139.out 1).trans rfl; have hcz9_2 : w8.cell? ⟨gb139, 2, none⟩ = some (.int .u64 8192) := (blk_cell BK139.out 2).trans rfl; have hcz9_3 : w8.cell? ⟨gb139, 3, none⟩ = some (.int .u64 16384) := (blk_cell BK139.out 3).trans rfl; have hcz9_4 : w8.cell? ⟨gb139, 4, none⟩ = some (.bool true) := (blk_cell BK139.out 4).trans rfl; have hcz9_5 : w8.cell? ⟨gb139, 5, none⟩ = some (.bool false) := (blk_cell BK139.out 5).trans rfl; have hcz9_6 : w8.cell? ⟨gb139, 6, none⟩ = some (.bool false) := (blk_cell BK139.out 6).trans rfl; have hcz9_7 : w8.cell? ⟨gb139, 7, none⟩ = some (.bool false) := (blk_cell BK139.out 7).trans rfl; have hcz9_8 : w8.cell? ⟨gb139, 8, none⟩ = some (.bool false) := (blk_cell BK139.out 8).trans rfl; have hcz9_9 : w8.cell? ⟨gb139, 9, none⟩ = some (.bool false) := (blk_cell BK139.out 9).trans rfl; have hcz9_10 : w8.cell? ⟨gb139, 10, none⟩ = some (.bool true) := (blk_cell BK139.out 10).trans rfl; have hfz9_0 := blk_frozen BK139.out 0; have hfz9_1 := blk_frozen BK139.out 1; have hfz9_2 := blk_frozen BK139.out 2; have hfz9_3 := blk_frozen BK139.out 3; have hfz9_4 := blk_frozen BK139.out 4; have hfz9_5 := blk_frozen BK139.out 5; have hfz9_6 := blk_frozen BK139.out 6; have hfz9_7 := blk_frozen BK139.out 7; have hfz9_8 := blk_frozen BK139.out 8; have hfz9_9 := blk_frozen BK139.out 9; have hfz9_10 := blk_frozen BK139.out 10) | (go_at_call 15; (with_reducible refine (tte_Data.calls 0 1 8192 16384 true false false false false false true t141 _ A3.out).mono ?_); rintro e w10 ⟨rfl, hb⟩; have n0_ := Aside0.mk (bb5_ hb BK139.out); have n1_ := Aside0.mk (below_step (by repeat (first | (with_reducible first | exact HB.out | apply below_alloc | apply pw_below_drewN | apply below_drew1 | refine below_set ?_ GE139.out) | exact HB.out)) hb); clear BK139; clear HB; have BK139 := n0_; have HB := n1_; clear n0_ n1_; (try clear hb); (try clear hb2); (try clear hk); (try clear hi); have hcz11_0 : w10.cell? ⟨gb139, 0, none⟩ = some (.int .i64 0) := (blk_cell BK139.out 0).trans rfl; have hcz11_1 : w10.cell? ⟨gb139, 1, none⟩ = some (.int .i64 1) := (blk_cell BK139.out 1).trans rfl; have hcz11_2 : w10.cell? ⟨gb139, 2, none⟩ = some (.int .u64 8192) := (blk_cell BK139.out 2).trans rfl; have hcz11_3 : w10.cell? ⟨gb139, 3, none⟩ = some (.int .u64 16384) := (blk_cell BK139.out 3).trans rfl; have hcz11_4 : w10.cell? ⟨gb139, 4, none⟩ = some (.bool true) := (blk_cell BK139.out 4).trans rfl; have hcz11_5 : w10.cell? ⟨gb139, 5, none⟩ = some (.bool false) := (blk_cell BK139.out 5).trans rfl; have hcz11_6 : w10.cell? ⟨gb139, 6, none⟩ = some (.bool false) := (blk_cell BK139.out 6).trans rfl; have hcz11_7 : w10.cell? ⟨gb139, 7, none⟩ = some (.bool false) := (blk_cell BK139.out 7).trans rfl; have hcz11_8 : w10.cell? ⟨gb139, 8, none⟩ = some (.bool false) := (blk_cell BK139.out 8).trans rfl; have hcz11_9 : w10.cell? ⟨gb139, 9, none⟩ = some (.bool false) := (blk_cell BK139.out 9).trans rfl; have hcz11_10 : w10.cell? ⟨gb139, 10, none⟩ = some (.bool true) := (blk_cell BK139.out 10).trans rfl; have hfz11_0 := blk_frozen BK139.out 0; have hfz11_1 := blk_frozen BK139.out 1; have hfz11_2 := blk_frozen BK139.out 2; have hfz11_3 := blk_frozen BK139.out 3; have hfz11_4 := blk_frozen BK139.out 4; have hfz11_5 := blk_frozen BK139.out 5; have hfz11_6 := blk_frozen BK139.out 6; have hfz11_7 := blk_frozen BK139.out 7; have hfz11_8 := blk_frozen BK139.out 8; have hfz11_9 := blk_frozen BK139.out 9; have hfz11_10 := blk_frozen BK139.out 10) | (go_at_call 22; (with_reducible refine (tte_May.calls k 0 1 8192 16384 true false false false false false true t142 _ A5.out).mono ?_); rintro e w12 ⟨rfl, hb⟩; have n0_ := Aside0.mk (bb5_ hb BK139.out); have n1_ := Aside0.mk (below_step (by repeat (first | (with_reducible first | exact HB.out | apply below_alloc | apply pw_below_drewN | apply below_drew1 | refine below_set ?_ GE139.out) | exact HB.out)) hb); clear BK139; clear HB; have BK139 := n0_; have HB := n1_; clear n0_ n1_; (try clear hb); (try clear hb2); (try clear hk); (try clear hi)))
      go_ret
      exact ⟨by first | rfl | (simp [errW_none, errW_some] <;> rfl) | (simp [*, errW_none, errW_some] <;> rfl), by repeat (first | (with_reducible first | exact HB.out | apply below_alloc | apply pw_below_drewN | apply below_drew1 | refine below_set ?_ GE139.out) | exact HB.out)⟩
    · rw [if_neg c4] at H
      have c4b0 : (t141 == 9223372036854792194) = false := beq_eq_false_iff_ne.mpr c4
      have c4b1 : (t141 != 9223372036854792194) = true := bne_iff_ne.mpr c4
      obtain rfl := Option.some.inj H
      go_enter Try.func17, Try.ntmps17
      go_wp2_with (first | ((with_reducible refine gate_dst (N := 1) rfl ?_); refine box_event ?hg (N := 1) ?hd (cs := #[.int .i64 0, .int .i64 0, .int .u64 0, .int .u64 0, .bool false, .bool false, .bool false, .bool false, .bool false, .bool false, .bool false]) (t := 26) ?hr ?_; (case hd => rfl); (case hg => rfl); (case hr => first | (go_simp; done) | (go_simp; rfl)); intro gb139 hg w13 hbox hb; have n0_ := Aside0.mk (below_step (by repeat (first | (with_reducible first | exact HB.out | apply below_alloc | apply pw_below_drewN | apply below_drew1) | exact HB.out)) hb); have n1_ := Aside0.mk (hbox); have n2_ := Aside0.mk ((by rw [hg]; exact (below_size (by repeat (first | (with_reducible first | exact HB.out | apply below_alloc | apply pw_below_drewN | apply below_drew1) | exact HB.out))) : w.heap.size ≤ gb139)); have n3_ := Aside0.mk ((by rw [hg]; exact (below_size (by repeat (first | (with_reducible first | exact HB.out | apply below_alloc | apply pw_below_drewN | apply below_drew1) | exact HB.out))) : w.heap.size ≤ gb139)); clear HB; have HB := n0_; have BK139 := n1_; have GW139 := n2_; have GE139 := n3_; clear n0_ n1_ n2_ n3_; clear hb hbox hg; have hcz14_0 : w13.cell? ⟨gb139, 0, none⟩ = some (.int .i64 0) := (blk_cell BK139.out 0).trans rfl; have hcz14_1 : w13.cell? ⟨gb139, 1, none⟩ = some (.int .i64 0) := (blk_cell BK139.out 1).trans rfl; have hcz14_2 : w13.cell? ⟨gb139, 2, none⟩ = some (.int .u64 0) := (blk_cell BK139.out 2).trans rfl; have hcz14_3 : w13.cell? ⟨gb139, 3, none⟩ = some (.int .u64 0) := (blk_cell BK139.out 3).trans rfl; have hcz14_4 : w13.cell? ⟨gb139, 4, none⟩ = some (.bool false) := (blk_cell BK139.out 4).trans rfl; have hcz14_5 : w13.cell? ⟨gb139, 5, none⟩ = some (.bool false) := (blk_cell BK139.out 5).trans rfl; have hcz14_6 : w13.cell? ⟨gb139, 6, none⟩ = some (.bool false) := (blk_cell BK139.out 6).trans rfl; have hcz14_7 : w13.cell? ⟨gb139, 7, none⟩ = some (.bool false) := (blk_cell BK139.out 7).trans rfl; have hcz14_8 : w13.cell? ⟨gb139, 8, none⟩ = some (.bool false) := (blk_cell BK139.out 8).trans rfl; have hcz14_9 : w13.cell? ⟨gb139, 9, none⟩ = some (.bool false) := (blk_cell BK139.out 9).trans rfl; have hcz14_10 : w13.cell? ⟨gb139, 10, none⟩ = some (.bool false) := (blk_cell BK139.out 10).trans rfl; have hfz14_0 := blk_frozen BK139.out 0; have hfz14_1 := blk_frozen BK139.out 1; have hfz14_2 := blk_frozen BK139.out 2; have hfz14_3 := blk_frozen BK139.out 3; have hfz14_4 := blk_frozen BK139.out 4; have hfz14_5 := blk_frozen BK139.out 5; have hfz14_6 := blk_frozen BK139.out 6; have hfz14_7 := blk_frozen BK139.out 7; have hfz14_8 := blk_frozen BK139.out 8; have hfz14_9 := blk_frozen BK139.out 9; have hfz14_10 := blk_frozen BK139.out 10) | ((with_reducible refine gate_callee (f := 14) rfl ?_); refine goesL_ (some 5) rfl rfl Try.func14 (by kernel_rfl) rfl #[.agg #[.int .i64 0, .int .i64 1, .int .u64 8192, .int .u64 16384, .bool true, .bool false, .bool false, .bool false, .bool false, .bool false, .bool true]] rfl (by (try simp only [List.map_toArray, List.map_cons, List.map_nil]); first | done | rfl | (simp only [List.length_drop, List.length_take]; rfl)) ?_; (with_reducible refine (tte_Tag.calls 0 1 8192 16384 true false false false false false true t140 _ A1.out).mono ?_); rintro e w15 ⟨rfl, hb⟩; refine ⟨_, rfl, ?_⟩; have n0_ := Aside0.mk (blk_below (g := gb139) (o := .cells #[.int .i64 0, .int .i64 1, .int .u64 8192, .int .u64 16384, .bool true, .bool false, .bool false, .bool false, .bool false, .bool false, .bool true] 26 (0, 0)) (by (with_reducible repeat (first | refine blk_drewN ?_ _ | refine blk_drew ?_ | refine blk_alloc ?_ _)); refine blk_put (cs := #[.int .i64 0, .int .i64 1, .int .u64 8192, .int .u64 16384, .bool true, .bool false, .bool false, .bool false, .bool false, .bool false, .bool false]) ?_ 10 _ rfl; refine blk_put (cs := #[.int .i64 0, .int .i64 1, .int .u64 8192, .int .u64 16384, .bool true, .bool false, .bool false, .bool false, .bool false, .bool false, .bool false]) ?_ 9 _ rfl; refine blk_put (cs := #[.int .i64 0, .int .i64 1, .int .u64 8192, .int .u64 16384, .bool true, .bool false, .bool false, .bool false, .bool false, .bool false, .bool false]) ?_ 8 _ rfl; refine blk_put (cs := #[.int .i64 0, .int .i64 1, .int .u64 8192, .int .u64 16384, .bool true, .bool false, .bool false, .bool false, .bool false, .bool false, .bool false]) ?_ 7 _ rfl; refine blk_put (cs := #[.int .i64 0, .int .i64 1, .int .u64 8192, .int .u64 16384, .bool true, .bool false, .bool false, .bool false, .bool false, .bool false, .bool false]) ?_ 6 _ rfl; refine blk_put (cs := #[.int .i64 0, .int .i64 1, .int .u64 8192, .int .u64 16384, .bool true, .bool false, .bool false, .bool false, .bool false, .bool false, .bool false]) ?_ 5 _ rfl; refine blk_put (cs := #[.int .i64 0, .int .i64 1, .int .u64 8192, .int .u64 16384, .bool false, .bool false, .bool false, .bool false, .bool false, .bool false, .bool false]) ?_ 4 _ rfl; refine blk_put (cs := #[.int .i64 0, .int .i64 1, .int .u64 8192, .int .u64 0, .bool false, .bool false, .bool false, .bool false, .bool false, .bool false, .bool false]) ?_ 3 _ rfl; refine blk_put (cs := #[.int .i64 0, .int .i64 1, .int .u64 0, .int .u64 0, .bool false, .bool false, .bool false, .bool false, .bool false, .bool false, .bool false]) ?_ 2 _ rfl; refine blk_put (cs := #[.int .i64 0, .int .i64 0, .int .u64 0, .int .u64 0, .bool false, .bool false, .bool false, .bool false, .bool false, .bool false, .bool false]) ?_ 1 _ rfl; refine blk_put (cs := #[.int .i64 0, .int .i64 0, .int .u64 0, .int .u64 0, .bool false, .bool false, .bool false, .bool false, .bool false, .bool false, .bool false]) ?_ 0 _ rfl; (with_reducible repeat (first | refine blk_drewN ?_ _ | refine blk_drew ?_ | refine blk_alloc ?_ _)); exact BK139.out) hb); have n1_ := Aside0.mk (below_step (by repeat (first | (with_reducible first | exact HB.out | apply below_alloc | apply pw_below_drewN | apply below_drew1 | refine below_set ?_ GE139.out) | exact HB.out)) hb); clear BK139; clear HB; have BK139 := n0_; have HB := n1_; clear n0_ n1_; (try clear hb); (try clear hb2); (try clear hk); (try clear hi); have hcz16_0 : w15.cell? ⟨gb139, 0, none⟩ = some (.int .i64 0) := (blk_cell BK139.out 0).trans rfl; have hcz16_1 : w15.cell? ⟨gb139, 1, none⟩ = some (.int .i64 1) := (blk_cell BK139.out 1).trans rfl; have hcz16_2 : w15.cell? ⟨gb139, 2, none⟩ = some (.int .u64 8192) := (blk_cell BK139.out 2).trans rfl; have hcz16_3 : w15.cell? ⟨gb139, 3, none⟩ = some (.int .u64 16384) := (blk_cell BK139.out 3).trans rfl; have hcz16_4 : w15.cell? ⟨gb139, 4, none⟩ = some (.bool true) := (blk_cell BK139.out 4).trans rfl; have hcz16_5 : w15.cell? ⟨gb139, 5, none⟩ = some (.bool false) := (blk_cell BK139.out 5).trans rfl; have hcz16_6 : w15.cell? ⟨gb139, 6, none⟩ = some (.bool false) := (blk_cell BK139.out 6).trans rfl; have hcz16_7 : w15.cell? ⟨gb139, 7, none⟩ = some (.bool false) := (blk_cell BK139.out 7).trans rfl; have hcz16_8 : w15.cell? ⟨gb139, 8, none⟩ = some (.bool false) := (blk_cell BK139.out 8).trans rfl; have hcz16_9 : w15.cell? ⟨gb139, 9, none⟩ = some (.bool false) := (blk_cell BK139.out 9).trans rfl; have hcz16_10 : w15.cell? ⟨gb139, 10, none⟩ = some (.bool true) := (blk_cell BK139.out 10).trans rfl; have hfz16_0 := blk_frozen BK139.out 0; have hfz16_1 := blk_frozen BK139.out 1; have hfz16_2 := blk_frozen BK139.out 2; have hfz16_3 := blk_frozen BK139.out 3; have hfz16_4 := blk_frozen BK139.out 4; have hfz16_5 := blk_frozen BK139.out 5; have hfz16_6 := blk_frozen BK139.out 6; have hfz16_7 := blk_frozen BK139.out 7; have hfz16_8 := blk_frozen BK139.out 8; have hfz16_9 := blk_frozen BK139.out 9; have hfz16_10 := blk_frozen BK139.out 10) | (go_at_call 15; (with_reducible refine (tte_Data.calls 0 1 8192 16384 true false false false false false true t141 _ A3.out).mono ?_); rintro e w17 ⟨rfl, hb⟩; have n0_ := Aside0.mk (bb5_ hb BK139.out); have n1_ := Aside0.mk (below_step (by repeat (first | (with_reducible first | exact HB.out | apply below_alloc | apply pw_below_drewN | apply below_drew1 | refine below_set ?_ GE139.out) | exact HB.out)) hb); clear BK139; clear HB; have BK139 := n0_; have HB := n1_; clear n0_ n1_; (try clear hb); (try clear hb2); (try clear hk); (try clear hi)))
      go_ret
      exact ⟨by first | rfl | (simp [errW_none, errW_some] <;> rfl) | (simp [*, errW_none, errW_some] <;> rfl), by repeat (first | (with_reducible first | exact HB.out | apply below_alloc | apply pw_below_drewN | apply below_drew1 | refine below_set ?_ GE139.out) | exact HB.out)⟩
  · rw [if_neg c2] at H
    have c2b0 : (t140 == 281474976710656) = false := beq_eq_false_iff_ne.mpr c2
    have c2b1 : (t140 != 281474976710656) = true := bne_iff_ne.mpr c2
    obtain rfl := Option.some.inj H
    go_enter Try.func17, Try.ntmps17
    go_wp2_with (first | ((with_reducible refine gate_dst (N := 1) rfl ?_); refine box_event ?hg (N := 1) ?hd (cs := #[.int .i64 0, .int .i64 0, .int .u64 0, .int .u64 0, .bool false, .bool false, .bool false, .bool false, .bool false, .bool false, .bool false]) (t := 26) ?hr ?_; (case hd => rfl); (case hg => rfl); (case hr => first | (go_simp; done) | (go_simp; rfl)); intro gb139 hg w18 hbox hb; have n0_ := Aside0.mk (below_step (by repeat (first | (with_reducible first | exact HB.out | apply below_alloc | apply pw_below_drewN | apply below_drew1) | exact HB.out)) hb); have n1_ := Aside0.mk (hbox); have n2_ := Aside0.mk ((by rw [hg]; exact (below_size (by repeat (first | (with_reducible first | exact HB.out | apply below_alloc | apply pw_below_drewN | apply below_drew1) | exact HB.out))) : w.heap.size ≤ gb139)); have n3_ := Aside0.mk ((by rw [hg]; exact (below_size (by repeat (first | (with_reducible first | exact HB.out | apply below_alloc | apply pw_below_drewN | apply below_drew1) | exact HB.out))) : w.heap.size ≤ gb139)); clear HB; have HB := n0_; have BK139 := n1_; have GW139 := n2_; have GE139 := n3_; clear n0_ n1_ n2_ n3_; clear hb hbox hg; have hcz19_0 : w18.cell? ⟨gb139, 0, none⟩ = some (.int .i64 0) := (blk_cell BK139.out 0).trans rfl; have hcz19_1 : w18.cell? ⟨gb139, 1, none⟩ = some (.int .i64 0) := (blk_cell BK139.out 1).trans rfl; have hcz19_2 : w18.cell? ⟨gb139, 2, none⟩ = some (.int .u64 0) := (blk_cell BK139.out 2).trans rfl; have hcz19_3 : w18.cell? ⟨gb139, 3, none⟩ = some (.int .u64 0) := (blk_cell BK139.out 3).trans rfl; have hcz19_4 : w18.cell? ⟨gb139, 4, none⟩ = some (.bool false) := (blk_cell BK139.out 4).trans rfl; have hcz19_5 : w18.cell? ⟨gb139, 5, none⟩ = some (.bool false) := (blk_cell BK139.out 5).trans rfl; have hcz19_6 : w18.cell? ⟨gb139, 6, none⟩ = some (.bool false) := (blk_cell BK139.out 6).trans rfl; have hcz19_7 : w18.cell? ⟨gb139, 7, none⟩ = some (.bool false) := (blk_cell BK139.out 7).trans rfl; have hcz19_8 : w18.cell? ⟨gb139, 8, none⟩ = some (.bool false) := (blk_cell BK139.out 8).trans rfl; have hcz19_9 : w18.cell? ⟨gb139, 9, none⟩ = some (.bool false) := (blk_cell BK139.out 9).trans rfl; have hcz19_10 : w18.cell? ⟨gb139, 10, none⟩ = some (.bool false) := (blk_cell BK139.out 10).trans rfl; have hfz19_0 := blk_frozen BK139.out 0; have hfz19_1 := blk_frozen BK139.out 1; have hfz19_2 := blk_frozen BK139.out 2; have hfz19_3 := blk_frozen BK139.out 3; have hfz19_4 := blk_frozen BK139.out 4; have hfz19_5 := blk_frozen BK139.out 5; have hfz19_6 := blk_frozen BK139.out 6; have hfz19_7 := blk_frozen BK139.out 7; have hfz19_8 := blk_frozen BK139.out 8; have hfz19_9 := blk_frozen BK139.out 9; have hfz19_10 := blk_frozen BK139.out 10) | ((with_reducible refine gate_callee (f := 14) rfl ?_); refine goesL_ (some 5) rfl rfl Try.func14 (by kernel_rfl) rfl #[.agg #[.int .i64 0, .int .i64 1, .int .u64 8192, .int .u64 16384, .bool true, .bool false, .bool false, .bool false, .bool false, .bool false, .bool true]] rfl (by (try simp only [List.map_toArray, List.map_cons, List.map_nil]); first | done | rfl | (simp only [List.length_drop, List.length_take]; rfl)) ?_; (with_reducible refine (tte_Tag.calls 0 1 8192 16384 true false false false false false true t140 _ A1.out).mono ?_); rintro e w20 ⟨rfl, hb⟩; refine ⟨_, rfl, ?_⟩; have n0_ := Aside0.mk (blk_below (g := gb139) (o := .cells #[.int .i64 0, .int .i64 1, .int .u64 8192, .int .u64 16384, .bool true, .bool false, .bool false, .bool false, .bool false, .bool false, .bool true] 26 (0, 0)) (by (with_reducible repeat (first | refine blk_drewN ?_ _ | refine blk_drew ?_ | refine blk_alloc ?_ _)); refine blk_put (cs := #[.int .i64 0, .int .i64 1, .int .u64 8192, .int .u64 16384, .bool true, .bool false, .bool false, .bool false, .bool false, .bool false, .bool false]) ?_ 10 _ rfl; refine blk_put (cs := #[.int .i64 0, .int .i64 1, .int .u64 8192, .int .u64 16384, .bool true, .bool false, .bool false, .bool false, .bool false, .bool false, .bool false]) ?_ 9 _ rfl; refine blk_put (cs := #[.int .i64 0, .int .i64 1, .int .u64 8192, .int .u64 16384, .bool true, .bool false, .bool false, .bool false, .bool false, .bool false, .bool false]) ?_ 8 _ rfl; refine blk_put (cs := #[.int .i64 0, .int .i64 1, .int .u64 8192, .int .u64 16384, .bool true, .bool false, .bool false, .bool false, .bool false, .bool false, .bool false]) ?_ 7 _ rfl; refine blk_put (cs := #[.int .i64 0, .int .i64 1, .int .u64 8192, .int .u64 16384, .bool true, .bool false, .bool false, .bool false, .bool false, .bool false, .bool false]) ?_ 6 _ rfl; refine blk_put (cs := #[.int .i64 0, .int .i64 1, .int .u64 8192, .int .u64 16384, .bool true, .bool false, .bool false, .bool false, .bool false, .bool false, .bool false]) ?_ 5 _ rfl; refine blk_put (cs := #[.int .i64 0, .int .i64 1, .int .u64 8192, .int .u64 16384, .bool false, .bool false, .bool false, .bool false, .bool false, .bool false, .bool false]) ?_ 4 _ rfl; refine blk_put (cs := #[.int .i64 0, .int .i64 1, .int .u64 8192, .int .u64 0, .bool false, .bool false, .bool false, .bool false, .bool false, .bool false, .bool false]) ?_ 3 _ rfl; refine blk_put (cs := #[.int .i64 0, .int .i64 1, .int .u64 0, .int .u64 0, .bool false, .bool false, .bool false, .bool false, .bool false, .bool false, .bool false]) ?_ 2 _ rfl; refine blk_put (cs := #[.int .i64 0, .int .i64 0, .int .u64 0, .int .u64 0, .bool false, .bool false, .bool false, .bool false, .bool false, .bool false, .bool false]) ?_ 1 _ rfl; refine blk_put (cs := #[.int .i64 0, .int .i64 0, .int .u64 0, .int .u64 0, .bool false, .bool false, .bool false, .bool false, .bool false, .bool false, .bool false]) ?_ 0 _ rfl; (with_reducible repeat (first | refine blk_drewN ?_ _ | refine blk_drew ?_ | refine blk_alloc ?_ _)); exact BK139.out) hb); have n1_ := Aside0.mk (below_step (by repeat (first | (with_reducible first | exact HB.out | apply below_alloc | apply pw_below_drewN | apply below_drew1 | refine below_set ?_ GE139.out) | exact HB.out)) hb); clear BK139; clear HB; have BK139 := n0_; have HB := n1_; clear n0_ n1_; (try clear hb); (try clear hb2); (try clear hk); (try clear hi)))
    go_ret
    exact ⟨by first | rfl | (simp [errW_none, errW_some] <;> rfl) | (simp [*, errW_none, errW_some] <;> rfl), by repeat (first | (with_reducible first | exact HB.out | apply below_alloc | apply pw_below_drewN | apply below_drew1 | refine below_set ?_ GE139.out) | exact HB.out)⟩

/-! ### lookasideref02_Offset: function 18 -/
def lookasideref02_Offset.f (a0 : Int) (a1 : Int) : Option (Int) := (lookasideref02_May.f a1).bind fun t143 => (if t143 = true then ((lookasideref02_Bytes.f a1).bind fun t144 => (if t144 = 0 then (none) else (some (Int.tmod a0 t144)))) else (some 0))
set_option maxHeartbeats 8000000 in
set_option maxRecDepth 100000 in
theorem lookasideref02_Offset.calls (a0 : Int) (a1 : Int) (r : Int) (w : World) (h : lookasideref02_Offset.f a0 a1 = some r) :
    Calls Try.prog 18 #[.int .u64 a0, .int .i64 a1] w fun e w' => e = .returned (.int .u64 r) ∧ Drawn0 w w' := by
  have H : ((lookasideref02_May.f a1).bind fun t143 => (if t143 = true then ((lookasideref02_Bytes.f a1).bind fun t144 => (if t144 = 0 then (none) else (some (Int.tmod a0 t144)))) else (some 0))) = some r := h
  clear h
  replace H := Option.bind_eq_some_iff.mp H
  obtain ⟨t143, A30, H⟩ := H
  replace H : (if t143 = true then ((lookasideref02_Bytes.f a1).bind fun t144 => (if t144 = 0 then (none) else (some (Int.tmod a0 t144)))) else (some 0)) = some r := H
  have A3 := Aside0.mk A30
  clear A30
  by_cases c4 : t143 = true
  · subst c4
    have H1 : ((lookasideref02_Bytes.f a1).bind fun t144 => (if t144 = 0 then (none) else (some (Int.tmod a0 t144)))) = some r := by rw [if_pos rfl] at H; exact H
    clear H
    have H := H1
    clear H1
    replace H := Option.bind_eq_some_iff.mp H
    obtain ⟨t144, A50, H⟩ := H
    replace H : (if t144 = 0 then (none) else (some (Int.tmod a0 t144))) = some r := H
    have A5 := Aside0.mk A50
    clear A50
    by_cases c6 : t144 = 0
    · rw [if_pos c6] at H
      exact absurd H (by simp)
    · rw [if_neg c6] at H
      have c6b0 : (t144 == 0) = false := beq_eq_false_iff_ne.mpr c6
      have c6b1 : (t144 != 0) = true := bne_iff_ne.mpr c6
      obtain rfl := Option.some.inj H
      go_enter Try.func18, Try.ntmps18
      go_wp2_with (first | ((with_reducible refine gate_callee (f := 50) rfl ?_); refine goesL_ (some 7) rfl rfl Try.func50 (by kernel_rfl) rfl #[.int .i64 a1] rfl (by (try simp only [List.map_toArray, List.map_cons, List.map_nil]); first | done | rfl | (simp only [List.length_drop, List.length_take]; rfl)) ?_; (with_reducible refine (lookasideref02_May.calls a1 true _ A3.out).mono ?_); rintro e w' ⟨rfl, ⟨nd, rfl⟩⟩; refine ⟨_, rfl, ?_⟩) | ((with_reducible refine gate_callee (f := 27) rfl ?_); refine goesL_ (some 12) rfl rfl Try.func27 (by kernel_rfl) rfl #[.int .i64 a1] rfl (by (try simp only [List.map_toArray, List.map_cons, List.map_nil]); first | done | rfl | (simp only [List.length_drop, List.length_take]; rfl)) ?_; (with_reducible refine (lookasideref02_Bytes.calls a1 t144 _ A5.out).mono ?_); rintro e w' ⟨rfl, ⟨nd, rfl⟩⟩; refine ⟨_, rfl, ?_⟩))
      go_ret
      exact ⟨by first | rfl | (simp; done) | (simp [*]; done), by repeat (first | exact Drawn0.refl _ | apply Drawn0.step)⟩
  · replace c4 := Bool.eq_false_iff.mpr c4
    subst c4
    have H1 : (some 0) = some r := by rw [if_neg (show ¬ (false = true) by decide)] at H; exact H
    clear H
    have H := H1
    clear H1
    obtain rfl := Option.some.inj H
    go_enter Try.func18, Try.ntmps18
    go_wp2_with (first | ((with_reducible refine gate_callee (f := 50) rfl ?_); refine goesL_ (some 7) rfl rfl Try.func50 (by kernel_rfl) rfl #[.int .i64 a1] rfl (by (try simp only [List.map_toArray, List.map_cons, List.map_nil]); first | done | rfl | (simp only [List.length_drop, List.length_take]; rfl)) ?_; (with_reducible refine (lookasideref02_May.calls a1 false _ A3.out).mono ?_); rintro e w' ⟨rfl, ⟨nd, rfl⟩⟩; refine ⟨_, rfl, ?_⟩))
    go_ret
    exact ⟨by first | rfl | (simp; done) | (simp [*]; done), by repeat (first | exact Drawn0.refl _ | apply Drawn0.step)⟩

/-! ### lookasideref02_Tag: function 52 -/
def lookasideref02_Tag.f (a0 : Int) : Option (Int) := some (Int.tmod (IntKind.u64.wrap (Int.tdiv a0 4194304)) 4194304)
set_option maxHeartbeats 8000000 in
set_option maxRecDepth 100000 in
theorem lookasideref02_Tag.calls (a0 : Int) (r : Int) (w : World) (h : lookasideref02_Tag.f a0 = some r) :
    Calls Try.prog 52 #[.int .u64 a0] w fun e w' => e = .returned (.int .u64 r) ∧ Drawn0 w w' := by
  have H : (some (Int.tmod (IntKind.u64.wrap (Int.tdiv a0 4194304)) 4194304)) = some r := h
  clear h
  obtain rfl := Option.some.inj H
  go_enter Try.func52, Try.ntmps52
  go_wp2
  go_ret
  exact ⟨by first | rfl | (simp; done) | (simp [*]; done), by repeat (first | exact Drawn0.refl _ | apply Drawn0.step)⟩

/-! ### lookasideref03_bit: function 58 -/
mutual
def lookasideref03_bit.j0 : Nat → Int → Int → Option (Int)
  | 0, _, _ => none
  | k + 1, x1, x5 => lookasideref03_bit.l0 k x1 x5 0
def lookasideref03_bit.l0 : Nat → Int → Int → Int → Option (Int)
  | 0, _, _, _ => none
  | k + 1, x1, x5, x6 => if x6 < x1 then (lookasideref03_bit.l0 k x1 (IntKind.u64.wrap (2 * x5)) (wrap64 (x6 + 1))) else (some x5)
end
def lookasideref03_bit.f (k : Nat) (a0 : Bool) (a1 : Int) : Option (Int) := if a0 = true then (lookasideref03_bit.j0 k a1 1) else (lookasideref03_bit.j0 k a1 0)
theorem lookasideref03_bit.mono_l : ∀ k, (∀ y0 y1, LeO (lookasideref03_bit.j0 k y0 y1) (lookasideref03_bit.j0 (k + 1) y0 y1)) ∧ (∀ y0 y1 y2, LeO (lookasideref03_bit.l0 k y0 y1 y2) (lookasideref03_bit.l0 (k + 1) y0 y1 y2))
  | 0 => ⟨fun _ _ r h => by simp [lookasideref03_bit.j0] at h, fun _ _ _ r h => by simp [lookasideref03_bit.l0] at h⟩
  | k + 1 => by
    obtain ⟨ih0, ih1⟩ := lookasideref03_bit.mono_l k
    refine ⟨?_, ?_⟩
    · intro y0 y1
      unfold lookasideref03_bit.j0
      repeat' first
      | (with_reducible exact ih0 _ _)
      | (with_reducible exact ih1 _ _ _)
      | (with_reducible exact LeO.refl _)
      | (with_reducible exact LeO.none _)
      | (with_reducible refine LeO.ite ?_ ?_)
      | (with_reducible refine LeO.bind ?_ (fun _ => ?_))
      | exact ih0 _ _
      | exact ih1 _ _ _
      | exact LeO.none _
      | refine LeO.ite ?_ ?_
      | refine LeO.bind ?_ (fun _ => ?_)
    · intro y0 y1 y2
      unfold lookasideref03_bit.l0
      repeat' first
      | (with_reducible exact ih0 _ _)
      | (with_reducible exact ih1 _ _ _)
      | (with_reducible exact LeO.refl _)
      | (with_reducible exact LeO.none _)
      | (with_reducible refine LeO.ite ?_ ?_)
      | (with_reducible refine LeO.bind ?_ (fun _ => ?_))
      | exact ih0 _ _
      | exact ih1 _ _ _
      | exact LeO.none _
      | refine LeO.ite ?_ ?_
      | refine LeO.bind ?_ (fun _ => ?_)
theorem lookasideref03_bit.mono : ∀ a0 a1 k, LeO (lookasideref03_bit.f k a0 a1) (lookasideref03_bit.f (k + 1) a0 a1) := by
  intro a0 a1 k
  obtain ⟨ih0, ih1⟩ := lookasideref03_bit.mono_l k
  unfold lookasideref03_bit.f
  repeat' first
      | (with_reducible exact ih0 _ _)
      | (with_reducible exact ih1 _ _ _)
      | (with_reducible exact LeO.refl _)
      | (with_reducible exact LeO.none _)
      | (with_reducible refine LeO.ite ?_ ?_)
      | (with_reducible refine LeO.bind ?_ (fun _ => ?_))
      | exact ih0 _ _
      | exact ih1 _ _ _
      | exact LeO.none _
      | refine LeO.ite ?_ ?_
      | refine LeO.bind ?_ (fun _ => ?_)
set_option maxHeartbeats 8000000 in
set_option maxRecDepth 100000 in
theorem lookasideref03_bit.calls (k : Nat) (a0 : Bool) (a1 : Int) (r : Int) (w : World) (h : lookasideref03_bit.f k a0 a1 = some r) :
    Calls Try.prog 58 #[.bool a0, .int .i64 a1] w fun e w' => e = .returned (.int .u64 r) ∧ Drawn0 w w' := by
  have H : (if a0 = true then (lookasideref03_bit.j0 k a1 1) else (lookasideref03_bit.j0 k a1 0)) = some r := h
  clear h
  have HC3 := Aside0.mk H
  clear H
  go_enter Try.func58, Try.ntmps58
  go_upto_if 7 with (fail)
  go_cut [5] (fun v5 wc => ∃ (kq : Nat) (x5_2 : Int), v5 = .int .u64 x5_2 ∧ Aside0 (lookasideref03_bit.j0 kq a1 x5_2 = some r) ∧ Aside0 (kq ≤ k) ∧ Drawn0 w wc)
  case first =>
    have H := HC3.out
    clear HC3
    by_cases c4 : a0 = true
    · subst c4
      have H1 : (lookasideref03_bit.j0 k a1 1) = some r := by rw [if_pos rfl] at H; exact H
      clear H
      have H := H1
      clear H1
      have H' := Aside0.mk H
      clear H
      go_wp2
      go_meet
      case rel => exact ⟨_, (1), (by first | rfl | (simp; done) | (simp [*]; done)), H', ⟨by first | omega | exact Nat.le_refl _⟩, by repeat (first | exact Drawn0.refl _ | apply Drawn0.step)⟩
    · replace c4 := Bool.eq_false_iff.mpr c4
      subst c4
      have H1 : (lookasideref03_bit.j0 k a1 0) = some r := by rw [if_neg (show ¬ (false = true) by decide)] at H; exact H
      clear H
      have H := H1
      clear H1
      have H' := Aside0.mk H
      clear H
      go_wp2
      go_meet
      case rel => exact ⟨_, (0), (by first | rfl | (simp; done) | (simp [*]; done)), H', ⟨by first | omega | exact Nat.le_refl _⟩, by repeat (first | exact Drawn0.refl _ | apply Drawn0.step)⟩
  case rest =>
    clear HC3
    try clear p2
    try clear c4
    obtain ⟨kq, x5_2, rfl, HA, HJ2, ⟨mc2, rfl⟩⟩ := hcut
    cases kq with
    | zero => exact absurd HA.out (by simp [lookasideref03_bit.j0])
    | succ kj2 =>
      have H := HA.out
      clear HA
      simp only [lookasideref03_bit.j0] at H
      have H' := Aside0.mk H
      clear H
      go_wp2
      go_loopg [5, 6] kj2 (fun kq v5 v6 w' => ∃ (x5_2 : Int) (x6_2 : Int), v5 = .int .u64 x5_2 ∧ v6 = .int .i64 x6_2 ∧ Aside0 (lookasideref03_bit.l0 kq a1 x5_2 x6_2 = some r) ∧ Aside0 (kq ≤ kj2) ∧ Drawn0 w w')
      case atStart => exact ⟨(x5_2), (0), (by first | rfl | (simp; done) | (simp [*]; done)), (by first | rfl | (simp; done) | (simp [*]; done)), H', ⟨Nat.le_refl _⟩, by repeat (first | exact Drawn0.refl _ | apply Drawn0.step)⟩
      case round =>
        clear H'
        try clear c2
        try clear p2
        try clear c4
        try clear p2
        obtain ⟨x5_2, x6_2, rfl, rfl, HA, HK2, ⟨m2, rfl⟩⟩ := hrel
        cases gk with
        | zero => exact absurd HA.out (by simp [lookasideref03_bit.l0])
        | succ k2 =>
          have H := HA.out
          clear HA
          simp only [lookasideref03_bit.l0] at H
          by_cases c5 : x6_2 < a1
          · rw [if_pos c5] at H
            have c5b0 : decide (x6_2 < a1) = true := decide_eq_true c5
            clear c5
            have H' := Aside0.mk H
            clear H
            go_wp2
            go_roundg k2
            case measure => have := HJ2.out; have := HK2.out; omega
            case rel => exact ⟨(IntKind.u64.wrap (2 * x5_2)), (wrap64 (x6_2 + 1)), (by first | rfl | (simp; done) | (simp [*]; done)), (by first | rfl | (simp; done) | (simp [*]; done)), H', ⟨by have := HJ2.out; have := HK2.out; omega⟩, by repeat (first | exact Drawn0.refl _ | apply Drawn0.step)⟩
          · rw [if_neg c5] at H
            have c5b0 : decide (x6_2 < a1) = false := decide_eq_false c5
            clear c5
            obtain rfl := Option.some.inj H
            go_wp2
            go_ret
            exact ⟨by first | rfl | (simp; done) | (simp [*]; done), by repeat (first | exact Drawn0.refl _ | apply Drawn0.step)⟩

end Go.Proofs.Ytecbngibhobgbaa.QTteRound
