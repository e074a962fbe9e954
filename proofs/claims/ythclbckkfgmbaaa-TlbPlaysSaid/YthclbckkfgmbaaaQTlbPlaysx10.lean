-- Printed by a program of this session (wip/print/myprint.py) out of the translation; Lean checks it.
import Derived.Test.YthclbckkfgmbaaaQTlbPlaysx0
import Derived.Test.YthclbckkfgmbaaaQTlbPlaysx1
namespace Go.Proofs.Ythclbckkfgmbaaa.QTlbPlays
open Go.RowKit Go.Proofs.YthclbckkfgmbaaaW.PrintWords Go.Proofs.YthclbckkfgmbaaaW.PrintLast Go.Proofs.YthclbckkfgmbaaaW.PrintMore
attribute [local go_sem] max2_int min2_int max_two min_two max_three min_three max_four min_four   -- for this text's walks alone
set_option linter.unusedVariables false
set_option linter.unusedSimpArgs false

attribute [local go_sem high] eqA26
/-! ### lookasideref06_Same: function 71 -/
def lookasideref06_Same.l0 : Nat → List (S26) → List (S26) → Int → Option (Bool)
  | 0, _, _, _ => none
  | k + 1, x0, x1, x5 => if x5 < (x0.length : Int) then (if 0 ≤ x5 then (if x5 < (x1.length : Int) then (if (!(((rd_T26 x0 x5).f0) == ((rd_T26 x1 x5).f0)) || (!(((rd_T26 x0 x5).f1) == ((rd_T26 x1 x5).f1)) || (!(((rd_T26 x0 x5).f2) == ((rd_T26 x1 x5).f2)) || (!(((rd_T26 x0 x5).f3) == ((rd_T26 x1 x5).f3)) || ((!(((rd_T26 x0 x5).f4.f0) == ((rd_T26 x1 x5).f4.f0)) || (!(((rd_T26 x0 x5).f4.f1) == ((rd_T26 x1 x5).f4.f1)) || (!(((rd_T26 x0 x5).f4.f2) == ((rd_T26 x1 x5).f4.f2)) || (!(((rd_T26 x0 x5).f4.f3) == ((rd_T26 x1 x5).f4.f3)) || (!(((rd_T26 x0 x5).f4.f4) == ((rd_T26 x1 x5).f4.f4)) || (!(((rd_T26 x0 x5).f4.f5) == ((rd_T26 x1 x5).f4.f5)))))))) || (!(((rd_T26 x0 x5).f5) == ((rd_T26 x1 x5).f5)))))))) = true then (some false) else (lookasideref06_Same.l0 k x0 x1 (wrap64 (x5 + 1)))) else (none)) else (none)) else (some true)
def lookasideref06_Same.f (k : Nat) (l0 : List (S26)) (l1 : List (S26)) : Option (Bool) := if (l0.length : Int) = (l1.length : Int) then (lookasideref06_Same.l0 k l0 l1 0) else (some false)
theorem lookasideref06_Same.mono_l : ∀ k, (∀ y0 y1 y2, LeO (lookasideref06_Same.l0 k y0 y1 y2) (lookasideref06_Same.l0 (k + 1) y0 y1 y2))
  | 0 => fun _ _ _ r h => by simp [lookasideref06_Same.l0] at h
  | k + 1 => by
    have ih0 := lookasideref06_Same.mono_l k
    · intro y0 y1 y2
      unfold lookasideref06_Same.l0
      repeat' first
      | (with_reducible exact ih0 _ _ _)
      | (with_reducible exact LeO.refl _)
      | (with_reducible exact LeO.none _)
      | (with_reducible refine LeO.ite ?_ ?_)
      | (with_reducible refine LeO.bind ?_ (fun _ => ?_))
      | exact ih0 _ _ _
      | exact LeO.none _
      | refine LeO.ite ?_ ?_
      | refine LeO.bind ?_ (fun _ => ?_)
theorem lookasideref06_Same.mono : ∀ a0 a1 k, LeO (lookasideref06_Same.f k a0 a1) (lookasideref06_Same.f (k + 1) a0 a1) := by
  intro a0 a1 k
  have ih0 := lookasideref06_Same.mono_l k
  unfold lookasideref06_Same.f
  repeat' first
      | (with_reducible exact ih0 _ _ _)
      | (with_reducible exact LeO.refl _)
      | (with_reducible exact LeO.none _)
      | (with_reducible refine LeO.ite ?_ ?_)
      | (with_reducible refine LeO.bind ?_ (fun _ => ?_))
      | exact ih0 _ _ _
      | exact LeO.none _
      | refine LeO.ite ?_ ?_
      | refine LeO.bind ?_ (fun _ => ?_)
set_option maxHeartbeats 8000000 in
set_option maxRecDepth 100000 in
theorem lookasideref06_Same.calls (k : Nat) (A0 : Option Addr) (c0 : Nat) (l0 : List (S26)) (A1 : Option Addr) (c1 : Nat) (l1 : List (S26)) (r : Bool) (w : World) (hr0 : Kd.C k26 w A0 l0.length l0) (hc0 : l0.length ≤ c0) (hr1 : Kd.C k26 w A1 l1.length l1) (hc1 : l1.length ≤ c1) (h : lookasideref06_Same.f k l0 l1 = some r) :
    Calls Try.prog 71 #[.slice A0 l0.length c0, .slice A1 l1.length c1] w fun e w' => e = .returned (.bool r) ∧ Drawn0 w w' := by
  have hu26 := Try.underlying26
  have HR0 := Aside0.mk hr0
  have HC0 := Aside0.mk hc0
  clear hr0 hc0
  have HR1 := Aside0.mk hr1
  have HC1 := Aside0.mk hc1
  clear hr1 hc1
  have H : (if (l0.length : Int) = (l1.length : Int) then (lookasideref06_Same.l0 k l0 l1 0) else (some false)) = some r := h
  clear h
  by_cases c3 : (l0.length : Int) = (l1.length : Int)
  · rw [if_pos c3] at H
    have c3b0 : ((l0.length : Int) == (l1.length : Int)) = true := beq_iff_eq.mpr c3
    have c3b1 : ((l0.length : Int) != (l1.length : Int)) = false := bne_eq_false_iff_eq.mpr c3
    have c3b2 : (l0.length == l1.length) = true := by first | simpa using c3 | (simp at c3 ⊢; omega)
    clear c3
    have H' := Aside0.mk H
    clear H
    go_enter Try.func71, Try.ntmps71
    go_wp2
    repeat (go_quiet (fail); try go_wp2)
    go_loopg [5] k (fun kq v5 w' => ∃ (x5_1 : Int), v5 = .int .i64 x5_1 ∧ Aside0 (lookasideref06_Same.l0 kq l0 l1 x5_1 = some r) ∧ Aside0 (kq ≤ k) ∧ Drawn0 w w')
    case atStart => exact ⟨(0), (by first | rfl | (simp; done) | (simp [*]; done)), H', ⟨Nat.le_refl _⟩, by repeat (first | exact Drawn0.refl _ | apply Drawn0.step)⟩
    case round =>
      clear H'
      try clear c1
      try clear p2
      try clear c3
      try clear c3b0
      try clear c3b1
      try clear c3b2
      obtain ⟨x5_1, rfl, HA, HK1, ⟨m1, rfl⟩⟩ := hrel
      cases gk with
      | zero => exact absurd HA.out (by simp [lookasideref06_Same.l0])
      | succ k1 =>
        have H := HA.out
        clear HA
        simp only [lookasideref06_Same.l0] at H
        by_cases c4 : x5_1 < (l0.length : Int)
        · rw [if_pos c4] at H
          have c4b0 : decide (x5_1 < (l0.length : Int)) = true := decide_eq_true c4
          clear c4
          by_cases c5 : 0 ≤ x5_1
          · rw [if_pos c5] at H
            have c5b0 : decide (0 ≤ x5_1) = true := decide_eq_true c5
            clear c5
            by_cases c6 : x5_1 < (l1.length : Int)
            · rw [if_pos c6] at H
              have c6b0 : decide (x5_1 < (l1.length : Int)) = true := decide_eq_true c6
              clear c6
              by_cases c7 : (!(((rd_T26 l0 x5_1).f0) == ((rd_T26 l1 x5_1).f0)) || (!(((rd_T26 l0 x5_1).f1) == ((rd_T26 l1 x5_1).f1)) || (!(((rd_T26 l0 x5_1).f2) == ((rd_T26 l1 x5_1).f2)) || (!(((rd_T26 l0 x5_1).f3) == ((rd_T26 l1 x5_1).f3)) || ((!(((rd_T26 l0 x5_1).f4.f0) == ((rd_T26 l1 x5_1).f4.f0)) || (!(((rd_T26 l0 x5_1).f4.f1) == ((rd_T26 l1 x5_1).f4.f1)) || (!(((rd_T26 l0 x5_1).f4.f2) == ((rd_T26 l1 x5_1).f4.f2)) || (!(((rd_T26 l0 x5_1).f4.f3) == ((rd_T26 l1 x5_1).f4.f3)) || (!(((rd_T26 l0 x5_1).f4.f4) == ((rd_T26 l1 x5_1).f4.f4)) || (!(((rd_T26 l0 x5_1).f4.f5) == ((rd_T26 l1 x5_1).f4.f5)))))))) || (!(((rd_T26 l0 x5_1).f5) == ((rd_T26 l1 x5_1).f5)))))))) = true
              · rw [if_pos c7] at H
                have c7b0 : (!(((rd_T26 l0 x5_1).f0) == ((rd_T26 l1 x5_1).f0)) || (!(((rd_T26 l0 x5_1).f1) == ((rd_T26 l1 x5_1).f1)) || (!(((rd_T26 l0 x5_1).f2) == ((rd_T26 l1 x5_1).f2)) || (!(((rd_T26 l0 x5_1).f3) == ((rd_T26 l1 x5_1).f3)) || ((!(((rd_T26 l0 x5_1).f4.f0) == ((rd_T26 l1 x5_1).f4.f0)) || (!(((rd_T26 l0 x5_1).f4.f1) == ((rd_T26 l1 x5_1).f4.f1)) || (!(((rd_T26 l0 x5_1).f4.f2) == ((rd_T26 l1 x5_1).f4.f2)) || (!(((rd_T26 l0 x5_1).f4.f3) == ((rd_T26 l1 x5_1).f4.f3)) || (!(((rd_T26 l0 x5_1).f4.f4) == ((rd_T26 l1 x5_1).f4.f4)) || (!(((rd_T26 l0 x5_1).f4.f5) == ((rd_T26 l1 x5_1).f4.f5)))))))) || (!(((rd_T26 l0 x5_1).f5) == ((rd_T26 l1 x5_1).f5)))))))) = true := c7
                clear c7
                obtain rfl := Option.some.inj H
                have p240 : 0 ≤ (x5_1 : Int) := of_decide_eq_true (by first | (with_reducible assumption) | assumption)
                have q240 : x5_1 < (l0.length : Int) := of_decide_eq_true (by first | (with_reducible assumption) | assumption)
                obtain ⟨ad240, e240, hx240_0, hx240_1, hx240_2, hx240_3, hx240_4, hx240_5, hx240_6, hx240_7, hx240_8, hx240_9, hx240_10⟩ := at_T26 HR0.out x5_1 p240 q240
                cases e240
                replace p240 := eq_true p240
                replace q240 := eq_true q240
                have p241 : 0 ≤ (x5_1 : Int) := of_decide_eq_true (by first | (with_reducible assumption) | assumption)
                have q241 : x5_1 < (l1.length : Int) := of_decide_eq_true (by first | (with_reducible assumption) | assumption)
                obtain ⟨ad241, e241, hx241_0, hx241_1, hx241_2, hx241_3, hx241_4, hx241_5, hx241_6, hx241_7, hx241_8, hx241_9, hx241_10⟩ := at_T26 HR1.out x5_1 p241 q241
                cases e241
                replace p241 := eq_true p241
                replace q241 := eq_true q241
                go_wp2
                repeat (go_quiet (fail); try go_wp2)
                go_ret
                exact ⟨by first | rfl | (simp; done) | (simp [*]; done), by repeat (first | exact Drawn0.refl _ | apply Drawn0.step)⟩
              · rw [if_neg c7] at H
                have c7b0 : (!(((rd_T26 l0 x5_1).f0) == ((rd_T26 l1 x5_1).f0)) || (!(((rd_T26 l0 x5_1).f1) == ((rd_T26 l1 x5_1).f1)) || (!(((rd_T26 l0 x5_1).f2) == ((rd_T26 l1 x5_1).f2)) || (!(((rd_T26 l0 x5_1).f3) == ((rd_T26 l1 x5_1).f3)) || ((!(((rd_T26 l0 x5_1).f4.f0) == ((rd_T26 l1 x5_1).f4.f0)) || (!(((rd_T26 l0 x5_1).f4.f1) == ((rd_T26 l1 x5_1).f4.f1)) || (!(((rd_T26 l0 x5_1).f4.f2) == ((rd_T26 l1 x5_1).f4.f2)) || (!(((rd_T26 l0 x5_1).f4.f3) == ((rd_T26 l1 x5_1).f4.f3)) || (!(((rd_T26 l0 x5_1).f4.f4) == ((rd_T26 l1 x5_1).f4.f4)) || (!(((rd_T26 l0 x5_1).f4.f5) == ((rd_T26 l1 x5_1).f4.f5)))))))) || (!(((rd_T26 l0 x5_1).f5) == ((rd_T26 l1 x5_1).f5)))))))) = false := by simpa using c7
                clear c7
                have H' := Aside0.mk H
                clear H
                have p240 : 0 ≤ (x5_1 : Int) := of_decide_eq_true (by first | (with_reducible assumption) | assumption)
                have q240 : x5_1 < (l0.length : Int) := of_decide_eq_true (by first | (with_reducible assumption) | assumption)
                obtain ⟨ad240, e240, hx240_0, hx240_1, hx240_2, hx240_3, hx240_4, hx240_5, hx240_6, hx240_7, hx240_8, hx240_9, hx240_10⟩ := at_T26 HR0.out x5_1 p240 q240
                cases e240
                replace p240 := eq_true p240
                replace q240 := eq_true q240
                have p241 : 0 ≤ (x5_1 : Int) := of_decide_eq_true (by first | (with_reducible assumption) | assumption)
                have q241 : x5_1 < (l1.length : Int) := of_decide_eq_true (by first | (with_reducible assumption) | assumption)
                obtain ⟨ad241, e241, hx241_0, hx241_1, hx241_2, hx241_3, hx241_4, hx241_5, hx241_6, hx241_7, hx241_8, hx241_9, hx241_10⟩ := at_T26 HR1.out x5_1 p241 q241
                cases e241
                replace p241 := eq_true p241
                replace q241 := eq_true q241
                go_wp2
                repeat (go_quiet (fail); try go_wp2)
                go_roundg k1
                case measure => have := HK1.out; omega
                case rel => exact ⟨(wrap64 (x5_1 + 1)), (by first | rfl | (simp; done) | (simp [*]; done)), H', ⟨by have := HK1.out; omega⟩, by repeat (first | exact Drawn0.refl _ | apply Drawn0.step)⟩
            · rw [if_neg c6] at H
              exact absurd H (by simp)
          · rw [if_neg c5] at H
            exact absurd H (by simp)
        · rw [if_neg c4] at H
          have c4b0 : decide (x5_1 < (l0.length : Int)) = false := decide_eq_false c4
          clear c4
          obtain rfl := Option.some.inj H
          go_wp2
          repeat (go_quiet (fail); try go_wp2)
          go_ret
          exact ⟨by first | rfl | (simp; done) | (simp [*]; done), by repeat (first | exact Drawn0.refl _ | apply Drawn0.step)⟩
  · rw [if_neg c3] at H
    have c3b0 : ((l0.length : Int) == (l1.length : Int)) = false := beq_eq_false_iff_ne.mpr c3
    have c3b1 : ((l0.length : Int) != (l1.length : Int)) = true := bne_iff_ne.mpr c3
    have c3b2 : (l0.length == l1.length) = false := by first | simpa using c3 | (simp at c3 ⊢; omega)
    obtain rfl := Option.some.inj H
    go_enter Try.func71, Try.ntmps71
    go_wp2
    repeat (go_quiet (fail); try go_wp2)
    go_ret
    exact ⟨by first | rfl | (simp; done) | (simp [*]; done), by repeat (first | exact Drawn0.refl _ | apply Drawn0.step)⟩

/-! ### lookasideref06_List: function 72 -/
def lookasideref06_List.l0 : Nat → List (S26) → List (S26) → Int → Option ((List (S26)))
  | 0, _, _, _ => none
  | k + 1, x0, x3, x4 => if x4 < (x0.length : Int) then (if 0 ≤ x4 then (if (rd_T26 x0 x4).f5 = true then (if x3.length < 3518437208883 then (lookasideref06_List.l0 k x0 (x3 ++ [(⟨(rd_T26 x0 x4).f0, (rd_T26 x0 x4).f1, (rd_T26 x0 x4).f2, (rd_T26 x0 x4).f3, (⟨(rd_T26 x0 x4).f4.f0, (rd_T26 x0 x4).f4.f1, (rd_T26 x0 x4).f4.f2, (rd_T26 x0 x4).f4.f3, (rd_T26 x0 x4).f4.f4, (rd_T26 x0 x4).f4.f5⟩ : S24), (rd_T26 x0 x4).f5⟩ : S26)]) (wrap64 (x4 + 1))) else (none)) else (lookasideref06_List.l0 k x0 x3 (wrap64 (x4 + 1)))) else (none)) else (some x3)
def lookasideref06_List.f (k : Nat) (l0 : List (S26)) : Option ((List (S26))) := lookasideref06_List.l0 k l0 ([] : List (S26)) 0
theorem lookasideref06_List.mono_l : ∀ k, (∀ y0 y1 y2, LeO (lookasideref06_List.l0 k y0 y1 y2) (lookasideref06_List.l0 (k + 1) y0 y1 y2))
  | 0 => fun _ _ _ r h => by simp [lookasideref06_List.l0] at h
  | k + 1 => by
    have ih0 := lookasideref06_List.mono_l k
    · intro y0 y1 y2
      unfold lookasideref06_List.l0
      repeat' first
      | (with_reducible exact ih0 _ _ _)
      | (with_reducible exact LeO.refl _)
      | (with_reducible exact LeO.none _)
      | (with_reducible refine LeO.ite ?_ ?_)
      | (with_reducible refine LeO.bind ?_ (fun _ => ?_))
      | exact ih0 _ _ _
      | exact LeO.none _
      | refine LeO.ite ?_ ?_
      | refine LeO.bind ?_ (fun _ => ?_)
theorem lookasideref06_List.mono : ∀ a0 k, LeO (lookasideref06_List.f k a0) (lookasideref06_List.f (k + 1) a0) := by
  intro a0 k
  have ih0 := lookasideref06_List.mono_l k
  unfold lookasideref06_List.f
  repeat' first
      | (with_reducible exact ih0 _ _ _)
      | (with_reducible exact LeO.refl _)
      | (with_reducible exact LeO.none _)
      | (with_reducible refine LeO.ite ?_ ?_)
      | (with_reducible refine LeO.bind ?_ (fun _ => ?_))
      | exact ih0 _ _ _
      | exact LeO.none _
      | refine LeO.ite ?_ ?_
      | refine LeO.bind ?_ (fun _ => ?_)
set_option maxHeartbeats 8000000 in
set_option maxRecDepth 100000 in
theorem lookasideref06_List.calls (k : Nat) (A0 : Option Addr) (c0 : Nat) (l0 : List (S26)) (r : List (S26)) (w : World) (hr0 : Kd.C k26 w A0 l0.length l0) (hc0 : l0.length ≤ c0) (h : lookasideref06_List.f k l0 = some r) :
    Calls Try.prog 72 #[.slice A0 l0.length c0] w fun e w' => ∃ v0_ : Value, e = .returned (v0_) ∧ Kd.R k26 26 w' w.heap.size (fun _ => True) v0_ r ∧ Below w.heap.size w w' := by
  have hu26 := Try.underlying26
  have HR0 := Aside0.mk hr0
  have HC0 := Aside0.mk hc0
  clear hr0 hc0
  have HB := Aside0.mk (Below.refl w.heap.size w)
  have H : (lookasideref06_List.l0 k l0 ([] : List (S26)) 0) = some r := h
  clear h
  have H' := Aside0.mk H
  clear H
  go_enter Try.func72, Try.ntmps72
  go_wp2
  go_loopg [3, 4] k (fun kq v3 v4 w' => ∃ (x3_1 : List (S26)) (x4_1 : Int), v4 = .int .i64 x4_1 ∧ Aside0 (lookasideref06_List.l0 kq l0 x3_1 x4_1 = some r) ∧ Aside0 (kq ≤ k) ∧ Aside0 (Kd.R k26 26 w' w.heap.size (fun _ => True) v3 x3_1) ∧ Aside0 (Below w.heap.size w w'))
  case atStart => exact ⟨(([] : List (S26))), (0), (by first | rfl | (simp; done) | (simp [*]; done)), H', ⟨Nat.le_refl _⟩, ⟨by first | exact Kd.R_nil _ _ _ _ _ | exact Kd.N_nil _ _ _ _ _ | exact Kd.V_nil _ _ _ _ _ | exact Kd.Q_nil _ _ _ _ _ | exact Kd.S_nil _ _ _ _ _⟩, ⟨by repeat (first | (with_reducible first | exact HB.out | apply below_alloc | apply pw_below_drewN | apply below_drew1) | exact HB.out)⟩⟩
  case round =>
    clear H'
    obtain ⟨x3_1, x4_1, rfl, HA, HK1, HO_3, HB⟩ := hrel
    cases gk with
    | zero => exact absurd HA.out (by simp [lookasideref06_List.l0])
    | succ k1 =>
      have H := HA.out
      clear HA
      simp only [lookasideref06_List.l0] at H
      by_cases c2 : x4_1 < (l0.length : Int)
      · rw [if_pos c2] at H
        have c2b0 : decide (x4_1 < (l0.length : Int)) = true := decide_eq_true c2
        clear c2
        by_cases c3 : 0 ≤ x4_1
        · rw [if_pos c3] at H
          have c3b0 : decide (0 ≤ x4_1) = true := decide_eq_true c3
          clear c3
          obtain ⟨bq4, hbq4⟩ : ∃ b_ : Bool, b_ = ((rd_T26 l0 x4_1).f5) := ⟨_, rfl⟩
          replace H : (if bq4 = true then (if x3_1.length < 3518437208883 then (lookasideref06_List.l0 k1 l0 (x3_1 ++ [(⟨(rd_T26 l0 x4_1).f0, (rd_T26 l0 x4_1).f1, (rd_T26 l0 x4_1).f2, (rd_T26 l0 x4_1).f3, (⟨(rd_T26 l0 x4_1).f4.f0, (rd_T26 l0 x4_1).f4.f1, (rd_T26 l0 x4_1).f4.f2, (rd_T26 l0 x4_1).f4.f3, (rd_T26 l0 x4_1).f4.f4, (rd_T26 l0 x4_1).f4.f5⟩ : S24), bq4⟩ : S26)]) (wrap64 (x4_1 + 1))) else (none)) else (lookasideref06_List.l0 k1 l0 x3_1 (wrap64 (x4_1 + 1)))) = some r := by rw [← hbq4] at H; exact H
          have Nbq4 := Aside0.mk hbq4
          clear hbq4
          by_cases c5 : bq4 = true
          · subst c5
            have H1 : (if x3_1.length < 3518437208883 then (lookasideref06_List.l0 k1 l0 (x3_1 ++ [(⟨(rd_T26 l0 x4_1).f0, (rd_T26 l0 x4_1).f1, (rd_T26 l0 x4_1).f2, (rd_T26 l0 x4_1).f3, (⟨(rd_T26 l0 x4_1).f4.f0, (rd_T26 l0 x4_1).f4.f1, (rd_T26 l0 x4_1).f4.f2, (rd_T26 l0 x4_1).f4.f3, (rd_T26 l0 x4_1).f4.f4, (rd_T26 l0 x4_1).f4.f5⟩ : S24), true⟩ : S26)]) (wrap64 (x4_1 + 1))) else (none)) = some r := by rw [if_pos rfl] at H; exact H
            clear H
            have H := H1
            clear H1
            by_cases c6 : x3_1.length < 3518437208883
            · rw [if_pos c6] at H
              have LMc6 := Aside0.mk c6
              clear c6
              obtain ⟨y244, hy244⟩ : ∃ y_ : List (S26), y_ = (x3_1 ++ [(⟨(rd_T26 l0 x4_1).f0, (rd_T26 l0 x4_1).f1, (rd_T26 l0 x4_1).f2, (rd_T26 l0 x4_1).f3, (⟨(rd_T26 l0 x4_1).f4.f0, (rd_T26 l0 x4_1).f4.f1, (rd_T26 l0 x4_1).f4.f2, (rd_T26 l0 x4_1).f4.f3, (rd_T26 l0 x4_1).f4.f4, (rd_T26 l0 x4_1).f4.f5⟩ : S24), true⟩ : S26)]) := ⟨_, rfl⟩
              replace H : (lookasideref06_List.l0 k1 l0 y244 (wrap64 (x4_1 + 1))) = some r := by first | (rw [hy244]; with_reducible exact H) | (have H2_ := (Option.bind_some _ _).symm.trans H; rw [hy244]; with_reducible exact H2_) | (have H2_ := (Option.bind_some _ _).symm.trans H; with_reducible exact H2_) | with_reducible exact H | (rw [hy244]; exact H) | exact H
              have Ny244 := Aside0.mk hy244
              clear hy244
              have H' := Aside0.mk H
              clear H
              have p242 : 0 ≤ (x4_1 : Int) := of_decide_eq_true (by first | (with_reducible assumption) | assumption)
              have q242 : x4_1 < (l0.length : Int) := of_decide_eq_true (by first | (with_reducible assumption) | assumption)
              obtain ⟨ad242, e242, hx242_0, hx242_1, hx242_2, hx242_3, hx242_4, hx242_5, hx242_6, hx242_7, hx242_8, hx242_9, hx242_10⟩ := at_T26 HR0.out x4_1 p242 q242
              (try rw [← Nbq4.out] at hx242_4)
              (try rw [← Nbq4.out] at hx242_5)
              (try rw [← Nbq4.out] at hx242_6)
              (try rw [← Nbq4.out] at hx242_7)
              (try rw [← Nbq4.out] at hx242_8)
              (try rw [← Nbq4.out] at hx242_9)
              (try rw [← Nbq4.out] at hx242_10)
              cases e242
              replace hx242_0 := (HB.out.cell (World.block_lt_of_cell? w _ hx242_0)).trans hx242_0
              replace hx242_1 := (HB.out.cell (World.block_lt_of_cell? w _ hx242_1)).trans hx242_1
              replace hx242_2 := (HB.out.cell (World.block_lt_of_cell? w _ hx242_2)).trans hx242_2
              replace hx242_3 := (HB.out.cell (World.block_lt_of_cell? w _ hx242_3)).trans hx242_3
              replace hx242_4 := (HB.out.cell (World.block_lt_of_cell? w _ hx242_4)).trans hx242_4
              replace hx242_5 := (HB.out.cell (World.block_lt_of_cell? w _ hx242_5)).trans hx242_5
              replace hx242_6 := (HB.out.cell (World.block_lt_of_cell? w _ hx242_6)).trans hx242_6
              replace hx242_7 := (HB.out.cell (World.block_lt_of_cell? w _ hx242_7)).trans hx242_7
              replace hx242_8 := (HB.out.cell (World.block_lt_of_cell? w _ hx242_8)).trans hx242_8
              replace hx242_9 := (HB.out.cell (World.block_lt_of_cell? w _ hx242_9)).trans hx242_9
              replace hx242_10 := (HB.out.cell (World.block_lt_of_cell? w _ hx242_10)).trans hx242_10
              replace p242 := eq_true p242
              replace q242 := eq_true q242
              have p243 : 0 ≤ (x4_1 : Int) := of_decide_eq_true (by first | (with_reducible assumption) | assumption)
              have q243 : x4_1 < (l0.length : Int) := of_decide_eq_true (by first | (with_reducible assumption) | assumption)
              obtain ⟨ad243, e243, hx243_0, hx243_1, hx243_2, hx243_3, hx243_4, hx243_5, hx243_6, hx243_7, hx243_8, hx243_9, hx243_10⟩ := at_T26 HR0.out x4_1 p243 q243
              (try rw [← Nbq4.out] at hx243_4)
              (try rw [← Nbq4.out] at hx243_5)
              (try rw [← Nbq4.out] at hx243_6)
              (try rw [← Nbq4.out] at hx243_7)
              (try rw [← Nbq4.out] at hx243_8)
              (try rw [← Nbq4.out] at hx243_9)
              (try rw [← Nbq4.out] at hx243_10)
              obtain rfl : ad242 = ad243 := (by injection e243)
              replace hx243_0 := (HB.out.cell (World.block_lt_of_cell? w _ hx243_0)).trans hx243_0
              replace hx243_1 := (HB.out.cell (World.block_lt_of_cell? w _ hx243_1)).trans hx243_1
              replace hx243_2 := (HB.out.cell (World.block_lt_of_cell? w _ hx243_2)).trans hx243_2
              replace hx243_3 := (HB.out.cell (World.block_lt_of_cell? w _ hx243_3)).trans hx243_3
              replace hx243_4 := (HB.out.cell (World.block_lt_of_cell? w _ hx243_4)).trans hx243_4
              replace hx243_5 := (HB.out.cell (World.block_lt_of_cell? w _ hx243_5)).trans hx243_5
              replace hx243_6 := (HB.out.cell (World.block_lt_of_cell? w _ hx243_6)).trans hx243_6
              replace hx243_7 := (HB.out.cell (World.block_lt_of_cell? w _ hx243_7)).trans hx243_7
              replace hx243_8 := (HB.out.cell (World.block_lt_of_cell? w _ hx243_8)).trans hx243_8
              replace hx243_9 := (HB.out.cell (World.block_lt_of_cell? w _ hx243_9)).trans hx243_9
              replace hx243_10 := (HB.out.cell (World.block_lt_of_cell? w _ hx243_10)).trans hx243_10
              replace p243 := eq_true p243
              replace q243 := eq_true q243
              go_wp2_with (first | ((with_reducible refine gate_builtin (b := .append) (xs := #[.tmp 16, .tmp 21]) rfl ?_); at_builtin; refine Kd.R_append k26 (w0 := w) w.heap.size rfl (.tmp 16) (.tmp 21) 33 26 (.agg #[(.int .i64 0), (.int .i64 0), (.int .u64 0), (.int .u64 0), (.bool false), (.bool false), (.bool false), (.bool false), (.bool false), (.bool false), (.bool false)]) 40 rfl Try.underlying33 info26 rfl (by decide) (by omega) u3 x3_1 (⟨(rd_T26 l0 x4_1).f0, (rd_T26 l0 x4_1).f1, (rd_T26 l0 x4_1).f2, (rd_T26 l0 x4_1).f3, (⟨(rd_T26 l0 x4_1).f4.f0, (rd_T26 l0 x4_1).f4.f1, (rd_T26 l0 x4_1).f4.f2, (rd_T26 l0 x4_1).f4.f3, (rd_T26 l0 x4_1).f4.f4, (rd_T26 l0 x4_1).f4.f5⟩ : S24), true⟩ : S26) [.int .i64 ((rd_T26 l0 x4_1).f0), .int .i64 ((rd_T26 l0 x4_1).f1), .int .u64 ((rd_T26 l0 x4_1).f2), .int .u64 ((rd_T26 l0 x4_1).f3), .bool ((rd_T26 l0 x4_1).f4.f0), .bool ((rd_T26 l0 x4_1).f4.f1), .bool ((rd_T26 l0 x4_1).f4.f2), .bool ((rd_T26 l0 x4_1).f4.f3), .bool ((rd_T26 l0 x4_1).f4.f4), .bool ((rd_T26 l0 x4_1).f4.f5), .bool true] (fun _ => True) (fun _ => False) rfl rfl ?aP (fun _ hk => hk.elim) ?aF ?aO ?aB ?aS ?aL ?_; (case aP => exact k26_mkM _ _ _ (⟨(rd_T26 l0 x4_1).f0, (rd_T26 l0 x4_1).f1, (rd_T26 l0 x4_1).f2, (rd_T26 l0 x4_1).f3, (⟨(rd_T26 l0 x4_1).f4.f0, (rd_T26 l0 x4_1).f4.f1, (rd_T26 l0 x4_1).f4.f2, (rd_T26 l0 x4_1).f4.f3, (rd_T26 l0 x4_1).f4.f4, (rd_T26 l0 x4_1).f4.f5⟩ : S24), true⟩ : S26)); (case aB => exact (by repeat (first | (with_reducible first | exact HB.out | apply below_alloc | apply pw_below_drewN | apply below_drew1) | exact HB.out))); (case aF => exact (fun _ _ => trivial)); (case aO => exact (by (with_reducible repeat (first | apply Kd.R_alloc | apply Kd.R_drewN | apply Kd.R_drew)); exact HO_3.out)); (case aS => exact (below_size (by repeat (first | (with_reducible first | exact HB.out | apply below_alloc | apply pw_below_drewN | apply below_drew1) | exact HB.out)))); (case aL => have := LMc6.out; omega); intro v245 w7 ho hb hg hat; rw [← Ny244.out] at ho; have n0_ := Aside0.mk (hb); have n1_ := Aside0.mk (ho); clear HB; clear HO_3; have HB := n0_; have HO246 := n1_; clear n0_ n1_; clear ho hb hg hat))
              go_roundg k1
              case measure => have := HK1.out; omega
              case rel => exact ⟨(y244), (wrap64 (x4_1 + 1)), (by first | rfl | (simp; done) | (simp [*]; done)), H', ⟨by have := HK1.out; omega⟩, ⟨by (with_reducible repeat (first | apply Kd.R_alloc | apply Kd.R_drewN | apply Kd.R_drew)); exact HO246.out⟩, ⟨by repeat (first | (with_reducible first | exact HB.out | apply below_alloc | apply pw_below_drewN | apply below_drew1) | exact HB.out)⟩⟩
            · rw [if_neg c6] at H
              exact absurd H (by simp)
          · replace c5 := Bool.eq_false_iff.mpr c5
            subst c5
            have H1 : (lookasideref06_List.l0 k1 l0 x3_1 (wrap64 (x4_1 + 1))) = some r := by rw [if_neg (show ¬ (false = true) by decide)] at H; exact H
            clear H
            have H := H1
            clear H1
            have H' := Aside0.mk H
            clear H
            have p242 : 0 ≤ (x4_1 : Int) := of_decide_eq_true (by first | (with_reducible assumption) | assumption)
            have q242 : x4_1 < (l0.length : Int) := of_decide_eq_true (by first | (with_reducible assumption) | assumption)
            obtain ⟨ad242, e242, hx242_0, hx242_1, hx242_2, hx242_3, hx242_4, hx242_5, hx242_6, hx242_7, hx242_8, hx242_9, hx242_10⟩ := at_T26 HR0.out x4_1 p242 q242
            (try rw [← Nbq4.out] at hx242_4)
            (try rw [← Nbq4.out] at hx242_5)
            (try rw [← Nbq4.out] at hx242_6)
            (try rw [← Nbq4.out] at hx242_7)
            (try rw [← Nbq4.out] at hx242_8)
            (try rw [← Nbq4.out] at hx242_9)
            (try rw [← Nbq4.out] at hx242_10)
            cases e242
            replace hx242_0 := (HB.out.cell (World.block_lt_of_cell? w _ hx242_0)).trans hx242_0
            replace hx242_1 := (HB.out.cell (World.block_lt_of_cell? w _ hx242_1)).trans hx242_1
            replace hx242_2 := (HB.out.cell (World.block_lt_of_cell? w _ hx242_2)).trans hx242_2
            replace hx242_3 := (HB.out.cell (World.block_lt_of_cell? w _ hx242_3)).trans hx242_3
            replace hx242_4 := (HB.out.cell (World.block_lt_of_cell? w _ hx242_4)).trans hx242_4
            replace hx242_5 := (HB.out.cell (World.block_lt_of_cell? w _ hx242_5)).trans hx242_5
            replace hx242_6 := (HB.out.cell (World.block_lt_of_cell? w _ hx242_6)).trans hx242_6
            replace hx242_7 := (HB.out.cell (World.block_lt_of_cell? w _ hx242_7)).trans hx242_7
            replace hx242_8 := (HB.out.cell (World.block_lt_of_cell? w _ hx242_8)).trans hx242_8
            replace hx242_9 := (HB.out.cell (World.block_lt_of_cell? w _ hx242_9)).trans hx242_9
            replace hx242_10 := (HB.out.cell (World.block_lt_of_cell? w _ hx242_10)).trans hx242_10
            replace p242 := eq_true p242
            replace q242 := eq_true q242
            go_wp2
            go_roundg k1
            case measure => have := HK1.out; omega
            case rel => exact ⟨(x3_1), (wrap64 (x4_1 + 1)), (by first | rfl | (simp; done) | (simp [*]; done)), H', ⟨by have := HK1.out; omega⟩, ⟨by (with_reducible repeat (first | apply Kd.R_alloc | apply Kd.R_drewN | apply Kd.R_drew)); exact HO_3.out⟩, ⟨by repeat (first | (with_reducible first | exact HB.out | apply below_alloc | apply pw_below_drewN | apply below_drew1) | exact HB.out)⟩⟩
        · rw [if_neg c3] at H
          exact absurd H (by simp)
      · rw [if_neg c2] at H
        have c2b0 : decide (x4_1 < (l0.length : Int)) = false := decide_eq_false c2
        clear c2
        obtain rfl := Option.some.inj H
        go_wp2
        go_ret
        exact ⟨_, by first | rfl | (simp [errW_none, errW_some] <;> rfl) | (simp [*, errW_none, errW_some] <;> rfl), by (with_reducible repeat (first | apply Kd.R_alloc | apply Kd.R_drewN | apply Kd.R_drew)); exact HO_3.out, by repeat (first | (with_reducible first | exact HB.out | apply below_alloc | apply pw_below_drewN | apply below_drew1) | exact HB.out)⟩

-- NOT PRINTED: function 31 (lookasidelaw06_like)

-- NOT PRINTED: function 9 (lookasidelaw06_TlbPlays)

end Go.Proofs.Ythclbckkfgmbaaa.QTlbPlays
