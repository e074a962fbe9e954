import Derived.Test.YtjnffegjpkbjmaaGreatQTsbPlaysx0
/- merged: YtjnffegjpkbjmaaGreatQTsbPlaysx1 -/
namespace Go.Proofs.YtjnffegjpkbjmaaGreat.QTsbPlays
open Go.RowKit Go.Proofs.YtjnffegjpkbjmaaGreatW.PrintWords Go.Proofs.YtjnffegjpkbjmaaGreatW.PrintLast Go.Proofs.YtjnffegjpkbjmaaGreatW.PrintMore
attribute [local go_sem] max2_int min2_int max_two min_two max_three min_three max_four min_four   -- for this text's walks alone
set_option linter.unusedVariables false
set_option linter.unusedSimpArgs false

theorem eqA39 (d : Nat) (w : World) (x0 y0 : Bool) (x1 y1 : Bool) (x2 y2 : Bool) (x3 y3 : Bool) (x4 y4 : Bool) (x5 y5 : Bool) :
    (Op.equalIn (d + 2) 39 (.agg #[.bool x0, .bool x1, .bool x2, .bool x3, .bool x4, .bool x5]) (.agg #[.bool y0, .bool y1, .bool y2, .bool y3, .bool y4, .bool y5])).run Tryz.prog w = .ok (x0 == y0 && (x1 == y1 && (x2 == y2 && (x3 == y3 && (x4 == y4 && (x5 == y5)))))) w := by
  refine eqA_of Tryz.underlying39 (by kernel_rfl) ?_
  refine eqf_cons (by rfl) (by go_simp; rfl) (by go_simp; rfl) (by go_simp) ?_
  refine eqf_cons (by rfl) (by go_simp; rfl) (by go_simp; rfl) (by go_simp) ?_
  refine eqf_cons (by rfl) (by go_simp; rfl) (by go_simp; rfl) (by go_simp) ?_
  refine eqf_cons (by rfl) (by go_simp; rfl) (by go_simp; rfl) (by go_simp) ?_
  refine eqf_cons (by rfl) (by go_simp; rfl) (by go_simp; rfl) (by go_simp) ?_
  exact eqf_last (by rfl) (by go_simp; rfl) (by go_simp; rfl) (by go_simp)
theorem eqA41 (d : Nat) (w : World) (x0 y0 : Int) (x1 y1 : Int) (x2 y2 : Int) (x3 y3 : Int) (x4 y4 : Bool) (x5 y5 : Bool) (x6 y6 : Bool) (x7 y7 : Bool) (x8 y8 : Bool) (x9 y9 : Bool) (x10 y10 : Bool) :
    (Op.equalIn (d + 3) 41 (.agg #[.int .i64 x0, .int .i64 x1, .int .u64 x2, .int .u64 x3, .bool x4, .bool x5, .bool x6, .bool x7, .bool x8, .bool x9, .bool x10]) (.agg #[.int .i64 y0, .int .i64 y1, .int .u64 y2, .int .u64 y3, .bool y4, .bool y5, .bool y6, .bool y7, .bool y8, .bool y9, .bool y10])).run Tryz.prog w = .ok (x0 == y0 && (x1 == y1 && (x2 == y2 && (x3 == y3 && ((x4 == y4 && (x5 == y5 && (x6 == y6 && (x7 == y7 && (x8 == y8 && (x9 == y9)))))) && (x10 == y10)))))) w := by
  refine eqA_of Tryz.underlying41 (by kernel_rfl) ?_
  refine eqf_cons (by rfl) (by go_simp; rfl) (by go_simp; rfl) (by go_simp) ?_
  refine eqf_cons (by rfl) (by go_simp; rfl) (by go_simp; rfl) (by go_simp) ?_
  refine eqf_cons (by rfl) (by go_simp; rfl) (by go_simp; rfl) (by go_simp) ?_
  refine eqf_cons (by rfl) (by go_simp; rfl) (by go_simp; rfl) (by go_simp) ?_
  refine eqf_cons (by rfl) (by go_simp) (by go_simp) (eqA39 (d + 0) w _ _ _ _ _ _ _ _ _ _ _ _) ?_
  exact eqf_last (by rfl) (by go_simp; rfl) (by go_simp; rfl) (by go_simp)
end Go.Proofs.YtjnffegjpkbjmaaGreat.QTsbPlays
namespace Go.Proofs.YtjnffegjpkbjmaaGreat.QTsbPlays
open Go.RowKit Go.Proofs.YtjnffegjpkbjmaaGreatW.PrintWords Go.Proofs.YtjnffegjpkbjmaaGreatW.PrintLast Go.Proofs.YtjnffegjpkbjmaaGreatW.PrintMore
attribute [local go_sem] max2_int min2_int max_two min_two max_three min_three max_four min_four   -- for this text's walks alone
set_option linter.unusedVariables false
set_option linter.unusedSimpArgs false
attribute [local go_sem high] eqA41
/-! ### lookasideref06_Same: function 14 -/
def lookasideref06_Same.l0 : Nat → List (S41) → List (S41) → Int → Option (Bool)
  | 0, _, _, _ => none
  | k + 1, x0, x1, x5 => if x5 < (x0.length : Int) then (if 0 ≤ x5 then (if x5 < (x1.length : Int) then (if (!(((rd_T41 x0 x5).f0) == ((rd_T41 x1 x5).f0)) || (!(((rd_T41 x0 x5).f1) == ((rd_T41 x1 x5).f1)) || (!(((rd_T41 x0 x5).f2) == ((rd_T41 x1 x5).f2)) || (!(((rd_T41 x0 x5).f3) == ((rd_T41 x1 x5).f3)) || ((!(((rd_T41 x0 x5).f4.f0) == ((rd_T41 x1 x5).f4.f0)) || (!(((rd_T41 x0 x5).f4.f1) == ((rd_T41 x1 x5).f4.f1)) || (!(((rd_T41 x0 x5).f4.f2) == ((rd_T41 x1 x5).f4.f2)) || (!(((rd_T41 x0 x5).f4.f3) == ((rd_T41 x1 x5).f4.f3)) || (!(((rd_T41 x0 x5).f4.f4) == ((rd_T41 x1 x5).f4.f4)) || (!(((rd_T41 x0 x5).f4.f5) == ((rd_T41 x1 x5).f4.f5)))))))) || (!(((rd_T41 x0 x5).f5) == ((rd_T41 x1 x5).f5)))))))) = true then (some false) else (lookasideref06_Same.l0 k x0 x1 (wrap64 (x5 + 1)))) else (none)) else (none)) else (some true)
def lookasideref06_Same.f (k : Nat) (l0 : List (S41)) (l1 : List (S41)) : Option (Bool) := if (l0.length : Int) = (l1.length : Int) then (lookasideref06_Same.l0 k l0 l1 0) else (some false)
set_option maxHeartbeats 8000000 in
set_option maxRecDepth 100000 in
theorem lookasideref06_Same.calls (k : Nat) (A0 : Option Addr) (c0 : Nat) (l0 : List (S41)) (A1 : Option Addr) (c1 : Nat) (l1 : List (S41)) (r : Bool) (w : World) (hr0 : Kd.C k41 w A0 l0.length l0) (hc0 : l0.length ≤ c0) (hr1 : Kd.C k41 w A1 l1.length l1) (hc1 : l1.length ≤ c1) (h : lookasideref06_Same.f k l0 l1 = some r) :
    Calls Tryz.prog 14 #[.slice A0 l0.length c0, .slice A1 l1.length c1] w fun e w' => e = .returned (.bool r) ∧ Drawn0 w w' := by
  have hu41 := Tryz.underlying41
  have HR0 := Aside0.mk hr0
  have HC0 := Aside0.mk hc0
  clear hr0 hc0
  have HR1 := Aside0.mk hr1
  have HC1 := Aside0.mk hc1
  clear hr1 hc1
  have H : (if (l0.length : Int) = (l1.length : Int) then (lookasideref06_Same.l0 k l0 l1 0) else (some false)) = some r := h
  clear h
  by_cases c3 : (l0.length : Int) = (l1.length : Int)
  · rw [if_pos c3] at H
    have c3b0 : ((l0.length : Int) == (l1.length : Int)) = true := beq_iff_eq.mpr c3
    have c3b1 : ((l0.length : Int) != (l1.length : Int)) = false := bne_eq_false_iff_eq.mpr c3
    have c3b2 : (l0.length == l1.length) = true := by first | simpa using c3 | (simp at c3 ⊢; omega)
    clear c3
    have H' := Aside0.mk H
    clear H
    go_enter Tryz.func14, Tryz.ntmps14
    go_wp2
    repeat (go_quiet (fail); try go_wp2)
    go_loopg [5] k (fun kq v5 w' => ∃ (x5_1 : Int), v5 = .int .i64 x5_1 ∧ Aside0 (lookasideref06_Same.l0 kq l0 l1 x5_1 = some r) ∧ Aside0 (kq ≤ k) ∧ Drawn0 w w')
    case atStart => exact ⟨(0), (by first | rfl | (simp; done) | (simp [*]; done)), H', ⟨Nat.le_refl _⟩, by repeat (first | exact Drawn0.refl _ | apply Drawn0.step)⟩
    case round =>
      clear H'
      try clear c1
      try clear p2
      try clear c3
      try clear c3b0
      try clear c3b1
      try clear c3b2
      obtain ⟨x5_1, rfl, HA, HK1, ⟨m1, rfl⟩⟩ := hrel
      cases gk with
      | zero => exact absurd HA.out (by simp [lookasideref06_Same.l0])
      | succ k1 =>
        have H := HA.out
        clear HA
        simp only [lookasideref06_Same.l0] at H
        by_cases c4 : x5_1 < (l0.length : Int)
        · rw [if_pos c4] at H
          have c4b0 : decide (x5_1 < (l0.length : Int)) = true := decide_eq_true c4
          clear c4
          by_cases c5 : 0 ≤ x5_1
          · rw [if_pos c5] at H
            have c5b0 : decide (0 ≤ x5_1) = true := decide_eq_true c5
            clear c5
            by_cases c6 : x5_1 < (l1.length : Int)
            · rw [if_pos c6] at H
              have c6b0 : decide (x5_1 < (l1.length : Int)) = true := decide_eq_true c6
              clear c6
              by_cases c7 : (!(((rd_T41 l0 x5_1).f0) == ((rd_T41 l1 x5_1).f0)) || (!(((rd_T41 l0 x5_1).f1) == ((rd_T41 l1 x5_1).f1)) || (!(((rd_T41 l0 x5_1).f2) == ((rd_T41 l1 x5_1).f2)) || (!(((rd_T41 l0 x5_1).f3) == ((rd_T41 l1 x5_1).f3)) || ((!(((rd_T41 l0 x5_1).f4.f0) == ((rd_T41 l1 x5_1).f4.f0)) || (!(((rd_T41 l0 x5_1).f4.f1) == ((rd_T41 l1 x5_1).f4.f1)) || (!(((rd_T41 l0 x5_1).f4.f2) == ((rd_T41 l1 x5_1).f4.f2)) || (!(((rd_T41 l0 x5_1).f4.f3) == ((rd_T41 l1 x5_1).f4.f3)) || (!(((rd_T41 l0 x5_1).f4.f4) == ((rd_T41 l1 x5_1).f4.f4)) || (!(((rd_T41 l0 x5_1).f4.f5) == ((rd_T41 l1 x5_1).f4.f5)))))))) || (!(((rd_T41 l0 x5_1).f5) == ((rd_T41 l1 x5_1).f5)))))))) = true
              · rw [if_pos c7] at H
                have c7b0 : (!(((rd_T41 l0 x5_1).f0) == ((rd_T41 l1 x5_1).f0)) || (!(((rd_T41 l0 x5_1).f1) == ((rd_T41 l1 x5_1).f1)) || (!(((rd_T41 l0 x5_1).f2) == ((rd_T41 l1 x5_1).f2)) || (!(((rd_T41 l0 x5_1).f3) == ((rd_T41 l1 x5_1).f3)) || ((!(((rd_T41 l0 x5_1).f4.f0) == ((rd_T41 l1 x5_1).f4.f0)) || (!(((rd_T41 l0 x5_1).f4.f1) == ((rd_T41 l1 x5_1).f4.f1)) || (!(((rd_T41 l0 x5_1).f4.f2) == ((rd_T41 l1 x5_1).f4.f2)) || (!(((rd_T41 l0 x5_1).f4.f3) == ((rd_T41 l1 x5_1).f4.f3)) || (!(((rd_T41 l0 x5_1).f4.f4) == ((rd_T41 l1 x5_1).f4.f4)) || (!(((rd_T41 l0 x5_1).f4.f5) == ((rd_T41 l1 x5_1).f4.f5)))))))) || (!(((rd_T41 l0 x5_1).f5) == ((rd_T41 l1 x5_1).f5)))))))) = true := c7
                clear c7
                obtain rfl := Option.some.inj H
                have p449 : 0 ≤ (x5_1 : Int) := of_decide_eq_true (by first | (with_reducible assumption) | assumption)
                have q449 : x5_1 < (l0.length : Int) := of_decide_eq_true (by first | (with_reducible assumption) | assumption)
                obtain ⟨ad449, e449, hx449_0, hx449_1, hx449_2, hx449_3, hx449_4, hx449_5, hx449_6, hx449_7, hx449_8, hx449_9, hx449_10⟩ := at_T41 HR0.out x5_1 p449 q449
                cases e449
                replace p449 := eq_true p449
                replace q449 := eq_true q449
                have p450 : 0 ≤ (x5_1 : Int) := of_decide_eq_true (by first | (with_reducible assumption) | assumption)
                have q450 : x5_1 < (l1.length : Int) := of_decide_eq_true (by first | (with_reducible assumption) | assumption)
                obtain ⟨ad450, e450, hx450_0, hx450_1, hx450_2, hx450_3, hx450_4, hx450_5, hx450_6, hx450_7, hx450_8, hx450_9, hx450_10⟩ := at_T41 HR1.out x5_1 p450 q450
                cases e450
                replace p450 := eq_true p450
                replace q450 := eq_true q450
                go_wp2
                repeat (go_quiet (fail); try go_wp2)
                go_ret
                exact ⟨by first | rfl | (simp; done) | (simp [*]; done), by repeat (first | exact Drawn0.refl _ | apply Drawn0.step)⟩
              · rw [if_neg c7] at H
                have c7b0 : (!(((rd_T41 l0 x5_1).f0) == ((rd_T41 l1 x5_1).f0)) || (!(((rd_T41 l0 x5_1).f1) == ((rd_T41 l1 x5_1).f1)) || (!(((rd_T41 l0 x5_1).f2) == ((rd_T41 l1 x5_1).f2)) || (!(((rd_T41 l0 x5_1).f3) == ((rd_T41 l1 x5_1).f3)) || ((!(((rd_T41 l0 x5_1).f4.f0) == ((rd_T41 l1 x5_1).f4.f0)) || (!(((rd_T41 l0 x5_1).f4.f1) == ((rd_T41 l1 x5_1).f4.f1)) || (!(((rd_T41 l0 x5_1).f4.f2) == ((rd_T41 l1 x5_1).f4.f2)) || (!(((rd_T41 l0 x5_1).f4.f3) == ((rd_T41 l1 x5_1).f4.f3)) || (!(((rd_T41 l0 x5_1).f4.f4) == ((rd_T41 l1 x5_1).f4.f4)) || (!(((rd_T41 l0 x5_1).f4.f5) == ((rd_T41 l1 x5_1).f4.f5)))))))) || (!(((rd_T41 l0 x5_1).f5) == ((rd_T41 l1 x5_1).f5)))))))) = false := by simpa using c7
                clear c7
                have H' := Aside0.mk H
                clear H
                have p449 : 0 ≤ (x5_1 : Int) := of_decide_eq_true (by first | (with_reducible assumption) | assumption)
                have q449 : x5_1 < (l0.length : Int) := of_decide_eq_true (by first | (with_reducible assumption) | assumption)
                obtain ⟨ad449, e449, hx449_0, hx449_1, hx449_2, hx449_3, hx449_4, hx449_5, hx449_6, hx449_7, hx449_8, hx449_9, hx449_10⟩ := at_T41 HR0.out x5_1 p449 q449
                cases e449
                replace p449 := eq_true p449
                replace q449 := eq_true q449
                have p450 : 0 ≤ (x5_1 : Int) := of_decide_eq_true (by first | (with_reducible assumption) | assumption)
                have q450 : x5_1 < (l1.length : Int) := of_decide_eq_true (by first | (with_reducible assumption) | assumption)
                obtain ⟨ad450, e450, hx450_0, hx450_1, hx450_2, hx450_3, hx450_4, hx450_5, hx450_6, hx450_7, hx450_8, hx450_9, hx450_10⟩ := at_T41 HR1.out x5_1 p450 q450
                cases e450
                replace p450 := eq_true p450
                replace q450 := eq_true q450
                go_wp2
                repeat (go_quiet (fail); try go_wp2)
                go_roundg k1
                case measure => have := HK1.out; omega
                case rel => exact ⟨(wrap64 (x5_1 + 1)), (by first | rfl | (simp; done) | (simp [*]; done)), H', ⟨by have := HK1.out; omega⟩, by repeat (first | exact Drawn0.refl _ | apply Drawn0.step)⟩
            · rw [if_neg c6] at H
              exact absurd H (by simp)
          · rw [if_neg c5] at H
            exact absurd H (by simp)
        · rw [if_neg c4] at H
          have c4b0 : decide (x5_1 < (l0.length : Int)) = false := decide_eq_false c4
          clear c4
          obtain rfl := Option.some.inj H
          go_wp2
          repeat (go_quiet (fail); try go_wp2)
          go_ret
          exact ⟨by first | rfl | (simp; done) | (simp [*]; done), by repeat (first | exact Drawn0.refl _ | apply Drawn0.step)⟩
  · rw [if_neg c3] at H
    have c3b0 : ((l0.length : Int) == (l1.length : Int)) = false := beq_eq_false_iff_ne.mpr c3
    have c3b1 : ((l0.length : Int) != (l1.length : Int)) = true := bne_iff_ne.mpr c3
    have c3b2 : (l0.length == l1.length) = false := by first | simpa using c3 | (simp at c3 ⊢; omega)
    obtain rfl := Option.some.inj H
    go_enter Tryz.func14, Tryz.ntmps14
    go_wp2
    repeat (go_quiet (fail); try go_wp2)
    go_ret
    exact ⟨by first | rfl | (simp; done) | (simp [*]; done), by repeat (first | exact Drawn0.refl _ | apply Drawn0.step)⟩
end Go.Proofs.YtjnffegjpkbjmaaGreat.QTsbPlays
