-- Taken out of a text that a program of this session printed (wip/print/myprint.py, wip/print/take.py); Lean checks it.
import Derived.Test.YtjnffegjpkbjmaaQTsbPlaysx0
import Derived.Test.YtjnffegjpkbjmaaQTsbPlaysx1
namespace Go.Proofs.Ytjnffegjpkbjmaa.QTsbPlays
open Go.RowKit Go.Proofs.YtjnffegjpkbjmaaW.PrintWords Go.Proofs.YtjnffegjpkbjmaaW.PrintLast Go.Proofs.YtjnffegjpkbjmaaW.PrintMore
attribute [local go_sem] max2_int min2_int max_two min_two max_three min_three max_four min_four   -- for this text's walks alone
set_option linter.unusedVariables false
set_option linter.unusedSimpArgs false
attribute [local go_sem high] eqA50
/-! ### lookasideref06_Same: function 33 -/
def lookasideref06_Same.l0 : Nat → List (S50) → List (S50) → Int → Option (Bool)
  | 0, _, _, _ => none
  | k + 1, x0, x1, x5 => if x5 < (x0.length : Int) then (if 0 ≤ x5 then (if x5 < (x1.length : Int) then (if (!(((rd_T50 x0 x5).f0) == ((rd_T50 x1 x5).f0)) || (!(((rd_T50 x0 x5).f1) == ((rd_T50 x1 x5).f1)) || (!(((rd_T50 x0 x5).f2) == ((rd_T50 x1 x5).f2)) || (!(((rd_T50 x0 x5).f3) == ((rd_T50 x1 x5).f3)) || ((!(((rd_T50 x0 x5).f4.f0) == ((rd_T50 x1 x5).f4.f0)) || (!(((rd_T50 x0 x5).f4.f1) == ((rd_T50 x1 x5).f4.f1)) || (!(((rd_T50 x0 x5).f4.f2) == ((rd_T50 x1 x5).f4.f2)) || (!(((rd_T50 x0 x5).f4.f3) == ((rd_T50 x1 x5).f4.f3)) || (!(((rd_T50 x0 x5).f4.f4) == ((rd_T50 x1 x5).f4.f4)) || (!(((rd_T50 x0 x5).f4.f5) == ((rd_T50 x1 x5).f4.f5)))))))) || (!(((rd_T50 x0 x5).f5) == ((rd_T50 x1 x5).f5)))))))) = true then (some false) else (lookasideref06_Same.l0 k x0 x1 (wrap64 (x5 + 1)))) else (none)) else (none)) else (some true)
def lookasideref06_Same.f (k : Nat) (l0 : List (S50)) (l1 : List (S50)) : Option (Bool) := if (l0.length : Int) = (l1.length : Int) then (lookasideref06_Same.l0 k l0 l1 0) else (some false)
set_option maxHeartbeats 8000000 in
set_option maxRecDepth 100000 in
theorem lookasideref06_Same.calls (k : Nat) (A0 : Option Addr) (c0 : Nat) (l0 : List (S50)) (A1 : Option Addr) (c1 : Nat) (l1 : List (S50)) (r : Bool) (w : World) (hr0 : Kd.C k50 w A0 l0.length l0) (hc0 : l0.length ≤ c0) (hr1 : Kd.C k50 w A1 l1.length l1) (hc1 : l1.length ≤ c1) (h : lookasideref06_Same.f k l0 l1 = some r) :
    Calls Try.prog 33 #[.slice A0 l0.length c0, .slice A1 l1.length c1] w fun e w' => e = .returned (.bool r) ∧ Drawn0 w w' := by
  have hu50 := Try.underlying50
  have HR0 := Aside0.mk hr0
  have HC0 := Aside0.mk hc0
  clear hr0 hc0
  have HR1 := Aside0.mk hr1
  have HC1 := Aside0.mk hc1
  clear hr1 hc1
  have H : (if (l0.length : Int) = (l1.length : Int) then (lookasideref06_Same.l0 k l0 l1 0) else (some false)) = some r := h
  clear h
  by_cases c3 : (l0.length : Int) = (l1.length : Int)
  · rw [if_pos c3] at H
    have c3b0 : ((l0.length : Int) == (l1.length : Int)) = true := beq_iff_eq.mpr c3
    have c3b1 : ((l0.length : Int) != (l1.length : Int)) = false := bne_eq_false_iff_eq.mpr c3
    have c3b2 : (l0.length == l1.length) = true := by first | simpa using c3 | (simp at c3 ⊢; omega)
    clear c3
    have H' := Aside0.mk H
    clear H
    go_enter Try.func33, Try.ntmps33
    go_wp2
    repeat (go_quiet (fail); try go_wp2)
    go_loopg [5] k (fun kq v5 w' => ∃ (x5_1 : Int), v5 = .int .i64 x5_1 ∧ Aside0 (lookasideref06_Same.l0 kq l0 l1 x5_1 = some r) ∧ Aside0 (kq ≤ k) ∧ Drawn0 w w')
    case atStart => exact ⟨(0), (by first | rfl | (simp; done) | (simp [*]; done)), H', ⟨Nat.le_refl _⟩, by repeat (first | exact Drawn0.refl _ | apply Drawn0.step)⟩
    case round =>
      clear H'
      try clear c1
      try clear p2
      try clear c3
      try clear c3b0
      try clear c3b1
      try clear c3b2
      obtain ⟨x5_1, rfl, HA, HK1, ⟨m1, rfl⟩⟩ := hrel
      cases gk with
      | zero => exact absurd HA.out (by simp [lookasideref06_Same.l0])
      | succ k1 =>
        have H := HA.out
        clear HA
        simp only [lookasideref06_Same.l0] at H
        by_cases c4 : x5_1 < (l0.length : Int)
        · rw [if_pos c4] at H
          have c4b0 : decide (x5_1 < (l0.length : Int)) = true := decide_eq_true c4
          clear c4
          by_cases c5 : 0 ≤ x5_1
          · rw [if_pos c5] at H
            have c5b0 : decide (0 ≤ x5_1) = true := decide_eq_true c5
            clear c5
            by_cases c6 : x5_1 < (l1.length : Int)
            · rw [if_pos c6] at H
              have c6b0 : decide (x5_1 < (l1.length : Int)) = true := decide_eq_true c6
              clear c6
              by_cases c7 : (!(((rd_T50 l0 x5_1).f0) == ((rd_T50 l1 x5_1).f0)) || (!(((rd_T50 l0 x5_1).f1) == ((rd_T50 l1 x5_1).f1)) || (!(((rd_T50 l0 x5_1).f2) == ((rd_T50 l1 x5_1).f2)) || (!(((rd_T50 l0 x5_1).f3) == ((rd_T50 l1 x5_1).f3)) || ((!(((rd_T50 l0 x5_1).f4.f0) == ((rd_T50 l1 x5_1).f4.f0)) || (!(((rd_T50 l0 x5_1).f4.f1) == ((rd_T50 l1 x5_1).f4.f1)) || (!(((rd_T50 l0 x5_1).f4.f2) == ((rd_T50 l1 x5_1).f4.f2)) || (!(((rd_T50 l0 x5_1).f4.f3) == ((rd_T50 l1 x5_1).f4.f3)) || (!(((rd_T50 l0 x5_1).f4.f4) == ((rd_T50 l1 x5_1).f4.f4)) || (!(((rd_T50 l0 x5_1).f4.f5) == ((rd_T50 l1 x5_1).f4.f5)))))))) || (!(((rd_T50 l0 x5_1).f5) == ((rd_T50 l1 x5_1).f5)))))))) = true
              · rw [if_pos c7] at H
                have c7b0 : (!(((rd_T50 l0 x5_1).f0) == ((rd_T50 l1 x5_1).f0)) || (!(((rd_T50 l0 x5_1).f1) == ((rd_T50 l1 x5_1).f1)) || (!(((rd_T50 l0 x5_1).f2) == ((rd_T50 l1 x5_1).f2)) || (!(((rd_T50 l0 x5_1).f3) == ((rd_T50 l1 x5_1).f3)) || ((!(((rd_T50 l0 x5_1).f4.f0) == ((rd_T50 l1 x5_1).f4.f0)) || (!(((rd_T50 l0 x5_1).f4.f1) == ((rd_T50 l1 x5_1).f4.f1)) || (!(((rd_T50 l0 x5_1).f4.f2) == ((rd_T50 l1 x5_1).f4.f2)) || (!(((rd_T50 l0 x5_1).f4.f3) == ((rd_T50 l1 x5_1).f4.f3)) || (!(((rd_T50 l0 x5_1).f4.f4) == ((rd_T50 l1 x5_1).f4.f4)) || (!(((rd_T50 l0 x5_1).f4.f5) == ((rd_T50 l1 x5_1).f4.f5)))))))) || (!(((rd_T50 l0 x5_1).f5) == ((rd_T50 l1 x5_1).f5)))))))) = true := c7
                clear c7
                obtain rfl := Option.some.inj H
                have p331 : 0 ≤ (x5_1 : Int) := of_decide_eq_true (by first | (with_reducible assumption) | assumption)
                have q331 : x5_1 < (l0.length : Int) := of_decide_eq_true (by first | (with_reducible assumption) | assumption)
                obtain ⟨ad331, e331, hx331_0, hx331_1, hx331_2, hx331_3, hx331_4, hx331_5, hx331_6, hx331_7, hx331_8, hx331_9, hx331_10⟩ := at_T50 HR0.out x5_1 p331 q331
                cases e331
                replace p331 := eq_true p331
                replace q331 := eq_true q331
                have p332 : 0 ≤ (x5_1 : Int) := of_decide_eq_true (by first | (with_reducible assumption) | assumption)
                have q332 : x5_1 < (l1.length : Int) := of_decide_eq_true (by first | (with_reducible assumption) | assumption)
                obtain ⟨ad332, e332, hx332_0, hx332_1, hx332_2, hx332_3, hx332_4, hx332_5, hx332_6, hx332_7, hx332_8, hx332_9, hx332_10⟩ := at_T50 HR1.out x5_1 p332 q332
                cases e332
                replace p332 := eq_true p332
                replace q332 := eq_true q332
                go_wp2
                repeat (go_quiet (fail); try go_wp2)
                go_ret
                exact ⟨by first | rfl | (simp; done) | (simp [*]; done), by repeat (first | exact Drawn0.refl _ | apply Drawn0.step)⟩
              · rw [if_neg c7] at H
                have c7b0 : (!(((rd_T50 l0 x5_1).f0) == ((rd_T50 l1 x5_1).f0)) || (!(((rd_T50 l0 x5_1).f1) == ((rd_T50 l1 x5_1).f1)) || (!(((rd_T50 l0 x5_1).f2) == ((rd_T50 l1 x5_1).f2)) || (!(((rd_T50 l0 x5_1).f3) == ((rd_T50 l1 x5_1).f3)) || ((!(((rd_T50 l0 x5_1).f4.f0) == ((rd_T50 l1 x5_1).f4.f0)) || (!(((rd_T50 l0 x5_1).f4.f1) == ((rd_T50 l1 x5_1).f4.f1)) || (!(((rd_T50 l0 x5_1).f4.f2) == ((rd_T50 l1 x5_1).f4.f2)) || (!(((rd_T50 l0 x5_1).f4.f3) == ((rd_T50 l1 x5_1).f4.f3)) || (!(((rd_T50 l0 x5_1).f4.f4) == ((rd_T50 l1 x5_1).f4.f4)) || (!(((rd_T50 l0 x5_1).f4.f5) == ((rd_T50 l1 x5_1).f4.f5)))))))) || (!(((rd_T50 l0 x5_1).f5) == ((rd_T50 l1 x5_1).f5)))))))) = false := by simpa using c7
                clear c7
                have H' := Aside0.mk H
                clear H
                have p331 : 0 ≤ (x5_1 : Int) := of_decide_eq_true (by first | (with_reducible assumption) | assumption)
                have q331 : x5_1 < (l0.length : Int) := of_decide_eq_true (by first | (with_reducible assumption) | assumption)
                obtain ⟨ad331, e331, hx331_0, hx331_1, hx331_2, hx331_3, hx331_4, hx331_5, hx331_6, hx331_7, hx331_8, hx331_9, hx331_10⟩ := at_T50 HR0.out x5_1 p331 q331
                cases e331
                replace p331 := eq_true p331
                replace q331 := eq_true q331
                have p332 : 0 ≤ (x5_1 : Int) := of_decide_eq_true (by first | (with_reducible assumption) | assumption)
                have q332 : x5_1 < (l1.length : Int) := of_decide_eq_true (by first | (with_reducible assumption) | assumption)
                obtain ⟨ad332, e332, hx332_0, hx332_1, hx332_2, hx332_3, hx332_4, hx332_5, hx332_6, hx332_7, hx332_8, hx332_9, hx332_10⟩ := at_T50 HR1.out x5_1 p332 q332
                cases e332
                replace p332 := eq_true p332
                replace q332 := eq_true q332
                go_wp2
                repeat (go_quiet (fail); try go_wp2)
                go_roundg k1
                case measure => have := HK1.out; omega
                case rel => exact ⟨(wrap64 (x5_1 + 1)), (by first | rfl | (simp; done) | (simp [*]; done)), H', ⟨by have := HK1.out; omega⟩, by repeat (first | exact Drawn0.refl _ | apply Drawn0.step)⟩
            · rw [if_neg c6] at H
              exact absurd H (by simp)
          · rw [if_neg c5] at H
            exact absurd H (by simp)
        · rw [if_neg c4] at H
          have c4b0 : decide (x5_1 < (l0.length : Int)) = false := decide_eq_false c4
          clear c4
          obtain rfl := Option.some.inj H
          go_wp2
          repeat (go_quiet (fail); try go_wp2)
          go_ret
          exact ⟨by first | rfl | (simp; done) | (simp [*]; done), by repeat (first | exact Drawn0.refl _ | apply Drawn0.step)⟩
  · rw [if_neg c3] at H
    have c3b0 : ((l0.length : Int) == (l1.length : Int)) = false := beq_eq_false_iff_ne.mpr c3
    have c3b1 : ((l0.length : Int) != (l1.length : Int)) = true := bne_iff_ne.mpr c3
    have c3b2 : (l0.length == l1.length) = false := by first | simpa using c3 | (simp at c3 ⊢; omega)
    obtain rfl := Option.some.inj H
    go_enter Try.func33, Try.ntmps33
    go_wp2
    repeat (go_quiet (fail); try go_wp2)
    go_ret
    exact ⟨by first | rfl | (simp; done) | (simp [*]; done), by repeat (first | exact Drawn0.refl _ | apply Drawn0.step)⟩

-- NOT PRINTED: function 72 (tsb_Tsb_own)

-- NOT PRINTED: function 34 (tsb_Tsb_List)

-- NOT PRINTED: function 77 (memory_Memory_Word)

-- NOT PRINTED: function 42 (tsb_Tsb_Locked)

-- NOT PRINTED: function 43 (tsb_Tsb_Drop)

-- NOT PRINTED: function 44 (tsb_Tsb_DropContext)
end Go.Proofs.Ytjnffegjpkbjmaa.QTsbPlays
