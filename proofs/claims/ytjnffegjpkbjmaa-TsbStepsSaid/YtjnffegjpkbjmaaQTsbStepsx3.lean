-- Printed by a program of this session (wip/print/myprint.py) out of the translation; Lean checks it.
import Derived.Test.YtjnffegjpkbjmaaQTsbStepsx0
import Derived.Test.YtjnffegjpkbjmaaQTsbStepsx1
import Derived.Test.YtjnffegjpkbjmaaQTsbStepsx2
namespace Go.Proofs.Ytjnffegjpkbjmaa.QTsbSteps
open Go.RowKit Go.Proofs.YtjnffegjpkbjmaaW.PrintWords Go.Proofs.YtjnffegjpkbjmaaW.PrintLast Go.Proofs.YtjnffegjpkbjmaaW.PrintMore
attribute [local go_sem] max2_int min2_int max_two min_two max_three min_three max_four min_four   -- for this text's walks alone
set_option linter.unusedVariables false
set_option linter.unusedSimpArgs false

/-! ### point_Slot: function 91 -/
def point_Slot.f (a0 : Int) (a1 : Int) (a2 : Int) (a3 : Int) : Option (Int) := (point_Index.f a2 a3 a1).bind fun t142 => (some (IntKind.u64.wrap (a0 + (IntKind.u64.wrap (16 * (IntKind.u64.wrap (t142)))))))
set_option maxHeartbeats 8000000 in
set_option maxRecDepth 100000 in
theorem point_Slot.calls (a0 : Int) (a1 : Int) (a2 : Int) (a3 : Int) (r : Int) (w : World) (h : point_Slot.f a0 a1 a2 a3 = some r) :
    Calls Try.prog 91 #[.int .u64 a0, .int .i64 a1, .int .u64 a2, .int .i64 a3] w fun e w' => e = .returned (.int .u64 r) ∧ Drawn0 w w' := by
  have H : ((point_Index.f a2 a3 a1).bind fun t142 => (some (IntKind.u64.wrap (a0 + (IntKind.u64.wrap (16 * (IntKind.u64.wrap (t142)))))))) = some r := h
  clear h
  replace H := Option.bind_eq_some_iff.mp H
  obtain ⟨t142, A50, H⟩ := H
  replace H : (some (IntKind.u64.wrap (a0 + (IntKind.u64.wrap (16 * (IntKind.u64.wrap (t142))))))) = some r := H
  have A5 := Aside0.mk A50
  clear A50
  obtain rfl := Option.some.inj H
  go_enter Try.func91, Try.ntmps91
  go_wp2_with (first | ((with_reducible refine gate_callee (f := 119) rfl ?_); refine goesL_ (some 13) rfl rfl Try.func119 (by kernel_rfl) rfl #[.int .u64 a2, .int .i64 a3, .int .i64 a1] rfl (by (try simp only [List.map_toArray, List.map_cons, List.map_nil]); first | done | rfl | (simp only [List.length_drop, List.length_take]; rfl)) ?_; (with_reducible refine (point_Index.calls a2 a3 a1 t142 _ A5.out).mono ?_); rintro e w' ⟨rfl, ⟨nd, rfl⟩⟩; refine ⟨_, rfl, ?_⟩))
  go_ret
  exact ⟨by first | rfl | (simp; done) | (simp [*]; done), by repeat (first | exact Drawn0.refl _ | apply Drawn0.step)⟩

-- NOT PRINTED: function 59 (tsb_Tsb_at)

-- NOT PRINTED: function 63 (memory_Memory_PutWord)

-- NOT PRINTED: function 27 (tsb_Tsb_Lock)

/-! ### field_May: function 120 -/
def field_May.f (a0 : Int) (a1 : Int) : Option (Bool) := if a0 ≥ 0 then (if a1 ≥ 1 then (if a1 ≤ 64 then (some (decide (a0 ≤ (wrap64 (64 - a1))))) else (some false)) else (some false)) else (some false)
set_option maxHeartbeats 8000000 in
set_option maxRecDepth 100000 in
theorem field_May.calls (a0 : Int) (a1 : Int) (r : Bool) (w : World) (h : field_May.f a0 a1 = some r) :
    Calls Try.prog 120 #[.int .i64 a0, .int .i64 a1] w fun e w' => e = .returned (.bool r) ∧ Drawn0 w w' := by
  have H : (if a0 ≥ 0 then (if a1 ≥ 1 then (if a1 ≤ 64 then (some (decide (a0 ≤ (wrap64 (64 - a1))))) else (some false)) else (some false)) else (some false)) = some r := h
  clear h
  by_cases c3 : a0 ≥ 0
  · rw [if_pos c3] at H
    have c3b0 : decide (0 ≤ a0) = true := decide_eq_true c3
    clear c3
    by_cases c4 : a1 ≥ 1
    · rw [if_pos c4] at H
      have c4b0 : decide (1 ≤ a1) = true := decide_eq_true c4
      clear c4
      by_cases c5 : a1 ≤ 64
      · rw [if_pos c5] at H
        have c5b0 : decide (a1 ≤ 64) = true := decide_eq_true c5
        clear c5
        obtain rfl := Option.some.inj H
        go_enter Try.func120, Try.ntmps120
        go_wp2
        go_ret
        exact ⟨by first | rfl | (simp; done) | (simp [*]; done), by repeat (first | exact Drawn0.refl _ | apply Drawn0.step)⟩
      · rw [if_neg c5] at H
        have c5b0 : decide (a1 ≤ 64) = false := decide_eq_false c5
        clear c5
        obtain rfl := Option.some.inj H
        go_enter Try.func120, Try.ntmps120
        go_wp2
        go_ret
        exact ⟨by first | rfl | (simp; done) | (simp [*]; done), by repeat (first | exact Drawn0.refl _ | apply Drawn0.step)⟩
    · rw [if_neg c4] at H
      have c4b0 : decide (1 ≤ a1) = false := decide_eq_false c4
      clear c4
      obtain rfl := Option.some.inj H
      go_enter Try.func120, Try.ntmps120
      go_wp2
      go_ret
      exact ⟨by first | rfl | (simp; done) | (simp [*]; done), by repeat (first | exact Drawn0.refl _ | apply Drawn0.step)⟩
  · rw [if_neg c3] at H
    have c3b0 : decide (0 ≤ a0) = false := decide_eq_false c3
    clear c3
    obtain rfl := Option.some.inj H
    go_enter Try.func120, Try.ntmps120
    go_wp2
    go_ret
    exact ⟨by first | rfl | (simp; done) | (simp [*]; done), by repeat (first | exact Drawn0.refl _ | apply Drawn0.step)⟩

/-! ### field_Mask: function 108 -/
def field_Mask.f (a0 : Int) (a1 : Int) : Option (Int) := (field_May.f a0 a1).bind fun t143 => (if t143 = true then (if 0 ≤ (wrap64 (64 - a1)) then (if 0 ≤ a0 then (some (shl .u64 (shr .u64 18446744073709551615 (wrap64 (64 - a1))) a0)) else (none)) else (none)) else (some 0))
set_option maxHeartbeats 8000000 in
set_option maxRecDepth 100000 in
theorem field_Mask.calls (a0 : Int) (a1 : Int) (r : Int) (w : World) (h : field_Mask.f a0 a1 = some r) :
    Calls Try.prog 108 #[.int .i64 a0, .int .i64 a1] w fun e w' => e = .returned (.int .u64 r) ∧ Drawn0 w w' := by
  have H : ((field_May.f a0 a1).bind fun t143 => (if t143 = true then (if 0 ≤ (wrap64 (64 - a1)) then (if 0 ≤ a0 then (some (shl .u64 (shr .u64 18446744073709551615 (wrap64 (64 - a1))) a0)) else (none)) else (none)) else (some 0))) = some r := h
  clear h
  replace H := Option.bind_eq_some_iff.mp H
  obtain ⟨t143, A30, H⟩ := H
  replace H : (if t143 = true then (if 0 ≤ (wrap64 (64 - a1)) then (if 0 ≤ a0 then (some (shl .u64 (shr .u64 18446744073709551615 (wrap64 (64 - a1))) a0)) else (none)) else (none)) else (some 0)) = some r := H
  have A3 := Aside0.mk A30
  clear A30
  by_cases c4 : t143 = true
  · subst c4
    have H1 : (if 0 ≤ (wrap64 (64 - a1)) then (if 0 ≤ a0 then (some (shl .u64 (shr .u64 18446744073709551615 (wrap64 (64 - a1))) a0)) else (none)) else (none)) = some r := by rw [if_pos rfl] at H; exact H
    clear H
    have H := H1
    clear H1
    obtain ⟨ji5, hji5⟩ : ∃ j_ : Int, (wrap64 (64 - a1)) = j_ := ⟨_, rfl⟩
    replace H : (if 0 ≤ (ji5) then (if 0 ≤ a0 then (some (shl .u64 (shr .u64 18446744073709551615 (ji5)) a0)) else (none)) else (none)) = some r := by first | (rw [hji5] at H; exact H) | (simp only [hji5] at H ⊢; exact H)
    (try rw [hji5] at A3)
    have hji5w : (IntKind.i64.wrap (64 - a1)) = ji5 := (i64_w _).trans hji5
    by_cases c6 : 0 ≤ (ji5)
    · rw [if_pos c6] at H
      have c6b0 := eq_true c6
      have c6b1 : decide (0 ≤ (ji5)) = true := decide_eq_true c6
      clear c6
      obtain ⟨ji7, hji7⟩ : ∃ j_ : Int, (shr .u64 18446744073709551615 (ji5)) = j_ := ⟨_, rfl⟩
      replace H : (if 0 ≤ a0 then (some (shl .u64 (ji7) a0)) else (none)) = some r := by first | (rw [hji7] at H; exact H) | (simp only [hji7] at H ⊢; exact H)
      (try rw [hji7] at A3)
      have hji7_ : (18446744073709551615 / 2 ^ min (ji5).toNat 64) = ji7 := hji7
      have hji7z : (ji5) ≤ 64 → (18446744073709551615 / 2 ^ (ji5).toNat) = ji7 := shr_small hji7
      by_cases c8 : 0 ≤ a0
      · rw [if_pos c8] at H
        have c8b0 := eq_true c8
        have c8b1 : decide (0 ≤ a0) = true := decide_eq_true c8
        clear c8
        obtain ⟨ji9, hji9⟩ : ∃ j_ : Int, (shl .u64 (ji7) a0) = j_ := ⟨_, rfl⟩
        replace H : (some ji9) = some r := by first | (rw [hji9] at H; exact H) | (simp only [hji9] at H ⊢; exact H)
        (try rw [hji9] at A3)
        have hji9_ : (IntKind.u64.wrap ((ji7) * 2 ^ min a0.toNat 64)) = ji9 := hji9
        have hji9z : a0 ≤ 64 → (IntKind.u64.wrap ((ji7) * 2 ^ a0.toNat)) = ji9 := shl_small hji9
        obtain rfl := Option.some.inj H
        go_enter Try.func108, Try.ntmps108
        go_wp2_with (first | ((with_reducible refine gate_callee (f := 120) rfl ?_); refine goesL_ (some 7) rfl rfl Try.func120 (by kernel_rfl) rfl #[.int .i64 a0, .int .i64 a1] rfl (by (try simp only [List.map_toArray, List.map_cons, List.map_nil]); first | done | rfl | (simp only [List.length_drop, List.length_take]; rfl)) ?_; (with_reducible refine (field_May.calls a0 a1 true _ A3.out).mono ?_); rintro e w' ⟨rfl, ⟨nd, rfl⟩⟩; refine ⟨_, rfl, ?_⟩))
        go_ret
        exact ⟨by first | rfl | (simp; done) | (simp only [← hji5, ← hji7, ← hji9] <;> (first | rfl | simp)) | (simp [*]; done), by repeat (first | exact Drawn0.refl _ | apply Drawn0.step)⟩
      · rw [if_neg c8] at H
        exact absurd H (by simp)
    · rw [if_neg c6] at H
      exact absurd H (by simp)
  · replace c4 := Bool.eq_false_iff.mpr c4
    subst c4
    have H1 : (some 0) = some r := by rw [if_neg (show ¬ (false = true) by decide)] at H; exact H
    clear H
    have H := H1
    clear H1
    obtain rfl := Option.some.inj H
    go_enter Try.func108, Try.ntmps108
    go_wp2_with (first | ((with_reducible refine gate_callee (f := 120) rfl ?_); refine goesL_ (some 7) rfl rfl Try.func120 (by kernel_rfl) rfl #[.int .i64 a0, .int .i64 a1] rfl (by (try simp only [List.map_toArray, List.map_cons, List.map_nil]); first | done | rfl | (simp only [List.length_drop, List.length_take]; rfl)) ?_; (with_reducible refine (field_May.calls a0 a1 false _ A3.out).mono ?_); rintro e w' ⟨rfl, ⟨nd, rfl⟩⟩; refine ⟨_, rfl, ?_⟩))
    go_ret
    exact ⟨by first | rfl | (simp; done) | (simp [*]; done), by repeat (first | exact Drawn0.refl _ | apply Drawn0.step)⟩

/-! ### field_Get: function 106 -/
def field_Get.f (a0 : Int) (a1 : Int) (a2 : Int) : Option (Int) := (field_May.f a1 a2).bind fun t144 => (if t144 = true then ((field_Mask.f a1 a2).bind fun t145 => (if 0 ≤ a1 then (some (shr .u64 (Go.bits .and .u64 a0 t145) a1)) else (none))) else (some 0))
set_option maxHeartbeats 8000000 in
set_option maxRecDepth 100000 in
theorem field_Get.calls (a0 : Int) (a1 : Int) (a2 : Int) (r : Int) (w : World) (h : field_Get.f a0 a1 a2 = some r) :
    Calls Try.prog 106 #[.int .u64 a0, .int .i64 a1, .int .i64 a2] w fun e w' => e = .returned (.int .u64 r) ∧ Drawn0 w w' := by
  have H : ((field_May.f a1 a2).bind fun t144 => (if t144 = true then ((field_Mask.f a1 a2).bind fun t145 => (if 0 ≤ a1 then (some (shr .u64 (Go.bits .and .u64 a0 t145) a1)) else (none))) else (some 0))) = some r := h
  clear h
  replace H := Option.bind_eq_some_iff.mp H
  obtain ⟨t144, A40, H⟩ := H
  replace H : (if t144 = true then ((field_Mask.f a1 a2).bind fun t145 => (if 0 ≤ a1 then (some (shr .u64 (Go.bits .and .u64 a0 t145) a1)) else (none))) else (some 0)) = some r := H
  have A4 := Aside0.mk A40
  clear A40
  by_cases c5 : t144 = true
  · subst c5
    have H1 : ((field_Mask.f a1 a2).bind fun t145 => (if 0 ≤ a1 then (some (shr .u64 (Go.bits .and .u64 a0 t145) a1)) else (none))) = some r := by rw [if_pos rfl] at H; exact H
    clear H
    have H := H1
    clear H1
    replace H := Option.bind_eq_some_iff.mp H
    obtain ⟨t145, A60, H⟩ := H
    replace H : (if 0 ≤ a1 then (some (shr .u64 (Go.bits .and .u64 a0 t145) a1)) else (none)) = some r := H
    have A6 := Aside0.mk A60
    clear A60
    by_cases c7 : 0 ≤ a1
    · rw [if_pos c7] at H
      have c7b0 := eq_true c7
      have c7b1 : decide (0 ≤ a1) = true := decide_eq_true c7
      clear c7
      obtain ⟨ji8, hji8⟩ : ∃ j_ : Int, (shr .u64 (Go.bits .and .u64 a0 t145) a1) = j_ := ⟨_, rfl⟩
      replace H : (some ji8) = some r := by first | (rw [hji8] at H; exact H) | (simp only [hji8] at H ⊢; exact H)
      (try rw [hji8] at A4)
      (try rw [hji8] at A6)
      have hji8_ : ((Go.bits .and .u64 a0 t145) / 2 ^ min a1.toNat 64) = ji8 := hji8
      have hji8z : a1 ≤ 64 → ((Go.bits .and .u64 a0 t145) / 2 ^ a1.toNat) = ji8 := shr_small hji8
      obtain rfl := Option.some.inj H
      go_enter Try.func106, Try.ntmps106
      go_wp2_with (first | ((with_reducible refine gate_callee (f := 120) rfl ?_); refine goesL_ (some 9) rfl rfl Try.func120 (by kernel_rfl) rfl #[.int .i64 a1, .int .i64 a2] rfl (by (try simp only [List.map_toArray, List.map_cons, List.map_nil]); first | done | rfl | (simp only [List.length_drop, List.length_take]; rfl)) ?_; (with_reducible refine (field_May.calls a1 a2 true _ A4.out).mono ?_); rintro e w' ⟨rfl, ⟨nd, rfl⟩⟩; refine ⟨_, rfl, ?_⟩) | ((with_reducible refine gate_callee (f := 108) rfl ?_); refine goesL_ (some 14) rfl rfl Try.func108 (by kernel_rfl) rfl #[.int .i64 a1, .int .i64 a2] rfl (by (try simp only [List.map_toArray, List.map_cons, List.map_nil]); first | done | rfl | (simp only [List.length_drop, List.length_take]; rfl)) ?_; (with_reducible refine (field_Mask.calls a1 a2 t145 _ A6.out).mono ?_); rintro e w' ⟨rfl, ⟨nd, rfl⟩⟩; refine ⟨_, rfl, ?_⟩))
      go_ret
      exact ⟨by first | rfl | (simp; done) | (simp only [← hji8] <;> (first | rfl | simp)) | (simp [*]; done), by repeat (first | exact Drawn0.refl _ | apply Drawn0.step)⟩
    · rw [if_neg c7] at H
      exact absurd H (by simp)
  · replace c5 := Bool.eq_false_iff.mpr c5
    subst c5
    have H1 : (some 0) = some r := by rw [if_neg (show ¬ (false = true) by decide)] at H; exact H
    clear H
    have H := H1
    clear H1
    obtain rfl := Option.some.inj H
    go_enter Try.func106, Try.ntmps106
    go_wp2_with (first | ((with_reducible refine gate_callee (f := 120) rfl ?_); refine goesL_ (some 9) rfl rfl Try.func120 (by kernel_rfl) rfl #[.int .i64 a1, .int .i64 a2] rfl (by (try simp only [List.map_toArray, List.map_cons, List.map_nil]); first | done | rfl | (simp only [List.length_drop, List.length_take]; rfl)) ?_; (with_reducible refine (field_May.calls a1 a2 false _ A4.out).mono ?_); rintro e w' ⟨rfl, ⟨nd, rfl⟩⟩; refine ⟨_, rfl, ?_⟩))
    go_ret
    exact ⟨by first | rfl | (simp; done) | (simp [*]; done), by repeat (first | exact Drawn0.refl _ | apply Drawn0.step)⟩

/-! ### page_Hole: function 114 -/
def page_Hole.f (a0 : Int) : Option (Bool) := (field_Get.f a0 43 21).bind fun t146 => (if t146 = 0 then (some false) else (some (t146 != 2097151)))
set_option maxHeartbeats 8000000 in
set_option maxRecDepth 100000 in
theorem page_Hole.calls (a0 : Int) (r : Bool) (w : World) (h : page_Hole.f a0 = some r) :
    Calls Try.prog 114 #[.int .u64 a0] w fun e w' => e = .returned (.bool r) ∧ Drawn0 w w' := by
  have H : ((field_Get.f a0 43 21).bind fun t146 => (if t146 = 0 then (some false) else (some (t146 != 2097151)))) = some r := h
  clear h
  replace H := Option.bind_eq_some_iff.mp H
  obtain ⟨t146, A20, H⟩ := H
  replace H : (if t146 = 0 then (some false) else (some (t146 != 2097151))) = some r := H
  have A2 := Aside0.mk A20
  clear A20
  by_cases c3 : t146 = 0
  · rw [if_pos c3] at H
    have c3b0 : (t146 == 0) = true := beq_iff_eq.mpr c3
    have c3b1 : (t146 != 0) = false := bne_eq_false_iff_eq.mpr c3
    clear c3
    obtain rfl := Option.some.inj H
    go_enter Try.func114, Try.ntmps114
    go_wp2_with (first | ((with_reducible refine gate_callee (f := 106) rfl ?_); refine goesL_ (some 5) rfl rfl Try.func106 (by kernel_rfl) rfl #[.int .u64 a0, .int .i64 43, .int .i64 21] rfl (by (try simp only [List.map_toArray, List.map_cons, List.map_nil]); first | done | rfl | (simp only [List.length_drop, List.length_take]; rfl)) ?_; (with_reducible refine (field_Get.calls a0 43 21 t146 _ A2.out).mono ?_); rintro e w' ⟨rfl, ⟨nd, rfl⟩⟩; refine ⟨_, rfl, ?_⟩))
    go_ret
    exact ⟨by first | rfl | (simp; done) | (simp [*]; done), by repeat (first | exact Drawn0.refl _ | apply Drawn0.step)⟩
  · rw [if_neg c3] at H
    have c3b0 : (t146 == 0) = false := beq_eq_false_iff_ne.mpr c3
    have c3b1 : (t146 != 0) = true := bne_iff_ne.mpr c3
    obtain rfl := Option.some.inj H
    go_enter Try.func114, Try.ntmps114
    go_wp2_with (first | ((with_reducible refine gate_callee (f := 106) rfl ?_); refine goesL_ (some 5) rfl rfl Try.func106 (by kernel_rfl) rfl #[.int .u64 a0, .int .i64 43, .int .i64 21] rfl (by (try simp only [List.map_toArray, List.map_cons, List.map_nil]); first | done | rfl | (simp only [List.length_drop, List.length_take]; rfl)) ?_; (with_reducible refine (field_Get.calls a0 43 21 t146 _ A2.out).mono ?_); rintro e w' ⟨rfl, ⟨nd, rfl⟩⟩; refine ⟨_, rfl, ?_⟩))
    go_ret
    exact ⟨by first | rfl | (simp; done) | (simp [*]; done), by repeat (first | exact Drawn0.refl _ | apply Drawn0.step)⟩

/-! ### page_Offset: function 130 -/
def page_Offset.f (a0 : Int) (a1 : Int) : Option (Int) := (page_May.f a1).bind fun t147 => (if t147 = true then ((page_Bits.f a1).bind fun t148 => ((field_Get.f a0 0 t148).bind fun t149 => (some t149))) else (some 0))
set_option maxHeartbeats 8000000 in
set_option maxRecDepth 100000 in
theorem page_Offset.calls (a0 : Int) (a1 : Int) (r : Int) (w : World) (h : page_Offset.f a0 a1 = some r) :
    Calls Try.prog 130 #[.int .u64 a0, .int .i64 a1] w fun e w' => e = .returned (.int .u64 r) ∧ Drawn0 w w' := by
  have H : ((page_May.f a1).bind fun t147 => (if t147 = true then ((page_Bits.f a1).bind fun t148 => ((field_Get.f a0 0 t148).bind fun t149 => (some t149))) else (some 0))) = some r := h
  clear h
  replace H := Option.bind_eq_some_iff.mp H
  obtain ⟨t147, A30, H⟩ := H
  replace H : (if t147 = true then ((page_Bits.f a1).bind fun t148 => ((field_Get.f a0 0 t148).bind fun t149 => (some t149))) else (some 0)) = some r := H
  have A3 := Aside0.mk A30
  clear A30
  by_cases c4 : t147 = true
  · subst c4
    have H1 : ((page_Bits.f a1).bind fun t148 => ((field_Get.f a0 0 t148).bind fun t149 => (some t149))) = some r := by rw [if_pos rfl] at H; exact H
    clear H
    have H := H1
    clear H1
    replace H := Option.bind_eq_some_iff.mp H
    obtain ⟨t148, A50, H⟩ := H
    replace H : ((field_Get.f a0 0 t148).bind fun t149 => (some t149)) = some r := H
    have A5 := Aside0.mk A50
    clear A50
    replace H := Option.bind_eq_some_iff.mp H
    obtain ⟨t149, A60, H⟩ := H
    replace H : (some t149) = some r := H
    have A6 := Aside0.mk A60
    clear A60
    obtain rfl := Option.some.inj H
    go_enter Try.func130, Try.ntmps130
    go_wp2_with (first | ((with_reducible refine gate_callee (f := 75) rfl ?_); refine goesL_ (some 6) rfl rfl Try.func75 (by kernel_rfl) rfl #[.int .i64 a1] rfl (by (try simp only [List.map_toArray, List.map_cons, List.map_nil]); first | done | rfl | (simp only [List.length_drop, List.length_take]; rfl)) ?_; (with_reducible refine (page_May.calls a1 true _ A3.out).mono ?_); rintro e w' ⟨rfl, ⟨nd, rfl⟩⟩; refine ⟨_, rfl, ?_⟩) | ((with_reducible refine gate_callee (f := 76) rfl ?_); refine goesL_ (some 10) rfl rfl Try.func76 (by kernel_rfl) rfl #[.int .i64 a1] rfl (by (try simp only [List.map_toArray, List.map_cons, List.map_nil]); first | done | rfl | (simp only [List.length_drop, List.length_take]; rfl)) ?_; (with_reducible refine (page_Bits.calls a1 t148 _ A5.out).mono ?_); rintro e w' ⟨rfl, ⟨nd, rfl⟩⟩; refine ⟨_, rfl, ?_⟩) | ((with_reducible refine gate_callee (f := 106) rfl ?_); refine goesL_ (some 11) rfl rfl Try.func106 (by kernel_rfl) rfl #[.int .u64 a0, .int .i64 0, .int .i64 t148] rfl (by (try simp only [List.map_toArray, List.map_cons, List.map_nil]); first | done | rfl | (simp only [List.length_drop, List.length_take]; rfl)) ?_; (with_reducible refine (field_Get.calls a0 0 t148 t149 _ A6.out).mono ?_); rintro e w' ⟨rfl, ⟨nd, rfl⟩⟩; refine ⟨_, rfl, ?_⟩))
    go_ret
    exact ⟨by first | rfl | (simp; done) | (simp [*]; done), by repeat (first | exact Drawn0.refl _ | apply Drawn0.step)⟩
  · replace c4 := Bool.eq_false_iff.mpr c4
    subst c4
    have H1 : (some 0) = some r := by rw [if_neg (show ¬ (false = true) by decide)] at H; exact H
    clear H
    have H := H1
    clear H1
    obtain rfl := Option.some.inj H
    go_enter Try.func130, Try.ntmps130
    go_wp2_with (first | ((with_reducible refine gate_callee (f := 75) rfl ?_); refine goesL_ (some 6) rfl rfl Try.func75 (by kernel_rfl) rfl #[.int .i64 a1] rfl (by (try simp only [List.map_toArray, List.map_cons, List.map_nil]); first | done | rfl | (simp only [List.length_drop, List.length_take]; rfl)) ?_; (with_reducible refine (page_May.calls a1 false _ A3.out).mono ?_); rintro e w' ⟨rfl, ⟨nd, rfl⟩⟩; refine ⟨_, rfl, ?_⟩))
    go_ret
    exact ⟨by first | rfl | (simp; done) | (simp [*]; done), by repeat (first | exact Drawn0.refl _ | apply Drawn0.step)⟩

/-! ### page_Starts: function 115 -/
def page_Starts.f (a0 : Int) (a1 : Int) : Option (Bool) := (page_May.f a1).bind fun t150 => (if t150 = true then ((page_Offset.f a0 a1).bind fun t151 => (some (t151 == 0))) else (some false))
set_option maxHeartbeats 8000000 in
set_option maxRecDepth 100000 in
theorem page_Starts.calls (a0 : Int) (a1 : Int) (r : Bool) (w : World) (h : page_Starts.f a0 a1 = some r) :
    Calls Try.prog 115 #[.int .u64 a0, .int .i64 a1] w fun e w' => e = .returned (.bool r) ∧ Drawn0 w w' := by
  have H : ((page_May.f a1).bind fun t150 => (if t150 = true then ((page_Offset.f a0 a1).bind fun t151 => (some (t151 == 0))) else (some false))) = some r := h
  clear h
  replace H := Option.bind_eq_some_iff.mp H
  obtain ⟨t150, A30, H⟩ := H
  replace H : (if t150 = true then ((page_Offset.f a0 a1).bind fun t151 => (some (t151 == 0))) else (some false)) = some r := H
  have A3 := Aside0.mk A30
  clear A30
  by_cases c4 : t150 = true
  · subst c4
    have H1 : ((page_Offset.f a0 a1).bind fun t151 => (some (t151 == 0))) = some r := by rw [if_pos rfl] at H; exact H
    clear H
    have H := H1
    clear H1
    replace H := Option.bind_eq_some_iff.mp H
    obtain ⟨t151, A50, H⟩ := H
    replace H : (some (t151 == 0)) = some r := H
    have A5 := Aside0.mk A50
    clear A50
    obtain rfl := Option.some.inj H
    go_enter Try.func115, Try.ntmps115
    go_wp2_with (first | ((with_reducible refine gate_callee (f := 75) rfl ?_); refine goesL_ (some 6) rfl rfl Try.func75 (by kernel_rfl) rfl #[.int .i64 a1] rfl (by (try simp only [List.map_toArray, List.map_cons, List.map_nil]); first | done | rfl | (simp only [List.length_drop, List.length_take]; rfl)) ?_; (with_reducible refine (page_May.calls a1 true _ A3.out).mono ?_); rintro e w' ⟨rfl, ⟨nd, rfl⟩⟩; refine ⟨_, rfl, ?_⟩) | (go_at_call 130; (with_reducible refine (page_Offset.calls a0 a1 t151 _ A5.out).mono ?_); rintro e w' ⟨rfl, ⟨nd, rfl⟩⟩))
    go_ret
    exact ⟨by first | rfl | (simp; done) | (simp [*]; done), by repeat (first | exact Drawn0.refl _ | apply Drawn0.step)⟩
  · replace c4 := Bool.eq_false_iff.mpr c4
    subst c4
    have H1 : (some false) = some r := by rw [if_neg (show ¬ (false = true) by decide)] at H; exact H
    clear H
    have H := H1
    clear H1
    obtain rfl := Option.some.inj H
    go_enter Try.func115, Try.ntmps115
    go_wp2_with (first | ((with_reducible refine gate_callee (f := 75) rfl ?_); refine goesL_ (some 6) rfl rfl Try.func75 (by kernel_rfl) rfl #[.int .i64 a1] rfl (by (try simp only [List.map_toArray, List.map_cons, List.map_nil]); first | done | rfl | (simp only [List.length_drop, List.length_take]; rfl)) ?_; (with_reducible refine (page_May.calls a1 false _ A3.out).mono ?_); rintro e w' ⟨rfl, ⟨nd, rfl⟩⟩; refine ⟨_, rfl, ?_⟩))
    go_ret
    exact ⟨by first | rfl | (simp; done) | (simp [*]; done), by repeat (first | exact Drawn0.refl _ | apply Drawn0.step)⟩

/-! ### field_Fits: function 116 -/
def field_Fits.f (a0 : Int) (a1 : Int) : Option (Bool) := if a1 ≥ 64 then (some true) else (if a1 ≥ 1 then (if 0 ≤ a1 then (some ((shr .u64 a0 a1) == 0)) else (none)) else (some false))
set_option maxHeartbeats 8000000 in
set_option maxRecDepth 100000 in
theorem field_Fits.calls (a0 : Int) (a1 : Int) (r : Bool) (w : World) (h : field_Fits.f a0 a1 = some r) :
    Calls Try.prog 116 #[.int .u64 a0, .int .i64 a1] w fun e w' => e = .returned (.bool r) ∧ Drawn0 w w' := by
  have H : (if a1 ≥ 64 then (some true) else (if a1 ≥ 1 then (if 0 ≤ a1 then (some ((shr .u64 a0 a1) == 0)) else (none)) else (some false))) = some r := h
  clear h
  by_cases c3 : a1 ≥ 64
  · rw [if_pos c3] at H
    have c3b0 : decide (64 ≤ a1) = true := decide_eq_true c3
    clear c3
    obtain rfl := Option.some.inj H
    go_enter Try.func116, Try.ntmps116
    go_wp2
    go_ret
    exact ⟨by first | rfl | (simp; done) | (simp [*]; done), by repeat (first | exact Drawn0.refl _ | apply Drawn0.step)⟩
  · rw [if_neg c3] at H
    have c3b0 : decide (64 ≤ a1) = false := decide_eq_false c3
    clear c3
    by_cases c4 : a1 ≥ 1
    · rw [if_pos c4] at H
      have c4b0 : decide (1 ≤ a1) = true := decide_eq_true c4
      clear c4
      by_cases c5 : 0 ≤ a1
      · rw [if_pos c5] at H
        have c5b0 := eq_true c5
        have c5b1 : decide (0 ≤ a1) = true := decide_eq_true c5
        clear c5
        obtain ⟨ji6, hji6⟩ : ∃ j_ : Int, (shr .u64 a0 a1) = j_ := ⟨_, rfl⟩
        replace H : (some ((ji6) == 0)) = some r := by first | (rw [hji6] at H; exact H) | (simp only [hji6] at H ⊢; exact H)
        have hji6_ : (a0 / 2 ^ min a1.toNat 64) = ji6 := hji6
        have hji6z : a1 ≤ 64 → (a0 / 2 ^ a1.toNat) = ji6 := shr_small hji6
        obtain rfl := Option.some.inj H
        go_enter Try.func116, Try.ntmps116
        go_wp2
        go_ret
        exact ⟨by first | rfl | (simp; done) | (simp only [← hji6] <;> (first | rfl | simp)) | (simp [*]; done), by repeat (first | exact Drawn0.refl _ | apply Drawn0.step)⟩
      · rw [if_neg c5] at H
        exact absurd H (by simp)
    · rw [if_neg c4] at H
      have c4b0 : decide (1 ≤ a1) = false := decide_eq_false c4
      clear c4
      obtain rfl := Option.some.inj H
      go_enter Try.func116, Try.ntmps116
      go_wp2
      go_ret
      exact ⟨by first | rfl | (simp; done) | (simp [*]; done), by repeat (first | exact Drawn0.refl _ | apply Drawn0.step)⟩

end Go.Proofs.Ytjnffegjpkbjmaa.QTsbSteps
