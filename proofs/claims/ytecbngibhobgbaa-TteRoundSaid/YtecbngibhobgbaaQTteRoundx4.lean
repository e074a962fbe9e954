-- Printed by a program of this session (wip/print/myprint.py) out of the translation; Lean checks it.
import Derived.Test.YtecbngibhobgbaaQTteRoundx0
import Derived.Test.YtecbngibhobgbaaQTteRoundx3
namespace Go.Proofs.Ytecbngibhobgbaa.QTteRound
open Go.RowKit Go.Proofs.YtecbngibhobgbaaW.PrintWords Go.Proofs.YtecbngibhobgbaaW.PrintLast Go.Proofs.YtecbngibhobgbaaW.PrintMore
attribute [local go_sem] max2_int min2_int max_two min_two max_three min_three max_four min_four   -- for this text's walks alone
set_option linter.unusedVariables false
set_option linter.unusedSimpArgs false

/-! ### field_Mask: function 72 -/
def field_Mask.f (a0 : Int) (a1 : Int) : Option (Int) := (field_May.f a0 a1).bind fun t113 => (if t113 = true then (if 0 ≤ (wrap64 (64 - a1)) then (if 0 ≤ a0 then (some (shl .u64 (shr .u64 18446744073709551615 (wrap64 (64 - a1))) a0)) else (none)) else (none)) else (some 0))
set_option maxHeartbeats 8000000 in
set_option maxRecDepth 100000 in
theorem field_Mask.calls (a0 : Int) (a1 : Int) (r : Int) (w : World) (h : field_Mask.f a0 a1 = some r) :
    Calls Try.prog 72 #[.int .i64 a0, .int .i64 a1] w fun e w' => e = .returned (.int .u64 r) ∧ Drawn0 w w' := by
  have H : ((field_May.f a0 a1).bind fun t113 => (if t113 = true then (if 0 ≤ (wrap64 (64 - a1)) then (if 0 ≤ a0 then (some (shl .u64 (shr .u64 18446744073709551615 (wrap64 (64 - a1))) a0)) else (none)) else (none)) else (some 0))) = some r := h
  clear h
  replace H := Option.bind_eq_some_iff.mp H
  obtain ⟨t113, A30, H⟩ := H
  replace H : (if t113 = true then (if 0 ≤ (wrap64 (64 - a1)) then (if 0 ≤ a0 then (some (shl .u64 (shr .u64 18446744073709551615 (wrap64 (64 - a1))) a0)) else (none)) else (none)) else (some 0)) = some r := H
  have A3 := Aside0.mk A30
  clear A30
  by_cases c4 : t113 = true
  · subst c4
    have H1 : (if 0 ≤ (wrap64 (64 - a1)) then (if 0 ≤ a0 then (some (shl .u64 (shr .u64 18446744073709551615 (wrap64 (64 - a1))) a0)) else (none)) else (none)) = some r := by rw [if_pos rfl] at H; exact H
    clear H
    have H := H1
    clear H1
    obtain ⟨ji5, hji5⟩ : ∃ j_ : Int, (wrap64 (64 - a1)) = j_ := ⟨_, rfl⟩
    replace H : (if 0 ≤ (ji5) then (if 0 ≤ a0 then (some (shl .u64 (shr .u64 18446744073709551615 (ji5)) a0)) else (none)) else (none)) = some r := by first | (rw [hji5] at H; exact H) | (simp only [hji5] at H ⊢; exact H)
    (try rw [hji5] at A3)
    have hji5w : (IntKind.i64.wrap (64 - a1)) = ji5 := (i64_w _).trans hji5
    by_cases c6 : 0 ≤ (ji5)
    · rw [if_pos c6] at H
      have c6b0 := eq_true c6
      have c6b1 : decide (0 ≤ (ji5)) = true := decide_eq_true c6
      clear c6
      obtain ⟨ji7, hji7⟩ : ∃ j_ : Int, (shr .u64 18446744073709551615 (ji5)) = j_ := ⟨_, rfl⟩
      replace H : (if 0 ≤ a0 then (some (shl .u64 (ji7) a0)) else (none)) = some r := by first | (rw [hji7] at H; exact H) | (simp only [hji7] at H ⊢; exact H)
      (try rw [hji7] at A3)
      have hji7_ : (18446744073709551615 / 2 ^ min (ji5).toNat 64) = ji7 := hji7
      have hji7z : (ji5) ≤ 64 → (18446744073709551615 / 2 ^ (ji5).toNat) = ji7 := shr_small hji7
      by_cases c8 : 0 ≤ a0
      · rw [if_pos c8] at H
        have c8b0 := eq_true c8
        have c8b1 : decide (0 ≤ a0) = true := decide_eq_true c8
        clear c8
        obtain ⟨ji9, hji9⟩ : ∃ j_ : Int, (shl .u64 (ji7) a0) = j_ := ⟨_, rfl⟩
        replace H : (some ji9) = some r := by first | (rw [hji9] at H; exact H) | (simp only [hji9] at H ⊢; exact H)
        (try rw [hji9] at A3)
        have hji9_ : (IntKind.u64.wrap ((ji7) * 2 ^ min a0.toNat 64)) = ji9 := hji9
        have hji9z : a0 ≤ 64 → (IntKind.u64.wrap ((ji7) * 2 ^ a0.toNat)) = ji9 := shl_small hji9
        obtain rfl := Option.some.inj H
        go_enter Try.func72, Try.ntmps72
        go_wp2_with (first | ((with_reducible refine gate_callee (f := 71) rfl ?_); refine goesL_ (some 7) rfl rfl Try.func71 (by kernel_rfl) rfl #[.int .i64 a0, .int .i64 a1] rfl (by (try simp only [List.map_toArray, List.map_cons, List.map_nil]); first | done | rfl | (simp only [List.length_drop, List.length_take]; rfl)) ?_; (with_reducible refine (field_May.calls a0 a1 true _ A3.out).mono ?_); rintro e w' ⟨rfl, ⟨nd, rfl⟩⟩; refine ⟨_, rfl, ?_⟩))
        go_ret
        exact ⟨by first | rfl | (simp; done) | (simp only [← hji5, ← hji7, ← hji9] <;> (first | rfl | simp)) | (simp [*]; done), by repeat (first | exact Drawn0.refl _ | apply Drawn0.step)⟩
      · rw [if_neg c8] at H
        exact absurd H (by simp)
    · rw [if_neg c6] at H
      exact absurd H (by simp)
  · replace c4 := Bool.eq_false_iff.mpr c4
    subst c4
    have H1 : (some 0) = some r := by rw [if_neg (show ¬ (false = true) by decide)] at H; exact H
    clear H
    have H := H1
    clear H1
    obtain rfl := Option.some.inj H
    go_enter Try.func72, Try.ntmps72
    go_wp2_with (first | ((with_reducible refine gate_callee (f := 71) rfl ?_); refine goesL_ (some 7) rfl rfl Try.func71 (by kernel_rfl) rfl #[.int .i64 a0, .int .i64 a1] rfl (by (try simp only [List.map_toArray, List.map_cons, List.map_nil]); first | done | rfl | (simp only [List.length_drop, List.length_take]; rfl)) ?_; (with_reducible refine (field_May.calls a0 a1 false _ A3.out).mono ?_); rintro e w' ⟨rfl, ⟨nd, rfl⟩⟩; refine ⟨_, rfl, ?_⟩))
    go_ret
    exact ⟨by first | rfl | (simp; done) | (simp [*]; done), by repeat (first | exact Drawn0.refl _ | apply Drawn0.step)⟩

/-! ### field_Put: function 48 -/
def field_Put.f (a0 : Int) (a1 : Int) (a2 : Int) (a3 : Int) : Option (Int) := (field_May.f a1 a2).bind fun t114 => (if t114 = true then ((field_Mask.f a1 a2).bind fun t115 => (if 0 ≤ a1 then (some (Go.bits .or .u64 (Go.bits .andNot .u64 a0 t115) (Go.bits .and .u64 (shl .u64 a3 a1) t115))) else (none))) else (some a0))
set_option maxHeartbeats 8000000 in
set_option maxRecDepth 100000 in
theorem field_Put.calls (a0 : Int) (a1 : Int) (a2 : Int) (a3 : Int) (r : Int) (w : World) (h : field_Put.f a0 a1 a2 a3 = some r) :
    Calls Try.prog 48 #[.int .u64 a0, .int .i64 a1, .int .i64 a2, .int .u64 a3] w fun e w' => e = .returned (.int .u64 r) ∧ Drawn0 w w' := by
  have H : ((field_May.f a1 a2).bind fun t114 => (if t114 = true then ((field_Mask.f a1 a2).bind fun t115 => (if 0 ≤ a1 then (some (Go.bits .or .u64 (Go.bits .andNot .u64 a0 t115) (Go.bits .and .u64 (shl .u64 a3 a1) t115))) else (none))) else (some a0))) = some r := h
  clear h
  replace H := Option.bind_eq_some_iff.mp H
  obtain ⟨t114, A50, H⟩ := H
  replace H : (if t114 = true then ((field_Mask.f a1 a2).bind fun t115 => (if 0 ≤ a1 then (some (Go.bits .or .u64 (Go.bits .andNot .u64 a0 t115) (Go.bits .and .u64 (shl .u64 a3 a1) t115))) else (none))) else (some a0)) = some r := H
  have A5 := Aside0.mk A50
  clear A50
  by_cases c6 : t114 = true
  · subst c6
    have H1 : ((field_Mask.f a1 a2).bind fun t115 => (if 0 ≤ a1 then (some (Go.bits .or .u64 (Go.bits .andNot .u64 a0 t115) (Go.bits .and .u64 (shl .u64 a3 a1) t115))) else (none))) = some r := by rw [if_pos rfl] at H; exact H
    clear H
    have H := H1
    clear H1
    replace H := Option.bind_eq_some_iff.mp H
    obtain ⟨t115, A70, H⟩ := H
    replace H : (if 0 ≤ a1 then (some (Go.bits .or .u64 (Go.bits .andNot .u64 a0 t115) (Go.bits .and .u64 (shl .u64 a3 a1) t115))) else (none)) = some r := H
    have A7 := Aside0.mk A70
    clear A70
    by_cases c8 : 0 ≤ a1
    · rw [if_pos c8] at H
      have c8b0 := eq_true c8
      have c8b1 : decide (0 ≤ a1) = true := decide_eq_true c8
      clear c8
      obtain ⟨ji9, hji9⟩ : ∃ j_ : Int, (shl .u64 a3 a1) = j_ := ⟨_, rfl⟩
      replace H : (some (Go.bits .or .u64 (Go.bits .andNot .u64 a0 t115) (Go.bits .and .u64 (ji9) t115))) = some r := by first | (rw [hji9] at H; exact H) | (simp only [hji9] at H ⊢; exact H)
      (try rw [hji9] at A5)
      (try rw [hji9] at A7)
      have hji9_ : (IntKind.u64.wrap (a3 * 2 ^ min a1.toNat 64)) = ji9 := hji9
      have hji9z : a1 ≤ 64 → (IntKind.u64.wrap (a3 * 2 ^ a1.toNat)) = ji9 := shl_small hji9
      obtain rfl := Option.some.inj H
      go_enter Try.func48, Try.ntmps48
      go_wp2_with (first | ((with_reducible refine gate_callee (f := 71) rfl ?_); refine goesL_ (some 12) rfl rfl Try.func71 (by kernel_rfl) rfl #[.int .i64 a1, .int .i64 a2] rfl (by (try simp only [List.map_toArray, List.map_cons, List.map_nil]); first | done | rfl | (simp only [List.length_drop, List.length_take]; rfl)) ?_; (with_reducible refine (field_May.calls a1 a2 true _ A5.out).mono ?_); rintro e w' ⟨rfl, ⟨nd, rfl⟩⟩; refine ⟨_, rfl, ?_⟩) | ((with_reducible refine gate_callee (f := 72) rfl ?_); refine goesL_ (some 17) rfl rfl Try.func72 (by kernel_rfl) rfl #[.int .i64 a1, .int .i64 a2] rfl (by (try simp only [List.map_toArray, List.map_cons, List.map_nil]); first | done | rfl | (simp only [List.length_drop, List.length_take]; rfl)) ?_; (with_reducible refine (field_Mask.calls a1 a2 t115 _ A7.out).mono ?_); rintro e w' ⟨rfl, ⟨nd, rfl⟩⟩; refine ⟨_, rfl, ?_⟩))
      go_ret
      exact ⟨by first | rfl | (simp; done) | (simp only [← hji9] <;> (first | rfl | simp)) | (simp [*]; done), by repeat (first | exact Drawn0.refl _ | apply Drawn0.step)⟩
    · rw [if_neg c8] at H
      exact absurd H (by simp)
  · replace c6 := Bool.eq_false_iff.mpr c6
    subst c6
    have H1 : (some a0) = some r := by rw [if_neg (show ¬ (false = true) by decide)] at H; exact H
    clear H
    have H := H1
    clear H1
    obtain rfl := Option.some.inj H
    go_enter Try.func48, Try.ntmps48
    go_wp2_with (first | ((with_reducible refine gate_callee (f := 71) rfl ?_); refine goesL_ (some 12) rfl rfl Try.func71 (by kernel_rfl) rfl #[.int .i64 a1, .int .i64 a2] rfl (by (try simp only [List.map_toArray, List.map_cons, List.map_nil]); first | done | rfl | (simp only [List.length_drop, List.length_take]; rfl)) ?_; (with_reducible refine (field_May.calls a1 a2 false _ A5.out).mono ?_); rintro e w' ⟨rfl, ⟨nd, rfl⟩⟩; refine ⟨_, rfl, ?_⟩))
    go_ret
    exact ⟨by first | rfl | (simp; done) | (simp [*]; done), by repeat (first | exact Drawn0.refl _ | apply Drawn0.step)⟩

/-! ### field_Get: function 62 -/
def field_Get.f (a0 : Int) (a1 : Int) (a2 : Int) : Option (Int) := (field_May.f a1 a2).bind fun t116 => (if t116 = true then ((field_Mask.f a1 a2).bind fun t117 => (if 0 ≤ a1 then (some (shr .u64 (Go.bits .and .u64 a0 t117) a1)) else (none))) else (some 0))
set_option maxHeartbeats 8000000 in
set_option maxRecDepth 100000 in
theorem field_Get.calls (a0 : Int) (a1 : Int) (a2 : Int) (r : Int) (w : World) (h : field_Get.f a0 a1 a2 = some r) :
    Calls Try.prog 62 #[.int .u64 a0, .int .i64 a1, .int .i64 a2] w fun e w' => e = .returned (.int .u64 r) ∧ Drawn0 w w' := by
  have H : ((field_May.f a1 a2).bind fun t116 => (if t116 = true then ((field_Mask.f a1 a2).bind fun t117 => (if 0 ≤ a1 then (some (shr .u64 (Go.bits .and .u64 a0 t117) a1)) else (none))) else (some 0))) = some r := h
  clear h
  replace H := Option.bind_eq_some_iff.mp H
  obtain ⟨t116, A40, H⟩ := H
  replace H : (if t116 = true then ((field_Mask.f a1 a2).bind fun t117 => (if 0 ≤ a1 then (some (shr .u64 (Go.bits .and .u64 a0 t117) a1)) else (none))) else (some 0)) = some r := H
  have A4 := Aside0.mk A40
  clear A40
  by_cases c5 : t116 = true
  · subst c5
    have H1 : ((field_Mask.f a1 a2).bind fun t117 => (if 0 ≤ a1 then (some (shr .u64 (Go.bits .and .u64 a0 t117) a1)) else (none))) = some r := by rw [if_pos rfl] at H; exact H
    clear H
    have H := H1
    clear H1
    replace H := Option.bind_eq_some_iff.mp H
    obtain ⟨t117, A60, H⟩ := H
    replace H : (if 0 ≤ a1 then (some (shr .u64 (Go.bits .and .u64 a0 t117) a1)) else (none)) = some r := H
    have A6 := Aside0.mk A60
    clear A60
    by_cases c7 : 0 ≤ a1
    · rw [if_pos c7] at H
      have c7b0 := eq_true c7
      have c7b1 : decide (0 ≤ a1) = true := decide_eq_true c7
      clear c7
      obtain ⟨ji8, hji8⟩ : ∃ j_ : Int, (shr .u64 (Go.bits .and .u64 a0 t117) a1) = j_ := ⟨_, rfl⟩
      replace H : (some ji8) = some r := by first | (rw [hji8] at H; exact H) | (simp only [hji8] at H ⊢; exact H)
      (try rw [hji8] at A4)
      (try rw [hji8] at A6)
      have hji8_ : ((Go.bits .and .u64 a0 t117) / 2 ^ min a1.toNat 64) = ji8 := hji8
      have hji8z : a1 ≤ 64 → ((Go.bits .and .u64 a0 t117) / 2 ^ a1.toNat) = ji8 := shr_small hji8
      obtain rfl := Option.some.inj H
      go_enter Try.func62, Try.ntmps62
      go_wp2_with (first | ((with_reducible refine gate_callee (f := 71) rfl ?_); refine goesL_ (some 9) rfl rfl Try.func71 (by kernel_rfl) rfl #[.int .i64 a1, .int .i64 a2] rfl (by (try simp only [List.map_toArray, List.map_cons, List.map_nil]); first | done | rfl | (simp only [List.length_drop, List.length_take]; rfl)) ?_; (with_reducible refine (field_May.calls a1 a2 true _ A4.out).mono ?_); rintro e w' ⟨rfl, ⟨nd, rfl⟩⟩; refine ⟨_, rfl, ?_⟩) | ((with_reducible refine gate_callee (f := 72) rfl ?_); refine goesL_ (some 14) rfl rfl Try.func72 (by kernel_rfl) rfl #[.int .i64 a1, .int .i64 a2] rfl (by (try simp only [List.map_toArray, List.map_cons, List.map_nil]); first | done | rfl | (simp only [List.length_drop, List.length_take]; rfl)) ?_; (with_reducible refine (field_Mask.calls a1 a2 t117 _ A6.out).mono ?_); rintro e w' ⟨rfl, ⟨nd, rfl⟩⟩; refine ⟨_, rfl, ?_⟩))
      go_ret
      exact ⟨by first | rfl | (simp; done) | (simp only [← hji8] <;> (first | rfl | simp)) | (simp [*]; done), by repeat (first | exact Drawn0.refl _ | apply Drawn0.step)⟩
    · rw [if_neg c7] at H
      exact absurd H (by simp)
  · replace c5 := Bool.eq_false_iff.mpr c5
    subst c5
    have H1 : (some 0) = some r := by rw [if_neg (show ¬ (false = true) by decide)] at H; exact H
    clear H
    have H := H1
    clear H1
    obtain rfl := Option.some.inj H
    go_enter Try.func62, Try.ntmps62
    go_wp2_with (first | ((with_reducible refine gate_callee (f := 71) rfl ?_); refine goesL_ (some 9) rfl rfl Try.func71 (by kernel_rfl) rfl #[.int .i64 a1, .int .i64 a2] rfl (by (try simp only [List.map_toArray, List.map_cons, List.map_nil]); first | done | rfl | (simp only [List.length_drop, List.length_take]; rfl)) ?_; (with_reducible refine (field_May.calls a1 a2 false _ A4.out).mono ?_); rintro e w' ⟨rfl, ⟨nd, rfl⟩⟩; refine ⟨_, rfl, ?_⟩))
    go_ret
    exact ⟨by first | rfl | (simp; done) | (simp [*]; done), by repeat (first | exact Drawn0.refl _ | apply Drawn0.step)⟩

/-! ### page_Tag: function 51 -/
def page_Tag.f (a0 : Int) : Option (Int) := (field_Get.f a0 22 22).bind fun t118 => (some t118)
set_option maxHeartbeats 8000000 in
set_option maxRecDepth 100000 in
theorem page_Tag.calls (a0 : Int) (r : Int) (w : World) (h : page_Tag.f a0 = some r) :
    Calls Try.prog 51 #[.int .u64 a0] w fun e w' => e = .returned (.int .u64 r) ∧ Drawn0 w w' := by
  have H : ((field_Get.f a0 22 22).bind fun t118 => (some t118)) = some r := h
  clear h
  replace H := Option.bind_eq_some_iff.mp H
  obtain ⟨t118, A20, H⟩ := H
  replace H : (some t118) = some r := H
  have A2 := Aside0.mk A20
  clear A20
  obtain rfl := Option.some.inj H
  go_enter Try.func51, Try.ntmps51
  go_wp2_with (first | ((with_reducible refine gate_callee (f := 62) rfl ?_); refine goesL_ (some 4) rfl rfl Try.func62 (by kernel_rfl) rfl #[.int .u64 a0, .int .i64 22, .int .i64 22] rfl (by (try simp only [List.map_toArray, List.map_cons, List.map_nil]); first | done | rfl | (simp only [List.length_drop, List.length_take]; rfl)) ?_; (with_reducible refine (field_Get.calls a0 22 22 t118 _ A2.out).mono ?_); rintro e w' ⟨rfl, ⟨nd, rfl⟩⟩; refine ⟨_, rfl, ?_⟩))
  go_ret
  exact ⟨by first | rfl | (simp; done) | (simp [*]; done), by repeat (first | exact Drawn0.refl _ | apply Drawn0.step)⟩

/-! ### tte_Target: function 19 -/
def tte_Target.f (a0 : Int) (a1 : Int) : Option (Int) := (page_Tag.f a0).bind fun t119 => ((field_Put.f t119 48 13 (IntKind.u64.wrap (a1))).bind fun t120 => (some t120))
set_option maxHeartbeats 8000000 in
set_option maxRecDepth 100000 in
theorem tte_Target.calls (a0 : Int) (a1 : Int) (r : Int) (w : World) (h : tte_Target.f a0 a1 = some r) :
    Calls Try.prog 19 #[.int .u64 a0, .int .i64 a1] w fun e w' => e = .returned (.int .u64 r) ∧ Drawn0 w w' := by
  have H : ((page_Tag.f a0).bind fun t119 => ((field_Put.f t119 48 13 (IntKind.u64.wrap (a1))).bind fun t120 => (some t120))) = some r := h
  clear h
  replace H := Option.bind_eq_some_iff.mp H
  obtain ⟨t119, A30, H⟩ := H
  replace H : ((field_Put.f t119 48 13 (IntKind.u64.wrap (a1))).bind fun t120 => (some t120)) = some r := H
  have A3 := Aside0.mk A30
  clear A30
  replace H := Option.bind_eq_some_iff.mp H
  obtain ⟨t120, A40, H⟩ := H
  replace H : (some t120) = some r := H
  have A4 := Aside0.mk A40
  clear A40
  obtain rfl := Option.some.inj H
  go_enter Try.func19, Try.ntmps19
  go_wp2_with (first | ((with_reducible refine gate_callee (f := 51) rfl ?_); refine goesL_ (some 6) rfl rfl Try.func51 (by kernel_rfl) rfl #[.int .u64 a0] rfl (by (try simp only [List.map_toArray, List.map_cons, List.map_nil]); first | done | rfl | (simp only [List.length_drop, List.length_take]; rfl)) ?_; (with_reducible refine (page_Tag.calls a0 t119 _ A3.out).mono ?_); rintro e w' ⟨rfl, ⟨nd, rfl⟩⟩; refine ⟨_, rfl, ?_⟩) | ((with_reducible refine gate_callee (f := 48) rfl ?_); refine goesL_ (some 9) rfl rfl Try.func48 (by kernel_rfl) rfl #[.int .u64 t119, .int .i64 48, .int .i64 13, .int .u64 (IntKind.u64.wrap (a1))] rfl (by (try simp only [List.map_toArray, List.map_cons, List.map_nil]); first | done | rfl | (simp only [List.length_drop, List.length_take]; rfl)) ?_; (with_reducible refine (field_Put.calls t119 48 13 (IntKind.u64.wrap (a1)) t120 _ A4.out).mono ?_); rintro e w' ⟨rfl, ⟨nd, rfl⟩⟩; refine ⟨_, rfl, ?_⟩))
  go_ret
  exact ⟨by first | rfl | (simp; done) | (simp [*]; done), by repeat (first | exact Drawn0.refl _ | apply Drawn0.step)⟩

/-! ### field_Set: function 47 -/
def field_Set.f (a0 : Int) (a1 : Int) (a2 : Bool) : Option (Int) := if a2 = true then ((field_Put.f a0 a1 1 1).bind fun t121 => (some t121)) else ((field_Put.f a0 a1 1 0).bind fun t122 => (some t122))
set_option maxHeartbeats 8000000 in
set_option maxRecDepth 100000 in
theorem field_Set.calls (a0 : Int) (a1 : Int) (a2 : Bool) (r : Int) (w : World) (h : field_Set.f a0 a1 a2 = some r) :
    Calls Try.prog 47 #[.int .u64 a0, .int .i64 a1, .bool a2] w fun e w' => e = .returned (.int .u64 r) ∧ Drawn0 w w' := by
  have H : (if a2 = true then ((field_Put.f a0 a1 1 1).bind fun t121 => (some t121)) else ((field_Put.f a0 a1 1 0).bind fun t122 => (some t122))) = some r := h
  clear h
  by_cases c4 : a2 = true
  · subst c4
    have H1 : ((field_Put.f a0 a1 1 1).bind fun t121 => (some t121)) = some r := by rw [if_pos rfl] at H; exact H
    clear H
    have H := H1
    clear H1
    replace H := Option.bind_eq_some_iff.mp H
    obtain ⟨t121, A50, H⟩ := H
    replace H : (some t121) = some r := H
    have A5 := Aside0.mk A50
    clear A50
    obtain rfl := Option.some.inj H
    go_enter Try.func47, Try.ntmps47
    go_wp2_with (first | ((with_reducible refine gate_callee (f := 48) rfl ?_); refine goesL_ (some 12) rfl rfl Try.func48 (by kernel_rfl) rfl #[.int .u64 a0, .int .i64 a1, .int .i64 1, .int .u64 1] rfl (by (try simp only [List.map_toArray, List.map_cons, List.map_nil]); first | done | rfl | (simp only [List.length_drop, List.length_take]; rfl)) ?_; (with_reducible refine (field_Put.calls a0 a1 1 1 t121 _ A5.out).mono ?_); rintro e w' ⟨rfl, ⟨nd, rfl⟩⟩; refine ⟨_, rfl, ?_⟩))
    go_ret
    exact ⟨by first | rfl | (simp; done) | (simp [*]; done), by repeat (first | exact Drawn0.refl _ | apply Drawn0.step)⟩
  · replace c4 := Bool.eq_false_iff.mpr c4
    subst c4
    have H1 : ((field_Put.f a0 a1 1 0).bind fun t122 => (some t122)) = some r := by rw [if_neg (show ¬ (false = true) by decide)] at H; exact H
    clear H
    have H := H1
    clear H1
    replace H := Option.bind_eq_some_iff.mp H
    obtain ⟨t122, A60, H⟩ := H
    replace H : (some t122) = some r := H
    have A6 := Aside0.mk A60
    clear A60
    obtain rfl := Option.some.inj H
    go_enter Try.func47, Try.ntmps47
    go_wp2_with (first | ((with_reducible refine gate_callee (f := 48) rfl ?_); refine goesL_ (some 12) rfl rfl Try.func48 (by kernel_rfl) rfl #[.int .u64 a0, .int .i64 a1, .int .i64 1, .int .u64 0] rfl (by (try simp only [List.map_toArray, List.map_cons, List.map_nil]); first | done | rfl | (simp only [List.length_drop, List.length_take]; rfl)) ?_; (with_reducible refine (field_Put.calls a0 a1 1 0 t122 _ A6.out).mono ?_); rintro e w' ⟨rfl, ⟨nd, rfl⟩⟩; refine ⟨_, rfl, ?_⟩))
    go_ret
    exact ⟨by first | rfl | (simp; done) | (simp [*]; done), by repeat (first | exact Drawn0.refl _ | apply Drawn0.step)⟩

/-! ### tte_Tag: function 14 -/
def tte_Tag.f (a0_0 : Int) (a0_1 : Int) (a0_2 : Int) (a0_3 : Int) (a0_4 : Bool) (a0_5 : Bool) (a0_6 : Bool) (a0_7 : Bool) (a0_8 : Bool) (a0_9 : Bool) (a0_10 : Bool) : Option (Int) := (tte_Target.f a0_2 a0_1).bind fun t124 => ((field_Set.f t124 63 a0_8).bind fun t125 => (some t125))
set_option maxHeartbeats 8000000 in
set_option maxRecDepth 100000 in
theorem tte_Tag.calls (a0_0 : Int) (a0_1 : Int) (a0_2 : Int) (a0_3 : Int) (a0_4 : Bool) (a0_5 : Bool) (a0_6 : Bool) (a0_7 : Bool) (a0_8 : Bool) (a0_9 : Bool) (a0_10 : Bool) (r : Int) (w : World) (h : tte_Tag.f a0_0 a0_1 a0_2 a0_3 a0_4 a0_5 a0_6 a0_7 a0_8 a0_9 a0_10 = some r) :
    Calls Try.prog 14 #[.agg #[.int .i64 a0_0, .int .i64 a0_1, .int .u64 a0_2, .int .u64 a0_3, .bool a0_4, .bool a0_5, .bool a0_6, .bool a0_7, .bool a0_8, .bool a0_9, .bool a0_10]] w fun e w' => e = .returned (.int .u64 r) ∧ Below w.heap.size w w' := by
  have hu26 := Try.underlying26
  have HB := Aside0.mk (Below.refl w.heap.size w)
  have H : ((tte_Target.f a0_2 a0_1).bind fun t124 => ((field_Set.f t124 63 a0_8).bind fun t125 => (some t125))) = some r := h
  clear h
  replace H := Option.bind_eq_some_iff.mp H
  obtain ⟨t124, A20, H⟩ := H
  replace H : ((field_Set.f t124 63 a0_8).bind fun t125 => (some t125)) = some r := H
  have A2 := Aside0.mk A20
  clear A20
  replace H := Option.bind_eq_some_iff.mp H
  obtain ⟨t125, A30, H⟩ := H
  replace H : (some t125) = some r := H
  have A3 := Aside0.mk A30
  clear A30
  obtain rfl := Option.some.inj H
  go_enter Try.func14, Try.ntmps14
  go_wp2_with (first | ((with_reducible refine gate_dst (N := 1) rfl ?_); refine box_event ?hg (N := 1) ?hd (cs := #[.int .i64 a0_0, .int .i64 a0_1, .int .u64 a0_2, .int .u64 a0_3, .bool a0_4, .bool a0_5, .bool a0_6, .bool a0_7, .bool a0_8, .bool a0_9, .bool a0_10]) (t := 26) ?hr ?_; (case hd => rfl); (case hg => rfl); (case hr => first | (go_simp; done) | (go_simp; rfl)); intro gb123 hg w4 hbox hb; have n0_ := Aside0.mk (below_step (by repeat (first | (with_reducible first | exact HB.out | apply below_alloc | apply pw_below_drewN | apply below_drew1) | exact HB.out)) hb); have n1_ := Aside0.mk (hbox); have n2_ := Aside0.mk ((by rw [hg]; exact (below_size (by repeat (first | (with_reducible first | exact HB.out | apply below_alloc | apply pw_below_drewN | apply below_drew1) | exact HB.out))) : w.heap.size ≤ gb123)); have n3_ := Aside0.mk ((by rw [hg]; exact (below_size (by repeat (first | (with_reducible first | exact HB.out | apply below_alloc | apply pw_below_drewN | apply below_drew1) | exact HB.out))) : w.heap.size ≤ gb123)); clear HB; have HB := n0_; have BK123 := n1_; have GW123 := n2_; have GE123 := n3_; clear n0_ n1_ n2_ n3_; clear hb hbox hg; have hcz5_0 : w4.cell? ⟨gb123, 0, none⟩ = some (.int .i64 a0_0) := (blk_cell BK123.out 0).trans rfl; have hcz5_1 : w4.cell? ⟨gb123, 1, none⟩ = some (.int .i64 a0_1) := (blk_cell BK123.out 1).trans rfl; have hcz5_2 : w4.cell? ⟨gb123, 2, none⟩ = some (.int .u64 a0_2) := (blk_cell BK123.out 2).trans rfl; have hcz5_3 : w4.cell? ⟨gb123, 3, none⟩ = some (.int .u64 a0_3) := (blk_cell BK123.out 3).trans rfl; have hcz5_4 : w4.cell? ⟨gb123, 4, none⟩ = some (.bool a0_4) := (blk_cell BK123.out 4).trans rfl; have hcz5_5 : w4.cell? ⟨gb123, 5, none⟩ = some (.bool a0_5) := (blk_cell BK123.out 5).trans rfl; have hcz5_6 : w4.cell? ⟨gb123, 6, none⟩ = some (.bool a0_6) := (blk_cell BK123.out 6).trans rfl; have hcz5_7 : w4.cell? ⟨gb123, 7, none⟩ = some (.bool a0_7) := (blk_cell BK123.out 7).trans rfl; have hcz5_8 : w4.cell? ⟨gb123, 8, none⟩ = some (.bool a0_8) := (blk_cell BK123.out 8).trans rfl; have hcz5_9 : w4.cell? ⟨gb123, 9, none⟩ = some (.bool a0_9) := (blk_cell BK123.out 9).trans rfl; have hcz5_10 : w4.cell? ⟨gb123, 10, none⟩ = some (.bool a0_10) := (blk_cell BK123.out 10).trans rfl; have hfz5_0 := blk_frozen BK123.out 0; have hfz5_1 := blk_frozen BK123.out 1; have hfz5_2 := blk_frozen BK123.out 2; have hfz5_3 := blk_frozen BK123.out 3; have hfz5_4 := blk_frozen BK123.out 4; have hfz5_5 := blk_frozen BK123.out 5; have hfz5_6 := blk_frozen BK123.out 6; have hfz5_7 := blk_frozen BK123.out 7; have hfz5_8 := blk_frozen BK123.out 8; have hfz5_9 := blk_frozen BK123.out 9; have hfz5_10 := blk_frozen BK123.out 10) | (go_at_call 19; (with_reducible refine (tte_Target.calls a0_2 a0_1 t124 _ A2.out).mono ?_); rintro e w' ⟨rfl, ⟨nd, rfl⟩⟩; (try first | exact ⟨rfl, _, World.drewN_drewN _ _ _⟩ | exact ⟨rfl, _, Eq.trans (World.drewN_drewN _ _ _) (congrArg (World.drewN _) (Nat.add_assoc _ _ _))⟩)) | (go_at_call 47; (with_reducible refine (field_Set.calls t124 63 a0_8 t125 _ A3.out).mono ?_); rintro e w' ⟨rfl, ⟨nd, rfl⟩⟩; (try first | exact ⟨rfl, _, World.drewN_drewN _ _ _⟩ | exact ⟨rfl, _, Eq.trans (World.drewN_drewN _ _ _) (congrArg (World.drewN _) (Nat.add_assoc _ _ _))⟩)))
  repeat (go_quiet (first | ((with_reducible refine gate_dst (N := 1) rfl ?_); refine box_event ?hg (N := 1) ?hd (cs := #[.int .i64 a0_0, .int .i64 a0_1, .int .u64 a0_2, .int .u64 a0_3, .bool a0_4, .bool a0_5, .bool a0_6, .bool a0_7, .bool a0_8, .bool a0_9, .bool a0_10]) (t := 26) ?hr ?_; (case hd => rfl); (case hg => rfl); (case hr => first | (go_simp; done) | (go_simp; rfl)); intro gb123 hg w4 hbox hb; have n0_ := Aside0.mk (below_step (by repeat (first | (with_reducible first | exact HB.out | apply below_alloc | apply pw_below_drewN | apply below_drew1) | exact HB.out)) hb); have n1_ := Aside0.mk (hbox); have n2_ := Aside0.mk ((by rw [hg]; exact (below_size (by repeat (first | (with_reducible first | exact HB.out | apply below_alloc | apply pw_below_drewN | apply below_drew1) | exact HB.out))) : w.heap.size ≤ gb123)); have n3_ := Aside0.mk ((by rw [hg]; exact (below_size (by repeat (first | (with_reducible first | exact HB.out | apply below_alloc | apply pw_below_drewN | apply below_drew1) | exact HB.out))) : w.heap.size ≤ gb123)); clear HB; have HB := n0_; have BK123 := n1_; have GW123 := n2_; have GE123 := n3_; clear n0_ n1_ n2_ n3_; clear hb hbox hg; have hcz5_0 : w4.cell? ⟨gb123, 0, none⟩ = some (.int .i64 a0_0) := (blk_cell BK123.out 0).trans rfl; have hcz5_1 : w4.cell? ⟨gb123, 1, none⟩ = some (.int .i64 a0_1) := (blk_cell BK123.out 1).trans rfl; have hcz5_2 : w4.cell? ⟨gb123, 2, none⟩ = some (.int .u64 a0_2) := (blk_cell BK123.out 2).trans rfl; have hcz5_3 : w4.cell? ⟨gb123, 3, none⟩ = some (.int .u64 a0_3) := (blk_cell BK123.out 3).trans rfl; have hcz5_4 : w4.cell? ⟨gb123, 4, none⟩ = some (.bool a0_4) := (blk_cell BK123.out 4).trans rfl; have hcz5_5 : w4.cell? ⟨gb123, 5, none⟩ = some (.bool a0_5) := (blk_cell BK123.out 5).trans rfl; have hcz5_6 : w4.cell? ⟨gb123, 6, none⟩ = some (.bool a0_6) := (blk_cell BK123.out 6).trans rfl; have hcz5_7 : w4.cell? ⟨gb123, 7, none⟩ = some (.bool a0_7) := (blk_cell BK123.out 7).trans rfl; have hcz5_8 : w4.cell? ⟨gb123, 8, none⟩ = some (.bool a0_8) := (blk_cell BK123.out 8).trans rfl; have hcz5_9 : w4.cell? ⟨gb123, 9, none⟩ = some (.bool a0_9) := (blk_cell BK123.out 9).trans rfl; have hcz5_10 : w4.cell? ⟨gb123, 10, none⟩ = some (.bool a0_10) := (blk_cell BK123.out 10).trans rfl; have hfz5_0 := blk_frozen BK123.out 0; have hfz5_1 := blk_frozen BK123.out 1; have hfz5_2 := blk_frozen BK123.out 2; have hfz5_3 := blk_frozen BK123.out 3; have hfz5_4 := blk_frozen BK123.out 4; have hfz5_5 := blk_frozen BK123.out 5; have hfz5_6 := blk_frozen BK123.out 6; have hfz5_7 := blk_frozen BK123.out 7; have hfz5_8 := blk_frozen BK123.out 8; have hfz5_9 := blk_frozen BK123.out 9; have hfz5_10 := blk_frozen BK123.out 10) | (go_at_call 19; (with_reducible refine (tte_Target.calls a0_2 a0_1 t124 _ A2.out).mono ?_); rintro e w' ⟨rfl, ⟨nd, rfl⟩⟩; (try first | exact ⟨rfl, _, World.drewN_drewN _ _ _⟩ | exact ⟨rfl, _, Eq.trans (World.drewN_drewN _ _ _) (congrArg (World.drewN _) (Nat.add_assoc _ _ _))⟩)) | (go_at_call 47; (with_reducible refine (field_Set.calls t124 63 a0_8 t125 _ A3.out).mono ?_); rintro e w' ⟨rfl, ⟨nd, rfl⟩⟩; (try first | exact ⟨rfl, _, World.drewN_drewN _ _ _⟩ | exact ⟨rfl, _, Eq.trans (World.drewN_drewN _ _ _) (congrArg (World.drewN _) (Nat.add_assoc _ _ _))⟩))); try go_wp2_with (first | ((with_reducible refine gate_dst (N := 1) rfl ?_); refine box_event ?hg (N := 1) ?hd (cs := #[.int .i64 a0_0, .int .i64 a0_1, .int .u64 a0_2, .int .u64 a0_3, .bool a0_4, .bool a0_5, .bool a0_6, .bool a0_7, .bool a0_8, .bool a0_9, .bool a0_10]) (t := 26) ?hr ?_; (case hd => rfl); (case hg => rfl); (case hr => first | (go_simp; done) | (go_simp; rfl)); intro gb123 hg w4 hbox hb; have n0_ := Aside0.mk (below_step (by repeat (first | (with_reducible first | exact HB.out | apply below_alloc | apply pw_below_drewN | apply below_drew1) | exact HB.out)) hb); have n1_ := Aside0.mk (hbox); have n2_ := Aside0.mk ((by rw [hg]; exact (below_size (by repeat (first | (with_reducible first | exact HB.out | apply below_alloc | apply pw_below_drewN | apply below_drew1) | exact HB.out))) : w.heap.size ≤ gb123)); have n3_ := Aside0.mk ((by rw [hg]; exact (below_size (by repeat (first | (with_reducible first | exact HB.out | apply below_alloc | apply pw_below_drewN | apply below_drew1) | exact HB.out))) : w.heap.size ≤ gb123)); clear HB; have HB := n0_; have BK123 := n1_; have GW123 := n2_; have GE123 := n3_; clear n0_ n1_ n2_ n3_; clear hb hbox hg; have hcz5_0 : w4.cell? ⟨gb123, 0, none⟩ = some (.int .i64 a0_0) := (blk_cell BK123.out 0).trans rfl; have hcz5_1 : w4.cell? ⟨gb123, 1, none⟩ = some (.int .i64 a0_1) := (blk_cell BK123.out 1).trans rfl; have hcz5_2 : w4.cell? ⟨gb123, 2, none⟩ = some (.int .u64 a0_2) := (blk_cell BK123.out 2).trans rfl; have hcz5_3 : w4.cell? ⟨gb123, 3, none⟩ = some (.int .u64 a0_3) := (blk_cell BK123.out 3).trans rfl; have hcz5_4 : w4.cell? ⟨gb123, 4, none⟩ = some (.bool a0_4) := (blk_cell BK123.out 4).trans rfl; have hcz5_5 : w4.cell? ⟨gb123, 5, none⟩ = some (.bool a0_5) := (blk_cell BK123.out 5).trans rfl; have hcz5_6 : w4.cell? ⟨gb123, 6, none⟩ = some (.bool a0_6) := (blk_cell BK123.out 6).trans rfl; have hcz5_7 : w4.cell? ⟨gb123, 7, none⟩ = some (.bool a0_7) := (blk_cell BK123.out 7).trans rfl; have hcz5_8 : w4.cell? ⟨gb123, 8, none⟩ = some (.bool a0_8) := (blk_cell BK123.out 8).trans rfl; have hcz5_9 : w4.cell? ⟨gb123, 9, none⟩ = some (.bool a0_9) := (blk_cell BK123.out 9).trans rfl; have hcz5_10 : w4.cell? ⟨gb123, 10, none⟩ = some (.bool a0_10) := (blk_cell BK123.out 10).trans rfl; have hfz5_0 := blk_frozen BK123.out 0; have hfz5_1 := blk_frozen BK123.out 1; have hfz5_2 := blk_frozen BK123.out 2; have hfz5_3 := blk_frozen BK123.out 3; have hfz5_4 := blk_frozen BK123.out 4; have hfz5_5 := blk_frozen BK123.out 5; have hfz5_6 := blk_frozen BK123.out 6; have hfz5_7 := blk_frozen BK123.out 7; have hfz5_8 := blk_frozen BK123.out 8; have hfz5_9 := blk_frozen BK123.out 9; have hfz5_10 := blk_frozen BK123.out 10) | (go_at_call 19; (with_reducible refine (tte_Target.calls a0_2 a0_1 t124 _ A2.out).mono ?_); rintro e w' ⟨rfl, ⟨nd, rfl⟩⟩; (try first | exact ⟨rfl, _, World.drewN_drewN _ _ _⟩ | exact ⟨rfl, _, Eq.trans (World.drewN_drewN _ _ _) (congrArg (World.drewN _) (Nat.add_assoc _ _ _))⟩)) | (go_at_call 47; (with_reducible refine (field_Set.calls t124 63 a0_8 t125 _ A3.out).mono ?_); rintro e w' ⟨rfl, ⟨nd, rfl⟩⟩; (try first | exact ⟨rfl, _, World.drewN_drewN _ _ _⟩ | exact ⟨rfl, _, Eq.trans (World.drewN_drewN _ _ _) (congrArg (World.drewN _) (Nat.add_assoc _ _ _))⟩))))
  go_ret
  exact ⟨by first | rfl | (simp [errW_none, errW_some] <;> rfl) | (simp [*, errW_none, errW_some] <;> rfl), by repeat (first | (with_reducible first | exact HB.out | apply below_alloc | apply pw_below_drewN | apply below_drew1 | refine below_set ?_ GE123.out) | exact HB.out)⟩

/-! ### tte_flags: function 49 -/
/-- The attributes' bits, as tte.flags tells them of an Attr at cell 4 of block b. -/
def tte_flags.fl (b : Nat) : Array Value := #[.int .i64 60, .pointer (some ⟨b, 9, none⟩), .int .i64 6, .pointer (some ⟨b, 7, none⟩), .int .i64 3, .pointer (some ⟨b, 6, none⟩), .int .i64 2, .pointer (some ⟨b, 5, none⟩), .int .i64 1, .pointer (some ⟨b, 4, none⟩), .int .i64 0, .pointer (some ⟨b, 8, none⟩)]
set_option maxHeartbeats 8000000 in
set_option maxRecDepth 100000 in
theorem tte_flags.calls4 (b : Nat) (w : World) : Calls Try.prog 49 #[.pointer (some ⟨b, 4, none⟩)] w fun e w' => e = .returned (.agg (tte_flags.fl b)) ∧ Below w.heap.size w w' := by
  have hu1 := Try.underlying61
  have hu2 := Try.underlying62
  have hu3 := Try.underlying24
  go_enter Try.func49, Try.ntmps49
  go_wp2_with ((with_reducible refine gate_dst (N := 2) rfl ?_); refine box_event ?hg (N := 2) ?hd (cs := #[.int .i64 0, .pointer none, .int .i64 0, .pointer none, .int .i64 0, .pointer none, .int .i64 0, .pointer none, .int .i64 0, .pointer none, .int .i64 0, .pointer none]) (t := 62) ?hr ?_; (case hd => rfl); (case hg => rfl); (case hr => first | (go_simp; done) | (go_simp; rfl)); intro gb hgb w1 hbox0 hb0; have hge := Aside0.mk (Nat.le_of_eq hgb.symm); have hbox := Aside0.mk hbox0; have hb := Aside0.mk hb0; clear hgb hbox0 hb0)
  go_still_tail 25, (by kernel_rfl)
  change wpList _ _ _ _ _ w1.drew
  have hbx := Aside0.mk (show w1.drew.heap[gb]? = some _ from hbox.out)
  have hbb := Aside0.mk (show Below w.heap.size w w1.drew from hb.out.drew)
  generalize w1.drew = w2 at hbx hbb ⊢
  refine wpList_store_row rfl 62 (.tmp 2) (.tmp 27) rfl gb (tte_flags.fl b) rfl rfl 62 _ hbx.out (by kernel_rfl) rfl (by kernel_rfl) ?_
  go_wp2
  refine bodyPost_ret (results_cell_row rfl _ _ gb 62 (tte_flags.fl b) (0, 0) _ rfl (setRow_heap _ gb _ _ _ _ hbx.out) Try.underlying62 rfl (by kernel_rfl)) rfl ?_
  exact ⟨rfl, below_setRow hbb.out hge.out _⟩


/-! ### tte_Data: function 15 -/
theorem tte_Data.row_other {w : World} {g k : Nat} {cs cs2 : Array Value} {t : TypeId} (h : w.heap[g]? = some (.cells cs2 t (0, 0))) (hk : w.heap[k]? = none ∨ g ≠ k) : (w.setRow k cs).heap[g]? = some (.cells cs2 t (0, 0)) := by
  rw [setRow_other w k g cs ?_]
  · exact h
  · rcases hk with hk | hk
    · intro e; rw [e, hk] at h; cases h
    · exact hk
def tte_Data.f (a0_0 : Int) (a0_1 : Int) (a0_2 : Int) (a0_3 : Int) (a0_4 : Bool) (a0_5 : Bool) (a0_6 : Bool) (a0_7 : Bool) (a0_8 : Bool) (a0_9 : Bool) (a0_10 : Bool) : Option Int :=
  if a0_10 = true then (field_Set.f 0 63 true).bind fun t1 => (field_Put.f t1 61 2 (IntKind.u64.wrap a0_0)).bind fun t2 => (field_Put.f t2 13 28 (a0_3 / 8192)).bind fun t3 => (field_Set.f t3 60 a0_9).bind fun t4 => (field_Set.f t4 6 a0_7).bind fun t5 => (field_Set.f t5 3 a0_6).bind fun t6 => (field_Set.f t6 2 a0_5).bind fun t7 => (field_Set.f t7 1 a0_4).bind fun t8 => field_Set.f t8 0 a0_8 else some 0
/-- What the word is behind k rounds. -/
def tte_Data.At (t3 t4 t5 t6 t7 t8 t9 : Int) (k : Nat) (x : Int) : Prop := (k = 0 ∧ x = t3) ∨ (k = 1 ∧ x = t4) ∨ (k = 2 ∧ x = t5) ∨ (k = 3 ∧ x = t6) ∨ (k = 4 ∧ x = t7) ∨ (k = 5 ∧ x = t8) ∨ (k = 6 ∧ x = t9)
set_option maxHeartbeats 8000000 in
set_option maxRecDepth 100000 in
theorem tte_Data.no (a0_0 : Int) (a0_1 : Int) (a0_2 : Int) (a0_3 : Int) (a0_4 : Bool) (a0_5 : Bool) (a0_6 : Bool) (a0_7 : Bool) (a0_8 : Bool) (a0_9 : Bool) (w : World) :
    Calls Try.prog 15 #[.agg #[.int .i64 a0_0, .int .i64 a0_1, .int .u64 a0_2, .int .u64 a0_3, .bool a0_4, .bool a0_5, .bool a0_6, .bool a0_7, .bool a0_8, .bool a0_9, .bool false]] w fun e w' => e = .returned (.int .u64 0) ∧ Below w.heap.size w w' := by
  have hu26 := Try.underlying26
  go_enter Try.func15, Try.ntmps15
  go_wp2
  go_ret
  exact ⟨rfl, (Below.refl _ _).alloc (Nat.le_refl _) _⟩
set_option maxHeartbeats 8000000 in
set_option maxRecDepth 100000 in
theorem tte_Data.yes (a0_0 : Int) (a0_1 : Int) (a0_2 : Int) (a0_3 : Int) (a0_4 : Bool) (a0_5 : Bool) (a0_6 : Bool) (a0_7 : Bool) (a0_8 : Bool) (a0_9 : Bool) (t1 t2 t3 t4 t5 t6 t7 t8 t9 : Int) (w : World)
    (h1 : field_Set.f 0 63 true = some t1) (h2 : field_Put.f t1 61 2 (IntKind.u64.wrap a0_0) = some t2) (h3 : field_Put.f t2 13 28 (a0_3 / 8192) = some t3) (h4 : field_Set.f t3 60 a0_9 = some t4) (h5 : field_Set.f t4 6 a0_7 = some t5) (h6 : field_Set.f t5 3 a0_6 = some t6) (h7 : field_Set.f t6 2 a0_5 = some t7) (h8 : field_Set.f t7 1 a0_4 = some t8) (h9 : field_Set.f t8 0 a0_8 = some t9) :
    Calls Try.prog 15 #[.agg #[.int .i64 a0_0, .int .i64 a0_1, .int .u64 a0_2, .int .u64 a0_3, .bool a0_4, .bool a0_5, .bool a0_6, .bool a0_7, .bool a0_8, .bool a0_9, .bool true]] w fun e w' => e = .returned (.int .u64 t9) ∧ Below w.heap.size w w' := by
  have A1 := Aside0.mk h1
  clear h1
  have A2 := Aside0.mk h2
  clear h2
  have A3 := Aside0.mk h3
  clear h3
  have A4 := Aside0.mk h4
  clear h4
  have A5 := Aside0.mk h5
  clear h5
  have A6 := Aside0.mk h6
  clear h6
  have A7 := Aside0.mk h7
  clear h7
  have A8 := Aside0.mk h8
  clear h8
  have A9 := Aside0.mk h9
  clear h9
  have j0 : ∀ (b : Nat) (W : World), (Instr.index 62 (.agg (tte_flags.fl b)) (.int .i64 0)).run Try.prog W = .ok (.agg #[.int .i64 60, .pointer (some ⟨b, 9, none⟩)]) W := fun _ _ => by kernel_rfl
  have j1 : ∀ (b : Nat) (W : World), (Instr.index 62 (.agg (tte_flags.fl b)) (.int .i64 1)).run Try.prog W = .ok (.agg #[.int .i64 6, .pointer (some ⟨b, 7, none⟩)]) W := fun _ _ => by kernel_rfl
  have j2 : ∀ (b : Nat) (W : World), (Instr.index 62 (.agg (tte_flags.fl b)) (.int .i64 2)).run Try.prog W = .ok (.agg #[.int .i64 3, .pointer (some ⟨b, 6, none⟩)]) W := fun _ _ => by kernel_rfl
  have j3 : ∀ (b : Nat) (W : World), (Instr.index 62 (.agg (tte_flags.fl b)) (.int .i64 3)).run Try.prog W = .ok (.agg #[.int .i64 2, .pointer (some ⟨b, 5, none⟩)]) W := fun _ _ => by kernel_rfl
  have j4 : ∀ (b : Nat) (W : World), (Instr.index 62 (.agg (tte_flags.fl b)) (.int .i64 4)).run Try.prog W = .ok (.agg #[.int .i64 1, .pointer (some ⟨b, 4, none⟩)]) W := fun _ _ => by kernel_rfl
  have j5 : ∀ (b : Nat) (W : World), (Instr.index 62 (.agg (tte_flags.fl b)) (.int .i64 5)).run Try.prog W = .ok (.agg #[.int .i64 0, .pointer (some ⟨b, 8, none⟩)]) W := fun _ _ => by kernel_rfl
  have hu26 := Try.underlying26
  have hu61 := Try.underlying61
  go_enter Try.func15, Try.ntmps15
  go_wp2_with (first | ((with_reducible refine gate_dst (N := 1) rfl ?_); refine box_event ?hg (N := 1) ?hd (cs := #[.int .i64 a0_0, .int .i64 a0_1, .int .u64 a0_2, .int .u64 a0_3, .bool a0_4, .bool a0_5, .bool a0_6, .bool a0_7, .bool a0_8, .bool a0_9, .bool true]) (t := 26) ?hr ?_; (case hd => rfl); (case hg => rfl); (case hr => first | (go_simp; done) | (go_simp; rfl)); intro gb hgb w1 hbox0 hb0; have hge := Aside0.mk (Nat.le_of_eq hgb.symm); have q0 : w1.cell? ⟨gb, 0, none⟩ = some (.int .i64 a0_0) := blk_cell hbox0 0; have q3 : w1.cell? ⟨gb, 3, none⟩ = some (.int .u64 a0_3) := blk_cell hbox0 3; have q10 : w1.cell? ⟨gb, 10, none⟩ = some (.bool true) := blk_cell hbox0 10; have hbox := Aside0.mk hbox0; have hb := Aside0.mk hb0; clear hgb hbox0 hb0) | ((with_reducible refine gate_callee (f := 47) rfl ?_); refine goesL_ (some 9) rfl rfl Try.func47 (by kernel_rfl) rfl #[.int .u64 0, .int .i64 63, .bool true] rfl (by (try simp only [List.map_toArray, List.map_cons, List.map_nil]); first | done | rfl | (simp only [List.length_drop, List.length_take]; rfl)) ?_; (with_reducible refine (field_Set.calls 0 63 true t1 _ A1.out).mono ?_); rintro e w' ⟨rfl, ⟨nd, rfl⟩⟩; refine ⟨_, rfl, ?_⟩) | ((with_reducible refine gate_callee (f := 48) rfl ?_); refine goesL_ (some 14) rfl rfl Try.func48 (by kernel_rfl) rfl #[.int .u64 t1, .int .i64 61, .int .i64 2, .int .u64 (IntKind.u64.wrap a0_0)] rfl (by (try simp only [List.map_toArray, List.map_cons, List.map_nil]); first | done | rfl | (simp only [List.length_drop, List.length_take]; rfl)) ?_; (with_reducible refine (field_Put.calls t1 61 2 (IntKind.u64.wrap a0_0) t2 _ A2.out).mono ?_); rintro e w' ⟨rfl, ⟨nd, rfl⟩⟩; refine ⟨_, rfl, ?_⟩) | ((with_reducible refine gate_callee (f := 48) rfl ?_); refine goesL_ (some 19) rfl rfl Try.func48 (by kernel_rfl) rfl #[.int .u64 t2, .int .i64 13, .int .i64 28, .int .u64 (a0_3 / 8192)] rfl (by (try simp only [List.map_toArray, List.map_cons, List.map_nil]); first | done | rfl | (simp only [List.length_drop, List.length_take]; rfl)) ?_; (with_reducible refine (field_Put.calls t2 13 28 (a0_3 / 8192) t3 _ A3.out).mono ?_); rintro e w' ⟨rfl, ⟨nd, rfl⟩⟩; refine ⟨_, rfl, ?_⟩) | (go_at_call 49; refine (tte_flags.calls4 gb _).mono ?_; rintro e w2 ⟨rfl, hb2⟩; have hbx := Aside0.mk (show w2.heap[gb]? = some _ from blk_below (blk_drewN hbox.out _) hb2); have hbb := Aside0.mk (show Below w.heap.size w w2 from below_step (pw_below_drewN hb.out _) hb2); clear hb2))
  clear q0 q3 q10
  go_loopw [3, 22] (fun v3 v22 wr => ∃ (k : Nat) (x : Int), v22 = .int .i64 k ∧ v3 = .int .u64 x ∧ Aside0 (tte_Data.At t3 t4 t5 t6 t7 t8 t9 k x) ∧ Aside0 (wr.heap[gb]? = some (.cells #[.int .i64 a0_0, .int .i64 a0_1, .int .u64 a0_2, .int .u64 a0_3, .bool a0_4, .bool a0_5, .bool a0_6, .bool a0_7, .bool a0_8, .bool a0_9, .bool true] 26 (0, 0))) ∧ Aside0 (Below w.heap.size w wr)) (fun _ v22 _ => 6 - (intOf v22).toNat)
  case atStart => exact ⟨0, t3, rfl, rfl, ⟨.inl ⟨rfl, rfl⟩⟩, hbx, hbb⟩
  case round =>
    clear hbox hb hbx hbb
    obtain ⟨k, x, rfl, rfl, hAt, hE, hB⟩ := hrel
    have hAt := hAt.out
    rcases hAt with ⟨rfl, rfl⟩ | ⟨rfl, rfl⟩ | ⟨rfl, rfl⟩ | ⟨rfl, rfl⟩ | ⟨rfl, rfl⟩ | ⟨rfl, rfl⟩ | ⟨rfl, rfl⟩
    · have i0 := j0 gb
      go_wp2_with (first | ((with_reducible refine gate_dst (N := 5) rfl ?_); refine box_event ?hg (N := 5) ?hd (cs := #[.int .i64 0, .pointer none]) (t := 61) ?hr ?_; (case hd => rfl); (case hg => rfl); (case hr => first | (go_simp; done) | (go_simp; rfl)); intro g5 hg5 w1 hbox0 hb0; have hge5 := Aside0.mk (show wr.heap.size ≤ g5 from Nat.le_of_eq hg5.symm); have hbox := Aside0.mk hbox0; have hE1 := Aside0.mk (show w1.heap[gb]? = some _ from blk_below hE.out hb0); have hB1 := Aside0.mk (show Below w.heap.size w w1 from below_step hB.out hb0); clear hg5 hbox0 hb0) | ((with_reducible refine gate_store (t := 61) (p := 5) rfl ?_); refine wpList_store_row rfl 61 (.tmp 5) (.tmp 24) rfl g5 #[.int .i64 60, .pointer (some ⟨gb, 9, none⟩)] rfl rfl 61 _ hbox.out (by kernel_rfl) rfl (by kernel_rfl) ?_; have n1 := Aside0.mk (setRow_heap w1 g5 _ #[.int .i64 60, .pointer (some ⟨gb, 9, none⟩)] _ _ hbox.out); have n2 := Aside0.mk (tte_Data.row_other (cs := #[.int .i64 60, .pointer (some ⟨gb, 9, none⟩)]) hE1.out (.inr (Nat.ne_of_lt (Nat.lt_of_lt_of_le (blk_lt hE.out) hge5.out)))); have n3 := Aside0.mk (below_setRow hB1.out (Nat.le_trans hB.out.size hge5.out) #[.int .i64 60, .pointer (some ⟨gb, 9, none⟩)]); generalize w1.setRow g5 #[.int .i64 60, .pointer (some ⟨gb, 9, none⟩)] = w3 at n1 n2 n3 ⊢; have q0 : w3.cell? ⟨g5, 0, none⟩ = some (.int .i64 60) := blk_cell n1.out 0; have q1 : w3.cell? ⟨g5, 1, none⟩ = some (.pointer (some ⟨gb, 9, none⟩)) := blk_cell n1.out 1; have q2 : w3.cell? ⟨gb, 9, none⟩ = some (.bool a0_9) := blk_cell n2.out 9))
      go_quiet ((go_at_call 47; (with_reducible refine (field_Set.calls _ _ _ _ _ A4.out).mono ?_); rintro e w' ⟨rfl, ⟨nd, rfl⟩⟩; exact ⟨rfl, _, World.drewN_drewN _ _ _⟩))
      go_wp2
      go_roundw
      case rel => exact ⟨1, _, by go_num, rfl, ⟨.inr (.inl ⟨rfl, rfl⟩)⟩, ⟨n2.out⟩, ⟨pw_below_drewN n3.out _⟩⟩
      case measure => simp [intOf]
    · have i1 := j1 gb
      go_wp2_with (first | ((with_reducible refine gate_dst (N := 5) rfl ?_); refine box_event ?hg (N := 5) ?hd (cs := #[.int .i64 0, .pointer none]) (t := 61) ?hr ?_; (case hd => rfl); (case hg => rfl); (case hr => first | (go_simp; done) | (go_simp; rfl)); intro g5 hg5 w1 hbox0 hb0; have hge5 := Aside0.mk (show wr.heap.size ≤ g5 from Nat.le_of_eq hg5.symm); have hbox := Aside0.mk hbox0; have hE1 := Aside0.mk (show w1.heap[gb]? = some _ from blk_below hE.out hb0); have hB1 := Aside0.mk (show Below w.heap.size w w1 from below_step hB.out hb0); clear hg5 hbox0 hb0) | ((with_reducible refine gate_store (t := 61) (p := 5) rfl ?_); refine wpList_store_row rfl 61 (.tmp 5) (.tmp 24) rfl g5 #[.int .i64 6, .pointer (some ⟨gb, 7, none⟩)] rfl rfl 61 _ hbox.out (by kernel_rfl) rfl (by kernel_rfl) ?_; have n1 := Aside0.mk (setRow_heap w1 g5 _ #[.int .i64 6, .pointer (some ⟨gb, 7, none⟩)] _ _ hbox.out); have n2 := Aside0.mk (tte_Data.row_other (cs := #[.int .i64 6, .pointer (some ⟨gb, 7, none⟩)]) hE1.out (.inr (Nat.ne_of_lt (Nat.lt_of_lt_of_le (blk_lt hE.out) hge5.out)))); have n3 := Aside0.mk (below_setRow hB1.out (Nat.le_trans hB.out.size hge5.out) #[.int .i64 6, .pointer (some ⟨gb, 7, none⟩)]); generalize w1.setRow g5 #[.int .i64 6, .pointer (some ⟨gb, 7, none⟩)] = w3 at n1 n2 n3 ⊢; have q0 : w3.cell? ⟨g5, 0, none⟩ = some (.int .i64 6) := blk_cell n1.out 0; have q1 : w3.cell? ⟨g5, 1, none⟩ = some (.pointer (some ⟨gb, 7, none⟩)) := blk_cell n1.out 1; have q2 : w3.cell? ⟨gb, 7, none⟩ = some (.bool a0_7) := blk_cell n2.out 7))
      go_quiet ((go_at_call 47; (with_reducible refine (field_Set.calls _ _ _ _ _ A5.out).mono ?_); rintro e w' ⟨rfl, ⟨nd, rfl⟩⟩; exact ⟨rfl, _, World.drewN_drewN _ _ _⟩))
      go_wp2
      go_roundw
      case rel => exact ⟨2, _, by go_num, rfl, ⟨.inr (.inr (.inl ⟨rfl, rfl⟩))⟩, ⟨n2.out⟩, ⟨pw_below_drewN n3.out _⟩⟩
      case measure => simp [intOf]
    · have i2 := j2 gb
      go_wp2_with (first | ((with_reducible refine gate_dst (N := 5) rfl ?_); refine box_event ?hg (N := 5) ?hd (cs := #[.int .i64 0, .pointer none]) (t := 61) ?hr ?_; (case hd => rfl); (case hg => rfl); (case hr => first | (go_simp; done) | (go_simp; rfl)); intro g5 hg5 w1 hbox0 hb0; have hge5 := Aside0.mk (show wr.heap.size ≤ g5 from Nat.le_of_eq hg5.symm); have hbox := Aside0.mk hbox0; have hE1 := Aside0.mk (show w1.heap[gb]? = some _ from blk_below hE.out hb0); have hB1 := Aside0.mk (show Below w.heap.size w w1 from below_step hB.out hb0); clear hg5 hbox0 hb0) | ((with_reducible refine gate_store (t := 61) (p := 5) rfl ?_); refine wpList_store_row rfl 61 (.tmp 5) (.tmp 24) rfl g5 #[.int .i64 3, .pointer (some ⟨gb, 6, none⟩)] rfl rfl 61 _ hbox.out (by kernel_rfl) rfl (by kernel_rfl) ?_; have n1 := Aside0.mk (setRow_heap w1 g5 _ #[.int .i64 3, .pointer (some ⟨gb, 6, none⟩)] _ _ hbox.out); have n2 := Aside0.mk (tte_Data.row_other (cs := #[.int .i64 3, .pointer (some ⟨gb, 6, none⟩)]) hE1.out (.inr (Nat.ne_of_lt (Nat.lt_of_lt_of_le (blk_lt hE.out) hge5.out)))); have n3 := Aside0.mk (below_setRow hB1.out (Nat.le_trans hB.out.size hge5.out) #[.int .i64 3, .pointer (some ⟨gb, 6, none⟩)]); generalize w1.setRow g5 #[.int .i64 3, .pointer (some ⟨gb, 6, none⟩)] = w3 at n1 n2 n3 ⊢; have q0 : w3.cell? ⟨g5, 0, none⟩ = some (.int .i64 3) := blk_cell n1.out 0; have q1 : w3.cell? ⟨g5, 1, none⟩ = some (.pointer (some ⟨gb, 6, none⟩)) := blk_cell n1.out 1; have q2 : w3.cell? ⟨gb, 6, none⟩ = some (.bool a0_6) := blk_cell n2.out 6))
      go_quiet ((go_at_call 47; (with_reducible refine (field_Set.calls _ _ _ _ _ A6.out).mono ?_); rintro e w' ⟨rfl, ⟨nd, rfl⟩⟩; exact ⟨rfl, _, World.drewN_drewN _ _ _⟩))
      go_wp2
      go_roundw
      case rel => exact ⟨3, _, by go_num, rfl, ⟨.inr (.inr (.inr (.inl ⟨rfl, rfl⟩)))⟩, ⟨n2.out⟩, ⟨pw_below_drewN n3.out _⟩⟩
      case measure => simp [intOf]
    · have i3 := j3 gb
      go_wp2_with (first | ((with_reducible refine gate_dst (N := 5) rfl ?_); refine box_event ?hg (N := 5) ?hd (cs := #[.int .i64 0, .pointer none]) (t := 61) ?hr ?_; (case hd => rfl); (case hg => rfl); (case hr => first | (go_simp; done) | (go_simp; rfl)); intro g5 hg5 w1 hbox0 hb0; have hge5 := Aside0.mk (show wr.heap.size ≤ g5 from Nat.le_of_eq hg5.symm); have hbox := Aside0.mk hbox0; have hE1 := Aside0.mk (show w1.heap[gb]? = some _ from blk_below hE.out hb0); have hB1 := Aside0.mk (show Below w.heap.size w w1 from below_step hB.out hb0); clear hg5 hbox0 hb0) | ((with_reducible refine gate_store (t := 61) (p := 5) rfl ?_); refine wpList_store_row rfl 61 (.tmp 5) (.tmp 24) rfl g5 #[.int .i64 2, .pointer (some ⟨gb, 5, none⟩)] rfl rfl 61 _ hbox.out (by kernel_rfl) rfl (by kernel_rfl) ?_; have n1 := Aside0.mk (setRow_heap w1 g5 _ #[.int .i64 2, .pointer (some ⟨gb, 5, none⟩)] _ _ hbox.out); have n2 := Aside0.mk (tte_Data.row_other (cs := #[.int .i64 2, .pointer (some ⟨gb, 5, none⟩)]) hE1.out (.inr (Nat.ne_of_lt (Nat.lt_of_lt_of_le (blk_lt hE.out) hge5.out)))); have n3 := Aside0.mk (below_setRow hB1.out (Nat.le_trans hB.out.size hge5.out) #[.int .i64 2, .pointer (some ⟨gb, 5, none⟩)]); generalize w1.setRow g5 #[.int .i64 2, .pointer (some ⟨gb, 5, none⟩)] = w3 at n1 n2 n3 ⊢; have q0 : w3.cell? ⟨g5, 0, none⟩ = some (.int .i64 2) := blk_cell n1.out 0; have q1 : w3.cell? ⟨g5, 1, none⟩ = some (.pointer (some ⟨gb, 5, none⟩)) := blk_cell n1.out 1; have q2 : w3.cell? ⟨gb, 5, none⟩ = some (.bool a0_5) := blk_cell n2.out 5))
      go_quiet ((go_at_call 47; (with_reducible refine (field_Set.calls _ _ _ _ _ A7.out).mono ?_); rintro e w' ⟨rfl, ⟨nd, rfl⟩⟩; exact ⟨rfl, _, World.drewN_drewN _ _ _⟩))
      go_wp2
      go_roundw
      case rel => exact ⟨4, _, by go_num, rfl, ⟨.inr (.inr (.inr (.inr (.inl ⟨rfl, rfl⟩))))⟩, ⟨n2.out⟩, ⟨pw_below_drewN n3.out _⟩⟩
      case measure => simp [intOf]
    · have i4 := j4 gb
      go_wp2_with (first | ((with_reducible refine gate_dst (N := 5) rfl ?_); refine box_event ?hg (N := 5) ?hd (cs := #[.int .i64 0, .pointer none]) (t := 61) ?hr ?_; (case hd => rfl); (case hg => rfl); (case hr => first | (go_simp; done) | (go_simp; rfl)); intro g5 hg5 w1 hbox0 hb0; have hge5 := Aside0.mk (show wr.heap.size ≤ g5 from Nat.le_of_eq hg5.symm); have hbox := Aside0.mk hbox0; have hE1 := Aside0.mk (show w1.heap[gb]? = some _ from blk_below hE.out hb0); have hB1 := Aside0.mk (show Below w.heap.size w w1 from below_step hB.out hb0); clear hg5 hbox0 hb0) | ((with_reducible refine gate_store (t := 61) (p := 5) rfl ?_); refine wpList_store_row rfl 61 (.tmp 5) (.tmp 24) rfl g5 #[.int .i64 1, .pointer (some ⟨gb, 4, none⟩)] rfl rfl 61 _ hbox.out (by kernel_rfl) rfl (by kernel_rfl) ?_; have n1 := Aside0.mk (setRow_heap w1 g5 _ #[.int .i64 1, .pointer (some ⟨gb, 4, none⟩)] _ _ hbox.out); have n2 := Aside0.mk (tte_Data.row_other (cs := #[.int .i64 1, .pointer (some ⟨gb, 4, none⟩)]) hE1.out (.inr (Nat.ne_of_lt (Nat.lt_of_lt_of_le (blk_lt hE.out) hge5.out)))); have n3 := Aside0.mk (below_setRow hB1.out (Nat.le_trans hB.out.size hge5.out) #[.int .i64 1, .pointer (some ⟨gb, 4, none⟩)]); generalize w1.setRow g5 #[.int .i64 1, .pointer (some ⟨gb, 4, none⟩)] = w3 at n1 n2 n3 ⊢; have q0 : w3.cell? ⟨g5, 0, none⟩ = some (.int .i64 1) := blk_cell n1.out 0; have q1 : w3.cell? ⟨g5, 1, none⟩ = some (.pointer (some ⟨gb, 4, none⟩)) := blk_cell n1.out 1; have q2 : w3.cell? ⟨gb, 4, none⟩ = some (.bool a0_4) := blk_cell n2.out 4))
      go_quiet ((go_at_call 47; (with_reducible refine (field_Set.calls _ _ _ _ _ A8.out).mono ?_); rintro e w' ⟨rfl, ⟨nd, rfl⟩⟩; exact ⟨rfl, _, World.drewN_drewN _ _ _⟩))
      go_wp2
      go_roundw
      case rel => exact ⟨5, _, by go_num, rfl, ⟨.inr (.inr (.inr (.inr (.inr (.inl ⟨rfl, rfl⟩)))))⟩, ⟨n2.out⟩, ⟨pw_below_drewN n3.out _⟩⟩
      case measure => simp [intOf]
    · have i5 := j5 gb
      go_wp2_with (first | ((with_reducible refine gate_dst (N := 5) rfl ?_); refine box_event ?hg (N := 5) ?hd (cs := #[.int .i64 0, .pointer none]) (t := 61) ?hr ?_; (case hd => rfl); (case hg => rfl); (case hr => first | (go_simp; done) | (go_simp; rfl)); intro g5 hg5 w1 hbox0 hb0; have hge5 := Aside0.mk (show wr.heap.size ≤ g5 from Nat.le_of_eq hg5.symm); have hbox := Aside0.mk hbox0; have hE1 := Aside0.mk (show w1.heap[gb]? = some _ from blk_below hE.out hb0); have hB1 := Aside0.mk (show Below w.heap.size w w1 from below_step hB.out hb0); clear hg5 hbox0 hb0) | ((with_reducible refine gate_store (t := 61) (p := 5) rfl ?_); refine wpList_store_row rfl 61 (.tmp 5) (.tmp 24) rfl g5 #[.int .i64 0, .pointer (some ⟨gb, 8, none⟩)] rfl rfl 61 _ hbox.out (by kernel_rfl) rfl (by kernel_rfl) ?_; have n1 := Aside0.mk (setRow_heap w1 g5 _ #[.int .i64 0, .pointer (some ⟨gb, 8, none⟩)] _ _ hbox.out); have n2 := Aside0.mk (tte_Data.row_other (cs := #[.int .i64 0, .pointer (some ⟨gb, 8, none⟩)]) hE1.out (.inr (Nat.ne_of_lt (Nat.lt_of_lt_of_le (blk_lt hE.out) hge5.out)))); have n3 := Aside0.mk (below_setRow hB1.out (Nat.le_trans hB.out.size hge5.out) #[.int .i64 0, .pointer (some ⟨gb, 8, none⟩)]); generalize w1.setRow g5 #[.int .i64 0, .pointer (some ⟨gb, 8, none⟩)] = w3 at n1 n2 n3 ⊢; have q0 : w3.cell? ⟨g5, 0, none⟩ = some (.int .i64 0) := blk_cell n1.out 0; have q1 : w3.cell? ⟨g5, 1, none⟩ = some (.pointer (some ⟨gb, 8, none⟩)) := blk_cell n1.out 1; have q2 : w3.cell? ⟨gb, 8, none⟩ = some (.bool a0_8) := blk_cell n2.out 8))
      go_quiet ((go_at_call 47; (with_reducible refine (field_Set.calls _ _ _ _ _ A9.out).mono ?_); rintro e w' ⟨rfl, ⟨nd, rfl⟩⟩; exact ⟨rfl, _, World.drewN_drewN _ _ _⟩))
      go_wp2
      go_roundw
      case rel => exact ⟨6, _, by go_num, rfl, ⟨.inr (.inr (.inr (.inr (.inr (.inr (⟨rfl, rfl⟩))))))⟩, ⟨n2.out⟩, ⟨pw_below_drewN n3.out _⟩⟩
      case measure => simp [intOf]
    · go_wp2
      go_ret
      exact ⟨rfl, hB.out⟩
theorem tte_Data.calls (a0_0 : Int) (a0_1 : Int) (a0_2 : Int) (a0_3 : Int) (a0_4 : Bool) (a0_5 : Bool) (a0_6 : Bool) (a0_7 : Bool) (a0_8 : Bool) (a0_9 : Bool) (a0_10 : Bool) (r : Int) (w : World) (h : tte_Data.f a0_0 a0_1 a0_2 a0_3 a0_4 a0_5 a0_6 a0_7 a0_8 a0_9 a0_10 = some r) :
    Calls Try.prog 15 #[.agg #[.int .i64 a0_0, .int .i64 a0_1, .int .u64 a0_2, .int .u64 a0_3, .bool a0_4, .bool a0_5, .bool a0_6, .bool a0_7, .bool a0_8, .bool a0_9, .bool a0_10]] w fun e w' => e = .returned (.int .u64 r) ∧ Below w.heap.size w w' := by
  unfold tte_Data.f at h
  cases a0_10 with
  | false =>
    rw [if_neg (by decide)] at h
    obtain rfl := Option.some.inj h
    exact tte_Data.no a0_0 a0_1 a0_2 a0_3 a0_4 a0_5 a0_6 a0_7 a0_8 a0_9 w
  | true =>
    rw [if_pos rfl] at h
    obtain ⟨t1, h1, h⟩ := Option.bind_eq_some_iff.mp h
    obtain ⟨t2, h2, h⟩ := Option.bind_eq_some_iff.mp h
    obtain ⟨t3, h3, h⟩ := Option.bind_eq_some_iff.mp h
    obtain ⟨t4, h4, h⟩ := Option.bind_eq_some_iff.mp h
    obtain ⟨t5, h5, h⟩ := Option.bind_eq_some_iff.mp h
    obtain ⟨t6, h6, h⟩ := Option.bind_eq_some_iff.mp h
    obtain ⟨t7, h7, h⟩ := Option.bind_eq_some_iff.mp h
    obtain ⟨t8, h8, h⟩ := Option.bind_eq_some_iff.mp h
    exact tte_Data.yes a0_0 a0_1 a0_2 a0_3 a0_4 a0_5 a0_6 a0_7 a0_8 a0_9 t1 t2 t3 t4 t5 t6 t7 t8 r w h1 h2 h3 h4 h5 h6 h7 h8 h


/-! ### page_May: function 53 -/
def page_May.f (a0 : Int) : Option (Bool) := if a0 ≥ 0 then (some (decide (a0 < 4))) else (some false)
set_option maxHeartbeats 8000000 in
set_option maxRecDepth 100000 in
theorem page_May.calls (a0 : Int) (r : Bool) (w : World) (h : page_May.f a0 = some r) :
    Calls Try.prog 53 #[.int .i64 a0] w fun e w' => e = .returned (.bool r) ∧ Drawn0 w w' := by
  have H : (if a0 ≥ 0 then (some (decide (a0 < 4))) else (some false)) = some r := h
  clear h
  by_cases c2 : a0 ≥ 0
  · rw [if_pos c2] at H
    have c2b0 : decide (0 ≤ a0) = true := decide_eq_true c2
    clear c2
    obtain rfl := Option.some.inj H
    go_enter Try.func53, Try.ntmps53
    go_wp2
    go_ret
    exact ⟨by first | rfl | (simp; done) | (simp [*]; done), by repeat (first | exact Drawn0.refl _ | apply Drawn0.step)⟩
  · rw [if_neg c2] at H
    have c2b0 : decide (0 ≤ a0) = false := decide_eq_false c2
    clear c2
    obtain rfl := Option.some.inj H
    go_enter Try.func53, Try.ntmps53
    go_wp2
    go_ret
    exact ⟨by first | rfl | (simp; done) | (simp [*]; done), by repeat (first | exact Drawn0.refl _ | apply Drawn0.step)⟩

/-! ### page_Hole: function 54 -/
def page_Hole.f (a0 : Int) : Option (Bool) := (field_Get.f a0 43 21).bind fun t126 => (if t126 = 0 then (some false) else (some (t126 != 2097151)))
set_option maxHeartbeats 8000000 in
set_option maxRecDepth 100000 in
theorem page_Hole.calls (a0 : Int) (r : Bool) (w : World) (h : page_Hole.f a0 = some r) :
    Calls Try.prog 54 #[.int .u64 a0] w fun e w' => e = .returned (.bool r) ∧ Drawn0 w w' := by
  have H : ((field_Get.f a0 43 21).bind fun t126 => (if t126 = 0 then (some false) else (some (t126 != 2097151)))) = some r := h
  clear h
  replace H := Option.bind_eq_some_iff.mp H
  obtain ⟨t126, A20, H⟩ := H
  replace H : (if t126 = 0 then (some false) else (some (t126 != 2097151))) = some r := H
  have A2 := Aside0.mk A20
  clear A20
  by_cases c3 : t126 = 0
  · rw [if_pos c3] at H
    have c3b0 : (t126 == 0) = true := beq_iff_eq.mpr c3
    have c3b1 : (t126 != 0) = false := bne_eq_false_iff_eq.mpr c3
    clear c3
    obtain rfl := Option.some.inj H
    go_enter Try.func54, Try.ntmps54
    go_wp2_with (first | ((with_reducible refine gate_callee (f := 62) rfl ?_); refine goesL_ (some 5) rfl rfl Try.func62 (by kernel_rfl) rfl #[.int .u64 a0, .int .i64 43, .int .i64 21] rfl (by (try simp only [List.map_toArray, List.map_cons, List.map_nil]); first | done | rfl | (simp only [List.length_drop, List.length_take]; rfl)) ?_; (with_reducible refine (field_Get.calls a0 43 21 t126 _ A2.out).mono ?_); rintro e w' ⟨rfl, ⟨nd, rfl⟩⟩; refine ⟨_, rfl, ?_⟩))
    go_ret
    exact ⟨by first | rfl | (simp; done) | (simp [*]; done), by repeat (first | exact Drawn0.refl _ | apply Drawn0.step)⟩
  · rw [if_neg c3] at H
    have c3b0 : (t126 == 0) = false := beq_eq_false_iff_ne.mpr c3
    have c3b1 : (t126 != 0) = true := bne_iff_ne.mpr c3
    obtain rfl := Option.some.inj H
    go_enter Try.func54, Try.ntmps54
    go_wp2_with (first | ((with_reducible refine gate_callee (f := 62) rfl ?_); refine goesL_ (some 5) rfl rfl Try.func62 (by kernel_rfl) rfl #[.int .u64 a0, .int .i64 43, .int .i64 21] rfl (by (try simp only [List.map_toArray, List.map_cons, List.map_nil]); first | done | rfl | (simp only [List.length_drop, List.length_take]; rfl)) ?_; (with_reducible refine (field_Get.calls a0 43 21 t126 _ A2.out).mono ?_); rintro e w' ⟨rfl, ⟨nd, rfl⟩⟩; refine ⟨_, rfl, ?_⟩))
    go_ret
    exact ⟨by first | rfl | (simp; done) | (simp [*]; done), by repeat (first | exact Drawn0.refl _ | apply Drawn0.step)⟩

/-! ### page_Bits: function 73 -/
def page_Bits.f (a0 : Int) : Option (Int) := (page_May.f a0).bind fun t127 => (if t127 = true then (some (wrap64 (13 + (wrap64 (3 * a0))))) else (some 0))
set_option maxHeartbeats 8000000 in
set_option maxRecDepth 100000 in
theorem page_Bits.calls (a0 : Int) (r : Int) (w : World) (h : page_Bits.f a0 = some r) :
    Calls Try.prog 73 #[.int .i64 a0] w fun e w' => e = .returned (.int .i64 r) ∧ Drawn0 w w' := by
  have H : ((page_May.f a0).bind fun t127 => (if t127 = true then (some (wrap64 (13 + (wrap64 (3 * a0))))) else (some 0))) = some r := h
  clear h
  replace H := Option.bind_eq_some_iff.mp H
  obtain ⟨t127, A20, H⟩ := H
  replace H : (if t127 = true then (some (wrap64 (13 + (wrap64 (3 * a0))))) else (some 0)) = some r := H
  have A2 := Aside0.mk A20
  clear A20
  by_cases c3 : t127 = true
  · subst c3
    have H1 : (some (wrap64 (13 + (wrap64 (3 * a0))))) = some r := by rw [if_pos rfl] at H; exact H
    clear H
    have H := H1
    clear H1
    obtain rfl := Option.some.inj H
    go_enter Try.func73, Try.ntmps73
    go_wp2_with (first | ((with_reducible refine gate_callee (f := 53) rfl ?_); refine goesL_ (some 4) rfl rfl Try.func53 (by kernel_rfl) rfl #[.int .i64 a0] rfl (by (try simp only [List.map_toArray, List.map_cons, List.map_nil]); first | done | rfl | (simp only [List.length_drop, List.length_take]; rfl)) ?_; (with_reducible refine (page_May.calls a0 true _ A2.out).mono ?_); rintro e w' ⟨rfl, ⟨nd, rfl⟩⟩; refine ⟨_, rfl, ?_⟩))
    go_ret
    exact ⟨by first | rfl | (simp; done) | (simp [*]; done), by repeat (first | exact Drawn0.refl _ | apply Drawn0.step)⟩
  · replace c3 := Bool.eq_false_iff.mpr c3
    subst c3
    have H1 : (some 0) = some r := by rw [if_neg (show ¬ (false = true) by decide)] at H; exact H
    clear H
    have H := H1
    clear H1
    obtain rfl := Option.some.inj H
    go_enter Try.func73, Try.ntmps73
    go_wp2_with (first | ((with_reducible refine gate_callee (f := 53) rfl ?_); refine goesL_ (some 4) rfl rfl Try.func53 (by kernel_rfl) rfl #[.int .i64 a0] rfl (by (try simp only [List.map_toArray, List.map_cons, List.map_nil]); first | done | rfl | (simp only [List.length_drop, List.length_take]; rfl)) ?_; (with_reducible refine (page_May.calls a0 false _ A2.out).mono ?_); rintro e w' ⟨rfl, ⟨nd, rfl⟩⟩; refine ⟨_, rfl, ?_⟩))
    go_ret
    exact ⟨by first | rfl | (simp; done) | (simp [*]; done), by repeat (first | exact Drawn0.refl _ | apply Drawn0.step)⟩

/-! ### page_Offset: function 61 -/
def page_Offset.f (a0 : Int) (a1 : Int) : Option (Int) := (page_May.f a1).bind fun t128 => (if t128 = true then ((page_Bits.f a1).bind fun t129 => ((field_Get.f a0 0 t129).bind fun t130 => (some t130))) else (some 0))
set_option maxHeartbeats 8000000 in
set_option maxRecDepth 100000 in
theorem page_Offset.calls (a0 : Int) (a1 : Int) (r : Int) (w : World) (h : page_Offset.f a0 a1 = some r) :
    Calls Try.prog 61 #[.int .u64 a0, .int .i64 a1] w fun e w' => e = .returned (.int .u64 r) ∧ Drawn0 w w' := by
  have H : ((page_May.f a1).bind fun t128 => (if t128 = true then ((page_Bits.f a1).bind fun t129 => ((field_Get.f a0 0 t129).bind fun t130 => (some t130))) else (some 0))) = some r := h
  clear h
  replace H := Option.bind_eq_some_iff.mp H
  obtain ⟨t128, A30, H⟩ := H
  replace H : (if t128 = true then ((page_Bits.f a1).bind fun t129 => ((field_Get.f a0 0 t129).bind fun t130 => (some t130))) else (some 0)) = some r := H
  have A3 := Aside0.mk A30
  clear A30
  by_cases c4 : t128 = true
  · subst c4
    have H1 : ((page_Bits.f a1).bind fun t129 => ((field_Get.f a0 0 t129).bind fun t130 => (some t130))) = some r := by rw [if_pos rfl] at H; exact H
    clear H
    have H := H1
    clear H1
    replace H := Option.bind_eq_some_iff.mp H
    obtain ⟨t129, A50, H⟩ := H
    replace H : ((field_Get.f a0 0 t129).bind fun t130 => (some t130)) = some r := H
    have A5 := Aside0.mk A50
    clear A50
    replace H := Option.bind_eq_some_iff.mp H
    obtain ⟨t130, A60, H⟩ := H
    replace H : (some t130) = some r := H
    have A6 := Aside0.mk A60
    clear A60
    obtain rfl := Option.some.inj H
    go_enter Try.func61, Try.ntmps61
    go_wp2_with (first | ((with_reducible refine gate_callee (f := 53) rfl ?_); refine goesL_ (some 6) rfl rfl Try.func53 (by kernel_rfl) rfl #[.int .i64 a1] rfl (by (try simp only [List.map_toArray, List.map_cons, List.map_nil]); first | done | rfl | (simp only [List.length_drop, List.length_take]; rfl)) ?_; (with_reducible refine (page_May.calls a1 true _ A3.out).mono ?_); rintro e w' ⟨rfl, ⟨nd, rfl⟩⟩; refine ⟨_, rfl, ?_⟩) | ((with_reducible refine gate_callee (f := 73) rfl ?_); refine goesL_ (some 10) rfl rfl Try.func73 (by kernel_rfl) rfl #[.int .i64 a1] rfl (by (try simp only [List.map_toArray, List.map_cons, List.map_nil]); first | done | rfl | (simp only [List.length_drop, List.length_take]; rfl)) ?_; (with_reducible refine (page_Bits.calls a1 t129 _ A5.out).mono ?_); rintro e w' ⟨rfl, ⟨nd, rfl⟩⟩; refine ⟨_, rfl, ?_⟩) | ((with_reducible refine gate_callee (f := 62) rfl ?_); refine goesL_ (some 11) rfl rfl Try.func62 (by kernel_rfl) rfl #[.int .u64 a0, .int .i64 0, .int .i64 t129] rfl (by (try simp only [List.map_toArray, List.map_cons, List.map_nil]); first | done | rfl | (simp only [List.length_drop, List.length_take]; rfl)) ?_; (with_reducible refine (field_Get.calls a0 0 t129 t130 _ A6.out).mono ?_); rintro e w' ⟨rfl, ⟨nd, rfl⟩⟩; refine ⟨_, rfl, ?_⟩))
    go_ret
    exact ⟨by first | rfl | (simp; done) | (simp [*]; done), by repeat (first | exact Drawn0.refl _ | apply Drawn0.step)⟩
  · replace c4 := Bool.eq_false_iff.mpr c4
    subst c4
    have H1 : (some 0) = some r := by rw [if_neg (show ¬ (false = true) by decide)] at H; exact H
    clear H
    have H := H1
    clear H1
    obtain rfl := Option.some.inj H
    go_enter Try.func61, Try.ntmps61
    go_wp2_with (first | ((with_reducible refine gate_callee (f := 53) rfl ?_); refine goesL_ (some 6) rfl rfl Try.func53 (by kernel_rfl) rfl #[.int .i64 a1] rfl (by (try simp only [List.map_toArray, List.map_cons, List.map_nil]); first | done | rfl | (simp only [List.length_drop, List.length_take]; rfl)) ?_; (with_reducible refine (page_May.calls a1 false _ A3.out).mono ?_); rintro e w' ⟨rfl, ⟨nd, rfl⟩⟩; refine ⟨_, rfl, ?_⟩))
    go_ret
    exact ⟨by first | rfl | (simp; done) | (simp [*]; done), by repeat (first | exact Drawn0.refl _ | apply Drawn0.step)⟩

/-! ### page_Starts: function 55 -/
def page_Starts.f (a0 : Int) (a1 : Int) : Option (Bool) := (page_May.f a1).bind fun t131 => (if t131 = true then ((page_Offset.f a0 a1).bind fun t132 => (some (t132 == 0))) else (some false))
set_option maxHeartbeats 8000000 in
set_option maxRecDepth 100000 in
theorem page_Starts.calls (a0 : Int) (a1 : Int) (r : Bool) (w : World) (h : page_Starts.f a0 a1 = some r) :
    Calls Try.prog 55 #[.int .u64 a0, .int .i64 a1] w fun e w' => e = .returned (.bool r) ∧ Drawn0 w w' := by
  have H : ((page_May.f a1).bind fun t131 => (if t131 = true then ((page_Offset.f a0 a1).bind fun t132 => (some (t132 == 0))) else (some false))) = some r := h
  clear h
  replace H := Option.bind_eq_some_iff.mp H
  obtain ⟨t131, A30, H⟩ := H
  replace H : (if t131 = true then ((page_Offset.f a0 a1).bind fun t132 => (some (t132 == 0))) else (some false)) = some r := H
  have A3 := Aside0.mk A30
  clear A30
  by_cases c4 : t131 = true
  · subst c4
    have H1 : ((page_Offset.f a0 a1).bind fun t132 => (some (t132 == 0))) = some r := by rw [if_pos rfl] at H; exact H
    clear H
    have H := H1
    clear H1
    replace H := Option.bind_eq_some_iff.mp H
    obtain ⟨t132, A50, H⟩ := H
    replace H : (some (t132 == 0)) = some r := H
    have A5 := Aside0.mk A50
    clear A50
    obtain rfl := Option.some.inj H
    go_enter Try.func55, Try.ntmps55
    go_wp2_with (first | ((with_reducible refine gate_callee (f := 53) rfl ?_); refine goesL_ (some 6) rfl rfl Try.func53 (by kernel_rfl) rfl #[.int .i64 a1] rfl (by (try simp only [List.map_toArray, List.map_cons, List.map_nil]); first | done | rfl | (simp only [List.length_drop, List.length_take]; rfl)) ?_; (with_reducible refine (page_May.calls a1 true _ A3.out).mono ?_); rintro e w' ⟨rfl, ⟨nd, rfl⟩⟩; refine ⟨_, rfl, ?_⟩) | (go_at_call 61; (with_reducible refine (page_Offset.calls a0 a1 t132 _ A5.out).mono ?_); rintro e w' ⟨rfl, ⟨nd, rfl⟩⟩))
    go_ret
    exact ⟨by first | rfl | (simp; done) | (simp [*]; done), by repeat (first | exact Drawn0.refl _ | apply Drawn0.step)⟩
  · replace c4 := Bool.eq_false_iff.mpr c4
    subst c4
    have H1 : (some false) = some r := by rw [if_neg (show ¬ (false = true) by decide)] at H; exact H
    clear H
    have H := H1
    clear H1
    obtain rfl := Option.some.inj H
    go_enter Try.func55, Try.ntmps55
    go_wp2_with (first | ((with_reducible refine gate_callee (f := 53) rfl ?_); refine goesL_ (some 6) rfl rfl Try.func53 (by kernel_rfl) rfl #[.int .i64 a1] rfl (by (try simp only [List.map_toArray, List.map_cons, List.map_nil]); first | done | rfl | (simp only [List.length_drop, List.length_take]; rfl)) ?_; (with_reducible refine (page_May.calls a1 false _ A3.out).mono ?_); rintro e w' ⟨rfl, ⟨nd, rfl⟩⟩; refine ⟨_, rfl, ?_⟩))
    go_ret
    exact ⟨by first | rfl | (simp; done) | (simp [*]; done), by repeat (first | exact Drawn0.refl _ | apply Drawn0.step)⟩

/-! ### field_Fits: function 56 -/
def field_Fits.f (a0 : Int) (a1 : Int) : Option (Bool) := if a1 ≥ 64 then (some true) else (if a1 ≥ 1 then (if 0 ≤ a1 then (some ((shr .u64 a0 a1) == 0)) else (none)) else (some false))
set_option maxHeartbeats 8000000 in
set_option maxRecDepth 100000 in
theorem field_Fits.calls (a0 : Int) (a1 : Int) (r : Bool) (w : World) (h : field_Fits.f a0 a1 = some r) :
    Calls Try.prog 56 #[.int .u64 a0, .int .i64 a1] w fun e w' => e = .returned (.bool r) ∧ Drawn0 w w' := by
  have H : (if a1 ≥ 64 then (some true) else (if a1 ≥ 1 then (if 0 ≤ a1 then (some ((shr .u64 a0 a1) == 0)) else (none)) else (some false))) = some r := h
  clear h
  by_cases c3 : a1 ≥ 64
  · rw [if_pos c3] at H
    have c3b0 : decide (64 ≤ a1) = true := decide_eq_true c3
    clear c3
    obtain rfl := Option.some.inj H
    go_enter Try.func56, Try.ntmps56
    go_wp2
    go_ret
    exact ⟨by first | rfl | (simp; done) | (simp [*]; done), by repeat (first | exact Drawn0.refl _ | apply Drawn0.step)⟩
  · rw [if_neg c3] at H
    have c3b0 : decide (64 ≤ a1) = false := decide_eq_false c3
    clear c3
    by_cases c4 : a1 ≥ 1
    · rw [if_pos c4] at H
      have c4b0 : decide (1 ≤ a1) = true := decide_eq_true c4
      clear c4
      by_cases c5 : 0 ≤ a1
      · rw [if_pos c5] at H
        have c5b0 := eq_true c5
        have c5b1 : decide (0 ≤ a1) = true := decide_eq_true c5
        clear c5
        obtain ⟨ji6, hji6⟩ : ∃ j_ : Int, (shr .u64 a0 a1) = j_ := ⟨_, rfl⟩
        replace H : (some ((ji6) == 0)) = some r := by first | (rw [hji6] at H; exact H) | (simp only [hji6] at H ⊢; exact H)
        have hji6_ : (a0 / 2 ^ min a1.toNat 64) = ji6 := hji6
        have hji6z : a1 ≤ 64 → (a0 / 2 ^ a1.toNat) = ji6 := shr_small hji6
        obtain rfl := Option.some.inj H
        go_enter Try.func56, Try.ntmps56
        go_wp2
        go_ret
        exact ⟨by first | rfl | (simp; done) | (simp only [← hji6] <;> (first | rfl | simp)) | (simp [*]; done), by repeat (first | exact Drawn0.refl _ | apply Drawn0.step)⟩
      · rw [if_neg c5] at H
        exact absurd H (by simp)
    · rw [if_neg c4] at H
      have c4b0 : decide (1 ≤ a1) = false := decide_eq_false c4
      clear c4
      obtain rfl := Option.some.inj H
      go_enter Try.func56, Try.ntmps56
      go_wp2
      go_ret
      exact ⟨by first | rfl | (simp; done) | (simp [*]; done), by repeat (first | exact Drawn0.refl _ | apply Drawn0.step)⟩

end Go.Proofs.Ytecbngibhobgbaa.QTteRound
