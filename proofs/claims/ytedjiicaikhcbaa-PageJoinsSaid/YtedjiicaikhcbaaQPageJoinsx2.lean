-- Printed by a program of this session (wip/print/myprint.py) out of the translation; Lean checks it.
import Derived.Test.YtedjiicaikhcbaaQPageJoinsx0
import Derived.Test.YtedjiicaikhcbaaQPageJoinsx1
namespace Go.Proofs.Ytedjiicaikhcbaa.QPageJoins
open Go.RowKit Go.Proofs.YtedjiicaikhcbaaW.PrintWords Go.Proofs.YtedjiicaikhcbaaW.PrintLast Go.Proofs.YtedjiicaikhcbaaW.PrintMore
attribute [local go_sem] max2_int min2_int max_two min_two max_three min_three max_four min_four   -- for this text's walks alone
set_option linter.unusedVariables false
set_option linter.unusedSimpArgs false

/-! ### page_In: function 35 -/
def page_In.f (a0 : Int) (a1 : Int) (a2 : Int) : Option (Bool) := (page_May.f a2).bind fun t131 => (if t131 = true then ((page_Base.f a0 a2).bind fun t132 => ((page_Base.f a1 a2).bind fun t133 => (some (t132 == t133)))) else (some false))
set_option maxHeartbeats 8000000 in
set_option maxRecDepth 100000 in
theorem page_In.calls (a0 : Int) (a1 : Int) (a2 : Int) (r : Bool) (w : World) (h : page_In.f a0 a1 a2 = some r) :
    Calls Try.prog 35 #[.int .u64 a0, .int .u64 a1, .int .i64 a2] w fun e w' => e = .returned (.bool r) ∧ Drawn0 w w' := by
  have H : ((page_May.f a2).bind fun t131 => (if t131 = true then ((page_Base.f a0 a2).bind fun t132 => ((page_Base.f a1 a2).bind fun t133 => (some (t132 == t133)))) else (some false))) = some r := h
  clear h
  replace H := Option.bind_eq_some_iff.mp H
  obtain ⟨t131, A40, H⟩ := H
  replace H : (if t131 = true then ((page_Base.f a0 a2).bind fun t132 => ((page_Base.f a1 a2).bind fun t133 => (some (t132 == t133)))) else (some false)) = some r := H
  have A4 := Aside0.mk A40
  clear A40
  by_cases c5 : t131 = true
  · subst c5
    have H1 : ((page_Base.f a0 a2).bind fun t132 => ((page_Base.f a1 a2).bind fun t133 => (some (t132 == t133)))) = some r := by rw [if_pos rfl] at H; exact H
    clear H
    have H := H1
    clear H1
    replace H := Option.bind_eq_some_iff.mp H
    obtain ⟨t132, A60, H⟩ := H
    replace H : ((page_Base.f a1 a2).bind fun t133 => (some (t132 == t133))) = some r := H
    have A6 := Aside0.mk A60
    clear A60
    replace H := Option.bind_eq_some_iff.mp H
    obtain ⟨t133, A70, H⟩ := H
    replace H : (some (t132 == t133)) = some r := H
    have A7 := Aside0.mk A70
    clear A70
    obtain rfl := Option.some.inj H
    go_enter Try.func35, Try.ntmps35
    go_wp2_with (first | ((with_reducible refine gate_callee (f := 28) rfl ?_); refine goesL_ (some 8) rfl rfl Try.func28 (by kernel_rfl) rfl #[.int .i64 a2] rfl (by (try simp only [List.map_toArray, List.map_cons, List.map_nil]); first | done | rfl | (simp only [List.length_drop, List.length_take]; rfl)) ?_; (with_reducible refine (page_May.calls a2 true _ A4.out).mono ?_); rintro e w' ⟨rfl, ⟨nd, rfl⟩⟩; refine ⟨_, rfl, ?_⟩) | (go_at_call 31; (with_reducible refine (page_Base.calls a0 a2 t132 _ A6.out).mono ?_); rintro e w' ⟨rfl, ⟨nd, rfl⟩⟩) | (go_at_call 31; (with_reducible refine (page_Base.calls a1 a2 t133 _ A7.out).mono ?_); rintro e w' ⟨rfl, ⟨nd, rfl⟩⟩))
    go_ret
    exact ⟨by first | rfl | (simp; done) | (simp [*]; done), by repeat (first | exact Drawn0.refl _ | apply Drawn0.step)⟩
  · replace c5 := Bool.eq_false_iff.mpr c5
    subst c5
    have H1 : (some false) = some r := by rw [if_neg (show ¬ (false = true) by decide)] at H; exact H
    clear H
    have H := H1
    clear H1
    obtain rfl := Option.some.inj H
    go_enter Try.func35, Try.ntmps35
    go_wp2_with (first | ((with_reducible refine gate_callee (f := 28) rfl ?_); refine goesL_ (some 8) rfl rfl Try.func28 (by kernel_rfl) rfl #[.int .i64 a2] rfl (by (try simp only [List.map_toArray, List.map_cons, List.map_nil]); first | done | rfl | (simp only [List.length_drop, List.length_take]; rfl)) ?_; (with_reducible refine (page_May.calls a2 false _ A4.out).mono ?_); rintro e w' ⟨rfl, ⟨nd, rfl⟩⟩; refine ⟨_, rfl, ?_⟩))
    go_ret
    exact ⟨by first | rfl | (simp; done) | (simp [*]; done), by repeat (first | exact Drawn0.refl _ | apply Drawn0.step)⟩

/-! ### lookasidelaw02_PageJoins: function 7 -/
mutual
def lookasidelaw02_PageJoins.j0 : Nat → Int → Int → Int → Option (Bool)
  | 0, _, _, _ => none
  | k + 1, x0, x1, x2 => if x2 < 0 then (lookasidelaw02_PageJoins.j1 k x0 x1 (wrap64 (-(wrap64 (x2 + 1))))) else (lookasidelaw02_PageJoins.j1 k x0 x1 x2)
def lookasidelaw02_PageJoins.j1 : Nat → Int → Int → Int → Option (Bool)
  | 0, _, _, _ => none
  | k + 1, x0, x1, x2 => (page_Base.f x0 (Int.tmod x1 4)).bind fun t134 => ((page_Offset.f x0 (Int.tmod x1 4)).bind fun t135 => (if (IntKind.u64.wrap (t134 + t135)) = x0 then ((page_Offset.f x0 (Int.tmod x1 4)).bind fun t136 => ((page_Bytes.f (Int.tmod x1 4)).bind fun t137 => (if t136 < t137 then ((page_Base.f x0 (mn (Int.tmod x1 4) (Int.tmod x2 4))).bind fun t138 => ((page_Base.f t138 (mx (Int.tmod x1 4) (Int.tmod x2 4))).bind fun t139 => ((page_Base.f x0 (mx (Int.tmod x1 4) (Int.tmod x2 4))).bind fun t140 => (if t139 = t140 then ((page_In.f t138 x0 (mx (Int.tmod x1 4) (Int.tmod x2 4))).bind fun t141 => (if t141 = true then ((lookasidelaw02_lives.f k).bind fun t142 => (some t142)) else (some false))) else (some false))))) else (some false)))) else (some false)))
end
def lookasidelaw02_PageJoins.f (k : Nat) (a0 : Int) (a1 : Int) (a2 : Int) : Option (Bool) := if a1 < 0 then (lookasidelaw02_PageJoins.j0 k a0 (wrap64 (-(wrap64 (a1 + 1)))) a2) else (lookasidelaw02_PageJoins.j0 k a0 a1 a2)
theorem lookasidelaw02_PageJoins.mono_l : ∀ k, (∀ y0 y1 y2, LeO (lookasidelaw02_PageJoins.j0 k y0 y1 y2) (lookasidelaw02_PageJoins.j0 (k + 1) y0 y1 y2)) ∧ (∀ y0 y1 y2, LeO (lookasidelaw02_PageJoins.j1 k y0 y1 y2) (lookasidelaw02_PageJoins.j1 (k + 1) y0 y1 y2))
  | 0 => ⟨fun _ _ _ r h => by simp [lookasidelaw02_PageJoins.j0] at h, fun _ _ _ r h => by simp [lookasidelaw02_PageJoins.j1] at h⟩
  | k + 1 => by
    obtain ⟨ih0, ih1⟩ := lookasidelaw02_PageJoins.mono_l k
    refine ⟨?_, ?_⟩
    · intro y0 y1 y2
      unfold lookasidelaw02_PageJoins.j0
      repeat' first
      | (with_reducible exact ih0 _ _ _)
      | (with_reducible exact ih1 _ _ _)
      | (with_reducible exact lookasidelaw02_lives.mono _)
      | (with_reducible exact LeO.refl _)
      | (with_reducible exact LeO.none _)
      | (with_reducible refine LeO.ite ?_ ?_)
      | (with_reducible refine LeO.bind ?_ (fun _ => ?_))
      | exact ih0 _ _ _
      | exact ih1 _ _ _
      | exact lookasidelaw02_lives.mono _
      | exact LeO.none _
      | refine LeO.ite ?_ ?_
      | refine LeO.bind ?_ (fun _ => ?_)
    · intro y0 y1 y2
      unfold lookasidelaw02_PageJoins.j1
      repeat' first
      | (with_reducible exact ih0 _ _ _)
      | (with_reducible exact ih1 _ _ _)
      | (with_reducible exact lookasidelaw02_lives.mono _)
      | (with_reducible exact LeO.refl _)
      | (with_reducible exact LeO.none _)
      | (with_reducible refine LeO.ite ?_ ?_)
      | (with_reducible refine LeO.bind ?_ (fun _ => ?_))
      | exact ih0 _ _ _
      | exact ih1 _ _ _
      | exact lookasidelaw02_lives.mono _
      | exact LeO.none _
      | refine LeO.ite ?_ ?_
      | refine LeO.bind ?_ (fun _ => ?_)
theorem lookasidelaw02_PageJoins.mono : ∀ a0 a1 a2 k, LeO (lookasidelaw02_PageJoins.f k a0 a1 a2) (lookasidelaw02_PageJoins.f (k + 1) a0 a1 a2) := by
  intro a0 a1 a2 k
  obtain ⟨ih0, ih1⟩ := lookasidelaw02_PageJoins.mono_l k
  unfold lookasidelaw02_PageJoins.f
  repeat' first
      | (with_reducible exact ih0 _ _ _)
      | (with_reducible exact ih1 _ _ _)
      | (with_reducible exact lookasidelaw02_lives.mono _)
      | (with_reducible exact LeO.refl _)
      | (with_reducible exact LeO.none _)
      | (with_reducible refine LeO.ite ?_ ?_)
      | (with_reducible refine LeO.bind ?_ (fun _ => ?_))
      | exact ih0 _ _ _
      | exact ih1 _ _ _
      | exact lookasidelaw02_lives.mono _
      | exact LeO.none _
      | refine LeO.ite ?_ ?_
      | refine LeO.bind ?_ (fun _ => ?_)
set_option maxHeartbeats 8000000 in
set_option maxRecDepth 100000 in
theorem lookasidelaw02_PageJoins.calls (k : Nat) (a0 : Int) (a1 : Int) (a2 : Int) (r : Bool) (w : World) (h : lookasidelaw02_PageJoins.f k a0 a1 a2 = some r) :
    Calls Try.prog 7 #[.int .u64 a0, .int .i64 a1, .int .i64 a2] w fun e w' => e = .returned (.bool r) ∧ Below w.heap.size w w' := by
  have HB := Aside0.mk (Below.refl w.heap.size w)
  have H : (if a1 < 0 then (lookasidelaw02_PageJoins.j0 k a0 (wrap64 (-(wrap64 (a1 + 1)))) a2) else (lookasidelaw02_PageJoins.j0 k a0 a1 a2)) = some r := h
  clear h
  have HC4 := Aside0.mk H
  clear H
  go_enter Try.func7, Try.ntmps7
  go_upto_if 9 with (fail)
  go_cut [1] (fun v1 wc => ∃ (kq : Nat) (x1_3 : Int), v1 = .int .i64 x1_3 ∧ Aside0 (lookasidelaw02_PageJoins.j0 kq a0 x1_3 a2 = some r) ∧ Aside0 (kq ≤ k) ∧ Aside0 (Below w.heap.size w wc))
  case first =>
    have H := HC4.out
    clear HC4
    by_cases c5 : a1 < 0
    · rw [if_pos c5] at H
      have c5b0 : decide (a1 < 0) = true := decide_eq_true c5
      clear c5
      (first | rw [c5b0] | (simp only [i64_w, i32_w]; rw [c5b0]) | skip)
      have H' := Aside0.mk H
      clear H
      go_wp2
      go_meet
      case rel => exact ⟨_, (wrap64 (-(wrap64 (a1 + 1)))), (by first | rfl | (simp; done) | (simp [*]; done)), H', ⟨by first | omega | exact Nat.le_refl _⟩, ⟨by repeat (first | (with_reducible first | exact HB.out | apply below_alloc | apply pw_below_drewN | apply below_drew1) | exact HB.out)⟩⟩
    · rw [if_neg c5] at H
      have c5b0 : decide (a1 < 0) = false := decide_eq_false c5
      clear c5
      (first | rw [c5b0] | (simp only [i64_w, i32_w]; rw [c5b0]) | skip)
      have H' := Aside0.mk H
      clear H
      go_wp2
      go_meet
      case rel => exact ⟨_, (a1), (by first | rfl | (simp; done) | (simp [*]; done)), H', ⟨by first | omega | exact Nat.le_refl _⟩, ⟨by repeat (first | (with_reducible first | exact HB.out | apply below_alloc | apply pw_below_drewN | apply below_drew1) | exact HB.out)⟩⟩
  case rest =>
    clear HC4
    try clear p2
    try clear c5
    try clear c5b0
    obtain ⟨kq, x1_3, rfl, HA, HJ3, HB⟩ := hcut
    cases kq with
    | zero => exact absurd HA.out (by simp [lookasidelaw02_PageJoins.j0])
    | succ kj3 =>
      have H := HA.out
      clear HA
      simp only [lookasidelaw02_PageJoins.j0] at H
      have HC6 := Aside0.mk H
      clear H
      go_upto_if 14 with (fail)
      go_cut [2] (fun v2 wc => ∃ (kq : Nat) (x2_5 : Int), v2 = .int .i64 x2_5 ∧ Aside0 (lookasidelaw02_PageJoins.j1 kq a0 x1_3 x2_5 = some r) ∧ Aside0 (kq ≤ kj3) ∧ Aside0 (Below w.heap.size w wc))
      case first =>
        have H := HC6.out
        clear HC6
        by_cases c7 : a2 < 0
        · rw [if_pos c7] at H
          have c7b0 : decide (a2 < 0) = true := decide_eq_true c7
          clear c7
          (first | rw [c7b0] | (simp only [i64_w, i32_w]; rw [c7b0]) | skip)
          have H' := Aside0.mk H
          clear H
          go_wp2
          go_meet
          case rel => exact ⟨_, (wrap64 (-(wrap64 (a2 + 1)))), (by first | rfl | (simp; done) | (simp [*]; done)), H', ⟨by have := HJ3.out; first | omega | exact Nat.le_refl _⟩, ⟨by repeat (first | (with_reducible first | exact HB.out | apply below_alloc | apply pw_below_drewN | apply below_drew1) | exact HB.out)⟩⟩
        · rw [if_neg c7] at H
          have c7b0 : decide (a2 < 0) = false := decide_eq_false c7
          clear c7
          (first | rw [c7b0] | (simp only [i64_w, i32_w]; rw [c7b0]) | skip)
          have H' := Aside0.mk H
          clear H
          go_wp2
          go_meet
          case rel => exact ⟨_, (a2), (by first | rfl | (simp; done) | (simp [*]; done)), H', ⟨by have := HJ3.out; first | omega | exact Nat.le_refl _⟩, ⟨by repeat (first | (with_reducible first | exact HB.out | apply below_alloc | apply pw_below_drewN | apply below_drew1) | exact HB.out)⟩⟩
      case rest =>
        clear HC6
        try clear p2
        try clear c5
        try clear c5b0
        try clear p6
        try clear c7
        try clear c7b0
        try clear p2
        obtain ⟨kq, x2_5, rfl, HA, HJ5, HB⟩ := hcut
        cases kq with
        | zero => exact absurd HA.out (by simp [lookasidelaw02_PageJoins.j1])
        | succ kj5 =>
          have H := HA.out
          clear HA
          simp only [lookasidelaw02_PageJoins.j1] at H
          obtain ⟨ji8, hji8⟩ : ∃ j_ : Int, (mx (Int.tmod x1_3 4) (Int.tmod x2_5 4)) = j_ := ⟨_, rfl⟩
          replace H : ((page_Base.f a0 (Int.tmod x1_3 4)).bind fun t134 => ((page_Offset.f a0 (Int.tmod x1_3 4)).bind fun t135 => (if (IntKind.u64.wrap (t134 + t135)) = a0 then ((page_Offset.f a0 (Int.tmod x1_3 4)).bind fun t136 => ((page_Bytes.f (Int.tmod x1_3 4)).bind fun t137 => (if t136 < t137 then ((page_Base.f a0 (mn (Int.tmod x1_3 4) (Int.tmod x2_5 4))).bind fun t138 => ((page_Base.f t138 (ji8)).bind fun t139 => ((page_Base.f a0 (ji8)).bind fun t140 => (if t139 = t140 then ((page_In.f t138 a0 (ji8)).bind fun t141 => (if t141 = true then ((lookasidelaw02_lives.f kj5).bind fun t142 => (some t142)) else (some false))) else (some false))))) else (some false)))) else (some false)))) = some r := by first | (rw [hji8] at H; exact H) | (simp only [hji8] at H ⊢; exact H)
          have hji8_ : (if (Int.tmod x1_3 4) < (Int.tmod x2_5 4) then (Int.tmod x2_5 4) else (Int.tmod x1_3 4)) = ji8 := hji8
          replace H := Option.bind_eq_some_iff.mp H
          obtain ⟨t134, A90, H⟩ := H
          replace H : ((page_Offset.f a0 (Int.tmod x1_3 4)).bind fun t135 => (if (IntKind.u64.wrap (t134 + t135)) = a0 then ((page_Offset.f a0 (Int.tmod x1_3 4)).bind fun t136 => ((page_Bytes.f (Int.tmod x1_3 4)).bind fun t137 => (if t136 < t137 then ((page_Base.f a0 (mn (Int.tmod x1_3 4) (Int.tmod x2_5 4))).bind fun t138 => ((page_Base.f t138 (ji8)).bind fun t139 => ((page_Base.f a0 (ji8)).bind fun t140 => (if t139 = t140 then ((page_In.f t138 a0 (ji8)).bind fun t141 => (if t141 = true then ((lookasidelaw02_lives.f kj5).bind fun t142 => (some t142)) else (some false))) else (some false))))) else (some false)))) else (some false))) = some r := H
          have A9 := Aside0.mk A90
          clear A90
          replace H := Option.bind_eq_some_iff.mp H
          obtain ⟨t135, A100, H⟩ := H
          replace H : (if (IntKind.u64.wrap (t134 + t135)) = a0 then ((page_Offset.f a0 (Int.tmod x1_3 4)).bind fun t136 => ((page_Bytes.f (Int.tmod x1_3 4)).bind fun t137 => (if t136 < t137 then ((page_Base.f a0 (mn (Int.tmod x1_3 4) (Int.tmod x2_5 4))).bind fun t138 => ((page_Base.f t138 (ji8)).bind fun t139 => ((page_Base.f a0 (ji8)).bind fun t140 => (if t139 = t140 then ((page_In.f t138 a0 (ji8)).bind fun t141 => (if t141 = true then ((lookasidelaw02_lives.f kj5).bind fun t142 => (some t142)) else (some false))) else (some false))))) else (some false)))) else (some false)) = some r := H
          have A10 := Aside0.mk A100
          clear A100
          by_cases c11 : (IntKind.u64.wrap (t134 + t135)) = a0
          · rw [if_pos c11] at H
            have c11b0 : ((IntKind.u64.wrap (t134 + t135)) == a0) = true := beq_iff_eq.mpr c11
            have c11b1 : ((IntKind.u64.wrap (t134 + t135)) != a0) = false := bne_eq_false_iff_eq.mpr c11
            clear c11
            replace H := Option.bind_eq_some_iff.mp H
            obtain ⟨t136, A120, H⟩ := H
            replace H : ((page_Bytes.f (Int.tmod x1_3 4)).bind fun t137 => (if t136 < t137 then ((page_Base.f a0 (mn (Int.tmod x1_3 4) (Int.tmod x2_5 4))).bind fun t138 => ((page_Base.f t138 (ji8)).bind fun t139 => ((page_Base.f a0 (ji8)).bind fun t140 => (if t139 = t140 then ((page_In.f t138 a0 (ji8)).bind fun t141 => (if t141 = true then ((lookasidelaw02_lives.f kj5).bind fun t142 => (some t142)) else (some false))) else (some false))))) else (some false))) = some r := H
            have A12 := Aside0.mk A120
            clear A120
            replace H := Option.bind_eq_some_iff.mp H
            obtain ⟨t137, A130, H⟩ := H
            replace H : (if t136 < t137 then ((page_Base.f a0 (mn (Int.tmod x1_3 4) (Int.tmod x2_5 4))).bind fun t138 => ((page_Base.f t138 (ji8)).bind fun t139 => ((page_Base.f a0 (ji8)).bind fun t140 => (if t139 = t140 then ((page_In.f t138 a0 (ji8)).bind fun t141 => (if t141 = true then ((lookasidelaw02_lives.f kj5).bind fun t142 => (some t142)) else (some false))) else (some false))))) else (some false)) = some r := H
            have A13 := Aside0.mk A130
            clear A130
            by_cases c14 : t136 < t137
            · rw [if_pos c14] at H
              have c14b0 : decide (t136 < t137) = true := decide_eq_true c14
              clear c14
              obtain ⟨ji15, hji15⟩ : ∃ j_ : Int, (mn (Int.tmod x1_3 4) (Int.tmod x2_5 4)) = j_ := ⟨_, rfl⟩
              replace H : ((page_Base.f a0 (ji15)).bind fun t138 => ((page_Base.f t138 (ji8)).bind fun t139 => ((page_Base.f a0 (ji8)).bind fun t140 => (if t139 = t140 then ((page_In.f t138 a0 (ji8)).bind fun t141 => (if t141 = true then ((lookasidelaw02_lives.f kj5).bind fun t142 => (some t142)) else (some false))) else (some false))))) = some r := by first | (rw [hji15] at H; exact H) | (simp only [hji15] at H ⊢; exact H)
              (try rw [hji15] at A9)
              (try rw [hji15] at A10)
              (try rw [hji15] at A12)
              (try rw [hji15] at A13)
              have hji15_ : (if (Int.tmod x2_5 4) < (Int.tmod x1_3 4) then (Int.tmod x2_5 4) else (Int.tmod x1_3 4)) = ji15 := hji15
              replace H := Option.bind_eq_some_iff.mp H
              obtain ⟨t138, A160, H⟩ := H
              replace H : ((page_Base.f t138 (ji8)).bind fun t139 => ((page_Base.f a0 (ji8)).bind fun t140 => (if t139 = t140 then ((page_In.f t138 a0 (ji8)).bind fun t141 => (if t141 = true then ((lookasidelaw02_lives.f kj5).bind fun t142 => (some t142)) else (some false))) else (some false)))) = some r := H
              have A16 := Aside0.mk A160
              clear A160
              replace H := Option.bind_eq_some_iff.mp H
              obtain ⟨t139, A170, H⟩ := H
              replace H : ((page_Base.f a0 (ji8)).bind fun t140 => (if t139 = t140 then ((page_In.f t138 a0 (ji8)).bind fun t141 => (if t141 = true then ((lookasidelaw02_lives.f kj5).bind fun t142 => (some t142)) else (some false))) else (some false))) = some r := H
              have A17 := Aside0.mk A170
              clear A170
              replace H := Option.bind_eq_some_iff.mp H
              obtain ⟨t140, A180, H⟩ := H
              replace H : (if t139 = t140 then ((page_In.f t138 a0 (ji8)).bind fun t141 => (if t141 = true then ((lookasidelaw02_lives.f kj5).bind fun t142 => (some t142)) else (some false))) else (some false)) = some r := H
              have A18 := Aside0.mk A180
              clear A180
              by_cases c19 : t139 = t140
              · rw [if_pos c19] at H
                have c19b0 : (t139 == t140) = true := beq_iff_eq.mpr c19
                have c19b1 : (t139 != t140) = false := bne_eq_false_iff_eq.mpr c19
                clear c19
                replace H := Option.bind_eq_some_iff.mp H
                obtain ⟨t141, A200, H⟩ := H
                replace H : (if t141 = true then ((lookasidelaw02_lives.f kj5).bind fun t142 => (some t142)) else (some false)) = some r := H
                have A20 := Aside0.mk A200
                clear A200
                by_cases c21 : t141 = true
                · subst c21
                  have H1 : ((lookasidelaw02_lives.f kj5).bind fun t142 => (some t142)) = some r := by rw [if_pos rfl] at H; exact H
                  clear H
                  have H := H1
                  clear H1
                  replace H := Option.bind_eq_some_iff.mp H
                  obtain ⟨t142, A220, H⟩ := H
                  replace H : (some t142) = some r := H
                  have A22 := Aside0.mk A220
                  clear A220
                  obtain rfl := Option.some.inj H
                  go_wp2_with (first | ((with_reducible refine gate_callee (f := 31) rfl ?_); refine goesL_ (some 27) rfl rfl Try.func31 (by kernel_rfl) rfl #[.int .u64 a0, .int .i64 (Int.tmod x1_3 4)] rfl (by (try simp only [List.map_toArray, List.map_cons, List.map_nil]); first | done | rfl | (simp only [List.length_drop, List.length_take]; rfl)) ?_; (with_reducible refine (page_Base.calls a0 (Int.tmod x1_3 4) t134 _ A9.out).mono ?_); rintro e w' ⟨rfl, ⟨nd, rfl⟩⟩; refine ⟨_, rfl, ?_⟩) | ((with_reducible refine gate_callee (f := 32) rfl ?_); refine goesL_ (some 30) rfl rfl Try.func32 (by kernel_rfl) rfl #[.int .u64 a0, .int .i64 (Int.tmod x1_3 4)] rfl (by (try simp only [List.map_toArray, List.map_cons, List.map_nil]); first | done | rfl | (simp only [List.length_drop, List.length_take]; rfl)) ?_; (with_reducible refine (page_Offset.calls a0 (Int.tmod x1_3 4) t135 _ A10.out).mono ?_); rintro e w' ⟨rfl, ⟨nd, rfl⟩⟩; refine ⟨_, rfl, ?_⟩) | (go_at_call 32; (with_reducible refine (page_Offset.calls a0 (Int.tmod x1_3 4) t136 _ A12.out).mono ?_); rintro e w' ⟨rfl, ⟨nd, rfl⟩⟩) | (go_at_call 19; (with_reducible refine (page_Bytes.calls (Int.tmod x1_3 4) t137 _ A13.out).mono ?_); rintro e w' ⟨rfl, ⟨nd, rfl⟩⟩) | (go_at_call 31; (with_reducible refine (page_Base.calls a0 ji15 t138 _ A16.out).mono ?_); rintro e w' ⟨rfl, ⟨nd, rfl⟩⟩) | (go_at_call 31; (with_reducible refine (page_Base.calls t138 ji8 t139 _ A17.out).mono ?_); rintro e w' ⟨rfl, ⟨nd, rfl⟩⟩) | (go_at_call 31; (with_reducible refine (page_Base.calls a0 ji8 t140 _ A18.out).mono ?_); rintro e w' ⟨rfl, ⟨nd, rfl⟩⟩) | (go_at_call 35; (with_reducible refine (page_In.calls t138 a0 ji8 true _ A20.out).mono ?_); rintro e w' ⟨rfl, ⟨nd, rfl⟩⟩) | (go_at_call 20; (with_reducible refine (lookasidelaw02_lives.calls kj5  t142 _ A22.out).mono ?_); rintro e w23 ⟨rfl, hb⟩; have n0_ := Aside0.mk (below_step (by repeat (first | (with_reducible first | exact HB.out | apply below_alloc | apply pw_below_drewN | apply below_drew1) | exact HB.out)) hb); clear HB; have HB := n0_; clear n0_; (try clear hb); (try clear hb2); (try clear hk); (try clear hi)))
                  go_ret
                  exact ⟨by first | rfl | (simp [errW_none, errW_some] <;> rfl) | (simp only [← hji8, ← hji15]; first | rfl | (simp [errW_none, errW_some] <;> rfl)) | (simp [*, errW_none, errW_some] <;> rfl), by repeat (first | (with_reducible first | exact HB.out | apply below_alloc | apply pw_below_drewN | apply below_drew1) | exact HB.out)⟩
                · replace c21 := Bool.eq_false_iff.mpr c21
                  subst c21
                  have H1 : (some false) = some r := by rw [if_neg (show ¬ (false = true) by decide)] at H; exact H
                  clear H
                  have H := H1
                  clear H1
                  obtain rfl := Option.some.inj H
                  go_wp2_with (first | ((with_reducible refine gate_callee (f := 31) rfl ?_); refine goesL_ (some 27) rfl rfl Try.func31 (by kernel_rfl) rfl #[.int .u64 a0, .int .i64 (Int.tmod x1_3 4)] rfl (by (try simp only [List.map_toArray, List.map_cons, List.map_nil]); first | done | rfl | (simp only [List.length_drop, List.length_take]; rfl)) ?_; (with_reducible refine (page_Base.calls a0 (Int.tmod x1_3 4) t134 _ A9.out).mono ?_); rintro e w' ⟨rfl, ⟨nd, rfl⟩⟩; refine ⟨_, rfl, ?_⟩) | ((with_reducible refine gate_callee (f := 32) rfl ?_); refine goesL_ (some 30) rfl rfl Try.func32 (by kernel_rfl) rfl #[.int .u64 a0, .int .i64 (Int.tmod x1_3 4)] rfl (by (try simp only [List.map_toArray, List.map_cons, List.map_nil]); first | done | rfl | (simp only [List.length_drop, List.length_take]; rfl)) ?_; (with_reducible refine (page_Offset.calls a0 (Int.tmod x1_3 4) t135 _ A10.out).mono ?_); rintro e w' ⟨rfl, ⟨nd, rfl⟩⟩; refine ⟨_, rfl, ?_⟩) | (go_at_call 32; (with_reducible refine (page_Offset.calls a0 (Int.tmod x1_3 4) t136 _ A12.out).mono ?_); rintro e w' ⟨rfl, ⟨nd, rfl⟩⟩) | (go_at_call 19; (with_reducible refine (page_Bytes.calls (Int.tmod x1_3 4) t137 _ A13.out).mono ?_); rintro e w' ⟨rfl, ⟨nd, rfl⟩⟩) | (go_at_call 31; (with_reducible refine (page_Base.calls a0 ji15 t138 _ A16.out).mono ?_); rintro e w' ⟨rfl, ⟨nd, rfl⟩⟩) | (go_at_call 31; (with_reducible refine (page_Base.calls t138 ji8 t139 _ A17.out).mono ?_); rintro e w' ⟨rfl, ⟨nd, rfl⟩⟩) | (go_at_call 31; (with_reducible refine (page_Base.calls a0 ji8 t140 _ A18.out).mono ?_); rintro e w' ⟨rfl, ⟨nd, rfl⟩⟩) | (go_at_call 35; (with_reducible refine (page_In.calls t138 a0 ji8 false _ A20.out).mono ?_); rintro e w' ⟨rfl, ⟨nd, rfl⟩⟩))
                  go_ret
                  exact ⟨by first | rfl | (simp [errW_none, errW_some] <;> rfl) | (simp only [← hji8, ← hji15]; first | rfl | (simp [errW_none, errW_some] <;> rfl)) | (simp [*, errW_none, errW_some] <;> rfl), by repeat (first | (with_reducible first | exact HB.out | apply below_alloc | apply pw_below_drewN | apply below_drew1) | exact HB.out)⟩
              · rw [if_neg c19] at H
                have c19b0 : (t139 == t140) = false := beq_eq_false_iff_ne.mpr c19
                have c19b1 : (t139 != t140) = true := bne_iff_ne.mpr c19
                obtain rfl := Option.some.inj H
                go_wp2_with (first | ((with_reducible refine gate_callee (f := 31) rfl ?_); refine goesL_ (some 27) rfl rfl Try.func31 (by kernel_rfl) rfl #[.int .u64 a0, .int .i64 (Int.tmod x1_3 4)] rfl (by (try simp only [List.map_toArray, List.map_cons, List.map_nil]); first | done | rfl | (simp only [List.length_drop, List.length_take]; rfl)) ?_; (with_reducible refine (page_Base.calls a0 (Int.tmod x1_3 4) t134 _ A9.out).mono ?_); rintro e w' ⟨rfl, ⟨nd, rfl⟩⟩; refine ⟨_, rfl, ?_⟩) | ((with_reducible refine gate_callee (f := 32) rfl ?_); refine goesL_ (some 30) rfl rfl Try.func32 (by kernel_rfl) rfl #[.int .u64 a0, .int .i64 (Int.tmod x1_3 4)] rfl (by (try simp only [List.map_toArray, List.map_cons, List.map_nil]); first | done | rfl | (simp only [List.length_drop, List.length_take]; rfl)) ?_; (with_reducible refine (page_Offset.calls a0 (Int.tmod x1_3 4) t135 _ A10.out).mono ?_); rintro e w' ⟨rfl, ⟨nd, rfl⟩⟩; refine ⟨_, rfl, ?_⟩) | (go_at_call 32; (with_reducible refine (page_Offset.calls a0 (Int.tmod x1_3 4) t136 _ A12.out).mono ?_); rintro e w' ⟨rfl, ⟨nd, rfl⟩⟩) | (go_at_call 19; (with_reducible refine (page_Bytes.calls (Int.tmod x1_3 4) t137 _ A13.out).mono ?_); rintro e w' ⟨rfl, ⟨nd, rfl⟩⟩) | (go_at_call 31; (with_reducible refine (page_Base.calls a0 ji15 t138 _ A16.out).mono ?_); rintro e w' ⟨rfl, ⟨nd, rfl⟩⟩) | (go_at_call 31; (with_reducible refine (page_Base.calls t138 ji8 t139 _ A17.out).mono ?_); rintro e w' ⟨rfl, ⟨nd, rfl⟩⟩) | (go_at_call 31; (with_reducible refine (page_Base.calls a0 ji8 t140 _ A18.out).mono ?_); rintro e w' ⟨rfl, ⟨nd, rfl⟩⟩))
                go_ret
                exact ⟨by first | rfl | (simp [errW_none, errW_some] <;> rfl) | (simp only [← hji8, ← hji15]; first | rfl | (simp [errW_none, errW_some] <;> rfl)) | (simp [*, errW_none, errW_some] <;> rfl), by repeat (first | (with_reducible first | exact HB.out | apply below_alloc | apply pw_below_drewN | apply below_drew1) | exact HB.out)⟩
            · rw [if_neg c14] at H
              have c14b0 : decide (t136 < t137) = false := decide_eq_false c14
              clear c14
              obtain rfl := Option.some.inj H
              go_wp2_with (first | ((with_reducible refine gate_callee (f := 31) rfl ?_); refine goesL_ (some 27) rfl rfl Try.func31 (by kernel_rfl) rfl #[.int .u64 a0, .int .i64 (Int.tmod x1_3 4)] rfl (by (try simp only [List.map_toArray, List.map_cons, List.map_nil]); first | done | rfl | (simp only [List.length_drop, List.length_take]; rfl)) ?_; (with_reducible refine (page_Base.calls a0 (Int.tmod x1_3 4) t134 _ A9.out).mono ?_); rintro e w' ⟨rfl, ⟨nd, rfl⟩⟩; refine ⟨_, rfl, ?_⟩) | ((with_reducible refine gate_callee (f := 32) rfl ?_); refine goesL_ (some 30) rfl rfl Try.func32 (by kernel_rfl) rfl #[.int .u64 a0, .int .i64 (Int.tmod x1_3 4)] rfl (by (try simp only [List.map_toArray, List.map_cons, List.map_nil]); first | done | rfl | (simp only [List.length_drop, List.length_take]; rfl)) ?_; (with_reducible refine (page_Offset.calls a0 (Int.tmod x1_3 4) t135 _ A10.out).mono ?_); rintro e w' ⟨rfl, ⟨nd, rfl⟩⟩; refine ⟨_, rfl, ?_⟩) | (go_at_call 32; (with_reducible refine (page_Offset.calls a0 (Int.tmod x1_3 4) t136 _ A12.out).mono ?_); rintro e w' ⟨rfl, ⟨nd, rfl⟩⟩) | (go_at_call 19; (with_reducible refine (page_Bytes.calls (Int.tmod x1_3 4) t137 _ A13.out).mono ?_); rintro e w' ⟨rfl, ⟨nd, rfl⟩⟩))
              go_ret
              exact ⟨by first | rfl | (simp [errW_none, errW_some] <;> rfl) | (simp only [← hji8]; first | rfl | (simp [errW_none, errW_some] <;> rfl)) | (simp [*, errW_none, errW_some] <;> rfl), by repeat (first | (with_reducible first | exact HB.out | apply below_alloc | apply pw_below_drewN | apply below_drew1) | exact HB.out)⟩
          · rw [if_neg c11] at H
            have c11b0 : ((IntKind.u64.wrap (t134 + t135)) == a0) = false := beq_eq_false_iff_ne.mpr c11
            have c11b1 : ((IntKind.u64.wrap (t134 + t135)) != a0) = true := bne_iff_ne.mpr c11
            obtain rfl := Option.some.inj H
            go_wp2_with (first | ((with_reducible refine gate_callee (f := 31) rfl ?_); refine goesL_ (some 27) rfl rfl Try.func31 (by kernel_rfl) rfl #[.int .u64 a0, .int .i64 (Int.tmod x1_3 4)] rfl (by (try simp only [List.map_toArray, List.map_cons, List.map_nil]); first | done | rfl | (simp only [List.length_drop, List.length_take]; rfl)) ?_; (with_reducible refine (page_Base.calls a0 (Int.tmod x1_3 4) t134 _ A9.out).mono ?_); rintro e w' ⟨rfl, ⟨nd, rfl⟩⟩; refine ⟨_, rfl, ?_⟩) | ((with_reducible refine gate_callee (f := 32) rfl ?_); refine goesL_ (some 30) rfl rfl Try.func32 (by kernel_rfl) rfl #[.int .u64 a0, .int .i64 (Int.tmod x1_3 4)] rfl (by (try simp only [List.map_toArray, List.map_cons, List.map_nil]); first | done | rfl | (simp only [List.length_drop, List.length_take]; rfl)) ?_; (with_reducible refine (page_Offset.calls a0 (Int.tmod x1_3 4) t135 _ A10.out).mono ?_); rintro e w' ⟨rfl, ⟨nd, rfl⟩⟩; refine ⟨_, rfl, ?_⟩))
            go_ret
            exact ⟨by first | rfl | (simp [errW_none, errW_some] <;> rfl) | (simp only [← hji8]; first | rfl | (simp [errW_none, errW_some] <;> rfl)) | (simp [*, errW_none, errW_some] <;> rfl), by repeat (first | (with_reducible first | exact HB.out | apply below_alloc | apply pw_below_drewN | apply below_drew1) | exact HB.out)⟩

/-- THE ONE PURE STATEMENT of lookasidelaw02_PageJoins: yours. -/
def lookasidelaw02_PageJoins.Pure : Prop := ∀ (a0 : Int) (a1 : Int) (a2 : Int), (Lit.int .u64 a0).wf = true → (Lit.int .i64 a1).wf = true → (Lit.int .i64 a2).wf = true → ∃ k, lookasidelaw02_PageJoins.f k a0 a1 a2 = some true
theorem lookasidelaw02_PageJoins.walk (P : lookasidelaw02_PageJoins.Pure) (a0 : Int) (a1 : Int) (a2 : Int) (w : World) (w0 : (Lit.int .u64 a0).wf = true) (w1 : (Lit.int .i64 a1).wf = true) (w2 : (Lit.int .i64 a2).wf = true) :
    Calls Try.prog 7 #[.int .u64 a0, .int .i64 a1, .int .i64 a2] w fun e w' => e = .returned (.bool true) ∧ Below w.heap.size w w' := by
  obtain ⟨k, h⟩ := P a0 a1 a2 w0 w1 w2
  refine (lookasidelaw02_PageJoins.calls k a0 a1 a2 true w h).mono ?_
  rintro e w' ⟨rfl, hd⟩
  exact ⟨rfl, hd⟩

end Go.Proofs.Ytedjiicaikhcbaa.QPageJoins
