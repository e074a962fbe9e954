-- Taken out of a text that a program of this session printed (wip/print/myprint.py, wip/print/take.py); Lean checks it.
import Derived.Test.YtjnffegjpkbjmaaQTsbPlaysx39
namespace Go.Proofs.Ytjnffegjpkbjmaa.QTsbPlays
open Go.RowKit Go.Proofs.YtjnffegjpkbjmaaW.PrintWords Go.Proofs.YtjnffegjpkbjmaaW.PrintLast Go.Proofs.YtjnffegjpkbjmaaW.PrintMore
attribute [local go_sem] max2_int min2_int max_two min_two max_three min_three max_four min_four   -- for this text's walks alone
set_option linter.unusedVariables false
set_option linter.unusedSimpArgs false
/-! ### frames_Frames_in: function 133 -/
def frames_Frames_in.f (s0_0 : List Bool) (s0_1 : Int) (a1 : Int) (a2 : Int) : Option (Bool × Int) := if a1 ≥ 0 then (if a1 < (s0_0.length : Int) then (some (decide (a2 ≤ (wrap64 ((s0_0.length : Int) - a1))), s0_1)) else (some (false, s0_1))) else (some (false, s0_1))
set_option maxHeartbeats 8000000 in
set_option maxRecDepth 100000 in
theorem frames_Frames_in.calls (g : Nat) (s0_0 : List Bool) (s0_1 : Int) (a1 : Int) (a2 : Int) (r1 : Bool) (r2 : Int) (w0 w : World) (hI : IsS93 w0 w g s0_0 s0_1) (hB : Below w0.heap.size w0 w) (h : frames_Frames_in.f s0_0 s0_1 a1 a2 = some (r1, r2)) :
    Calls Try.prog 133 #[.pointer (some ⟨g, 0, none⟩), .int .i64 a1, .int .i64 a2] w fun e w' => e = .returned (.bool r1) ∧ IsS93 w0 w' g s0_0 r2 ∧ Below w0.heap.size w0 w' ∧ KeepBut w w' g none := by
  have HI0 := Aside0.mk hI
  have HK := Aside0.mk (KeepBut.refl w g none)
  have HL := Aside0.mk hB.size
  clear hI
  have HW0 := Aside0.mk hB.size
  have HB := Aside0.mk hB
  clear hB
  have H : (if a1 ≥ 0 then (if a1 < (s0_0.length : Int) then (some (decide (a2 ≤ (wrap64 ((s0_0.length : Int) - a1))), s0_1)) else (some (false, s0_1))) else (some (false, s0_1))) = some (r1, r2) := h
  clear h
  by_cases c4 : a1 ≥ 0
  · rw [if_pos c4] at H
    have c4b0 : decide (0 ≤ a1) = true := decide_eq_true c4
    clear c4
    by_cases c5 : a1 < (s0_0.length : Int)
    · rw [if_pos c5] at H
      have c5b0 : decide (a1 < (s0_0.length : Int)) = true := decide_eq_true c5
      clear c5
      simp only [Option.some.injEq, Prod.mk.injEq] at H
      obtain ⟨rfl, rfl⟩ := H
      obtain ⟨ASz6_0, cSz6_0, HGz6, hgz6, HSz6_0⟩ := HI0.out
      have hcz6_0 := cellS93_0 HGz6
      have hcz6_1 := cellS93_1 HGz6
      have hfz6_1 := blk_frozen HGz6 1
      clear HGz6 hgz6
      go_enter Try.func133, Try.ntmps133
      go_wp2
      go_ret
      exact ⟨by first | rfl | (simp [errW_none, errW_some] <;> rfl) | (simp [*, errW_none, errW_some] <;> rfl), by repeat (first | (with_reducible first | exact HI0.out | apply IsS93.alloc | apply IsS93.drewN | apply IsS93.drew | apply IsS93.set_1) | exact HI0.out), by repeat (first | (with_reducible first | exact HB.out | apply below_alloc | apply pw_below_drewN | apply below_drew1 | refine below_set ?_ (IsS93.ge HI0.out)) | exact HB.out), by repeat (first | (with_reducible first | exact HK.out | apply KeepBut.set_ | apply keep_drewN | apply keep_drew | apply keep_alloc) | exact HK.out)⟩
    · rw [if_neg c5] at H
      have c5b0 : decide (a1 < (s0_0.length : Int)) = false := decide_eq_false c5
      clear c5
      simp only [Option.some.injEq, Prod.mk.injEq] at H
      obtain ⟨rfl, rfl⟩ := H
      obtain ⟨ASz7_0, cSz7_0, HGz7, hgz7, HSz7_0⟩ := HI0.out
      have hcz7_0 := cellS93_0 HGz7
      have hcz7_1 := cellS93_1 HGz7
      have hfz7_1 := blk_frozen HGz7 1
      clear HGz7 hgz7
      go_enter Try.func133, Try.ntmps133
      go_wp2
      go_ret
      exact ⟨by first | rfl | (simp [errW_none, errW_some] <;> rfl) | (simp [*, errW_none, errW_some] <;> rfl), by repeat (first | (with_reducible first | exact HI0.out | apply IsS93.alloc | apply IsS93.drewN | apply IsS93.drew | apply IsS93.set_1) | exact HI0.out), by repeat (first | (with_reducible first | exact HB.out | apply below_alloc | apply pw_below_drewN | apply below_drew1 | refine below_set ?_ (IsS93.ge HI0.out)) | exact HB.out), by repeat (first | (with_reducible first | exact HK.out | apply KeepBut.set_ | apply keep_drewN | apply keep_drew | apply keep_alloc) | exact HK.out)⟩
  · rw [if_neg c4] at H
    have c4b0 : decide (0 ≤ a1) = false := decide_eq_false c4
    clear c4
    simp only [Option.some.injEq, Prod.mk.injEq] at H
    obtain ⟨rfl, rfl⟩ := H
    go_enter Try.func133, Try.ntmps133
    go_wp2
    go_ret
    exact ⟨by first | rfl | (simp [errW_none, errW_some] <;> rfl) | (simp [*, errW_none, errW_some] <;> rfl), by repeat (first | (with_reducible first | exact HI0.out | apply IsS93.alloc | apply IsS93.drewN | apply IsS93.drew | apply IsS93.set_1) | exact HI0.out), by repeat (first | (with_reducible first | exact HB.out | apply below_alloc | apply pw_below_drewN | apply below_drew1 | refine below_set ?_ (IsS93.ge HI0.out)) | exact HB.out), by repeat (first | (with_reducible first | exact HK.out | apply KeepBut.set_ | apply keep_drewN | apply keep_drew | apply keep_alloc) | exact HK.out)⟩
/-! ### page_Bytes: function 84 -/
def page_Bytes.f (a0 : Int) : Option (Int) := (page_May.f a0).bind fun t104 => (if t104 = true then ((page_Bits.f a0).bind fun t105 => (if 0 ≤ t105 then (some (shl .u64 1 t105)) else (none))) else (some 0))
set_option maxHeartbeats 8000000 in
set_option maxRecDepth 100000 in
theorem page_Bytes.calls (a0 : Int) (r : Int) (w : World) (h : page_Bytes.f a0 = some r) :
    Calls Try.prog 84 #[.int .i64 a0] w fun e w' => e = .returned (.int .u64 r) ∧ Drawn0 w w' := by
  have H : ((page_May.f a0).bind fun t104 => (if t104 = true then ((page_Bits.f a0).bind fun t105 => (if 0 ≤ t105 then (some (shl .u64 1 t105)) else (none))) else (some 0))) = some r := h
  clear h
  replace H := Option.bind_eq_some_iff.mp H
  obtain ⟨t104, A20, H⟩ := H
  replace H : (if t104 = true then ((page_Bits.f a0).bind fun t105 => (if 0 ≤ t105 then (some (shl .u64 1 t105)) else (none))) else (some 0)) = some r := H
  have A2 := Aside0.mk A20
  clear A20
  by_cases c3 : t104 = true
  · subst c3
    have H1 : ((page_Bits.f a0).bind fun t105 => (if 0 ≤ t105 then (some (shl .u64 1 t105)) else (none))) = some r := by rw [if_pos rfl] at H; exact H
    clear H
    have H := H1
    clear H1
    replace H := Option.bind_eq_some_iff.mp H
    obtain ⟨t105, A40, H⟩ := H
    replace H : (if 0 ≤ t105 then (some (shl .u64 1 t105)) else (none)) = some r := H
    have A4 := Aside0.mk A40
    clear A40
    by_cases c5 : 0 ≤ t105
    · rw [if_pos c5] at H
      have c5b0 := eq_true c5
      have c5b1 : decide (0 ≤ t105) = true := decide_eq_true c5
      clear c5
      obtain ⟨ji6, hji6⟩ : ∃ j_ : Int, (shl .u64 1 t105) = j_ := ⟨_, rfl⟩
      replace H : (some ji6) = some r := by first | (rw [hji6] at H; exact H) | (simp only [hji6] at H ⊢; exact H)
      (try rw [hji6] at A2)
      (try rw [hji6] at A4)
      have hji6_ : (IntKind.u64.wrap (1 * 2 ^ min t105.toNat 64)) = ji6 := hji6
      have hji6z : t105 ≤ 64 → (IntKind.u64.wrap (1 * 2 ^ t105.toNat)) = ji6 := shl_small hji6
      have hji6u : (IntKind.u64.wrap (2 ^ min t105.toNat 64)) = ji6 := by have h_ := hji6_; rw [Int.one_mul] at h_; exact h_
      have hji6v : t105 ≤ 64 → (IntKind.u64.wrap (2 ^ t105.toNat)) = ji6 := fun hle_ => by have h_ := hji6z hle_; rw [Int.one_mul] at h_; exact h_
      obtain rfl := Option.some.inj H
      go_enter Try.func84, Try.ntmps84
      go_wp2_with (first | ((with_reducible refine gate_callee (f := 75) rfl ?_); refine goesL_ (some 4) rfl rfl Try.func75 (by kernel_rfl) rfl #[.int .i64 a0] rfl (by (try simp only [List.map_toArray, List.map_cons, List.map_nil]); first | done | rfl | (simp only [List.length_drop, List.length_take]; rfl)) ?_; (with_reducible refine (page_May.calls a0 true _ A2.out).mono ?_); rintro e w' ⟨rfl, ⟨nd, rfl⟩⟩; refine ⟨_, rfl, ?_⟩) | ((with_reducible refine gate_callee (f := 76) rfl ?_); refine goesL_ (some 7) rfl rfl Try.func76 (by kernel_rfl) rfl #[.int .i64 a0] rfl (by (try simp only [List.map_toArray, List.map_cons, List.map_nil]); first | done | rfl | (simp only [List.length_drop, List.length_take]; rfl)) ?_; (with_reducible refine (page_Bits.calls a0 t105 _ A4.out).mono ?_); rintro e w' ⟨rfl, ⟨nd, rfl⟩⟩; refine ⟨_, rfl, ?_⟩))
      go_ret
      exact ⟨by first | rfl | (simp; done) | (simp only [← hji6] <;> (first | rfl | simp)) | (simp [*]; done), by repeat (first | exact Drawn0.refl _ | apply Drawn0.step)⟩
    · rw [if_neg c5] at H
      exact absurd H (by simp)
  · replace c3 := Bool.eq_false_iff.mpr c3
    subst c3
    have H1 : (some 0) = some r := by rw [if_neg (show ¬ (false = true) by decide)] at H; exact H
    clear H
    have H := H1
    clear H1
    obtain rfl := Option.some.inj H
    go_enter Try.func84, Try.ntmps84
    go_wp2_with (first | ((with_reducible refine gate_callee (f := 75) rfl ?_); refine goesL_ (some 4) rfl rfl Try.func75 (by kernel_rfl) rfl #[.int .i64 a0] rfl (by (try simp only [List.map_toArray, List.map_cons, List.map_nil]); first | done | rfl | (simp only [List.length_drop, List.length_take]; rfl)) ?_; (with_reducible refine (page_May.calls a0 false _ A2.out).mono ?_); rintro e w' ⟨rfl, ⟨nd, rfl⟩⟩; refine ⟨_, rfl, ?_⟩))
    go_ret
    exact ⟨by first | rfl | (simp; done) | (simp [*]; done), by repeat (first | exact Drawn0.refl _ | apply Drawn0.step)⟩
/-! ### swap_bytes: function 48 -/
def swap_bytes.f  : Option (Int) := (page_Bytes.f 0).bind fun t106 => (some (wrap64 (t106)))
set_option maxHeartbeats 8000000 in
set_option maxRecDepth 100000 in
theorem swap_bytes.calls  (r : Int) (w : World) (h : swap_bytes.f  = some r) :
    Calls Try.prog 48 #[] w fun e w' => e = .returned (.int .i64 r) ∧ Drawn0 w w' := by
  have H : ((page_Bytes.f 0).bind fun t106 => (some (wrap64 (t106)))) = some r := h
  clear h
  replace H := Option.bind_eq_some_iff.mp H
  obtain ⟨t106, A10, H⟩ := H
  replace H : (some (wrap64 (t106))) = some r := H
  have A1 := Aside0.mk A10
  clear A10
  obtain rfl := Option.some.inj H
  go_enter Try.func48, Try.ntmps48
  go_wp2_with (first | ((with_reducible refine gate_callee (f := 84) rfl ?_); refine goesL_ (some 1) rfl rfl Try.func84 (by kernel_rfl) rfl #[.int .i64 0] rfl (by (try simp only [List.map_toArray, List.map_cons, List.map_nil]); first | done | rfl | (simp only [List.length_drop, List.length_take]; rfl)) ?_; (with_reducible refine (page_Bytes.calls 0 t106 _ A1.out).mono ?_); rintro e w' ⟨rfl, ⟨nd, rfl⟩⟩; refine ⟨_, rfl, ?_⟩))
  go_ret
  exact ⟨by first | rfl | (simp; done) | (simp [*]; done), by repeat (first | exact Drawn0.refl _ | apply Drawn0.step)⟩
/-! ### swap_Frames: function 11 -/
def swap_Frames.f (a0 : Int) (a1 : Int) : Option (Int) := (tsb_Places.f a0 a1).bind fun t107 => ((swap_bytes.f).bind fun t108 => ((swap_bytes.f).bind fun t109 => (if t109 = 0 then (none) else (some (wrap64 (Int.tdiv (wrap64 ((wrap64 ((wrap64 (16 * t107)) + t108)) - 1)) t109))))))
set_option maxHeartbeats 8000000 in
set_option maxRecDepth 100000 in
theorem swap_Frames.calls (a0 : Int) (a1 : Int) (r : Int) (w : World) (h : swap_Frames.f a0 a1 = some r) :
    Calls Try.prog 11 #[.int .i64 a0, .int .i64 a1] w fun e w' => e = .returned (.int .i64 r) ∧ Drawn0 w w' := by
  have H : ((tsb_Places.f a0 a1).bind fun t107 => ((swap_bytes.f).bind fun t108 => ((swap_bytes.f).bind fun t109 => (if t109 = 0 then (none) else (some (wrap64 (Int.tdiv (wrap64 ((wrap64 ((wrap64 (16 * t107)) + t108)) - 1)) t109))))))) = some r := h
  clear h
  replace H := Option.bind_eq_some_iff.mp H
  obtain ⟨t107, A30, H⟩ := H
  replace H : ((swap_bytes.f).bind fun t108 => ((swap_bytes.f).bind fun t109 => (if t109 = 0 then (none) else (some (wrap64 (Int.tdiv (wrap64 ((wrap64 ((wrap64 (16 * t107)) + t108)) - 1)) t109)))))) = some r := H
  have A3 := Aside0.mk A30
  clear A30
  replace H := Option.bind_eq_some_iff.mp H
  obtain ⟨t108, A40, H⟩ := H
  replace H : ((swap_bytes.f).bind fun t109 => (if t109 = 0 then (none) else (some (wrap64 (Int.tdiv (wrap64 ((wrap64 ((wrap64 (16 * t107)) + t108)) - 1)) t109))))) = some r := H
  have A4 := Aside0.mk A40
  clear A40
  replace H := Option.bind_eq_some_iff.mp H
  obtain ⟨t109, A50, H⟩ := H
  replace H : (if t109 = 0 then (none) else (some (wrap64 (Int.tdiv (wrap64 ((wrap64 ((wrap64 (16 * t107)) + t108)) - 1)) t109)))) = some r := H
  have A5 := Aside0.mk A50
  clear A50
  by_cases c6 : t109 = 0
  · rw [if_pos c6] at H
    exact absurd H (by simp)
  · rw [if_neg c6] at H
    have c6b0 : (t109 == 0) = false := beq_eq_false_iff_ne.mpr c6
    have c6b1 : (t109 != 0) = true := bne_iff_ne.mpr c6
    obtain rfl := Option.some.inj H
    go_enter Try.func11, Try.ntmps11
    go_wp2_with (first | ((with_reducible refine gate_callee (f := 39) rfl ?_); refine goesL_ (some 7) rfl rfl Try.func39 (by kernel_rfl) rfl #[.int .i64 a0, .int .i64 a1] rfl (by (try simp only [List.map_toArray, List.map_cons, List.map_nil]); first | done | rfl | (simp only [List.length_drop, List.length_take]; rfl)) ?_; (with_reducible refine (tsb_Places.calls a0 a1 t107 _ A3.out).mono ?_); rintro e w' ⟨rfl, ⟨nd, rfl⟩⟩; refine ⟨_, rfl, ?_⟩) | ((with_reducible refine gate_callee (f := 48) rfl ?_); refine goesL_ (some 9) rfl rfl Try.func48 (by kernel_rfl) rfl #[] rfl (by (try simp only [List.map_toArray, List.map_cons, List.map_nil]); first | done | rfl | (simp only [List.length_drop, List.length_take]; rfl)) ?_; (with_reducible refine (swap_bytes.calls  t108 _ A4.out).mono ?_); rintro e w' ⟨rfl, ⟨nd, rfl⟩⟩; refine ⟨_, rfl, ?_⟩) | ((with_reducible refine gate_callee (f := 48) rfl ?_); refine goesL_ (some 12) rfl rfl Try.func48 (by kernel_rfl) rfl #[] rfl (by (try simp only [List.map_toArray, List.map_cons, List.map_nil]); first | done | rfl | (simp only [List.length_drop, List.length_take]; rfl)) ?_; (with_reducible refine (swap_bytes.calls  t109 _ A5.out).mono ?_); rintro e w' ⟨rfl, ⟨nd, rfl⟩⟩; refine ⟨_, rfl, ?_⟩))
    go_ret
    exact ⟨by first | rfl | (simp; done) | (simp [*]; done), by repeat (first | exact Drawn0.refl _ | apply Drawn0.step)⟩
/-! ### lookasideref13_Frames: function 12 -/
def lookasideref13_Frames.l0 : Nat → Int → Int → Option (Int)
  | 0, _, _ => none
  | k + 1, x5, x6 => if x5 > 0 then (lookasideref13_Frames.l0 k (wrap64 (x5 - 8192)) (wrap64 (x6 + 1))) else (some x6)
def lookasideref13_Frames.f (k : Nat) (a0 : Int) (a1 : Int) : Option (Int) := (lookasideref10_Places.f a0 a1).bind fun t119 => (lookasideref13_Frames.l0 k (wrap64 (16 * t119)) 0)
set_option maxHeartbeats 8000000 in
set_option maxRecDepth 100000 in
theorem lookasideref13_Frames.calls (k : Nat) (a0 : Int) (a1 : Int) (r : Int) (w : World) (h : lookasideref13_Frames.f k a0 a1 = some r) :
    Calls Try.prog 12 #[.int .i64 a0, .int .i64 a1] w fun e w' => e = .returned (.int .i64 r) ∧ Below w.heap.size w w' := by
  have HB := Aside0.mk (Below.refl w.heap.size w)
  have H : ((lookasideref10_Places.f a0 a1).bind fun t119 => (lookasideref13_Frames.l0 k (wrap64 (16 * t119)) 0)) = some r := h
  clear h
  replace H := Option.bind_eq_some_iff.mp H
  obtain ⟨t119, A30, H⟩ := H
  replace H : (lookasideref13_Frames.l0 k (wrap64 (16 * t119)) 0) = some r := H
  have A3 := Aside0.mk A30
  clear A30
  have H' := Aside0.mk H
  clear H
  go_enter Try.func12, Try.ntmps12
  go_wp2_with (first | ((with_reducible refine gate_callee (f := 40) rfl ?_); refine goesL_ (some 9) rfl rfl Try.func40 (by kernel_rfl) rfl #[.int .i64 a0, .int .i64 a1] rfl (by (try simp only [List.map_toArray, List.map_cons, List.map_nil]); first | done | rfl | (simp only [List.length_drop, List.length_take]; rfl)) ?_; (with_reducible refine (lookasideref10_Places.calls a0 a1 t119 _ A3.out).mono ?_); rintro e w4 ⟨rfl, hb⟩; refine ⟨_, rfl, ?_⟩; have n0_ := Aside0.mk (below_step (by repeat (first | (with_reducible first | exact HB.out | apply below_alloc | apply pw_below_drewN | apply below_drew1) | exact HB.out)) hb); clear HB; have HB := n0_; clear n0_; (try clear hb); (try clear hb2); (try clear hk); (try clear hi)))
  go_loopg [5, 6] k (fun kq v5 v6 w' => ∃ (x5_1 : Int) (x6_1 : Int), v5 = .int .i64 x5_1 ∧ v6 = .int .i64 x6_1 ∧ Aside0 (lookasideref13_Frames.l0 kq x5_1 x6_1 = some r) ∧ Aside0 (kq ≤ k) ∧ Aside0 (Below w.heap.size w w'))
  case atStart => exact ⟨(wrap64 (16 * t119)), (0), (by first | rfl | (simp; done) | (simp [*]; done)), (by first | rfl | (simp; done) | (simp [*]; done)), H', ⟨Nat.le_refl _⟩, ⟨by repeat (first | (with_reducible first | exact HB.out | apply below_alloc | apply pw_below_drewN | apply below_drew1) | exact HB.out)⟩⟩
  case round =>
    clear H'
    try clear c1
    try clear p2
    try clear c4
    obtain ⟨x5_1, x6_1, rfl, rfl, HA, HK1, HB⟩ := hrel
    cases gk with
    | zero => exact absurd HA.out (by simp [lookasideref13_Frames.l0])
    | succ k1 =>
      have H := HA.out
      clear HA
      simp only [lookasideref13_Frames.l0] at H
      by_cases c5 : x5_1 > 0
      · rw [if_pos c5] at H
        have c5b0 : decide (0 < x5_1) = true := decide_eq_true c5
        clear c5
        have H' := Aside0.mk H
        clear H
        go_wp2
        go_roundg k1
        case measure => have := HK1.out; omega
        case rel => exact ⟨(wrap64 (x5_1 - 8192)), (wrap64 (x6_1 + 1)), (by first | rfl | (simp; done) | (simp [*]; done)), (by first | rfl | (simp; done) | (simp [*]; done)), H', ⟨by have := HK1.out; omega⟩, ⟨by repeat (first | (with_reducible first | exact HB.out | apply below_alloc | apply pw_below_drewN | apply below_drew1) | exact HB.out)⟩⟩
      · rw [if_neg c5] at H
        have c5b0 : decide (0 < x5_1) = false := decide_eq_false c5
        clear c5
        obtain rfl := Option.some.inj H
        go_wp2
        go_ret
        exact ⟨by first | rfl | (simp [errW_none, errW_some] <;> rfl) | (simp [*, errW_none, errW_some] <;> rfl), by repeat (first | (with_reducible first | exact HB.out | apply below_alloc | apply pw_below_drewN | apply below_drew1) | exact HB.out)⟩
/-! ### lookasideref05_New: function 50 -/
-- NOT PRINTED: function 14 (lookasidelaw13_begin)
/-! ### lookasideref05_none: function 126 -/
def lookasideref05_none.l0 : Nat → Int → Int → Int → Int → List Int → Option (Bool)
  | 0, _, _, _, _, _ => none
  | k + 1, x1, x2, x7, x128000, x128001 => if x7 < (x128001.length : Int) then (if 0 ≤ x7 then (if (rd x128001 x7) ≥ x1 then (if (rd x128001 x7) < (wrap64 (x1 + x2)) then (some false) else (lookasideref05_none.l0 k x1 x2 (wrap64 (x7 + 1)) x128000 x128001)) else (lookasideref05_none.l0 k x1 x2 (wrap64 (x7 + 1)) x128000 x128001)) else (none)) else (some true)
def lookasideref05_none.f (k : Nat) (a0_0 : Int) (l0_1 : List Int) (a1 : Int) (a2 : Int) : Option (Bool) := lookasideref05_none.l0 k a1 a2 0 a0_0 l0_1
set_option maxHeartbeats 8000000 in
set_option maxRecDepth 100000 in
theorem lookasideref05_none.calls (k : Nat) (a0_0 : Int) (A0_1 : Option Addr) (c0_1 : Nat) (l0_1 : List Int) (a1 : Int) (a2 : Int) (r : Bool) (w : World) (hr0_1 : Kd.C (Kd.int .i64) w A0_1 l0_1.length l0_1) (hc0_1 : l0_1.length ≤ c0_1) (h : lookasideref05_none.f k a0_0 l0_1 a1 a2 = some r) :
    Calls Try.prog 126 #[.agg #[.int .i64 a0_0, .slice A0_1 l0_1.length c0_1], .int .i64 a1, .int .i64 a2] w fun e w' => e = .returned (.bool r) ∧ Below w.heap.size w w' := by
  have hu31 := Try.underlying31
  have HR0_1 := Aside0.mk hr0_1
  have HC0_1 := Aside0.mk hc0_1
  clear hr0_1 hc0_1
  have HB := Aside0.mk (Below.refl w.heap.size w)
  have H : (lookasideref05_none.l0 k a1 a2 0 a0_0 l0_1) = some r := h
  clear h
  have H' := Aside0.mk H
  clear H
  go_enter Try.func126, Try.ntmps126
  go_wp2_with (first | ((with_reducible refine gate_dst (N := 3) rfl ?_); refine box_event ?hg (N := 3) ?hd (cs := #[.int .i64 a0_0, .slice A0_1 l0_1.length c0_1]) (t := 31) ?hr ?_; (case hd => rfl); (case hg => rfl); (case hr => first | (go_simp; done) | (go_simp; rfl)); intro gb127 hg w4 hbox hb; have n0_ := Aside0.mk (below_step (by repeat (first | (with_reducible first | exact HB.out | apply below_alloc | apply pw_below_drewN | apply below_drew1) | exact HB.out)) hb); have n1_ := Aside0.mk (hbox); have n2_ := Aside0.mk ((by rw [hg]; exact (below_size (by repeat (first | (with_reducible first | exact HB.out | apply below_alloc | apply pw_below_drewN | apply below_drew1) | exact HB.out))) : w.heap.size ≤ gb127)); have n3_ := Aside0.mk ((by rw [hg]; exact (below_size (by repeat (first | (with_reducible first | exact HB.out | apply below_alloc | apply pw_below_drewN | apply below_drew1) | exact HB.out))) : w.heap.size ≤ gb127)); clear HB; have HB := n0_; have BK127 := n1_; have GW127 := n2_; have GE127 := n3_; clear n0_ n1_ n2_ n3_; clear hb hbox hg))
  go_loopg [7] k (fun kq v7 w' => ∃ (x7_1 : Int), v7 = .int .i64 x7_1 ∧ Aside0 (lookasideref05_none.l0 kq a1 a2 x7_1 a0_0 l0_1 = some r) ∧ Aside0 (kq ≤ k) ∧ Aside0 (w'.heap[gb127]? = some (.cells #[.int .i64 a0_0, (.slice A0_1 l0_1.length c0_1)] 31 (0, 0))) ∧ Aside0 (Below w.heap.size w w'))
  case atStart => exact ⟨(0), (by first | rfl | (simp; done) | (simp [*]; done)), H', ⟨Nat.le_refl _⟩, ⟨by (with_reducible repeat (first | refine blk_drewN ?_ _ | refine blk_drew ?_ | refine blk_alloc ?_ _)); exact BK127.out⟩, ⟨by repeat (first | (with_reducible first | exact HB.out | apply below_alloc | apply pw_below_drewN | apply below_drew1 | refine below_set ?_ GE127.out) | exact HB.out)⟩⟩
  case round =>
    clear H'
    try clear c1
    try clear p2
    obtain ⟨x7_1, rfl, HA, HK1, BK127, HB⟩ := hrel
    cases gk with
    | zero => exact absurd HA.out (by simp [lookasideref05_none.l0])
    | succ k1 =>
      have H := HA.out
      clear HA
      simp only [lookasideref05_none.l0] at H
      by_cases c5 : x7_1 < (l0_1.length : Int)
      · rw [if_pos c5] at H
        have c5b0 : decide (x7_1 < (l0_1.length : Int)) = true := decide_eq_true c5
        clear c5
        by_cases c6 : 0 ≤ x7_1
        · rw [if_pos c6] at H
          have c6b0 : decide (0 ≤ x7_1) = true := decide_eq_true c6
          clear c6
          by_cases c7 : (rd l0_1 x7_1) ≥ a1
          · rw [if_pos c7] at H
            have c7b0 : decide (a1 ≤ (rd l0_1 x7_1)) = true := decide_eq_true c7
            clear c7
            by_cases c8 : (rd l0_1 x7_1) < (wrap64 (a1 + a2))
            · rw [if_pos c8] at H
              have c8b0 : decide ((rd l0_1 x7_1) < (wrap64 (a1 + a2))) = true := decide_eq_true c8
              clear c8
              obtain rfl := Option.some.inj H
              have hcz9_0 : wr.cell? ⟨gb127, 0, none⟩ = some (.int .i64 a0_0) := (blk_cell BK127.out 0).trans rfl
              have hcz9_1 : wr.cell? ⟨gb127, 1, none⟩ = some (.slice A0_1 l0_1.length c0_1) := (blk_cell BK127.out 1).trans rfl
              have hfz9_0 := blk_frozen BK127.out 0
              have hfz9_1 := blk_frozen BK127.out 1
              have p128 : 0 ≤ (x7_1 : Int) := of_decide_eq_true (by first | (with_reducible assumption) | assumption)
              have q128 : x7_1 < (l0_1.length : Int) := of_decide_eq_true (by first | (with_reducible assumption) | assumption)
              obtain ⟨ad128, e128, hx128_0⟩ := Kd.at_int HR0_1.out x7_1 p128 q128
              cases e128
              replace hx128_0 := (HB.out.cell (World.block_lt_of_cell? w _ hx128_0)).trans hx128_0
              replace p128 := eq_true p128
              replace q128 := eq_true q128
              have p129 : 0 ≤ (x7_1 : Int) := of_decide_eq_true (by first | (with_reducible assumption) | assumption)
              have q129 : x7_1 < (l0_1.length : Int) := of_decide_eq_true (by first | (with_reducible assumption) | assumption)
              obtain ⟨ad129, e129, hx129_0⟩ := Kd.at_int HR0_1.out x7_1 p129 q129
              obtain rfl : ad128 = ad129 := (by injection e129)
              replace hx129_0 := (HB.out.cell (World.block_lt_of_cell? w _ hx129_0)).trans hx129_0
              replace p129 := eq_true p129
              replace q129 := eq_true q129
              go_wp2
              go_ret
              exact ⟨by first | rfl | (simp [errW_none, errW_some] <;> rfl) | (simp [*, errW_none, errW_some] <;> rfl), by repeat (first | (with_reducible first | exact HB.out | apply below_alloc | apply pw_below_drewN | apply below_drew1 | refine below_set ?_ GE127.out) | exact HB.out)⟩
            · rw [if_neg c8] at H
              have c8b0 : decide ((rd l0_1 x7_1) < (wrap64 (a1 + a2))) = false := decide_eq_false c8
              clear c8
              have H' := Aside0.mk H
              clear H
              have hcz10_0 : wr.cell? ⟨gb127, 0, none⟩ = some (.int .i64 a0_0) := (blk_cell BK127.out 0).trans rfl
              have hcz10_1 : wr.cell? ⟨gb127, 1, none⟩ = some (.slice A0_1 l0_1.length c0_1) := (blk_cell BK127.out 1).trans rfl
              have hfz10_0 := blk_frozen BK127.out 0
              have hfz10_1 := blk_frozen BK127.out 1
              have p128 : 0 ≤ (x7_1 : Int) := of_decide_eq_true (by first | (with_reducible assumption) | assumption)
              have q128 : x7_1 < (l0_1.length : Int) := of_decide_eq_true (by first | (with_reducible assumption) | assumption)
              obtain ⟨ad128, e128, hx128_0⟩ := Kd.at_int HR0_1.out x7_1 p128 q128
              cases e128
              replace hx128_0 := (HB.out.cell (World.block_lt_of_cell? w _ hx128_0)).trans hx128_0
              replace p128 := eq_true p128
              replace q128 := eq_true q128
              have p129 : 0 ≤ (x7_1 : Int) := of_decide_eq_true (by first | (with_reducible assumption) | assumption)
              have q129 : x7_1 < (l0_1.length : Int) := of_decide_eq_true (by first | (with_reducible assumption) | assumption)
              obtain ⟨ad129, e129, hx129_0⟩ := Kd.at_int HR0_1.out x7_1 p129 q129
              obtain rfl : ad128 = ad129 := (by injection e129)
              replace hx129_0 := (HB.out.cell (World.block_lt_of_cell? w _ hx129_0)).trans hx129_0
              replace p129 := eq_true p129
              replace q129 := eq_true q129
              go_wp2
              go_roundg k1
              case measure => have := HK1.out; omega
              case rel => exact ⟨(wrap64 (x7_1 + 1)), (by first | rfl | (simp; done) | (simp [*]; done)), H', ⟨by have := HK1.out; omega⟩, ⟨by (with_reducible repeat (first | refine blk_drewN ?_ _ | refine blk_drew ?_ | refine blk_alloc ?_ _)); exact BK127.out⟩, ⟨by repeat (first | (with_reducible first | exact HB.out | apply below_alloc | apply pw_below_drewN | apply below_drew1 | refine below_set ?_ GE127.out) | exact HB.out)⟩⟩
          · rw [if_neg c7] at H
            have c7b0 : decide (a1 ≤ (rd l0_1 x7_1)) = false := decide_eq_false c7
            clear c7
            have H' := Aside0.mk H
            clear H
            have hcz11_0 : wr.cell? ⟨gb127, 0, none⟩ = some (.int .i64 a0_0) := (blk_cell BK127.out 0).trans rfl
            have hcz11_1 : wr.cell? ⟨gb127, 1, none⟩ = some (.slice A0_1 l0_1.length c0_1) := (blk_cell BK127.out 1).trans rfl
            have hfz11_0 := blk_frozen BK127.out 0
            have hfz11_1 := blk_frozen BK127.out 1
            have p128 : 0 ≤ (x7_1 : Int) := of_decide_eq_true (by first | (with_reducible assumption) | assumption)
            have q128 : x7_1 < (l0_1.length : Int) := of_decide_eq_true (by first | (with_reducible assumption) | assumption)
            obtain ⟨ad128, e128, hx128_0⟩ := Kd.at_int HR0_1.out x7_1 p128 q128
            cases e128
            replace hx128_0 := (HB.out.cell (World.block_lt_of_cell? w _ hx128_0)).trans hx128_0
            replace p128 := eq_true p128
            replace q128 := eq_true q128
            go_wp2
            go_roundg k1
            case measure => have := HK1.out; omega
            case rel => exact ⟨(wrap64 (x7_1 + 1)), (by first | rfl | (simp; done) | (simp [*]; done)), H', ⟨by have := HK1.out; omega⟩, ⟨by (with_reducible repeat (first | refine blk_drewN ?_ _ | refine blk_drew ?_ | refine blk_alloc ?_ _)); exact BK127.out⟩, ⟨by repeat (first | (with_reducible first | exact HB.out | apply below_alloc | apply pw_below_drewN | apply below_drew1 | refine below_set ?_ GE127.out) | exact HB.out)⟩⟩
        · rw [if_neg c6] at H
          exact absurd H (by simp)
      · rw [if_neg c5] at H
        have c5b0 : decide (x7_1 < (l0_1.length : Int)) = false := decide_eq_false c5
        clear c5
        obtain rfl := Option.some.inj H
        have hcz12_0 : wr.cell? ⟨gb127, 0, none⟩ = some (.int .i64 a0_0) := (blk_cell BK127.out 0).trans rfl
        have hcz12_1 : wr.cell? ⟨gb127, 1, none⟩ = some (.slice A0_1 l0_1.length c0_1) := (blk_cell BK127.out 1).trans rfl
        have hfz12_0 := blk_frozen BK127.out 0
        have hfz12_1 := blk_frozen BK127.out 1
        go_wp2
        go_ret
        exact ⟨by first | rfl | (simp [errW_none, errW_some] <;> rfl) | (simp [*, errW_none, errW_some] <;> rfl), by repeat (first | (with_reducible first | exact HB.out | apply below_alloc | apply pw_below_drewN | apply below_drew1 | refine below_set ?_ GE127.out) | exact HB.out)⟩
end Go.Proofs.Ytjnffegjpkbjmaa.QTsbPlays
