-- Taken out of a text that a program of this session printed (wip/print/myprint.py, wip/print/take.py); Lean checks it.
import Derived.Test.YtjnffegjpkbjmaaQTsbPlaysx20
namespace Go.Proofs.Ytjnffegjpkbjmaa.QTsbPlays
open Go.RowKit Go.Proofs.YtjnffegjpkbjmaaW.PrintWords Go.Proofs.YtjnffegjpkbjmaaW.PrintLast Go.Proofs.YtjnffegjpkbjmaaW.PrintMore
attribute [local go_sem] max2_int min2_int max_two min_two max_three min_three max_four min_four   -- for this text's walks alone
set_option linter.unusedVariables false
set_option linter.unusedSimpArgs false
theorem cy11_22 {W : World} {g : Nat} {t : TypeId} {a0 a1 a2 a3 a4 a5 a6 a7 a8 a9 a10 : Value} {l : List Value} (h : W.heap[g]? = some (.cells (Array.mk (a0 :: a1 :: a2 :: a3 :: a4 :: a5 :: a6 :: a7 :: a8 :: a9 :: a10 :: l)) t (0, 0))) : W.cell? ⟨g, 0, none⟩ = some a0 ∧ W.cell? ⟨g, 1, none⟩ = some a1 ∧ W.cell? ⟨g, 2, none⟩ = some a2 ∧ W.cell? ⟨g, 3, none⟩ = some a3 ∧ W.cell? ⟨g, 4, none⟩ = some a4 ∧ W.cell? ⟨g, 5, none⟩ = some a5 ∧ W.cell? ⟨g, 6, none⟩ = some a6 ∧ W.cell? ⟨g, 7, none⟩ = some a7 ∧ W.cell? ⟨g, 8, none⟩ = some a8 ∧ W.cell? ⟨g, 9, none⟩ = some a9 ∧ W.cell? ⟨g, 10, none⟩ = some a10 := ⟨(blk_cell h 0).trans rfl, (blk_cell h 1).trans rfl, (blk_cell h 2).trans rfl, (blk_cell h 3).trans rfl, (blk_cell h 4).trans rfl, (blk_cell h 5).trans rfl, (blk_cell h 6).trans rfl, (blk_cell h 7).trans rfl, (blk_cell h 8).trans rfl, (blk_cell h 9).trans rfl, (blk_cell h 10).trans rfl⟩
theorem cy15_22 {W : World} {g : Nat} {t : TypeId} {a0 a1 a2 a3 a4 a5 a6 a7 a8 a9 a10 a11 a12 a13 a14 : Value} {l : List Value} (h : W.heap[g]? = some (.cells (Array.mk (a0 :: a1 :: a2 :: a3 :: a4 :: a5 :: a6 :: a7 :: a8 :: a9 :: a10 :: a11 :: a12 :: a13 :: a14 :: l)) t (0, 0))) : W.cell? ⟨g, 0, none⟩ = some a0 ∧ W.cell? ⟨g, 1, none⟩ = some a1 ∧ W.cell? ⟨g, 2, none⟩ = some a2 ∧ W.cell? ⟨g, 3, none⟩ = some a3 ∧ W.cell? ⟨g, 4, none⟩ = some a4 ∧ W.cell? ⟨g, 5, none⟩ = some a5 ∧ W.cell? ⟨g, 6, none⟩ = some a6 ∧ W.cell? ⟨g, 7, none⟩ = some a7 ∧ W.cell? ⟨g, 8, none⟩ = some a8 ∧ W.cell? ⟨g, 9, none⟩ = some a9 ∧ W.cell? ⟨g, 10, none⟩ = some a10 ∧ W.cell? ⟨g, 11, none⟩ = some a11 ∧ W.cell? ⟨g, 12, none⟩ = some a12 ∧ W.cell? ⟨g, 13, none⟩ = some a13 ∧ W.cell? ⟨g, 14, none⟩ = some a14 := ⟨(blk_cell h 0).trans rfl, (blk_cell h 1).trans rfl, (blk_cell h 2).trans rfl, (blk_cell h 3).trans rfl, (blk_cell h 4).trans rfl, (blk_cell h 5).trans rfl, (blk_cell h 6).trans rfl, (blk_cell h 7).trans rfl, (blk_cell h 8).trans rfl, (blk_cell h 9).trans rfl, (blk_cell h 10).trans rfl, (blk_cell h 11).trans rfl, (blk_cell h 12).trans rfl, (blk_cell h 13).trans rfl, (blk_cell h 14).trans rfl⟩
theorem bb22_ {w2 w' : World} {g : Nat} {o : Obj} (hb : Below w2.heap.size w2 w') (h : w2.heap[g]? = some o) : w'.heap[g]? = some o := blk_below h hb
theorem ca11_22 {W : World} {g : Nat} {t : TypeId} {a0 a1 a2 a3 a4 a5 a6 a7 a8 a9 a10 : Value} {R : Prop} (h : W.heap[g]? = some (.cells #[a0, a1, a2, a3, a4, a5, a6, a7, a8, a9, a10] t (0, 0))) (r : R) : W.cell? ⟨g, 0, none⟩ = some a0 ∧ W.cell? ⟨g, 1, none⟩ = some a1 ∧ W.cell? ⟨g, 2, none⟩ = some a2 ∧ W.cell? ⟨g, 3, none⟩ = some a3 ∧ W.cell? ⟨g, 4, none⟩ = some a4 ∧ W.cell? ⟨g, 5, none⟩ = some a5 ∧ W.cell? ⟨g, 6, none⟩ = some a6 ∧ W.cell? ⟨g, 7, none⟩ = some a7 ∧ W.cell? ⟨g, 8, none⟩ = some a8 ∧ W.cell? ⟨g, 9, none⟩ = some a9 ∧ W.cell? ⟨g, 10, none⟩ = some a10 ∧ R := ⟨(blk_cell h 0).trans rfl, (blk_cell h 1).trans rfl, (blk_cell h 2).trans rfl, (blk_cell h 3).trans rfl, (blk_cell h 4).trans rfl, (blk_cell h 5).trans rfl, (blk_cell h 6).trans rfl, (blk_cell h 7).trans rfl, (blk_cell h 8).trans rfl, (blk_cell h 9).trans rfl, (blk_cell h 10).trans rfl, r⟩
theorem cz11_22 {W : World} {g : Nat} {t : TypeId} {a0 a1 a2 a3 a4 a5 a6 a7 a8 a9 a10 : Value} (h : W.heap[g]? = some (.cells #[a0, a1, a2, a3, a4, a5, a6, a7, a8, a9, a10] t (0, 0))) : W.cell? ⟨g, 0, none⟩ = some a0 ∧ W.cell? ⟨g, 1, none⟩ = some a1 ∧ W.cell? ⟨g, 2, none⟩ = some a2 ∧ W.cell? ⟨g, 3, none⟩ = some a3 ∧ W.cell? ⟨g, 4, none⟩ = some a4 ∧ W.cell? ⟨g, 5, none⟩ = some a5 ∧ W.cell? ⟨g, 6, none⟩ = some a6 ∧ W.cell? ⟨g, 7, none⟩ = some a7 ∧ W.cell? ⟨g, 8, none⟩ = some a8 ∧ W.cell? ⟨g, 9, none⟩ = some a9 ∧ W.cell? ⟨g, 10, none⟩ = some a10 := ⟨(blk_cell h 0).trans rfl, (blk_cell h 1).trans rfl, (blk_cell h 2).trans rfl, (blk_cell h 3).trans rfl, (blk_cell h 4).trans rfl, (blk_cell h 5).trans rfl, (blk_cell h 6).trans rfl, (blk_cell h 7).trans rfl, (blk_cell h 8).trans rfl, (blk_cell h 9).trans rfl, (blk_cell h 10).trans rfl⟩
/-! ### lookasideref02_Bytes: function 57 -/
def lookasideref02_Bytes.f (a0 : Int) : Option (Int) := if a0 = 0 then (some 8192) else (if a0 = 1 then (some 65536) else (if a0 = 2 then (some 524288) else (if a0 = 3 then (some 4194304) else (some 0))))
set_option maxHeartbeats 8000000 in
set_option maxRecDepth 100000 in
theorem lookasideref02_Bytes.calls (a0 : Int) (r : Int) (w : World) (h : lookasideref02_Bytes.f a0 = some r) :
  Calls Try.prog 57 #[.int .i64 a0] w fun e w' => e = .returned (.int .u64 r) ∧ Drawn0 w w' := by
 have H : (if a0 = 0 then (some 8192) else (if a0 = 1 then (some 65536) else (if a0 = 2 then (some 524288) else (if a0 = 3 then (some 4194304) else (some 0))))) = some r := h
 clear h
 by_cases c2 : a0 = 0
 ·rw [if_pos c2] at H
  have c2b0 : (a0 == 0) = true := beq_iff_eq.mpr c2
  have c2b1 : (a0 != 0) = false := bne_eq_false_iff_eq.mpr c2
  clear c2
  obtain rfl := Option.some.inj H
  go_enter Try.func57, Try.ntmps57
  go_wp2
  go_ret
  exact ⟨by first | rfl | (simp; done) | (simp [*]; done), by repeat (first | exact Drawn0.refl _ | apply Drawn0.step)⟩
 ·rw [if_neg c2] at H
  have c2b0 : (a0 == 0) = false := beq_eq_false_iff_ne.mpr c2
  have c2b1 : (a0 != 0) = true := bne_iff_ne.mpr c2
  by_cases c3 : a0 = 1
  ·rw [if_pos c3] at H
   have c3b0 : (a0 == 1) = true := beq_iff_eq.mpr c3
   have c3b1 : (a0 != 1) = false := bne_eq_false_iff_eq.mpr c3
   clear c3
   obtain rfl := Option.some.inj H
   go_enter Try.func57, Try.ntmps57
   go_wp2
   go_ret
   exact ⟨by first | rfl | (simp; done) | (simp [*]; done), by repeat (first | exact Drawn0.refl _ | apply Drawn0.step)⟩
  ·rw [if_neg c3] at H
   have c3b0 : (a0 == 1) = false := beq_eq_false_iff_ne.mpr c3
   have c3b1 : (a0 != 1) = true := bne_iff_ne.mpr c3
   by_cases c4 : a0 = 2
   ·rw [if_pos c4] at H
    have c4b0 : (a0 == 2) = true := beq_iff_eq.mpr c4
    have c4b1 : (a0 != 2) = false := bne_eq_false_iff_eq.mpr c4
    clear c4
    obtain rfl := Option.some.inj H
    go_enter Try.func57, Try.ntmps57
    go_wp2
    go_ret
    exact ⟨by first | rfl | (simp; done) | (simp [*]; done), by repeat (first | exact Drawn0.refl _ | apply Drawn0.step)⟩
   ·rw [if_neg c4] at H
    have c4b0 : (a0 == 2) = false := beq_eq_false_iff_ne.mpr c4
    have c4b1 : (a0 != 2) = true := bne_iff_ne.mpr c4
    by_cases c5 : a0 = 3
    ·rw [if_pos c5] at H
     have c5b0 : (a0 == 3) = true := beq_iff_eq.mpr c5
     have c5b1 : (a0 != 3) = false := bne_eq_false_iff_eq.mpr c5
     clear c5
     obtain rfl := Option.some.inj H
     go_enter Try.func57, Try.ntmps57
     go_wp2
     go_ret
     exact ⟨by first | rfl | (simp; done) | (simp [*]; done), by repeat (first | exact Drawn0.refl _ | apply Drawn0.step)⟩
    ·rw [if_neg c5] at H
     have c5b0 : (a0 == 3) = false := beq_eq_false_iff_ne.mpr c5
     have c5b1 : (a0 != 3) = true := bne_iff_ne.mpr c5
     obtain rfl := Option.some.inj H
     go_enter Try.func57, Try.ntmps57
     go_wp2
     go_ret
     exact ⟨by first | rfl | (simp; done) | (simp [*]; done), by repeat (first | exact Drawn0.refl _ | apply Drawn0.step)⟩
/-! ### lookasideref02_Base: function 62 -/
def lookasideref02_Base.f (a0 : Int) (a1 : Int) : Option (Int) := (lookasideref02_May.f a1).bind fun t196 => (if t196 = true then ((lookasideref02_Bytes.f a1).bind fun t197 => (if t197 = 0 then (none) else (some (IntKind.u64.wrap ((IntKind.u64.wrap (Int.tdiv a0 t197)) * t197))))) else (some 0))
set_option maxHeartbeats 8000000 in
set_option maxRecDepth 100000 in
theorem lookasideref02_Base.calls (a0 : Int) (a1 : Int) (r : Int) (w : World) (h : lookasideref02_Base.f a0 a1 = some r) :
  Calls Try.prog 62 #[.int .u64 a0, .int .i64 a1] w fun e w' => e = .returned (.int .u64 r) ∧ Drawn0 w w' := by
 have H : ((lookasideref02_May.f a1).bind fun t196 => (if t196 = true then ((lookasideref02_Bytes.f a1).bind fun t197 => (if t197 = 0 then (none) else (some (IntKind.u64.wrap ((IntKind.u64.wrap (Int.tdiv a0 t197)) * t197))))) else (some 0))) = some r := h
 clear h
 replace H := Option.bind_eq_some_iff.mp H
 obtain ⟨t196, A30, H⟩ := H
 replace H : (if t196 = true then ((lookasideref02_Bytes.f a1).bind fun t197 => (if t197 = 0 then (none) else (some (IntKind.u64.wrap ((IntKind.u64.wrap (Int.tdiv a0 t197)) * t197))))) else (some 0)) = some r := H
 have A3 := Aside0.mk A30
 clear A30
 by_cases c4 : t196 = true
 ·subst c4
  have H1 : ((lookasideref02_Bytes.f a1).bind fun t197 => (if t197 = 0 then (none) else (some (IntKind.u64.wrap ((IntKind.u64.wrap (Int.tdiv a0 t197)) * t197))))) = some r := by rw [if_pos rfl] at H; exact H
  clear H
  have H := H1
  clear H1
  replace H := Option.bind_eq_some_iff.mp H
  obtain ⟨t197, A50, H⟩ := H
  replace H : (if t197 = 0 then (none) else (some (IntKind.u64.wrap ((IntKind.u64.wrap (Int.tdiv a0 t197)) * t197)))) = some r := H
  have A5 := Aside0.mk A50
  clear A50
  by_cases c6 : t197 = 0
  ·rw [if_pos c6] at H
   exact absurd H (by simp)
  ·rw [if_neg c6] at H
   have c6b0 : (t197 == 0) = false := beq_eq_false_iff_ne.mpr c6
   have c6b1 : (t197 != 0) = true := bne_iff_ne.mpr c6
   obtain rfl := Option.some.inj H
   go_enter Try.func62, Try.ntmps62
   go_wp2_with ((go_at_call 61; (with_reducible refine (lookasideref02_May.calls a1 true _ A3.out).mono ?_); rintro e w' ⟨rfl, ⟨nd, rfl⟩⟩; (try first | exact ⟨rfl, _, World.drewN_drewN _ _ _⟩ | exact ⟨rfl, _, Eq.trans (World.drewN_drewN _ _ _) (congrArg (World.drewN _) (Nat.add_assoc _ _ _))⟩)))
   repeat (go_quiet ((go_at_call 57; (with_reducible refine (lookasideref02_Bytes.calls a1 t197 _ A5.out).mono ?_); rintro e w' ⟨rfl, ⟨nd, rfl⟩⟩; (try first | exact ⟨rfl, _, World.drewN_drewN _ _ _⟩ | exact ⟨rfl, _, Eq.trans (World.drewN_drewN _ _ _) (congrArg (World.drewN _) (Nat.add_assoc _ _ _))⟩))); try go_wp2_with (fail))
   go_ret
   exact ⟨by first | rfl | (simp; done) | (simp [*]; done), by repeat (first | exact Drawn0.refl _ | apply Drawn0.step)⟩
 ·replace c4 := Bool.eq_false_iff.mpr c4
  subst c4
  have H1 : (some 0) = some r := by rw [if_neg (show ¬ (false = true) by decide)] at H; exact H
  clear H
  have H := H1
  clear H1
  obtain rfl := Option.some.inj H
  go_enter Try.func62, Try.ntmps62
  go_wp2_with ((go_at_call 61; (with_reducible refine (lookasideref02_May.calls a1 false _ A3.out).mono ?_); rintro e w' ⟨rfl, ⟨nd, rfl⟩⟩; (try first | exact ⟨rfl, _, World.drewN_drewN _ _ _⟩ | exact ⟨rfl, _, Eq.trans (World.drewN_drewN _ _ _) (congrArg (World.drewN _) (Nat.add_assoc _ _ _))⟩)))
  repeat (go_quiet (fail); try go_wp2_with (fail))
  go_ret
  exact ⟨by first | rfl | (simp; done) | (simp [*]; done), by repeat (first | exact Drawn0.refl _ | apply Drawn0.step)⟩
/-! ### lookasideref01_Bit: function 113 -/
def lookasideref01_Bit.l0 : Nat → Int → Int → Int → Option (Int)
 | 0, _, _, _ => none
 | k + 1, x0, x1, x5 => if x5 < x1 then (lookasideref01_Bit.l0 k (IntKind.u64.wrap (Int.tdiv x0 2)) x1 (wrap64 (x5 + 1))) else (some (Int.tmod x0 2))
def lookasideref01_Bit.f (k : Nat) (a0 : Int) (a1 : Int) : Option (Int) := lookasideref01_Bit.l0 k a0 a1 0
theorem lookasideref01_Bit.mono_l : ∀ k, (∀ y0 y1 y2, LeO (lookasideref01_Bit.l0 k y0 y1 y2) (lookasideref01_Bit.l0 (k + 1) y0 y1 y2))
 | 0 => fun _ _ _ r h => by simp [lookasideref01_Bit.l0] at h
 | k + 1 => by
  have ih0 := lookasideref01_Bit.mono_l k
  ·intro y0 y1 y2
   unfold lookasideref01_Bit.l0
   repeat' first
   | (with_reducible exact ih0 _ _ _)
   | (with_reducible exact LeO.refl _)
   | (with_reducible exact LeO.none _)
   | (with_reducible refine LeO.ite ?_ ?_)
   | (with_reducible refine LeO.bind ?_ (fun _ => ?_))
   | exact ih0 _ _ _
   | exact LeO.none _
   | refine LeO.ite ?_ ?_
   | refine LeO.bind ?_ (fun _ => ?_)
theorem lookasideref01_Bit.mono : ∀ a0 a1 k, LeO (lookasideref01_Bit.f k a0 a1) (lookasideref01_Bit.f (k + 1) a0 a1) := by
 intro a0 a1 k
 have ih0 := lookasideref01_Bit.mono_l k
 unfold lookasideref01_Bit.f
 repeat' first
   | (with_reducible exact ih0 _ _ _)
   | (with_reducible exact LeO.refl _)
   | (with_reducible exact LeO.none _)
   | (with_reducible refine LeO.ite ?_ ?_)
   | (with_reducible refine LeO.bind ?_ (fun _ => ?_))
   | exact ih0 _ _ _
   | exact LeO.none _
   | refine LeO.ite ?_ ?_
   | refine LeO.bind ?_ (fun _ => ?_)
set_option maxHeartbeats 8000000 in
set_option maxRecDepth 100000 in
theorem lookasideref01_Bit.calls (k : Nat) (a0 : Int) (a1 : Int) (r : Int) (w : World) (h : lookasideref01_Bit.f k a0 a1 = some r) :
  Calls Try.prog 113 #[.int .u64 a0, .int .i64 a1] w fun e w' => e = .returned (.int .u64 r) ∧ Drawn0 w w' := by
 have H : (lookasideref01_Bit.l0 k a0 a1 0) = some r := h
 clear h
 have H' := Aside0.mk H
 clear H
 go_enter Try.func113, Try.ntmps113
 go_wp2
 go_loopg [0, 5] k (fun kq v0 v5 w' => ∃ (x0_1 : Int) (x5_1 : Int), v0 = .int .u64 x0_1 ∧ v5 = .int .i64 x5_1 ∧ Aside0 (lookasideref01_Bit.l0 kq x0_1 a1 x5_1 = some r) ∧ Aside0 (kq ≤ k) ∧ Drawn0 w w')
 case atStart => exact ⟨(a0), (0), (by first | rfl | (simp; done) | (simp [*]; done)), (by first | rfl | (simp; done) | (simp [*]; done)), H', ⟨Nat.le_refl _⟩, by repeat (first | exact Drawn0.refl _ | apply Drawn0.step)⟩
 case round =>
  clear H'
  try clear c1
  try clear p2
  obtain ⟨x0_1, x5_1, rfl, rfl, HA, HK1, ⟨m1, rfl⟩⟩ := hrel
  cases gk with
  | zero => exact absurd HA.out (by simp [lookasideref01_Bit.l0])
  | succ k1 =>
   have H := HA.out
   clear HA
   simp only [lookasideref01_Bit.l0] at H
   by_cases c3 : x5_1 < a1
   ·rw [if_pos c3] at H
    have c3b0 : decide (x5_1 < a1) = true := decide_eq_true c3
    clear c3
    have H' := Aside0.mk H
    clear H
    go_wp2
    go_roundg k1
    case measure => have := HK1.out; omega
    case rel => exact ⟨(IntKind.u64.wrap (Int.tdiv x0_1 2)), (wrap64 (x5_1 + 1)), (by first | rfl | (simp; done) | (simp [*]; done)), (by first | rfl | (simp; done) | (simp [*]; done)), H', ⟨by have := HK1.out; omega⟩, by repeat (first | exact Drawn0.refl _ | apply Drawn0.step)⟩
   ·rw [if_neg c3] at H
    have c3b0 : decide (x5_1 < a1) = false := decide_eq_false c3
    clear c3
    obtain rfl := Option.some.inj H
    go_wp2
    go_ret
    exact ⟨by first | rfl | (simp; done) | (simp [*]; done), by repeat (first | exact Drawn0.refl _ | apply Drawn0.step)⟩
/-! ### lookasideref02_Va: function 87 -/
def lookasideref02_Va.f (k : Nat) (a0 : Int) : Option (Int) := (lookasideref01_Bit.f k a0 43).bind fun t397 => (if t397 = 1 then (some (IntKind.u64.wrap ((Int.tmod a0 8796093022208) + 18446735277616529408))) else (some (Int.tmod a0 8796093022208)))
theorem lookasideref02_Va.mono : ∀ a0 k, LeO (lookasideref02_Va.f k a0) (lookasideref02_Va.f (k + 1) a0) := by
 intro a0 k
 unfold lookasideref02_Va.f
 repeat' first
   | (with_reducible exact lookasideref01_Bit.mono _ _ _)
   | (with_reducible exact LeO.refl _)
   | (with_reducible exact LeO.none _)
   | (with_reducible refine LeO.ite ?_ ?_)
   | (with_reducible refine LeO.bind ?_ (fun _ => ?_))
   | exact lookasideref01_Bit.mono _ _ _
   | exact LeO.none _
   | refine LeO.ite ?_ ?_
   | refine LeO.bind ?_ (fun _ => ?_)
set_option maxHeartbeats 8000000 in
set_option maxRecDepth 100000 in
theorem lookasideref02_Va.calls (k : Nat) (a0 : Int) (r : Int) (w : World) (h : lookasideref02_Va.f k a0 = some r) :
  Calls Try.prog 87 #[.int .u64 a0] w fun e w' => e = .returned (.int .u64 r) ∧ Drawn0 w w' := by
 have H : ((lookasideref01_Bit.f k a0 43).bind fun t397 => (if t397 = 1 then (some (IntKind.u64.wrap ((Int.tmod a0 8796093022208) + 18446735277616529408))) else (some (Int.tmod a0 8796093022208)))) = some r := h
 clear h
 replace H := Option.bind_eq_some_iff.mp H
 obtain ⟨t397, A20, H⟩ := H
 replace H : (if t397 = 1 then (some (IntKind.u64.wrap ((Int.tmod a0 8796093022208) + 18446735277616529408))) else (some (Int.tmod a0 8796093022208))) = some r := H
 have A2 := Aside0.mk A20
 clear A20
 by_cases c3 : t397 = 1
 ·rw [if_pos c3] at H
  have c3b0 : (t397 == 1) = true := beq_iff_eq.mpr c3
  have c3b1 : (t397 != 1) = false := bne_eq_false_iff_eq.mpr c3
  clear c3
  obtain rfl := Option.some.inj H
  go_enter Try.func87, Try.ntmps87
  go_wp2_with (((with_reducible refine gate_callee (f := 113) rfl ?_); refine goesL_ (some 4) rfl rfl Try.func113 (by kernel_rfl) rfl #[.int .u64 a0, .int .i64 43] rfl (by (try simp only [List.map_toArray, List.map_cons, List.map_nil]); first | done | rfl | (simp only [List.length_drop, List.length_take]; rfl)) ?_; (with_reducible refine (lookasideref01_Bit.calls k a0 43 t397 _ A2.out).mono ?_); rintro e w' ⟨rfl, ⟨nd, rfl⟩⟩; refine ⟨_, rfl, ?_⟩))
  go_ret
  exact ⟨by first | rfl | (simp; done) | (simp [*]; done), by repeat (first | exact Drawn0.refl _ | apply Drawn0.step)⟩
 ·rw [if_neg c3] at H
  have c3b0 : (t397 == 1) = false := beq_eq_false_iff_ne.mpr c3
  have c3b1 : (t397 != 1) = true := bne_iff_ne.mpr c3
  obtain rfl := Option.some.inj H
  go_enter Try.func87, Try.ntmps87
  go_wp2_with (((with_reducible refine gate_callee (f := 113) rfl ?_); refine goesL_ (some 4) rfl rfl Try.func113 (by kernel_rfl) rfl #[.int .u64 a0, .int .i64 43] rfl (by (try simp only [List.map_toArray, List.map_cons, List.map_nil]); first | done | rfl | (simp only [List.length_drop, List.length_take]; rfl)) ?_; (with_reducible refine (lookasideref01_Bit.calls k a0 43 t397 _ A2.out).mono ?_); rintro e w' ⟨rfl, ⟨nd, rfl⟩⟩; refine ⟨_, rfl, ?_⟩))
  go_ret
  exact ⟨by first | rfl | (simp; done) | (simp [*]; done), by repeat (first | exact Drawn0.refl _ | apply Drawn0.step)⟩
/-! ### lookasideref03_Good: function 55 -/
mutual
def lookasideref03_Good.j0 : Nat → Int → Int → Int → Int → Int → Bool → Bool → Bool → Bool → Bool → Bool → Bool → Int → Int → Int → Int → Bool → Bool → Bool → Bool → Bool → Bool → Bool → Option (Int × Int × Int × Int × Bool × Bool × Bool × Bool × Bool × Bool × Bool)
 | 0, _, _, _, _, _, _, _, _, _, _, _, _, _, _, _, _, _, _, _, _, _, _, _ => none
 | k + 1, x4, x399000, x399001, x399002, x399003, x399004, x399005, x399006, x399007, x399008, x399009, x399010, x401000, x401001, x401002, x401003, x401004, x401005, x401006, x401007, x401008, x401009, x401010 => if x399001 < 0 then (lookasideref03_Good.j1 k (wrap64 (-(wrap64 (x399001 + 1)))) x399000 x399001 x399002 x399003 x399004 x399005 x399006 x399007 x399008 x399009 x399010 (Int.tmod x4 4) x401001 x401002 x401003 x401004 x401005 x401006 x401007 x401008 x401009 x401010) else (lookasideref03_Good.j1 k x399001 x399000 x399001 x399002 x399003 x399004 x399005 x399006 x399007 x399008 x399009 x399010 (Int.tmod x4 4) x401001 x401002 x401003 x401004 x401005 x401006 x401007 x401008 x401009 x401010)
def lookasideref03_Good.j1 : Nat → Int → Int → Int → Int → Int → Bool → Bool → Bool → Bool → Bool → Bool → Bool → Int → Int → Int → Int → Bool → Bool → Bool → Bool → Bool → Bool → Bool → Option (Int × Int × Int × Int × Bool × Bool × Bool × Bool × Bool × Bool × Bool)
 | 0, _, _, _, _, _, _, _, _, _, _, _, _, _, _, _, _, _, _, _, _, _, _, _ => none
 | k + 1, x5, x399000, x399001, x399002, x399003, x399004, x399005, x399006, x399007, x399008, x399009, x399010, x401000, x401001, x401002, x401003, x401004, x401005, x401006, x401007, x401008, x401009, x401010 => if x401008 = true then ((lookasideref02_Va.f k x399002).bind fun t401 => ((lookasideref02_Base.f t401 x401000).bind fun t402 => ((lookasideref02_Base.f (Int.tmod x399003 2199023255552) x401000).bind fun t403 => (some (x401000, 0, t402, t403, x401004, x401005, x401006, x401007, x401008, x401009, x401010))))) else ((lookasideref02_Va.f k x399002).bind fun t404 => ((lookasideref02_Base.f t404 x401000).bind fun t405 => ((lookasideref02_Base.f (Int.tmod x399003 2199023255552) x401000).bind fun t406 => (some (x401000, Int.tmod x5 8192, t405, t406, x401004, x401005, x401006, x401007, x401008, x401009, x401010)))))
end
def lookasideref03_Good.f (k : Nat) (a0_0 : Int) (a0_1 : Int) (a0_2 : Int) (a0_3 : Int) (a0_4 : Bool) (a0_5 : Bool) (a0_6 : Bool) (a0_7 : Bool) (a0_8 : Bool) (a0_9 : Bool) (a0_10 : Bool) : Option (Int × Int × Int × Int × Bool × Bool × Bool × Bool × Bool × Bool × Bool) := if a0_0 < 0 then (lookasideref03_Good.j0 k (wrap64 (-(wrap64 (a0_0 + 1)))) a0_0 a0_1 a0_2 a0_3 a0_4 a0_5 a0_6 a0_7 a0_8 a0_9 a0_10 0 0 0 0 a0_4 a0_5 a0_6 a0_7 a0_8 a0_9 true) else (lookasideref03_Good.j0 k a0_0 a0_0 a0_1 a0_2 a0_3 a0_4 a0_5 a0_6 a0_7 a0_8 a0_9 a0_10 0 0 0 0 a0_4 a0_5 a0_6 a0_7 a0_8 a0_9 true)
theorem lookasideref03_Good.mono_l : ∀ k, (∀ y0 y1 y2 y3 y4 y5 y6 y7 y8 y9 y10 y11 y12 y13 y14 y15 y16 y17 y18 y19 y20 y21 y22, LeO (lookasideref03_Good.j0 k y0 y1 y2 y3 y4 y5 y6 y7 y8 y9 y10 y11 y12 y13 y14 y15 y16 y17 y18 y19 y20 y21 y22) (lookasideref03_Good.j0 (k + 1) y0 y1 y2 y3 y4 y5 y6 y7 y8 y9 y10 y11 y12 y13 y14 y15 y16 y17 y18 y19 y20 y21 y22)) ∧ (∀ y0 y1 y2 y3 y4 y5 y6 y7 y8 y9 y10 y11 y12 y13 y14 y15 y16 y17 y18 y19 y20 y21 y22, LeO (lookasideref03_Good.j1 k y0 y1 y2 y3 y4 y5 y6 y7 y8 y9 y10 y11 y12 y13 y14 y15 y16 y17 y18 y19 y20 y21 y22) (lookasideref03_Good.j1 (k + 1) y0 y1 y2 y3 y4 y5 y6 y7 y8 y9 y10 y11 y12 y13 y14 y15 y16 y17 y18 y19 y20 y21 y22))
 | 0 => ⟨fun _ _ _ _ _ _ _ _ _ _ _ _ _ _ _ _ _ _ _ _ _ _ _ r h => by simp [lookasideref03_Good.j0] at h, fun _ _ _ _ _ _ _ _ _ _ _ _ _ _ _ _ _ _ _ _ _ _ _ r h => by simp [lookasideref03_Good.j1] at h⟩
 | k + 1 => by
  obtain ⟨ih0, ih1⟩ := lookasideref03_Good.mono_l k
  refine ⟨?_, ?_⟩
  ·intro y0 y1 y2 y3 y4 y5 y6 y7 y8 y9 y10 y11 y12 y13 y14 y15 y16 y17 y18 y19 y20 y21 y22
   unfold lookasideref03_Good.j0
   repeat' first
   | (with_reducible exact ih0 _ _ _ _ _ _ _ _ _ _ _ _ _ _ _ _ _ _ _ _ _ _ _)
   | (with_reducible exact ih1 _ _ _ _ _ _ _ _ _ _ _ _ _ _ _ _ _ _ _ _ _ _ _)
   | (with_reducible exact lookasideref02_Va.mono _ _)
   | (with_reducible exact LeO.refl _)
   | (with_reducible exact LeO.none _)
   | (with_reducible refine LeO.ite ?_ ?_)
   | (with_reducible refine LeO.bind ?_ (fun _ => ?_))
   | exact ih0 _ _ _ _ _ _ _ _ _ _ _ _ _ _ _ _ _ _ _ _ _ _ _
   | exact ih1 _ _ _ _ _ _ _ _ _ _ _ _ _ _ _ _ _ _ _ _ _ _ _
   | exact lookasideref02_Va.mono _ _
   | exact LeO.none _
   | refine LeO.ite ?_ ?_
   | refine LeO.bind ?_ (fun _ => ?_)
  ·intro y0 y1 y2 y3 y4 y5 y6 y7 y8 y9 y10 y11 y12 y13 y14 y15 y16 y17 y18 y19 y20 y21 y22
   unfold lookasideref03_Good.j1
   repeat' first
   | (with_reducible exact ih0 _ _ _ _ _ _ _ _ _ _ _ _ _ _ _ _ _ _ _ _ _ _ _)
   | (with_reducible exact ih1 _ _ _ _ _ _ _ _ _ _ _ _ _ _ _ _ _ _ _ _ _ _ _)
   | (with_reducible exact lookasideref02_Va.mono _ _)
   | (with_reducible exact LeO.refl _)
   | (with_reducible exact LeO.none _)
   | (with_reducible refine LeO.ite ?_ ?_)
   | (with_reducible refine LeO.bind ?_ (fun _ => ?_))
   | exact ih0 _ _ _ _ _ _ _ _ _ _ _ _ _ _ _ _ _ _ _ _ _ _ _
   | exact ih1 _ _ _ _ _ _ _ _ _ _ _ _ _ _ _ _ _ _ _ _ _ _ _
   | exact lookasideref02_Va.mono _ _
   | exact LeO.none _
   | refine LeO.ite ?_ ?_
   | refine LeO.bind ?_ (fun _ => ?_)
def lookasideref03_Good.T12 : Bool × List (List Nat × List Nat) := (true, [([], []), ([0], [0]), ([1], [1]), ([], []), ([3], [3]), ([2, 4, 2], [2, 4]), ([0, 1, 2, 3, 4, 5], []), ([6, 5, 5, 0, 1, 2, 3, 4, 5], [5, 6])])
def lookasideref03_Good.B12 : List Nat := [0, 1, 3, 0, 8, 31, 63, 127]
theorem lookasideref03_Good.tab12 : rtab .any (opsOf Try.f55 12) = lookasideref03_Good.T12 := by kernel_rfl
theorem lookasideref03_Good.bits12 : waitsOk lookasideref03_Good.T12.2 lookasideref03_Good.B12 = true := by kernel_rfl
set_option maxHeartbeats 8000000 in
set_option maxRecDepth 100000 in
theorem lookasideref03_Good.calls (k : Nat) (a0_0 : Int) (a0_1 : Int) (a0_2 : Int) (a0_3 : Int) (a0_4 : Bool) (a0_5 : Bool) (a0_6 : Bool) (a0_7 : Bool) (a0_8 : Bool) (a0_9 : Bool) (a0_10 : Bool) (r1 : Int) (r2 : Int) (r3 : Int) (r4 : Int) (r5 : Bool) (r6 : Bool) (r7 : Bool) (r8 : Bool) (r9 : Bool) (r10 : Bool) (r11 : Bool) (w : World) (h : lookasideref03_Good.f k a0_0 a0_1 a0_2 a0_3 a0_4 a0_5 a0_6 a0_7 a0_8 a0_9 a0_10 = some (r1, r2, r3, r4, r5, r6, r7, r8, r9, r10, r11)) :
  Calls Try.prog 55 #[.agg #[.int .i64 a0_0, .int .i64 a0_1, .int .u64 a0_2, .int .u64 a0_3, .bool a0_4, .bool a0_5, .bool a0_6, .bool a0_7, .bool a0_8, .bool a0_9, .bool a0_10]] w fun e w' => e = .returned (.agg #[.int .i64 r1, .int .i64 r2, .int .u64 r3, .int .u64 r4, .bool r5, .bool r6, .bool r7, .bool r8, .bool r9, .bool r10, .bool r11]) ∧ Below w.heap.size w w' := by
 have hu50 := Try.underlying50
 have hu48 := Try.underlying48
 have HB := Aside0.mk (Below.refl w.heap.size w)
 have H : (if a0_0 < 0 then (lookasideref03_Good.j0 k (wrap64 (-(wrap64 (a0_0 + 1)))) a0_0 a0_1 a0_2 a0_3 a0_4 a0_5 a0_6 a0_7 a0_8 a0_9 a0_10 0 0 0 0 a0_4 a0_5 a0_6 a0_7 a0_8 a0_9 true) else (lookasideref03_Good.j0 k a0_0 a0_0 a0_1 a0_2 a0_3 a0_4 a0_5 a0_6 a0_7 a0_8 a0_9 a0_10 0 0 0 0 a0_4 a0_5 a0_6 a0_7 a0_8 a0_9 true)) = some (r1, r2, r3, r4, r5, r6, r7, r8, r9, r10, r11) := h
 clear h
 have HC2 := Aside0.mk H
 clear H
 go_enter Try.func55, Try.ntmps55
 go_upto_if 12 with (first | ((with_reducible refine gate_dst (N := 1) rfl ?_); refine box_event ?hg (N := 1) ?hd (cs := #[.int .i64 a0_0, .int .i64 a0_1, .int .u64 a0_2, .int .u64 a0_3, .bool a0_4, .bool a0_5, .bool a0_6, .bool a0_7, .bool a0_8, .bool a0_9, .bool a0_10]) (t := 50) ?hr ?_; (case hd => rfl); (case hg => rfl); (case hr => first | (go_simp; done) | (go_simp; rfl)); intro gb398 hg w3 hbox hb; have n0_ := Aside0.mk (below_step (by repeat (first | (with_reducible first | exact HB.out | apply below_alloc | apply pw_below_drewN | apply below_drew1) | exact HB.out)) hb); have n1_ := Aside0.mk (hbox); have n2_ := Aside0.mk ((by rw [hg]; exact (below_size (by repeat (first | (with_reducible first | exact HB.out | apply below_alloc | apply pw_below_drewN | apply below_drew1) | exact HB.out))) : w.heap.size ≤ gb398)); have n3_ := Aside0.mk ((by rw [hg]; exact (below_size (by repeat (first | (with_reducible first | exact HB.out | apply below_alloc | apply pw_below_drewN | apply below_drew1) | exact HB.out))) : w.heap.size ≤ gb398)); clear HB; have HB := n0_; have BK398 := n1_; have GW398 := n2_; have GE398 := n3_; clear n0_ n1_ n2_ n3_; clear hb hbox hg) | ((with_reducible refine gate_dst (N := 2) rfl ?_); refine box_event ?hg (N := 2) ?hd (cs := #[.int .i64 0, .int .i64 0, .int .u64 0, .int .u64 0, .bool false, .bool false, .bool false, .bool false, .bool false, .bool false, .bool false]) (t := 50) ?hr ?_; (case hd => rfl); (case hg => rfl); (case hr => first | (go_simp; done) | (go_simp; rfl)); intro gb399 hg w4 hbox hb; have n0_ := Aside0.mk (bb22_ hb BK398.out); have n1_ := Aside0.mk (below_step (by repeat (first | (with_reducible first | exact HB.out | apply below_alloc | apply pw_below_drewN | apply below_drew1 | refine below_set ?_ GE398.out) | exact HB.out)) hb); have n2_ := Aside0.mk (hbox); have n3_ := Aside0.mk ((by rw [hg]; exact (below_size (by repeat (first | (with_reducible first | exact HB.out | apply below_alloc | apply pw_below_drewN | apply below_drew1 | refine below_set ?_ GE398.out) | exact HB.out))) : w.heap.size ≤ gb399)); have n4_ := Aside0.mk ((by rw [hg]; exact (below_size (by repeat (first | (with_reducible first | exact HB.out | apply below_alloc | apply pw_below_drewN | apply below_drew1 | refine below_set ?_ GE398.out) | exact HB.out))) : w.heap.size ≤ gb399)); have n5_ := Aside0.mk ((by rw [hg]; exact Nat.ne_of_lt (blk_lt BK398.out) : gb398 ≠ gb399)); have n6_ := Aside0.mk ((by rw [hg]; exact Nat.ne_of_gt (blk_lt BK398.out) : gb399 ≠ gb398)); clear BK398; clear HB; have BK398 := n0_; have HB := n1_; have BK399 := n2_; have GW399 := n3_; have GE399 := n4_; have NB398_399 := n5_; have NB399_398 := n6_; clear n0_ n1_ n2_ n3_ n4_ n5_ n6_; clear hb hbox hg; have hnb5 := NB398_399.out; have hnc5 := NB399_398.out; obtain ⟨hcz6_0, hcz6_1, hcz6_2, hcz6_3, hcz6_4, hcz6_5, hcz6_6, hcz6_7, hcz6_8, hcz6_9, hcz6_10⟩ := cy11_22 BK398.out; have hfz6_0 := blk_frozen BK398.out 0; have hfz6_1 := blk_frozen BK398.out 1; have hfz6_2 := blk_frozen BK398.out 2; have hfz6_3 := blk_frozen BK398.out 3; have hfz6_4 := blk_frozen BK398.out 4; have hfz6_5 := blk_frozen BK398.out 5; have hfz6_6 := blk_frozen BK398.out 6; have hfz6_7 := blk_frozen BK398.out 7; have hfz6_8 := blk_frozen BK398.out 8; have hfz6_9 := blk_frozen BK398.out 9; have hfz6_10 := blk_frozen BK398.out 10) | ((with_reducible refine gate_dst (N := 3) rfl ?_); refine box_event ?hg (N := 3) ?hd (cs := #[.int .i64 0, .int .i64 0, .int .u64 0, .int .u64 0, .bool false, .bool false, .bool false, .bool false, .bool false, .bool false, .bool false]) (t := 50) ?hr ?_; (case hd => rfl); (case hg => rfl); (case hr => first | (go_simp; done) | (go_simp; rfl)); intro gb400 hg w7 hbox hb; have n0_ := Aside0.mk (bb22_ hb BK398.out); have n1_ := Aside0.mk (bb22_ hb BK399.out); have n2_ := Aside0.mk (below_step (by repeat (first | (with_reducible first | exact HB.out | apply below_alloc | apply pw_below_drewN | apply below_drew1 | refine below_set ?_ GE398.out | refine below_set ?_ GE399.out) | exact HB.out)) hb); have n3_ := Aside0.mk (hbox); have n4_ := Aside0.mk ((by rw [hg]; exact (below_size (by repeat (first | (with_reducible first | exact HB.out | apply below_alloc | apply pw_below_drewN | apply below_drew1 | refine below_set ?_ GE398.out | refine below_set ?_ GE399.out) | exact HB.out))) : w.heap.size ≤ gb400)); have n5_ := Aside0.mk ((by rw [hg]; exact (below_size (by repeat (first | (with_reducible first | exact HB.out | apply below_alloc | apply pw_below_drewN | apply below_drew1 | refine below_set ?_ GE398.out | refine below_set ?_ GE399.out) | exact HB.out))) : w.heap.size ≤ gb400)); have n6_ := Aside0.mk ((by rw [hg]; exact Nat.ne_of_lt (blk_lt BK398.out) : gb398 ≠ gb400)); have n7_ := Aside0.mk ((by rw [hg]; exact Nat.ne_of_gt (blk_lt BK398.out) : gb400 ≠ gb398)); have n8_ := Aside0.mk ((by rw [hg]; exact Nat.ne_of_lt (blk_lt BK399.out) : gb399 ≠ gb400)); have n9_ := Aside0.mk ((by rw [hg]; exact Nat.ne_of_gt (blk_lt BK399.out) : gb400 ≠ gb399)); clear BK398; clear BK399; clear HB; have BK398 := n0_; have BK399 := n1_; have HB := n2_; have BK400 := n3_; have GW400 := n4_; have GE400 := n5_; have NB398_400 := n6_; have NB400_398 := n7_; have NB399_400 := n8_; have NB400_399 := n9_; clear n0_ n1_ n2_ n3_ n4_ n5_ n6_ n7_ n8_ n9_; clear hb hbox hg; have hnb8 := NB400_398.out; have hnc8 := NB398_400.out; have hnb9 := NB400_399.out; have hnc9 := NB399_400.out; obtain ⟨hcz10_0, hcz10_1, hcz10_2, hcz10_3, hcz10_4, hcz10_5, hcz10_6, hcz10_7, hcz10_8, hcz10_9, hcz10_10⟩ := cy11_22 BK400.out; have hfz10_0 := blk_frozen BK400.out 0; have hfz10_1 := blk_frozen BK400.out 1; have hfz10_2 := blk_frozen BK400.out 2; have hfz10_3 := blk_frozen BK400.out 3; have hfz10_4 := blk_frozen BK400.out 4; have hfz10_5 := blk_frozen BK400.out 5; have hfz10_6 := blk_frozen BK400.out 6; have hfz10_7 := blk_frozen BK400.out 7; have hfz10_8 := blk_frozen BK400.out 8; have hfz10_9 := blk_frozen BK400.out 9; have hfz10_10 := blk_frozen BK400.out 10; obtain ⟨hcz11_0, hcz11_1, hcz11_2, hcz11_3, hcz11_4, hcz11_5, hcz11_6, hcz11_7, hcz11_8, hcz11_9, hcz11_10⟩ := cy11_22 BK398.out; have hfz11_0 := blk_frozen BK398.out 0; have hfz11_1 := blk_frozen BK398.out 1; have hfz11_2 := blk_frozen BK398.out 2; have hfz11_3 := blk_frozen BK398.out 3; have hfz11_4 := blk_frozen BK398.out 4; have hfz11_5 := blk_frozen BK398.out 5; have hfz11_6 := blk_frozen BK398.out 6; have hfz11_7 := blk_frozen BK398.out 7; have hfz11_8 := blk_frozen BK398.out 8; have hfz11_9 := blk_frozen BK398.out 9; have hfz11_10 := blk_frozen BK398.out 10))
 (try simp only [Act.put, List.setIfInBounds_toArray, List.set_cons_zero, List.set_cons_succ])
 go_cut [4] (fun v4 wc => ∃ (kq : Nat) (x4_1 : Int), v4 = .int .i64 x4_1 ∧ Aside0 (lookasideref03_Good.j0 kq x4_1 a0_0 a0_1 a0_2 a0_3 a0_4 a0_5 a0_6 a0_7 a0_8 a0_9 a0_10 0 0 0 0 a0_4 a0_5 a0_6 a0_7 a0_8 a0_9 true = some (r1, r2, r3, r4, r5, r6, r7, r8, r9, r10, r11)) ∧ Aside0 (kq ≤ k) ∧ Aside0 (wc.heap[gb398]? = some (.cells #[.int .i64 a0_0, .int .i64 a0_1, .int .u64 a0_2, .int .u64 a0_3, .bool a0_4, .bool a0_5, .bool a0_6, .bool a0_7, .bool a0_8, .bool a0_9, .bool a0_10] 50 (0, 0))) ∧ Aside0 (wc.heap[gb399]? = some (.cells #[.int .i64 0, .int .i64 0, .int .u64 0, .int .u64 0, .bool false, .bool false, .bool false, .bool false, .bool false, .bool false, .bool false] 50 (0, 0))) ∧ Aside0 (wc.heap[gb400]? = some (.cells #[.int .i64 0, .int .i64 0, .int .u64 0, .int .u64 0, .bool a0_4, .bool a0_5, .bool a0_6, .bool a0_7, .bool a0_8, .bool a0_9, .bool true] 50 (0, 0))) ∧ Aside0 (Below w.heap.size w wc))
 case first =>
  have H := HC2.out
  clear HC2
  by_cases c12 : a0_0 < 0
  ·rw [if_pos c12] at H
   have c12b0 : decide (a0_0 < 0) = true := decide_eq_true c12
   clear c12
   (first | rw [c12b0] | (simp only [i64_w, i32_w]; rw [c12b0]) | skip)
   have H' := Aside0.mk H
   clear H
   go_wp2
   go_meet
   case rel => exact ⟨_, (wrap64 (-(wrap64 (a0_0 + 1)))), (by first | rfl | (simp; done) | (simp [*]; done)), H', ⟨by first | omega | exact Nat.le_refl _⟩, ⟨by (with_reducible repeat (first | refine blk_drewN ?_ _ | refine blk_drew ?_ | refine blk_alloc ?_ _)); refine blk_far ?_ NB398_400.out _; refine blk_far ?_ NB398_400.out _; refine blk_far ?_ NB398_400.out _; refine blk_far ?_ NB398_400.out _; refine blk_far ?_ NB398_400.out _; refine blk_far ?_ NB398_400.out _; refine blk_far ?_ NB398_400.out _; refine blk_far ?_ NB398_400.out _; refine blk_far ?_ NB398_400.out _; refine blk_far ?_ NB398_400.out _; refine blk_far ?_ NB398_400.out _; (with_reducible repeat (first | refine blk_drewN ?_ _ | refine blk_drew ?_ | refine blk_alloc ?_ _)); exact BK398.out⟩, ⟨by (with_reducible repeat (first | refine blk_drewN ?_ _ | refine blk_drew ?_ | refine blk_alloc ?_ _)); refine blk_far ?_ NB399_400.out _; refine blk_far ?_ NB399_400.out _; refine blk_far ?_ NB399_400.out _; refine blk_far ?_ NB399_400.out _; refine blk_far ?_ NB399_400.out _; refine blk_far ?_ NB399_400.out _; refine blk_far ?_ NB399_400.out _; refine blk_far ?_ NB399_400.out _; refine blk_far ?_ NB399_400.out _; refine blk_far ?_ NB399_400.out _; refine blk_far ?_ NB399_400.out _; (with_reducible repeat (first | refine blk_drewN ?_ _ | refine blk_drew ?_ | refine blk_alloc ?_ _)); exact BK399.out⟩, ⟨by (with_reducible repeat (first | refine blk_drewN ?_ _ | refine blk_drew ?_ | refine blk_alloc ?_ _)); refine blk_put (cs := #[.int .i64 0, .int .i64 0, .int .u64 0, .int .u64 0, .bool a0_4, .bool a0_5, .bool a0_6, .bool a0_7, .bool a0_8, .bool a0_9, .bool false]) ?_ 10 _ rfl; refine blk_put (cs := #[.int .i64 0, .int .i64 0, .int .u64 0, .int .u64 0, .bool a0_4, .bool a0_5, .bool a0_6, .bool a0_7, .bool a0_8, .bool false, .bool false]) ?_ 9 _ rfl; refine blk_put (cs := #[.int .i64 0, .int .i64 0, .int .u64 0, .int .u64 0, .bool a0_4, .bool a0_5, .bool a0_6, .bool a0_7, .bool false, .bool false, .bool false]) ?_ 8 _ rfl; refine blk_put (cs := #[.int .i64 0, .int .i64 0, .int .u64 0, .int .u64 0, .bool a0_4, .bool a0_5, .bool a0_6, .bool false, .bool false, .bool false, .bool false]) ?_ 7 _ rfl; refine blk_put (cs := #[.int .i64 0, .int .i64 0, .int .u64 0, .int .u64 0, .bool a0_4, .bool a0_5, .bool false, .bool false, .bool false, .bool false, .bool false]) ?_ 6 _ rfl; refine blk_put (cs := #[.int .i64 0, .int .i64 0, .int .u64 0, .int .u64 0, .bool a0_4, .bool false, .bool false, .bool false, .bool false, .bool false, .bool false]) ?_ 5 _ rfl; refine blk_put (cs := #[.int .i64 0, .int .i64 0, .int .u64 0, .int .u64 0, .bool false, .bool false, .bool false, .bool false, .bool false, .bool false, .bool false]) ?_ 4 _ rfl; refine blk_put (cs := #[.int .i64 0, .int .i64 0, .int .u64 0, .int .u64 0, .bool false, .bool false, .bool false, .bool false, .bool false, .bool false, .bool false]) ?_ 3 _ rfl; refine blk_put (cs := #[.int .i64 0, .int .i64 0, .int .u64 0, .int .u64 0, .bool false, .bool false, .bool false, .bool false, .bool false, .bool false, .bool false]) ?_ 2 _ rfl; refine blk_put (cs := #[.int .i64 0, .int .i64 0, .int .u64 0, .int .u64 0, .bool false, .bool false, .bool false, .bool false, .bool false, .bool false, .bool false]) ?_ 1 _ rfl; refine blk_put (cs := #[.int .i64 0, .int .i64 0, .int .u64 0, .int .u64 0, .bool false, .bool false, .bool false, .bool false, .bool false, .bool false, .bool false]) ?_ 0 _ rfl; (with_reducible repeat (first | refine blk_drewN ?_ _ | refine blk_drew ?_ | refine blk_alloc ?_ _)); exact BK400.out⟩, ⟨by repeat (first | (with_reducible first | exact HB.out | apply below_alloc | apply pw_below_drewN | apply below_drew1 | refine below_set ?_ GE398.out | refine below_set ?_ GE399.out | refine below_set ?_ GE400.out) | exact HB.out)⟩⟩
  ·rw [if_neg c12] at H
   have c12b0 : decide (a0_0 < 0) = false := decide_eq_false c12
   clear c12
   (first | rw [c12b0] | (simp only [i64_w, i32_w]; rw [c12b0]) | skip)
   have H' := Aside0.mk H
   clear H
   go_wp2
   go_meet
   case rel => exact ⟨_, (a0_0), (by first | rfl | (simp; done) | (simp [*]; done)), H', ⟨by first | omega | exact Nat.le_refl _⟩, ⟨by (with_reducible repeat (first | refine blk_drewN ?_ _ | refine blk_drew ?_ | refine blk_alloc ?_ _)); refine blk_far ?_ NB398_400.out _; refine blk_far ?_ NB398_400.out _; refine blk_far ?_ NB398_400.out _; refine blk_far ?_ NB398_400.out _; refine blk_far ?_ NB398_400.out _; refine blk_far ?_ NB398_400.out _; refine blk_far ?_ NB398_400.out _; refine blk_far ?_ NB398_400.out _; refine blk_far ?_ NB398_400.out _; refine blk_far ?_ NB398_400.out _; refine blk_far ?_ NB398_400.out _; (with_reducible repeat (first | refine blk_drewN ?_ _ | refine blk_drew ?_ | refine blk_alloc ?_ _)); exact BK398.out⟩, ⟨by (with_reducible repeat (first | refine blk_drewN ?_ _ | refine blk_drew ?_ | refine blk_alloc ?_ _)); refine blk_far ?_ NB399_400.out _; refine blk_far ?_ NB399_400.out _; refine blk_far ?_ NB399_400.out _; refine blk_far ?_ NB399_400.out _; refine blk_far ?_ NB399_400.out _; refine blk_far ?_ NB399_400.out _; refine blk_far ?_ NB399_400.out _; refine blk_far ?_ NB399_400.out _; refine blk_far ?_ NB399_400.out _; refine blk_far ?_ NB399_400.out _; refine blk_far ?_ NB399_400.out _; (with_reducible repeat (first | refine blk_drewN ?_ _ | refine blk_drew ?_ | refine blk_alloc ?_ _)); exact BK399.out⟩, ⟨by (with_reducible repeat (first | refine blk_drewN ?_ _ | refine blk_drew ?_ | refine blk_alloc ?_ _)); refine blk_put (cs := #[.int .i64 0, .int .i64 0, .int .u64 0, .int .u64 0, .bool a0_4, .bool a0_5, .bool a0_6, .bool a0_7, .bool a0_8, .bool a0_9, .bool false]) ?_ 10 _ rfl; refine blk_put (cs := #[.int .i64 0, .int .i64 0, .int .u64 0, .int .u64 0, .bool a0_4, .bool a0_5, .bool a0_6, .bool a0_7, .bool a0_8, .bool false, .bool false]) ?_ 9 _ rfl; refine blk_put (cs := #[.int .i64 0, .int .i64 0, .int .u64 0, .int .u64 0, .bool a0_4, .bool a0_5, .bool a0_6, .bool a0_7, .bool false, .bool false, .bool false]) ?_ 8 _ rfl; refine blk_put (cs := #[.int .i64 0, .int .i64 0, .int .u64 0, .int .u64 0, .bool a0_4, .bool a0_5, .bool a0_6, .bool false, .bool false, .bool false, .bool false]) ?_ 7 _ rfl; refine blk_put (cs := #[.int .i64 0, .int .i64 0, .int .u64 0, .int .u64 0, .bool a0_4, .bool a0_5, .bool false, .bool false, .bool false, .bool false, .bool false]) ?_ 6 _ rfl; refine blk_put (cs := #[.int .i64 0, .int .i64 0, .int .u64 0, .int .u64 0, .bool a0_4, .bool false, .bool false, .bool false, .bool false, .bool false, .bool false]) ?_ 5 _ rfl; refine blk_put (cs := #[.int .i64 0, .int .i64 0, .int .u64 0, .int .u64 0, .bool false, .bool false, .bool false, .bool false, .bool false, .bool false, .bool false]) ?_ 4 _ rfl; refine blk_put (cs := #[.int .i64 0, .int .i64 0, .int .u64 0, .int .u64 0, .bool false, .bool false, .bool false, .bool false, .bool false, .bool false, .bool false]) ?_ 3 _ rfl; refine blk_put (cs := #[.int .i64 0, .int .i64 0, .int .u64 0, .int .u64 0, .bool false, .bool false, .bool false, .bool false, .bool false, .bool false, .bool false]) ?_ 2 _ rfl; refine blk_put (cs := #[.int .i64 0, .int .i64 0, .int .u64 0, .int .u64 0, .bool false, .bool false, .bool false, .bool false, .bool false, .bool false, .bool false]) ?_ 1 _ rfl; refine blk_put (cs := #[.int .i64 0, .int .i64 0, .int .u64 0, .int .u64 0, .bool false, .bool false, .bool false, .bool false, .bool false, .bool false, .bool false]) ?_ 0 _ rfl; (with_reducible repeat (first | refine blk_drewN ?_ _ | refine blk_drew ?_ | refine blk_alloc ?_ _)); exact BK400.out⟩, ⟨by repeat (first | (with_reducible first | exact HB.out | apply below_alloc | apply pw_below_drewN | apply below_drew1 | refine below_set ?_ GE398.out | refine below_set ?_ GE399.out | refine below_set ?_ GE400.out) | exact HB.out)⟩⟩
 case rest =>
  clear HC2
  try clear c1
  try clear p2
  try clear c5
  try clear p6
  try clear c8
  try clear c9
  try clear c12
  try clear c12b0
  try clear hcz10_0
  try clear hcz10_1
  try clear hcz10_10
  try clear hcz10_2
  try clear hcz10_3
  try clear hcz10_4
  try clear hcz10_5
  try clear hcz10_6
  try clear hcz10_7
  try clear hcz10_8
  try clear hcz10_9
  try clear hcz11_0
  try clear hcz11_1
  try clear hcz11_10
  try clear hcz11_2
  try clear hcz11_3
  try clear hcz11_4
  try clear hcz11_5
  try clear hcz11_6
  try clear hcz11_7
  try clear hcz11_8
  try clear hcz11_9
  try clear hcz6_0
  try clear hcz6_1
  try clear hcz6_10
  try clear hcz6_2
  try clear hcz6_3
  try clear hcz6_4
  try clear hcz6_5
  try clear hcz6_6
  try clear hcz6_7
  try clear hcz6_8
  try clear hcz6_9
  try clear hfz10_0
  try clear hfz10_1
  try clear hfz10_10
  try clear hfz10_2
  try clear hfz10_3
  try clear hfz10_4
  try clear hfz10_5
  try clear hfz10_6
  try clear hfz10_7
  try clear hfz10_8
  try clear hfz10_9
  try clear hfz11_0
  try clear hfz11_1
  try clear hfz11_10
  try clear hfz11_2
  try clear hfz11_3
  try clear hfz11_4
  try clear hfz11_5
  try clear hfz11_6
  try clear hfz11_7
  try clear hfz11_8
  try clear hfz11_9
  try clear hfz6_0
  try clear hfz6_1
  try clear hfz6_10
  try clear hfz6_2
  try clear hfz6_3
  try clear hfz6_4
  try clear hfz6_5
  try clear hfz6_6
  try clear hfz6_7
  try clear hfz6_8
  try clear hfz6_9
  obtain ⟨kq, x4_1, rfl, HA, HJ1, BK398, BK399, BK400, HB⟩ := hcut
  cases kq with
  | zero => exact absurd HA.out (by simp [lookasideref03_Good.j0])
  | succ kj1 =>
   have H := HA.out
   clear HA
   simp only [lookasideref03_Good.j0] at H
   have HC13 := Aside0.mk H
   clear H
   have hnb14 := NB400_398.out
   have hnc14 := NB398_400.out
   have hnb15 := NB400_399.out
   have hnc15 := NB399_400.out
   obtain ⟨hcz16_0, hcz16_1, hcz16_2, hcz16_3, hcz16_4, hcz16_5, hcz16_6, hcz16_7, hcz16_8, hcz16_9, hcz16_10⟩ := cy11_22 BK400.out
   have hfz16_0 := blk_frozen BK400.out 0
   have hfz16_1 := blk_frozen BK400.out 1
   have hfz16_2 := blk_frozen BK400.out 2
   have hfz16_3 := blk_frozen BK400.out 3
   have hfz16_4 := blk_frozen BK400.out 4
   have hfz16_5 := blk_frozen BK400.out 5
   have hfz16_6 := blk_frozen BK400.out 6
   have hfz16_7 := blk_frozen BK400.out 7
   have hfz16_8 := blk_frozen BK400.out 8
   have hfz16_9 := blk_frozen BK400.out 9
   have hfz16_10 := blk_frozen BK400.out 10
   have hnb17 := NB398_399.out
   have hnc17 := NB399_398.out
   obtain ⟨hcz18_0, hcz18_1, hcz18_2, hcz18_3, hcz18_4, hcz18_5, hcz18_6, hcz18_7, hcz18_8, hcz18_9, hcz18_10⟩ := cy11_22 BK398.out
   have hfz18_0 := blk_frozen BK398.out 0
   have hfz18_1 := blk_frozen BK398.out 1
   have hfz18_2 := blk_frozen BK398.out 2
   have hfz18_3 := blk_frozen BK398.out 3
   have hfz18_4 := blk_frozen BK398.out 4
   have hfz18_5 := blk_frozen BK398.out 5
   have hfz18_6 := blk_frozen BK398.out 6
   have hfz18_7 := blk_frozen BK398.out 7
   have hfz18_8 := blk_frozen BK398.out 8
   have hfz18_9 := blk_frozen BK398.out 9
   have hfz18_10 := blk_frozen BK398.out 10
   go_upto_if 22 with (fail)
   go_cut [5] (fun v5 wc => ∃ (kq : Nat) (x5_12 : Int), v5 = .int .i64 x5_12 ∧ Aside0 (lookasideref03_Good.j1 kq x5_12 a0_0 a0_1 a0_2 a0_3 a0_4 a0_5 a0_6 a0_7 a0_8 a0_9 a0_10 (Int.tmod x4_1 4) 0 0 0 a0_4 a0_5 a0_6 a0_7 a0_8 a0_9 true = some (r1, r2, r3, r4, r5, r6, r7, r8, r9, r10, r11)) ∧ Aside0 (kq ≤ kj1) ∧ Aside0 (wc.heap[gb398]? = some (.cells #[.int .i64 a0_0, .int .i64 a0_1, .int .u64 a0_2, .int .u64 a0_3, .bool a0_4, .bool a0_5, .bool a0_6, .bool a0_7, .bool a0_8, .bool a0_9, .bool a0_10] 50 (0, 0))) ∧ Aside0 (wc.heap[gb399]? = some (.cells #[.int .i64 0, .int .i64 0, .int .u64 0, .int .u64 0, .bool false, .bool false, .bool false, .bool false, .bool false, .bool false, .bool false] 50 (0, 0))) ∧ Aside0 (wc.heap[gb400]? = some (.cells #[.int .i64 (Int.tmod x4_1 4), .int .i64 0, .int .u64 0, .int .u64 0, .bool a0_4, .bool a0_5, .bool a0_6, .bool a0_7, .bool a0_8, .bool a0_9, .bool true] 50 (0, 0))) ∧ Aside0 (Below w.heap.size w wc))
   case first =>
    have H := HC13.out
    clear HC13
    by_cases c19 : a0_1 < 0
    ·rw [if_pos c19] at H
     have c19b0 : decide (a0_1 < 0) = true := decide_eq_true c19
     clear c19
     (first | rw [c19b0] | (simp only [i64_w, i32_w]; rw [c19b0]) | skip)
     have H' := Aside0.mk H
     clear H
     go_wp2
     go_meet
     case rel => exact ⟨_, (wrap64 (-(wrap64 (a0_1 + 1)))), (by first | rfl | (simp; done) | (simp [*]; done)), H', ⟨by have := HJ1.out; first | omega | exact Nat.le_refl _⟩, ⟨by (with_reducible repeat (first | refine blk_drewN ?_ _ | refine blk_drew ?_ | refine blk_alloc ?_ _)); refine blk_far ?_ NB398_400.out _; (with_reducible repeat (first | refine blk_drewN ?_ _ | refine blk_drew ?_ | refine blk_alloc ?_ _)); exact BK398.out⟩, ⟨by (with_reducible repeat (first | refine blk_drewN ?_ _ | refine blk_drew ?_ | refine blk_alloc ?_ _)); refine blk_far ?_ NB399_400.out _; (with_reducible repeat (first | refine blk_drewN ?_ _ | refine blk_drew ?_ | refine blk_alloc ?_ _)); exact BK399.out⟩, ⟨by (with_reducible repeat (first | refine blk_drewN ?_ _ | refine blk_drew ?_ | refine blk_alloc ?_ _)); refine blk_put (cs := #[.int .i64 0, .int .i64 0, .int .u64 0, .int .u64 0, .bool a0_4, .bool a0_5, .bool a0_6, .bool a0_7, .bool a0_8, .bool a0_9, .bool true]) ?_ 0 _ rfl; (with_reducible repeat (first | refine blk_drewN ?_ _ | refine blk_drew ?_ | refine blk_alloc ?_ _)); exact BK400.out⟩, ⟨by repeat (first | (with_reducible first | exact HB.out | apply below_alloc | apply pw_below_drewN | apply below_drew1 | refine below_set ?_ GE398.out | refine below_set ?_ GE399.out | refine below_set ?_ GE400.out) | exact HB.out)⟩⟩
    ·rw [if_neg c19] at H
     have c19b0 : decide (a0_1 < 0) = false := decide_eq_false c19
     clear c19
     (first | rw [c19b0] | (simp only [i64_w, i32_w]; rw [c19b0]) | skip)
     have H' := Aside0.mk H
     clear H
     go_wp2
     go_meet
     case rel => exact ⟨_, (a0_1), (by first | rfl | (simp; done) | (simp [*]; done)), H', ⟨by have := HJ1.out; first | omega | exact Nat.le_refl _⟩, ⟨by (with_reducible repeat (first | refine blk_drewN ?_ _ | refine blk_drew ?_ | refine blk_alloc ?_ _)); refine blk_far ?_ NB398_400.out _; (with_reducible repeat (first | refine blk_drewN ?_ _ | refine blk_drew ?_ | refine blk_alloc ?_ _)); exact BK398.out⟩, ⟨by (with_reducible repeat (first | refine blk_drewN ?_ _ | refine blk_drew ?_ | refine blk_alloc ?_ _)); refine blk_far ?_ NB399_400.out _; (with_reducible repeat (first | refine blk_drewN ?_ _ | refine blk_drew ?_ | refine blk_alloc ?_ _)); exact BK399.out⟩, ⟨by (with_reducible repeat (first | refine blk_drewN ?_ _ | refine blk_drew ?_ | refine blk_alloc ?_ _)); refine blk_put (cs := #[.int .i64 0, .int .i64 0, .int .u64 0, .int .u64 0, .bool a0_4, .bool a0_5, .bool a0_6, .bool a0_7, .bool a0_8, .bool a0_9, .bool true]) ?_ 0 _ rfl; (with_reducible repeat (first | refine blk_drewN ?_ _ | refine blk_drew ?_ | refine blk_alloc ?_ _)); exact BK400.out⟩, ⟨by repeat (first | (with_reducible first | exact HB.out | apply below_alloc | apply pw_below_drewN | apply below_drew1 | refine below_set ?_ GE398.out | refine below_set ?_ GE399.out | refine below_set ?_ GE400.out) | exact HB.out)⟩⟩
   case rest =>
    clear HC13
    try clear c1
    try clear p2
    try clear c5
    try clear p6
    try clear c8
    try clear c9
    try clear c12
    try clear c12b0
    try clear c14
    try clear c15
    try clear c17
    try clear c19
    try clear c19b0
    try clear hcz10_0
    try clear hcz10_1
    try clear hcz10_10
    try clear hcz10_2
    try clear hcz10_3
    try clear hcz10_4
    try clear hcz10_5
    try clear hcz10_6
    try clear hcz10_7
    try clear hcz10_8
    try clear hcz10_9
    try clear hcz11_0
    try clear hcz11_1
    try clear hcz11_10
    try clear hcz11_2
    try clear hcz11_3
    try clear hcz11_4
    try clear hcz11_5
    try clear hcz11_6
    try clear hcz11_7
    try clear hcz11_8
    try clear hcz11_9
    try clear hcz16_0
    try clear hcz16_1
    try clear hcz16_10
    try clear hcz16_2
    try clear hcz16_3
    try clear hcz16_4
    try clear hcz16_5
    try clear hcz16_6
    try clear hcz16_7
    try clear hcz16_8
    try clear hcz16_9
    try clear hcz18_0
    try clear hcz18_1
    try clear hcz18_10
    try clear hcz18_2
    try clear hcz18_3
    try clear hcz18_4
    try clear hcz18_5
    try clear hcz18_6
    try clear hcz18_7
    try clear hcz18_8
    try clear hcz18_9
    try clear hcz6_0
    try clear hcz6_1
    try clear hcz6_10
    try clear hcz6_2
    try clear hcz6_3
    try clear hcz6_4
    try clear hcz6_5
    try clear hcz6_6
    try clear hcz6_7
    try clear hcz6_8
    try clear hcz6_9
    try clear hfz10_0
    try clear hfz10_1
    try clear hfz10_10
    try clear hfz10_2
    try clear hfz10_3
    try clear hfz10_4
    try clear hfz10_5
    try clear hfz10_6
    try clear hfz10_7
    try clear hfz10_8
    try clear hfz10_9
    try clear hfz11_0
    try clear hfz11_1
    try clear hfz11_10
    try clear hfz11_2
    try clear hfz11_3
    try clear hfz11_4
    try clear hfz11_5
    try clear hfz11_6
    try clear hfz11_7
    try clear hfz11_8
    try clear hfz11_9
    try clear hfz16_0
    try clear hfz16_1
    try clear hfz16_10
    try clear hfz16_2
    try clear hfz16_3
    try clear hfz16_4
    try clear hfz16_5
    try clear hfz16_6
    try clear hfz16_7
    try clear hfz16_8
    try clear hfz16_9
    try clear hfz18_0
    try clear hfz18_1
    try clear hfz18_10
    try clear hfz18_2
    try clear hfz18_3
    try clear hfz18_4
    try clear hfz18_5
    try clear hfz18_6
    try clear hfz18_7
    try clear hfz18_8
    try clear hfz18_9
    try clear hfz6_0
    try clear hfz6_1
    try clear hfz6_10
    try clear hfz6_2
    try clear hfz6_3
    try clear hfz6_4
    try clear hfz6_5
    try clear hfz6_6
    try clear hfz6_7
    try clear hfz6_8
    try clear hfz6_9
    try clear p2
    try clear p6
    obtain ⟨kq, x5_12, rfl, HA, HJ12, BK398, BK399, BK400, HB⟩ := hcut
    cases kq with
    | zero => exact absurd HA.out (by simp [lookasideref03_Good.j1])
    | succ kj12 =>
     have H := HA.out
     clear HA
     simp only [lookasideref03_Good.j1] at H
     by_cases c20 : a0_8 = true
     ·subst c20
      have H1 : ((lookasideref02_Va.f kj12 a0_2).bind fun t401 => ((lookasideref02_Base.f t401 (Int.tmod x4_1 4)).bind fun t402 => ((lookasideref02_Base.f (Int.tmod a0_3 2199023255552) (Int.tmod x4_1 4)).bind fun t403 => (some ((Int.tmod x4_1 4), 0, t402, t403, a0_4, a0_5, a0_6, a0_7, true, a0_9, true))))) = some (r1, r2, r3, r4, r5, r6, r7, r8, r9, r10, r11) := by rw [if_pos rfl] at H; exact H
      clear H
      have H := H1
      clear H1
      replace H := Option.bind_eq_some_iff.mp H
      obtain ⟨t401, A210, H⟩ := H
      replace H : ((lookasideref02_Base.f t401 (Int.tmod x4_1 4)).bind fun t402 => ((lookasideref02_Base.f (Int.tmod a0_3 2199023255552) (Int.tmod x4_1 4)).bind fun t403 => (some ((Int.tmod x4_1 4), 0, t402, t403, a0_4, a0_5, a0_6, a0_7, true, a0_9, true)))) = some (r1, r2, r3, r4, r5, r6, r7, r8, r9, r10, r11) := H
      have A21 := Aside0.mk A210
      clear A210
      replace H := Option.bind_eq_some_iff.mp H
      obtain ⟨t402, A220, H⟩ := H
      replace H : ((lookasideref02_Base.f (Int.tmod a0_3 2199023255552) (Int.tmod x4_1 4)).bind fun t403 => (some ((Int.tmod x4_1 4), 0, t402, t403, a0_4, a0_5, a0_6, a0_7, true, a0_9, true))) = some (r1, r2, r3, r4, r5, r6, r7, r8, r9, r10, r11) := H
      have A22 := Aside0.mk A220
      clear A220
      replace H := Option.bind_eq_some_iff.mp H
      obtain ⟨t403, A230, H⟩ := H
      replace H : (some ((Int.tmod x4_1 4), 0, t402, t403, a0_4, a0_5, a0_6, a0_7, true, a0_9, true)) = some (r1, r2, r3, r4, r5, r6, r7, r8, r9, r10, r11) := H
      have A23 := Aside0.mk A230
      clear A230
      simp only [Option.some.injEq, Prod.mk.injEq] at H
      obtain ⟨rfl, rfl, rfl, rfl, rfl, rfl, rfl, rfl, rfl, rfl, rfl⟩ := H
      have hnb24 := NB400_398.out
      have hnc24 := NB398_400.out
      have hnb25 := NB400_399.out
      have hnc25 := NB399_400.out
      obtain ⟨hcz26_0, hcz26_1, hcz26_2, hcz26_3, hcz26_4, hcz26_5, hcz26_6, hcz26_7, hcz26_8, hcz26_9, hcz26_10⟩ := cy11_22 BK400.out
      have hfz26_0 := blk_frozen BK400.out 0
      have hfz26_1 := blk_frozen BK400.out 1
      have hfz26_2 := blk_frozen BK400.out 2
      have hfz26_3 := blk_frozen BK400.out 3
      have hfz26_4 := blk_frozen BK400.out 4
      have hfz26_5 := blk_frozen BK400.out 5
      have hfz26_6 := blk_frozen BK400.out 6
      have hfz26_7 := blk_frozen BK400.out 7
      have hfz26_8 := blk_frozen BK400.out 8
      have hfz26_9 := blk_frozen BK400.out 9
      have hfz26_10 := blk_frozen BK400.out 10
      try go_wp2
      have n0_ : Aside0 (((wc.setCell ⟨gb400, 1, none⟩ (.int .i64 (Int.tmod x5_12 8192))).setCell ⟨gb400, 1, none⟩ (.int .i64 0)).heap[gb398]? = some (.cells #[.int .i64 a0_0, .int .i64 a0_1, .int .u64 a0_2, .int .u64 a0_3, .bool a0_4, .bool a0_5, .bool a0_6, .bool a0_7, .bool true, .bool a0_9, .bool a0_10] 50 (0, 0))) := ⟨by (with_reducible repeat (first | refine blk_drewN ?_ _ | refine blk_drew ?_ | refine blk_alloc ?_ _)); refine blk_far ?_ NB398_400.out _; refine blk_far ?_ NB398_400.out _; (with_reducible repeat (first | refine blk_drewN ?_ _ | refine blk_drew ?_ | refine blk_alloc ?_ _)); exact BK398.out⟩
      have n1_ : Aside0 (((wc.setCell ⟨gb400, 1, none⟩ (.int .i64 (Int.tmod x5_12 8192))).setCell ⟨gb400, 1, none⟩ (.int .i64 0)).heap[gb399]? = some (.cells #[.int .i64 0, .int .i64 0, .int .u64 0, .int .u64 0, .bool false, .bool false, .bool false, .bool false, .bool false, .bool false, .bool false] 50 (0, 0))) := ⟨by (with_reducible repeat (first | refine blk_drewN ?_ _ | refine blk_drew ?_ | refine blk_alloc ?_ _)); refine blk_far ?_ NB399_400.out _; refine blk_far ?_ NB399_400.out _; (with_reducible repeat (first | refine blk_drewN ?_ _ | refine blk_drew ?_ | refine blk_alloc ?_ _)); exact BK399.out⟩
      have n2_ : Aside0 (((wc.setCell ⟨gb400, 1, none⟩ (.int .i64 (Int.tmod x5_12 8192))).setCell ⟨gb400, 1, none⟩ (.int .i64 0)).heap[gb400]? = some (.cells #[.int .i64 (Int.tmod x4_1 4), .int .i64 0, .int .u64 0, .int .u64 0, .bool a0_4, .bool a0_5, .bool a0_6, .bool a0_7, .bool true, .bool a0_9, .bool true] 50 (0, 0))) := ⟨by (with_reducible repeat (first | refine blk_drewN ?_ _ | refine blk_drew ?_ | refine blk_alloc ?_ _)); refine blk_put (cs := #[.int .i64 (Int.tmod x4_1 4), .int .i64 (Int.tmod x5_12 8192), .int .u64 0, .int .u64 0, .bool a0_4, .bool a0_5, .bool a0_6, .bool a0_7, .bool true, .bool a0_9, .bool true]) ?_ 1 _ rfl; refine blk_put (cs := #[.int .i64 (Int.tmod x4_1 4), .int .i64 0, .int .u64 0, .int .u64 0, .bool a0_4, .bool a0_5, .bool a0_6, .bool a0_7, .bool true, .bool a0_9, .bool true]) ?_ 1 _ rfl; (with_reducible repeat (first | refine blk_drewN ?_ _ | refine blk_drew ?_ | refine blk_alloc ?_ _)); exact BK400.out⟩
      have n3_ : Aside0 (Below w.heap.size w ((wc.setCell ⟨gb400, 1, none⟩ (.int .i64 (Int.tmod x5_12 8192))).setCell ⟨gb400, 1, none⟩ (.int .i64 0))) := ⟨by repeat (first | (with_reducible first | exact HB.out | apply below_alloc | apply pw_below_drewN | apply below_drew1 | refine below_set ?_ GE398.out | refine below_set ?_ GE399.out | refine below_set ?_ GE400.out) | exact HB.out)⟩
      (try clear BK398)
      (try clear BK399)
      (try clear BK400)
      (try clear HB)
      generalize ((wc.setCell ⟨gb400, 1, none⟩ (.int .i64 (Int.tmod x5_12 8192))).setCell ⟨gb400, 1, none⟩ (.int .i64 0)) = w27 at n0_ n1_ n2_ n3_ ⊢
      have BK398 := n0_
      have BK399 := n1_
      have BK400 := n2_
      have HB := n3_
      clear n0_ n1_ n2_ n3_
      have n0_ := Aside0.mk (blk_drew BK398.out)
      have n1_ := Aside0.mk (blk_drew BK399.out)
      have n2_ := Aside0.mk (blk_drew BK400.out)
      have n3_ := Aside0.mk (below_drew1 HB.out)
      clear BK398
      clear BK399
      clear BK400
      clear HB
      have BK398 := n0_
      have BK399 := n1_
      have BK400 := n2_
      have HB := n3_
      clear n0_ n1_ n2_ n3_
      refine start_ (n := 8) (S := fun w' => w'.cell? ⟨gb398, 0, none⟩ = some (.int .i64 a0_0) ∧ w'.cell? ⟨gb398, 1, none⟩ = some (.int .i64 a0_1) ∧ w'.cell? ⟨gb398, 2, none⟩ = some (.int .u64 a0_2) ∧ w'.cell? ⟨gb398, 3, none⟩ = some (.int .u64 a0_3) ∧ w'.cell? ⟨gb398, 4, none⟩ = some (.bool a0_4) ∧ w'.cell? ⟨gb398, 5, none⟩ = some (.bool a0_5) ∧ w'.cell? ⟨gb398, 6, none⟩ = some (.bool a0_6) ∧ w'.cell? ⟨gb398, 7, none⟩ = some (.bool a0_7) ∧ w'.cell? ⟨gb398, 8, none⟩ = some (.bool true) ∧ w'.cell? ⟨gb398, 9, none⟩ = some (.bool a0_9) ∧ w'.cell? ⟨gb398, 10, none⟩ = some (.bool a0_10) ∧ w'.cell? ⟨gb400, 0, none⟩ = some (.int .i64 (Int.tmod x4_1 4)) ∧ w'.cell? ⟨gb400, 1, none⟩ = some (.int .i64 0) ∧ w'.cell? ⟨gb400, 2, none⟩ = some (.int .u64 0) ∧ w'.cell? ⟨gb400, 3, none⟩ = some (.int .u64 0) ∧ w'.cell? ⟨gb400, 4, none⟩ = some (.bool a0_4) ∧ w'.cell? ⟨gb400, 5, none⟩ = some (.bool a0_5) ∧ w'.cell? ⟨gb400, 6, none⟩ = some (.bool a0_6) ∧ w'.cell? ⟨gb400, 7, none⟩ = some (.bool a0_7) ∧ w'.cell? ⟨gb400, 8, none⟩ = some (.bool true) ∧ w'.cell? ⟨gb400, 9, none⟩ = some (.bool a0_9) ∧ w'.cell? ⟨gb400, 10, none⟩ = some (.bool true)) (ds := [7]) #[false, false, false, false, false, false, false, false] (by kernel_rfl) rfl rfl (ca11_22 BK398.out (cz11_22 BK400.out)) (fun hHeld => ?_); refine with_tabW lookasideref03_Good.tab12 lookasideref03_Good.bits12 (fun HT_ HW_ => ?_)
      generalize w27.drew = w28 at BK398 BK399 BK400 HB hHeld ⊢
      refine pure_ (i := 0) (N := some 33) (v := ?_) (a' := ?_) #[true, false, false, false, false, false, false, false] rfl rfl (any_of HT_.out (by kernel_rfl)) (fun _ _ _ h => h) (Or.inl ⟨by rfl, ?_⟩) ?_ ?_
      rotate_left
      ·intro w'
       go_simp
       with_reducible rfl
      rotate_left
      ·simp only [ap_]
       rfl
      refine pure_ (i := 3) (N := some 36) (v := ?_) (a' := ?_) #[true, false, false, true, false, false, false, false] rfl rfl (any_of HT_.out (by kernel_rfl)) (fun _ _ _ h => h) (Or.inl ⟨by rfl, ?_⟩) ?_ ?_
      rotate_left
      ·intro w'
       go_simp
       with_reducible rfl
      rotate_left
      ·simp only [ap_]
       rfl
      refine take_ (i := 1) (N := some 34) (v := ?_) (a' := ?_) #[true, true, false, true, false, false, false, false] rfl rfl (take_ofW HT_.out HW_.out (by kernel_rfl)) (fun _ _ _ h => h) (Or.inl ⟨by rfl, ?_⟩) hHeld ?_ ?_
      rotate_left
      ·rintro w' ⟨s0, s1, s2, s3, s4, s5, s6, s7, s8, s9, s10, s11, s12, s13, s14, s15, s16, s17, s18, s19, s20, s21⟩
       go_simp
       with_reducible rfl
      rotate_left
      ·simp only [ap_]
       rfl
      refine take_ (i := 4) (N := some 37) (v := ?_) (a' := ?_) #[true, true, false, true, true, false, false, false] rfl rfl (take_ofW HT_.out HW_.out (by kernel_rfl)) (fun _ _ _ h => h) (Or.inl ⟨by rfl, ?_⟩) hHeld ?_ ?_
      rotate_left
      ·rintro w' ⟨s0, s1, s2, s3, s4, s5, s6, s7, s8, s9, s10, s11, s12, s13, s14, s15, s16, s17, s18, s19, s20, s21⟩
       go_simp
       with_reducible rfl
      rotate_left
      ·simp only [ap_]
       rfl
      refine one_ (i := 2) (N := some 35) #[true, true, true, true, true, false, false, false] rfl rfl (one_of HT_.out (by kernel_rfl)) (by decide) (fun K hK => ?_)
      refine goes_ Try.func87 (by kernel_rfl) rfl #[.int .u64 a0_2] (by rfl) rfl rfl (by (try simp only [List.map_toArray, List.map_cons, List.map_nil]); first | done | rfl | (simp only [List.length_drop, List.length_take]; rfl)) ?_
      with_reducible refine (lookasideref02_Va.calls kj12 a0_2 t401 _ A21.out).mono ?_
      rintro e w' ⟨rfl, ⟨nd, rfl⟩⟩
      refine ⟨_, rfl, ?_⟩
      refine hK.out _ _ (ca11_22 BK398.out (cz11_22 BK400.out)) (fun hHeld => ?_)
      clear hK K
      refine norm_ (a' := ?_) ?_ ?_
      rotate_left
      ·show Act.put _ (some 35) _ = _
       simp only [ap_]
       rfl
      refine one_ (i := 5) (N := some 38) #[true, true, true, true, true, true, false, false] rfl rfl (one_of HT_.out (by kernel_rfl)) (by decide) (fun K hK => ?_)
      refine goes_ Try.func62 (by kernel_rfl) rfl #[.int .u64 t401, .int .i64 (Int.tmod x4_1 4)] (by rfl) rfl rfl (by (try simp only [List.map_toArray, List.map_cons, List.map_nil]); first | done | rfl | (simp only [List.length_drop, List.length_take]; rfl)) ?_
      with_reducible refine (lookasideref02_Base.calls t401 (Int.tmod x4_1 4) t402 _ A22.out).mono ?_
      rintro e w' ⟨rfl, ⟨nd, rfl⟩⟩
      refine ⟨_, rfl, ?_⟩
      refine hK.out _ _ (ca11_22 BK398.out (cz11_22 BK400.out)) (fun hHeld => ?_)
      clear hK K
      refine norm_ (a' := ?_) ?_ ?_
      rotate_left
      ·show Act.put _ (some 38) _ = _
       simp only [ap_]
       rfl
      refine pure_ (i := 6) (N := some 39) (v := ?_) (a' := ?_) #[true, true, true, true, true, true, true, false] rfl rfl (any_of HT_.out (by kernel_rfl)) (fun _ _ _ h => h) (Or.inl ⟨by rfl, ?_⟩) ?_ ?_
      rotate_left
      ·intro w'
       go_simp
       with_reducible rfl
      rotate_left
      ·simp only [ap_]
       rfl
      refine last_ (i := 7) (N := none) #[true, true, true, true, true, true, true, true] rfl rfl (one_of HT_.out (by kernel_rfl)) (by decide) (fun K hK => ?_)
      have hs29 : w28.cell? ⟨gb400, 2, none⟩ = some (.int .u64 0) := (blk_cell BK400.out 2).trans rfl
      have hfs29 := blk_frozen BK400.out 2
      have hns29_0 := NB398_400.out
      have hns29_1 := NB399_400.out
      have hms29_0 := NB400_398.out
      have hms29_1 := NB400_399.out
      refine skip_ (w1 := ?_) (by rfl) rfl ?_ ?_
      rotate_left
      ·go_simp
       rfl
      refine hK.out _ _ ?_
      clear hK K
      refine done_ (done_of HT_.out (by kernel_rfl)) ?_
      have hnb30 := NB398_399.out
      have hnc30 := NB399_398.out
      obtain ⟨hcz31_0, hcz31_1, hcz31_2, hcz31_3, hcz31_4, hcz31_5, hcz31_6, hcz31_7, hcz31_8, hcz31_9, hcz31_10⟩ := cy11_22 BK398.out
      have hfz31_0 := blk_frozen BK398.out 0
      have hfz31_1 := blk_frozen BK398.out 1
      have hfz31_2 := blk_frozen BK398.out 2
      have hfz31_3 := blk_frozen BK398.out 3
      have hfz31_4 := blk_frozen BK398.out 4
      have hfz31_5 := blk_frozen BK398.out 5
      have hfz31_6 := blk_frozen BK398.out 6
      have hfz31_7 := blk_frozen BK398.out 7
      have hfz31_8 := blk_frozen BK398.out 8
      have hfz31_9 := blk_frozen BK398.out 9
      have hfz31_10 := blk_frozen BK398.out 10
      obtain ⟨hcz32_0, hcz32_1, hcz32_2, hcz32_3, hcz32_4, hcz32_5, hcz32_6, hcz32_7, hcz32_8, hcz32_9, hcz32_10⟩ := cy11_22 BK400.out
      have hfz32_0 := blk_frozen BK400.out 0
      have hfz32_1 := blk_frozen BK400.out 1
      have hfz32_2 := blk_frozen BK400.out 2
      have hfz32_3 := blk_frozen BK400.out 3
      have hfz32_4 := blk_frozen BK400.out 4
      have hfz32_5 := blk_frozen BK400.out 5
      have hfz32_6 := blk_frozen BK400.out 6
      have hfz32_7 := blk_frozen BK400.out 7
      have hfz32_8 := blk_frozen BK400.out 8
      have hfz32_9 := blk_frozen BK400.out 9
      have hfz32_10 := blk_frozen BK400.out 10
      try go_wp2_with (((with_reducible refine gate_callee (f := 62) rfl ?_); refine goesL_ (some 45) rfl rfl Try.func62 (by kernel_rfl) rfl #[.int .u64 (Int.tmod a0_3 2199023255552), .int .i64 (Int.tmod x4_1 4)] rfl (by (try simp only [List.map_toArray, List.map_cons, List.map_nil]); first | done | rfl | (simp only [List.length_drop, List.length_take]; rfl)) ?_; (with_reducible refine (lookasideref02_Base.calls (Int.tmod a0_3 2199023255552) (Int.tmod x4_1 4) t403 _ A23.out).mono ?_); rintro e w' ⟨rfl, ⟨nd, rfl⟩⟩; refine ⟨_, rfl, ?_⟩; obtain ⟨hcz33_0, hcz33_1, hcz33_2, hcz33_3, hcz33_4, hcz33_5, hcz33_6, hcz33_7, hcz33_8, hcz33_9, hcz33_10⟩ := cy11_22 BK399.out; have hfz33_0 := blk_frozen BK399.out 0; have hfz33_1 := blk_frozen BK399.out 1; have hfz33_2 := blk_frozen BK399.out 2; have hfz33_3 := blk_frozen BK399.out 3; have hfz33_4 := blk_frozen BK399.out 4; have hfz33_5 := blk_frozen BK399.out 5; have hfz33_6 := blk_frozen BK399.out 6; have hfz33_7 := blk_frozen BK399.out 7; have hfz33_8 := blk_frozen BK399.out 8; have hfz33_9 := blk_frozen BK399.out 9; have hfz33_10 := blk_frozen BK399.out 10))
      refine bodyPost_ret (results_cell_row rfl _ _ gb399 50 #[.int .i64 (Int.tmod x4_1 4), .int .i64 0, .int .u64 t402, .int .u64 t403, .bool a0_4, .bool a0_5, .bool a0_6, .bool a0_7, .bool true, .bool a0_9, .bool true] (0, 0) _ rfl (by (with_reducible repeat (first | refine blk_drewN ?_ _ | refine blk_drew ?_ | refine blk_alloc ?_ _)); refine blk_put (cs := #[.int .i64 (Int.tmod x4_1 4), .int .i64 0, .int .u64 t402, .int .u64 t403, .bool a0_4, .bool a0_5, .bool a0_6, .bool a0_7, .bool true, .bool a0_9, .bool false]) ?_ 10 _ rfl; refine blk_put (cs := #[.int .i64 (Int.tmod x4_1 4), .int .i64 0, .int .u64 t402, .int .u64 t403, .bool a0_4, .bool a0_5, .bool a0_6, .bool a0_7, .bool true, .bool false, .bool false]) ?_ 9 _ rfl; refine blk_put (cs := #[.int .i64 (Int.tmod x4_1 4), .int .i64 0, .int .u64 t402, .int .u64 t403, .bool a0_4, .bool a0_5, .bool a0_6, .bool a0_7, .bool false, .bool false, .bool false]) ?_ 8 _ rfl; refine blk_put (cs := #[.int .i64 (Int.tmod x4_1 4), .int .i64 0, .int .u64 t402, .int .u64 t403, .bool a0_4, .bool a0_5, .bool a0_6, .bool false, .bool false, .bool false, .bool false]) ?_ 7 _ rfl; refine blk_put (cs := #[.int .i64 (Int.tmod x4_1 4), .int .i64 0, .int .u64 t402, .int .u64 t403, .bool a0_4, .bool a0_5, .bool false, .bool false, .bool false, .bool false, .bool false]) ?_ 6 _ rfl; refine blk_put (cs := #[.int .i64 (Int.tmod x4_1 4), .int .i64 0, .int .u64 t402, .int .u64 t403, .bool a0_4, .bool false, .bool false, .bool false, .bool false, .bool false, .bool false]) ?_ 5 _ rfl; refine blk_put (cs := #[.int .i64 (Int.tmod x4_1 4), .int .i64 0, .int .u64 t402, .int .u64 t403, .bool false, .bool false, .bool false, .bool false, .bool false, .bool false, .bool false]) ?_ 4 _ rfl; refine blk_put (cs := #[.int .i64 (Int.tmod x4_1 4), .int .i64 0, .int .u64 t402, .int .u64 0, .bool false, .bool false, .bool false, .bool false, .bool false, .bool false, .bool false]) ?_ 3 _ rfl; refine blk_put (cs := #[.int .i64 (Int.tmod x4_1 4), .int .i64 0, .int .u64 0, .int .u64 0, .bool false, .bool false, .bool false, .bool false, .bool false, .bool false, .bool false]) ?_ 2 _ rfl; refine blk_put (cs := #[.int .i64 (Int.tmod x4_1 4), .int .i64 0, .int .u64 0, .int .u64 0, .bool false, .bool false, .bool false, .bool false, .bool false, .bool false, .bool false]) ?_ 1 _ rfl; refine blk_put (cs := #[.int .i64 0, .int .i64 0, .int .u64 0, .int .u64 0, .bool false, .bool false, .bool false, .bool false, .bool false, .bool false, .bool false]) ?_ 0 _ rfl; refine blk_far ?_ NB399_400.out _; refine blk_far ?_ NB399_400.out _; (with_reducible repeat (first | refine blk_drewN ?_ _ | refine blk_drew ?_ | refine blk_alloc ?_ _)); exact BK399.out) Try.underlying50 rfl (by kernel_rfl)) rfl ?_
      exact ⟨by first | rfl | (simp [errW_none, errW_some] <;> rfl) | (simp [*, errW_none, errW_some] <;> rfl), by repeat (first | (with_reducible first | exact HB.out | apply below_alloc | apply pw_below_drewN | apply below_drew1 | refine below_set ?_ GE398.out | refine below_set ?_ GE399.out | refine below_set ?_ GE400.out) | exact HB.out)⟩
     ·replace c20 := Bool.eq_false_iff.mpr c20
      subst c20
      have H1 : ((lookasideref02_Va.f kj12 a0_2).bind fun t404 => ((lookasideref02_Base.f t404 (Int.tmod x4_1 4)).bind fun t405 => ((lookasideref02_Base.f (Int.tmod a0_3 2199023255552) (Int.tmod x4_1 4)).bind fun t406 => (some ((Int.tmod x4_1 4), Int.tmod x5_12 8192, t405, t406, a0_4, a0_5, a0_6, a0_7, false, a0_9, true))))) = some (r1, r2, r3, r4, r5, r6, r7, r8, r9, r10, r11) := by rw [if_neg (show ¬ (false = true) by decide)] at H; exact H
      clear H
      have H := H1
      clear H1
      replace H := Option.bind_eq_some_iff.mp H
      obtain ⟨t404, A340, H⟩ := H
      replace H : ((lookasideref02_Base.f t404 (Int.tmod x4_1 4)).bind fun t405 => ((lookasideref02_Base.f (Int.tmod a0_3 2199023255552) (Int.tmod x4_1 4)).bind fun t406 => (some ((Int.tmod x4_1 4), Int.tmod x5_12 8192, t405, t406, a0_4, a0_5, a0_6, a0_7, false, a0_9, true)))) = some (r1, r2, r3, r4, r5, r6, r7, r8, r9, r10, r11) := H
      have A34 := Aside0.mk A340
      clear A340
      replace H := Option.bind_eq_some_iff.mp H
      obtain ⟨t405, A350, H⟩ := H
      replace H : ((lookasideref02_Base.f (Int.tmod a0_3 2199023255552) (Int.tmod x4_1 4)).bind fun t406 => (some ((Int.tmod x4_1 4), Int.tmod x5_12 8192, t405, t406, a0_4, a0_5, a0_6, a0_7, false, a0_9, true))) = some (r1, r2, r3, r4, r5, r6, r7, r8, r9, r10, r11) := H
      have A35 := Aside0.mk A350
      clear A350
      replace H := Option.bind_eq_some_iff.mp H
      obtain ⟨t406, A360, H⟩ := H
      replace H : (some ((Int.tmod x4_1 4), Int.tmod x5_12 8192, t405, t406, a0_4, a0_5, a0_6, a0_7, false, a0_9, true)) = some (r1, r2, r3, r4, r5, r6, r7, r8, r9, r10, r11) := H
      have A36 := Aside0.mk A360
      clear A360
      simp only [Option.some.injEq, Prod.mk.injEq] at H
      obtain ⟨rfl, rfl, rfl, rfl, rfl, rfl, rfl, rfl, rfl, rfl, rfl⟩ := H
      have hnb37 := NB400_398.out
      have hnc37 := NB398_400.out
      have hnb38 := NB400_399.out
      have hnc38 := NB399_400.out
      obtain ⟨hcz39_0, hcz39_1, hcz39_2, hcz39_3, hcz39_4, hcz39_5, hcz39_6, hcz39_7, hcz39_8, hcz39_9, hcz39_10⟩ := cy11_22 BK400.out
      have hfz39_0 := blk_frozen BK400.out 0
      have hfz39_1 := blk_frozen BK400.out 1
      have hfz39_2 := blk_frozen BK400.out 2
      have hfz39_3 := blk_frozen BK400.out 3
      have hfz39_4 := blk_frozen BK400.out 4
      have hfz39_5 := blk_frozen BK400.out 5
      have hfz39_6 := blk_frozen BK400.out 6
      have hfz39_7 := blk_frozen BK400.out 7
      have hfz39_8 := blk_frozen BK400.out 8
      have hfz39_9 := blk_frozen BK400.out 9
      have hfz39_10 := blk_frozen BK400.out 10
      try go_wp2
      have n0_ : Aside0 ((wc.setCell ⟨gb400, 1, none⟩ (.int .i64 (Int.tmod x5_12 8192))).heap[gb398]? = some (.cells #[.int .i64 a0_0, .int .i64 a0_1, .int .u64 a0_2, .int .u64 a0_3, .bool a0_4, .bool a0_5, .bool a0_6, .bool a0_7, .bool false, .bool a0_9, .bool a0_10] 50 (0, 0))) := ⟨by (with_reducible repeat (first | refine blk_drewN ?_ _ | refine blk_drew ?_ | refine blk_alloc ?_ _)); refine blk_far ?_ NB398_400.out _; (with_reducible repeat (first | refine blk_drewN ?_ _ | refine blk_drew ?_ | refine blk_alloc ?_ _)); exact BK398.out⟩
      have n1_ : Aside0 ((wc.setCell ⟨gb400, 1, none⟩ (.int .i64 (Int.tmod x5_12 8192))).heap[gb399]? = some (.cells #[.int .i64 0, .int .i64 0, .int .u64 0, .int .u64 0, .bool false, .bool false, .bool false, .bool false, .bool false, .bool false, .bool false] 50 (0, 0))) := ⟨by (with_reducible repeat (first | refine blk_drewN ?_ _ | refine blk_drew ?_ | refine blk_alloc ?_ _)); refine blk_far ?_ NB399_400.out _; (with_reducible repeat (first | refine blk_drewN ?_ _ | refine blk_drew ?_ | refine blk_alloc ?_ _)); exact BK399.out⟩
      have n2_ : Aside0 ((wc.setCell ⟨gb400, 1, none⟩ (.int .i64 (Int.tmod x5_12 8192))).heap[gb400]? = some (.cells #[.int .i64 (Int.tmod x4_1 4), .int .i64 (Int.tmod x5_12 8192), .int .u64 0, .int .u64 0, .bool a0_4, .bool a0_5, .bool a0_6, .bool a0_7, .bool false, .bool a0_9, .bool true] 50 (0, 0))) := ⟨by (with_reducible repeat (first | refine blk_drewN ?_ _ | refine blk_drew ?_ | refine blk_alloc ?_ _)); refine blk_put (cs := #[.int .i64 (Int.tmod x4_1 4), .int .i64 0, .int .u64 0, .int .u64 0, .bool a0_4, .bool a0_5, .bool a0_6, .bool a0_7, .bool false, .bool a0_9, .bool true]) ?_ 1 _ rfl; (with_reducible repeat (first | refine blk_drewN ?_ _ | refine blk_drew ?_ | refine blk_alloc ?_ _)); exact BK400.out⟩
      have n3_ : Aside0 (Below w.heap.size w (wc.setCell ⟨gb400, 1, none⟩ (.int .i64 (Int.tmod x5_12 8192)))) := ⟨by repeat (first | (with_reducible first | exact HB.out | apply below_alloc | apply pw_below_drewN | apply below_drew1 | refine below_set ?_ GE398.out | refine below_set ?_ GE399.out | refine below_set ?_ GE400.out) | exact HB.out)⟩
      (try clear BK398)
      (try clear BK399)
      (try clear BK400)
      (try clear HB)
      generalize (wc.setCell ⟨gb400, 1, none⟩ (.int .i64 (Int.tmod x5_12 8192))) = w40 at n0_ n1_ n2_ n3_ ⊢
      have BK398 := n0_
      have BK399 := n1_
      have BK400 := n2_
      have HB := n3_
      clear n0_ n1_ n2_ n3_
      have n0_ := Aside0.mk (blk_drew BK398.out)
      have n1_ := Aside0.mk (blk_drew BK399.out)
      have n2_ := Aside0.mk (blk_drew BK400.out)
      have n3_ := Aside0.mk (below_drew1 HB.out)
      clear BK398
      clear BK399
      clear BK400
      clear HB
      have BK398 := n0_
      have BK399 := n1_
      have BK400 := n2_
      have HB := n3_
      clear n0_ n1_ n2_ n3_
      refine start_ (n := 8) (S := fun w' => w'.cell? ⟨gb398, 0, none⟩ = some (.int .i64 a0_0) ∧ w'.cell? ⟨gb398, 1, none⟩ = some (.int .i64 a0_1) ∧ w'.cell? ⟨gb398, 2, none⟩ = some (.int .u64 a0_2) ∧ w'.cell? ⟨gb398, 3, none⟩ = some (.int .u64 a0_3) ∧ w'.cell? ⟨gb398, 4, none⟩ = some (.bool a0_4) ∧ w'.cell? ⟨gb398, 5, none⟩ = some (.bool a0_5) ∧ w'.cell? ⟨gb398, 6, none⟩ = some (.bool a0_6) ∧ w'.cell? ⟨gb398, 7, none⟩ = some (.bool a0_7) ∧ w'.cell? ⟨gb398, 8, none⟩ = some (.bool false) ∧ w'.cell? ⟨gb398, 9, none⟩ = some (.bool a0_9) ∧ w'.cell? ⟨gb398, 10, none⟩ = some (.bool a0_10) ∧ w'.cell? ⟨gb400, 0, none⟩ = some (.int .i64 (Int.tmod x4_1 4)) ∧ w'.cell? ⟨gb400, 1, none⟩ = some (.int .i64 (Int.tmod x5_12 8192)) ∧ w'.cell? ⟨gb400, 2, none⟩ = some (.int .u64 0) ∧ w'.cell? ⟨gb400, 3, none⟩ = some (.int .u64 0) ∧ w'.cell? ⟨gb400, 4, none⟩ = some (.bool a0_4) ∧ w'.cell? ⟨gb400, 5, none⟩ = some (.bool a0_5) ∧ w'.cell? ⟨gb400, 6, none⟩ = some (.bool a0_6) ∧ w'.cell? ⟨gb400, 7, none⟩ = some (.bool a0_7) ∧ w'.cell? ⟨gb400, 8, none⟩ = some (.bool false) ∧ w'.cell? ⟨gb400, 9, none⟩ = some (.bool a0_9) ∧ w'.cell? ⟨gb400, 10, none⟩ = some (.bool true)) (ds := [7]) #[false, false, false, false, false, false, false, false] (by kernel_rfl) rfl rfl (ca11_22 BK398.out (cz11_22 BK400.out)) (fun hHeld => ?_); refine with_tabW lookasideref03_Good.tab12 lookasideref03_Good.bits12 (fun HT_ HW_ => ?_)
      generalize w40.drew = w41 at BK398 BK399 BK400 HB hHeld ⊢
      refine pure_ (i := 0) (N := some 33) (v := ?_) (a' := ?_) #[true, false, false, false, false, false, false, false] rfl rfl (any_of HT_.out (by kernel_rfl)) (fun _ _ _ h => h) (Or.inl ⟨by rfl, ?_⟩) ?_ ?_
      rotate_left
      ·intro w'
       go_simp
       with_reducible rfl
      rotate_left
      ·simp only [ap_]
       rfl
      refine pure_ (i := 3) (N := some 36) (v := ?_) (a' := ?_) #[true, false, false, true, false, false, false, false] rfl rfl (any_of HT_.out (by kernel_rfl)) (fun _ _ _ h => h) (Or.inl ⟨by rfl, ?_⟩) ?_ ?_
      rotate_left
      ·intro w'
       go_simp
       with_reducible rfl
      rotate_left
      ·simp only [ap_]
       rfl
      refine take_ (i := 1) (N := some 34) (v := ?_) (a' := ?_) #[true, true, false, true, false, false, false, false] rfl rfl (take_ofW HT_.out HW_.out (by kernel_rfl)) (fun _ _ _ h => h) (Or.inl ⟨by rfl, ?_⟩) hHeld ?_ ?_
      rotate_left
      ·rintro w' ⟨s0, s1, s2, s3, s4, s5, s6, s7, s8, s9, s10, s11, s12, s13, s14, s15, s16, s17, s18, s19, s20, s21⟩
       go_simp
       with_reducible rfl
      rotate_left
      ·simp only [ap_]
       rfl
      refine take_ (i := 4) (N := some 37) (v := ?_) (a' := ?_) #[true, true, false, true, true, false, false, false] rfl rfl (take_ofW HT_.out HW_.out (by kernel_rfl)) (fun _ _ _ h => h) (Or.inl ⟨by rfl, ?_⟩) hHeld ?_ ?_
      rotate_left
      ·rintro w' ⟨s0, s1, s2, s3, s4, s5, s6, s7, s8, s9, s10, s11, s12, s13, s14, s15, s16, s17, s18, s19, s20, s21⟩
       go_simp
       with_reducible rfl
      rotate_left
      ·simp only [ap_]
       rfl
      refine one_ (i := 2) (N := some 35) #[true, true, true, true, true, false, false, false] rfl rfl (one_of HT_.out (by kernel_rfl)) (by decide) (fun K hK => ?_)
      refine goes_ Try.func87 (by kernel_rfl) rfl #[.int .u64 a0_2] (by rfl) rfl rfl (by (try simp only [List.map_toArray, List.map_cons, List.map_nil]); first | done | rfl | (simp only [List.length_drop, List.length_take]; rfl)) ?_
      with_reducible refine (lookasideref02_Va.calls kj12 a0_2 t404 _ A34.out).mono ?_
      rintro e w' ⟨rfl, ⟨nd, rfl⟩⟩
      refine ⟨_, rfl, ?_⟩
      refine hK.out _ _ (ca11_22 BK398.out (cz11_22 BK400.out)) (fun hHeld => ?_)
      clear hK K
      refine norm_ (a' := ?_) ?_ ?_
      rotate_left
      ·show Act.put _ (some 35) _ = _
       simp only [ap_]
       rfl
      refine one_ (i := 5) (N := some 38) #[true, true, true, true, true, true, false, false] rfl rfl (one_of HT_.out (by kernel_rfl)) (by decide) (fun K hK => ?_)
      refine goes_ Try.func62 (by kernel_rfl) rfl #[.int .u64 t404, .int .i64 (Int.tmod x4_1 4)] (by rfl) rfl rfl (by (try simp only [List.map_toArray, List.map_cons, List.map_nil]); first | done | rfl | (simp only [List.length_drop, List.length_take]; rfl)) ?_
      with_reducible refine (lookasideref02_Base.calls t404 (Int.tmod x4_1 4) t405 _ A35.out).mono ?_
      rintro e w' ⟨rfl, ⟨nd, rfl⟩⟩
      refine ⟨_, rfl, ?_⟩
      refine hK.out _ _ (ca11_22 BK398.out (cz11_22 BK400.out)) (fun hHeld => ?_)
      clear hK K
      refine norm_ (a' := ?_) ?_ ?_
      rotate_left
      ·show Act.put _ (some 38) _ = _
       simp only [ap_]
       rfl
      refine pure_ (i := 6) (N := some 39) (v := ?_) (a' := ?_) #[true, true, true, true, true, true, true, false] rfl rfl (any_of HT_.out (by kernel_rfl)) (fun _ _ _ h => h) (Or.inl ⟨by rfl, ?_⟩) ?_ ?_
      rotate_left
      ·intro w'
       go_simp
       with_reducible rfl
      rotate_left
      ·simp only [ap_]
       rfl
      refine last_ (i := 7) (N := none) #[true, true, true, true, true, true, true, true] rfl rfl (one_of HT_.out (by kernel_rfl)) (by decide) (fun K hK => ?_)
      have hs42 : w41.cell? ⟨gb400, 2, none⟩ = some (.int .u64 0) := (blk_cell BK400.out 2).trans rfl
      have hfs42 := blk_frozen BK400.out 2
      have hns42_0 := NB398_400.out
      have hns42_1 := NB399_400.out
      have hms42_0 := NB400_398.out
      have hms42_1 := NB400_399.out
      refine skip_ (w1 := ?_) (by rfl) rfl ?_ ?_
      rotate_left
      ·go_simp
       rfl
      refine hK.out _ _ ?_
      clear hK K
      refine done_ (done_of HT_.out (by kernel_rfl)) ?_
      have hnb43 := NB398_399.out
      have hnc43 := NB399_398.out
      obtain ⟨hcz44_0, hcz44_1, hcz44_2, hcz44_3, hcz44_4, hcz44_5, hcz44_6, hcz44_7, hcz44_8, hcz44_9, hcz44_10⟩ := cy11_22 BK398.out
      have hfz44_0 := blk_frozen BK398.out 0
      have hfz44_1 := blk_frozen BK398.out 1
      have hfz44_2 := blk_frozen BK398.out 2
      have hfz44_3 := blk_frozen BK398.out 3
      have hfz44_4 := blk_frozen BK398.out 4
      have hfz44_5 := blk_frozen BK398.out 5
      have hfz44_6 := blk_frozen BK398.out 6
      have hfz44_7 := blk_frozen BK398.out 7
      have hfz44_8 := blk_frozen BK398.out 8
      have hfz44_9 := blk_frozen BK398.out 9
      have hfz44_10 := blk_frozen BK398.out 10
      obtain ⟨hcz45_0, hcz45_1, hcz45_2, hcz45_3, hcz45_4, hcz45_5, hcz45_6, hcz45_7, hcz45_8, hcz45_9, hcz45_10⟩ := cy11_22 BK400.out
      have hfz45_0 := blk_frozen BK400.out 0
      have hfz45_1 := blk_frozen BK400.out 1
      have hfz45_2 := blk_frozen BK400.out 2
      have hfz45_3 := blk_frozen BK400.out 3
      have hfz45_4 := blk_frozen BK400.out 4
      have hfz45_5 := blk_frozen BK400.out 5
      have hfz45_6 := blk_frozen BK400.out 6
      have hfz45_7 := blk_frozen BK400.out 7
      have hfz45_8 := blk_frozen BK400.out 8
      have hfz45_9 := blk_frozen BK400.out 9
      have hfz45_10 := blk_frozen BK400.out 10
      try go_wp2_with (((with_reducible refine gate_callee (f := 62) rfl ?_); refine goesL_ (some 45) rfl rfl Try.func62 (by kernel_rfl) rfl #[.int .u64 (Int.tmod a0_3 2199023255552), .int .i64 (Int.tmod x4_1 4)] rfl (by (try simp only [List.map_toArray, List.map_cons, List.map_nil]); first | done | rfl | (simp only [List.length_drop, List.length_take]; rfl)) ?_; (with_reducible refine (lookasideref02_Base.calls (Int.tmod a0_3 2199023255552) (Int.tmod x4_1 4) t406 _ A36.out).mono ?_); rintro e w' ⟨rfl, ⟨nd, rfl⟩⟩; refine ⟨_, rfl, ?_⟩; obtain ⟨hcz46_0, hcz46_1, hcz46_2, hcz46_3, hcz46_4, hcz46_5, hcz46_6, hcz46_7, hcz46_8, hcz46_9, hcz46_10⟩ := cy11_22 BK399.out; have hfz46_0 := blk_frozen BK399.out 0; have hfz46_1 := blk_frozen BK399.out 1; have hfz46_2 := blk_frozen BK399.out 2; have hfz46_3 := blk_frozen BK399.out 3; have hfz46_4 := blk_frozen BK399.out 4; have hfz46_5 := blk_frozen BK399.out 5; have hfz46_6 := blk_frozen BK399.out 6; have hfz46_7 := blk_frozen BK399.out 7; have hfz46_8 := blk_frozen BK399.out 8; have hfz46_9 := blk_frozen BK399.out 9; have hfz46_10 := blk_frozen BK399.out 10))
      refine bodyPost_ret (results_cell_row rfl _ _ gb399 50 #[.int .i64 (Int.tmod x4_1 4), .int .i64 (Int.tmod x5_12 8192), .int .u64 t405, .int .u64 t406, .bool a0_4, .bool a0_5, .bool a0_6, .bool a0_7, .bool false, .bool a0_9, .bool true] (0, 0) _ rfl (by (with_reducible repeat (first | refine blk_drewN ?_ _ | refine blk_drew ?_ | refine blk_alloc ?_ _)); refine blk_put (cs := #[.int .i64 (Int.tmod x4_1 4), .int .i64 (Int.tmod x5_12 8192), .int .u64 t405, .int .u64 t406, .bool a0_4, .bool a0_5, .bool a0_6, .bool a0_7, .bool false, .bool a0_9, .bool false]) ?_ 10 _ rfl; refine blk_put (cs := #[.int .i64 (Int.tmod x4_1 4), .int .i64 (Int.tmod x5_12 8192), .int .u64 t405, .int .u64 t406, .bool a0_4, .bool a0_5, .bool a0_6, .bool a0_7, .bool false, .bool false, .bool false]) ?_ 9 _ rfl; refine blk_put (cs := #[.int .i64 (Int.tmod x4_1 4), .int .i64 (Int.tmod x5_12 8192), .int .u64 t405, .int .u64 t406, .bool a0_4, .bool a0_5, .bool a0_6, .bool a0_7, .bool false, .bool false, .bool false]) ?_ 8 _ rfl; refine blk_put (cs := #[.int .i64 (Int.tmod x4_1 4), .int .i64 (Int.tmod x5_12 8192), .int .u64 t405, .int .u64 t406, .bool a0_4, .bool a0_5, .bool a0_6, .bool false, .bool false, .bool false, .bool false]) ?_ 7 _ rfl; refine blk_put (cs := #[.int .i64 (Int.tmod x4_1 4), .int .i64 (Int.tmod x5_12 8192), .int .u64 t405, .int .u64 t406, .bool a0_4, .bool a0_5, .bool false, .bool false, .bool false, .bool false, .bool false]) ?_ 6 _ rfl; refine blk_put (cs := #[.int .i64 (Int.tmod x4_1 4), .int .i64 (Int.tmod x5_12 8192), .int .u64 t405, .int .u64 t406, .bool a0_4, .bool false, .bool false, .bool false, .bool false, .bool false, .bool false]) ?_ 5 _ rfl; refine blk_put (cs := #[.int .i64 (Int.tmod x4_1 4), .int .i64 (Int.tmod x5_12 8192), .int .u64 t405, .int .u64 t406, .bool false, .bool false, .bool false, .bool false, .bool false, .bool false, .bool false]) ?_ 4 _ rfl; refine blk_put (cs := #[.int .i64 (Int.tmod x4_1 4), .int .i64 (Int.tmod x5_12 8192), .int .u64 t405, .int .u64 0, .bool false, .bool false, .bool false, .bool false, .bool false, .bool false, .bool false]) ?_ 3 _ rfl; refine blk_put (cs := #[.int .i64 (Int.tmod x4_1 4), .int .i64 (Int.tmod x5_12 8192), .int .u64 0, .int .u64 0, .bool false, .bool false, .bool false, .bool false, .bool false, .bool false, .bool false]) ?_ 2 _ rfl; refine blk_put (cs := #[.int .i64 (Int.tmod x4_1 4), .int .i64 0, .int .u64 0, .int .u64 0, .bool false, .bool false, .bool false, .bool false, .bool false, .bool false, .bool false]) ?_ 1 _ rfl; refine blk_put (cs := #[.int .i64 0, .int .i64 0, .int .u64 0, .int .u64 0, .bool false, .bool false, .bool false, .bool false, .bool false, .bool false, .bool false]) ?_ 0 _ rfl; refine blk_far ?_ NB399_400.out _; refine blk_far ?_ NB399_400.out _; (with_reducible repeat (first | refine blk_drewN ?_ _ | refine blk_drew ?_ | refine blk_alloc ?_ _)); exact BK399.out) Try.underlying50 rfl (by kernel_rfl)) rfl ?_
      exact ⟨by first | rfl | (simp [errW_none, errW_some] <;> rfl) | (simp [*, errW_none, errW_some] <;> rfl), by repeat (first | (with_reducible first | exact HB.out | apply below_alloc | apply pw_below_drewN | apply below_drew1 | refine below_set ?_ GE398.out | refine below_set ?_ GE399.out | refine below_set ?_ GE400.out) | exact HB.out)⟩
/-! ### lookasidelaw10_Deed_entry: function 21 -/
def lookasidelaw10_Deed_entry.f (k : Nat) (a0_0 : Int) (a0_1 : Int) (a0_2 : Int) (a0_3 : Int) (a0_4 : Int) (a0_5 : Int) (a0_6 : Int) (a0_7 : Bool) (a0_8 : Bool) (a0_9 : Bool) (a0_10 : Bool) (a0_11 : Bool) (a0_12 : Bool) (a0_13 : Bool) (a0_14 : Bool) (a1 : Int) : Option (Int × Int × Int × Int × Bool × Bool × Bool × Bool × Bool × Bool × Bool) := if a0_14 = true then (some (a0_3, a0_4, a0_5, a0_6, a0_7, a0_8, a0_9, a0_10, a0_11, a0_12, a0_13)) else ((lookasideref03_Good.f k a1 a0_4 a0_5 a0_6 a0_7 a0_8 a0_9 a0_10 a0_11 a0_12 a0_13).bind fun bt410 => (some (bt410.1, bt410.2.1, bt410.2.2.1, bt410.2.2.2.1, bt410.2.2.2.2.1, bt410.2.2.2.2.2.1, bt410.2.2.2.2.2.2.1, bt410.2.2.2.2.2.2.2.1, bt410.2.2.2.2.2.2.2.2.1, bt410.2.2.2.2.2.2.2.2.2.1, bt410.2.2.2.2.2.2.2.2.2.2)))
set_option maxHeartbeats 8000000 in
set_option maxRecDepth 100000 in
theorem lookasidelaw10_Deed_entry.calls (k : Nat) (a0_0 : Int) (a0_1 : Int) (a0_2 : Int) (a0_3 : Int) (a0_4 : Int) (a0_5 : Int) (a0_6 : Int) (a0_7 : Bool) (a0_8 : Bool) (a0_9 : Bool) (a0_10 : Bool) (a0_11 : Bool) (a0_12 : Bool) (a0_13 : Bool) (a0_14 : Bool) (a1 : Int) (r1 : Int) (r2 : Int) (r3 : Int) (r4 : Int) (r5 : Bool) (r6 : Bool) (r7 : Bool) (r8 : Bool) (r9 : Bool) (r10 : Bool) (r11 : Bool) (w : World) (h : lookasidelaw10_Deed_entry.f k a0_0 a0_1 a0_2 a0_3 a0_4 a0_5 a0_6 a0_7 a0_8 a0_9 a0_10 a0_11 a0_12 a0_13 a0_14 a1 = some (r1, r2, r3, r4, r5, r6, r7, r8, r9, r10, r11)) :
  Calls Try.prog 21 #[.agg #[.int .i64 a0_0, .int .i64 a0_1, .int .u64 a0_2, .int .i64 a0_3, .int .i64 a0_4, .int .u64 a0_5, .int .u64 a0_6, .bool a0_7, .bool a0_8, .bool a0_9, .bool a0_10, .bool a0_11, .bool a0_12, .bool a0_13, .bool a0_14], .int .i64 a1] w fun e w' => e = .returned (.agg #[.int .i64 r1, .int .i64 r2, .int .u64 r3, .int .u64 r4, .bool r5, .bool r6, .bool r7, .bool r8, .bool r9, .bool r10, .bool r11]) ∧ Below w.heap.size w w' := by
 have hu52 := Try.underlying52
 have hu50 := Try.underlying50
 have HB := Aside0.mk (Below.refl w.heap.size w)
 have H : (if a0_14 = true then (some (a0_3, a0_4, a0_5, a0_6, a0_7, a0_8, a0_9, a0_10, a0_11, a0_12, a0_13)) else ((lookasideref03_Good.f k a1 a0_4 a0_5 a0_6 a0_7 a0_8 a0_9 a0_10 a0_11 a0_12 a0_13).bind fun bt410 => (some (bt410.1, bt410.2.1, bt410.2.2.1, bt410.2.2.2.1, bt410.2.2.2.2.1, bt410.2.2.2.2.2.1, bt410.2.2.2.2.2.2.1, bt410.2.2.2.2.2.2.2.1, bt410.2.2.2.2.2.2.2.2.1, bt410.2.2.2.2.2.2.2.2.2.1, bt410.2.2.2.2.2.2.2.2.2.2)))) = some (r1, r2, r3, r4, r5, r6, r7, r8, r9, r10, r11) := h
 clear h
 by_cases c3 : a0_14 = true
 ·subst c3
  have H1 : (some (a0_3, a0_4, a0_5, a0_6, a0_7, a0_8, a0_9, a0_10, a0_11, a0_12, a0_13)) = some (r1, r2, r3, r4, r5, r6, r7, r8, r9, r10, r11) := by rw [if_pos rfl] at H; exact H
  clear H
  have H := H1
  clear H1
  simp only [Option.some.injEq, Prod.mk.injEq] at H
  obtain ⟨rfl, rfl, rfl, rfl, rfl, rfl, rfl, rfl, rfl, rfl, rfl⟩ := H
  go_enter Try.func21, Try.ntmps21
  go_wp2_with (first | ((with_reducible refine gate_dst (N := 2) rfl ?_); refine box_event ?hg (N := 2) ?hd (cs := #[.int .i64 a0_0, .int .i64 a0_1, .int .u64 a0_2, .int .i64 a0_3, .int .i64 a0_4, .int .u64 a0_5, .int .u64 a0_6, .bool a0_7, .bool a0_8, .bool a0_9, .bool a0_10, .bool a0_11, .bool a0_12, .bool a0_13, .bool true]) (t := 52) ?hr ?_; (case hd => rfl); (case hg => rfl); (case hr => first | (go_simp; done) | (go_simp; rfl)); intro gb407 hg w4 hbox hb; have n0_ := Aside0.mk (below_step (by repeat (first | (with_reducible first | exact HB.out | apply below_alloc | apply pw_below_drewN | apply below_drew1) | exact HB.out)) hb); have n1_ := Aside0.mk (hbox); have n2_ := Aside0.mk ((by rw [hg]; exact (below_size (by repeat (first | (with_reducible first | exact HB.out | apply below_alloc | apply pw_below_drewN | apply below_drew1) | exact HB.out))) : w.heap.size ≤ gb407)); have n3_ := Aside0.mk ((by rw [hg]; exact (below_size (by repeat (first | (with_reducible first | exact HB.out | apply below_alloc | apply pw_below_drewN | apply below_drew1) | exact HB.out))) : w.heap.size ≤ gb407)); clear HB; have HB := n0_; have BK407 := n1_; have GW407 := n2_; have GE407 := n3_; clear n0_ n1_ n2_ n3_; clear hb hbox hg) | ((with_reducible refine gate_dst (N := 4) rfl ?_); refine box_event ?hg (N := 4) ?hd (cs := #[.int .i64 0, .int .i64 0, .int .u64 0, .int .u64 0, .bool false, .bool false, .bool false, .bool false, .bool false, .bool false, .bool false]) (t := 50) ?hr ?_; (case hd => rfl); (case hg => rfl); (case hr => first | (go_simp; done) | (go_simp; rfl)); intro gb408 hg w5 hbox hb; have n0_ := Aside0.mk (bb22_ hb BK407.out); have n1_ := Aside0.mk (below_step (by repeat (first | (with_reducible first | exact HB.out | apply below_alloc | apply pw_below_drewN | apply below_drew1 | refine below_set ?_ GE407.out) | exact HB.out)) hb); have n2_ := Aside0.mk (hbox); have n3_ := Aside0.mk ((by rw [hg]; exact (below_size (by repeat (first | (with_reducible first | exact HB.out | apply below_alloc | apply pw_below_drewN | apply below_drew1 | refine below_set ?_ GE407.out) | exact HB.out))) : w.heap.size ≤ gb408)); have n4_ := Aside0.mk ((by rw [hg]; exact (below_size (by repeat (first | (with_reducible first | exact HB.out | apply below_alloc | apply pw_below_drewN | apply below_drew1 | refine below_set ?_ GE407.out) | exact HB.out))) : w.heap.size ≤ gb408)); have n5_ := Aside0.mk ((by rw [hg]; exact Nat.ne_of_lt (blk_lt BK407.out) : gb407 ≠ gb408)); have n6_ := Aside0.mk ((by rw [hg]; exact Nat.ne_of_gt (blk_lt BK407.out) : gb408 ≠ gb407)); clear BK407; clear HB; have BK407 := n0_; have HB := n1_; have BK408 := n2_; have GW408 := n3_; have GE408 := n4_; have NB407_408 := n5_; have NB408_407 := n6_; clear n0_ n1_ n2_ n3_ n4_ n5_ n6_; clear hb hbox hg; have hnb6 := NB407_408.out; have hnc6 := NB408_407.out; obtain ⟨hcz7_0, hcz7_1, hcz7_2, hcz7_3, hcz7_4, hcz7_5, hcz7_6, hcz7_7, hcz7_8, hcz7_9, hcz7_10, hcz7_11, hcz7_12, hcz7_13, hcz7_14⟩ := cy15_22 BK407.out; have hfz7_0 := blk_frozen BK407.out 0; have hfz7_1 := blk_frozen BK407.out 1; have hfz7_2 := blk_frozen BK407.out 2; have hfz7_3 := blk_frozen BK407.out 3; have hfz7_4 := blk_frozen BK407.out 4; have hfz7_5 := blk_frozen BK407.out 5; have hfz7_6 := blk_frozen BK407.out 6; have hfz7_7 := blk_frozen BK407.out 7; have hfz7_8 := blk_frozen BK407.out 8; have hfz7_9 := blk_frozen BK407.out 9; have hfz7_10 := blk_frozen BK407.out 10; have hfz7_11 := blk_frozen BK407.out 11; have hfz7_12 := blk_frozen BK407.out 12; have hfz7_13 := blk_frozen BK407.out 13; have hfz7_14 := blk_frozen BK407.out 14; obtain ⟨hcz8_0, hcz8_1, hcz8_2, hcz8_3, hcz8_4, hcz8_5, hcz8_6, hcz8_7, hcz8_8, hcz8_9, hcz8_10⟩ := cy11_22 BK408.out; have hfz8_0 := blk_frozen BK408.out 0; have hfz8_1 := blk_frozen BK408.out 1; have hfz8_2 := blk_frozen BK408.out 2; have hfz8_3 := blk_frozen BK408.out 3; have hfz8_4 := blk_frozen BK408.out 4; have hfz8_5 := blk_frozen BK408.out 5; have hfz8_6 := blk_frozen BK408.out 6; have hfz8_7 := blk_frozen BK408.out 7; have hfz8_8 := blk_frozen BK408.out 8; have hfz8_9 := blk_frozen BK408.out 9; have hfz8_10 := blk_frozen BK408.out 10))
  refine bodyPost_ret (results_cell_row rfl _ _ gb408 50 #[.int .i64 a0_3, .int .i64 a0_4, .int .u64 a0_5, .int .u64 a0_6, .bool a0_7, .bool a0_8, .bool a0_9, .bool a0_10, .bool a0_11, .bool a0_12, .bool a0_13] (0, 0) _ rfl (by (with_reducible repeat (first | refine blk_drewN ?_ _ | refine blk_drew ?_ | refine blk_alloc ?_ _)); refine blk_put (cs := #[.int .i64 a0_3, .int .i64 a0_4, .int .u64 a0_5, .int .u64 a0_6, .bool a0_7, .bool a0_8, .bool a0_9, .bool a0_10, .bool a0_11, .bool a0_12, .bool false]) ?_ 10 _ rfl; refine blk_put (cs := #[.int .i64 a0_3, .int .i64 a0_4, .int .u64 a0_5, .int .u64 a0_6, .bool a0_7, .bool a0_8, .bool a0_9, .bool a0_10, .bool a0_11, .bool false, .bool false]) ?_ 9 _ rfl; refine blk_put (cs := #[.int .i64 a0_3, .int .i64 a0_4, .int .u64 a0_5, .int .u64 a0_6, .bool a0_7, .bool a0_8, .bool a0_9, .bool a0_10, .bool false, .bool false, .bool false]) ?_ 8 _ rfl; refine blk_put (cs := #[.int .i64 a0_3, .int .i64 a0_4, .int .u64 a0_5, .int .u64 a0_6, .bool a0_7, .bool a0_8, .bool a0_9, .bool false, .bool false, .bool false, .bool false]) ?_ 7 _ rfl; refine blk_put (cs := #[.int .i64 a0_3, .int .i64 a0_4, .int .u64 a0_5, .int .u64 a0_6, .bool a0_7, .bool a0_8, .bool false, .bool false, .bool false, .bool false, .bool false]) ?_ 6 _ rfl; refine blk_put (cs := #[.int .i64 a0_3, .int .i64 a0_4, .int .u64 a0_5, .int .u64 a0_6, .bool a0_7, .bool false, .bool false, .bool false, .bool false, .bool false, .bool false]) ?_ 5 _ rfl; refine blk_put (cs := #[.int .i64 a0_3, .int .i64 a0_4, .int .u64 a0_5, .int .u64 a0_6, .bool false, .bool false, .bool false, .bool false, .bool false, .bool false, .bool false]) ?_ 4 _ rfl; refine blk_put (cs := #[.int .i64 a0_3, .int .i64 a0_4, .int .u64 a0_5, .int .u64 0, .bool false, .bool false, .bool false, .bool false, .bool false, .bool false, .bool false]) ?_ 3 _ rfl; refine blk_put (cs := #[.int .i64 a0_3, .int .i64 a0_4, .int .u64 0, .int .u64 0, .bool false, .bool false, .bool false, .bool false, .bool false, .bool false, .bool false]) ?_ 2 _ rfl; refine blk_put (cs := #[.int .i64 a0_3, .int .i64 0, .int .u64 0, .int .u64 0, .bool false, .bool false, .bool false, .bool false, .bool false, .bool false, .bool false]) ?_ 1 _ rfl; refine blk_put (cs := #[.int .i64 0, .int .i64 0, .int .u64 0, .int .u64 0, .bool false, .bool false, .bool false, .bool false, .bool false, .bool false, .bool false]) ?_ 0 _ rfl; (with_reducible repeat (first | refine blk_drewN ?_ _ | refine blk_drew ?_ | refine blk_alloc ?_ _)); exact BK408.out) Try.underlying50 rfl (by kernel_rfl)) rfl ?_
  exact ⟨by first | rfl | (simp [errW_none, errW_some] <;> rfl) | (simp [*, errW_none, errW_some] <;> rfl), by repeat (first | (with_reducible first | exact HB.out | apply below_alloc | apply pw_below_drewN | apply below_drew1 | refine below_set ?_ GE407.out | refine below_set ?_ GE408.out) | exact HB.out)⟩
 ·replace c3 := Bool.eq_false_iff.mpr c3
  subst c3
  have H1 : ((lookasideref03_Good.f k a1 a0_4 a0_5 a0_6 a0_7 a0_8 a0_9 a0_10 a0_11 a0_12 a0_13).bind fun bt410 => (some (bt410.1, bt410.2.1, bt410.2.2.1, bt410.2.2.2.1, bt410.2.2.2.2.1, bt410.2.2.2.2.2.1, bt410.2.2.2.2.2.2.1, bt410.2.2.2.2.2.2.2.1, bt410.2.2.2.2.2.2.2.2.1, bt410.2.2.2.2.2.2.2.2.2.1, bt410.2.2.2.2.2.2.2.2.2.2))) = some (r1, r2, r3, r4, r5, r6, r7, r8, r9, r10, r11) := by rw [if_neg (show ¬ (false = true) by decide)] at H; exact H
  clear H
  have H := H1
  clear H1
  replace H := Option.bind_eq_some_iff.mp H
  obtain ⟨⟨t410, t411, t412, t413, t414, t415, t416, t417, t418, t419, t420⟩, A90, H⟩ := H
  replace H : (some (t410, t411, t412, t413, t414, t415, t416, t417, t418, t419, t420)) = some (r1, r2, r3, r4, r5, r6, r7, r8, r9, r10, r11) := H
  have A9 := Aside0.mk A90
  clear A90
  simp only [Option.some.injEq, Prod.mk.injEq] at H
  obtain ⟨rfl, rfl, rfl, rfl, rfl, rfl, rfl, rfl, rfl, rfl, rfl⟩ := H
  go_enter Try.func21, Try.ntmps21
  go_wp2_with (first | ((with_reducible refine gate_dst (N := 2) rfl ?_); refine box_event ?hg (N := 2) ?hd (cs := #[.int .i64 a0_0, .int .i64 a0_1, .int .u64 a0_2, .int .i64 a0_3, .int .i64 a0_4, .int .u64 a0_5, .int .u64 a0_6, .bool a0_7, .bool a0_8, .bool a0_9, .bool a0_10, .bool a0_11, .bool a0_12, .bool a0_13, .bool false]) (t := 52) ?hr ?_; (case hd => rfl); (case hg => rfl); (case hr => first | (go_simp; done) | (go_simp; rfl)); intro gb407 hg w10 hbox hb; have n0_ := Aside0.mk (below_step (by repeat (first | (with_reducible first | exact HB.out | apply below_alloc | apply pw_below_drewN | apply below_drew1) | exact HB.out)) hb); have n1_ := Aside0.mk (hbox); have n2_ := Aside0.mk ((by rw [hg]; exact (below_size (by repeat (first | (with_reducible first | exact HB.out | apply below_alloc | apply pw_below_drewN | apply below_drew1) | exact HB.out))) : w.heap.size ≤ gb407)); have n3_ := Aside0.mk ((by rw [hg]; exact (below_size (by repeat (first | (with_reducible first | exact HB.out | apply below_alloc | apply pw_below_drewN | apply below_drew1) | exact HB.out))) : w.heap.size ≤ gb407)); clear HB; have HB := n0_; have BK407 := n1_; have GW407 := n2_; have GE407 := n3_; clear n0_ n1_ n2_ n3_; clear hb hbox hg) | ((with_reducible refine gate_dst (N := 4) rfl ?_); refine box_event ?hg (N := 4) ?hd (cs := #[.int .i64 0, .int .i64 0, .int .u64 0, .int .u64 0, .bool false, .bool false, .bool false, .bool false, .bool false, .bool false, .bool false]) (t := 50) ?hr ?_; (case hd => rfl); (case hg => rfl); (case hr => first | (go_simp; done) | (go_simp; rfl)); intro gb408 hg w11 hbox hb; have n0_ := Aside0.mk (bb22_ hb BK407.out); have n1_ := Aside0.mk (below_step (by repeat (first | (with_reducible first | exact HB.out | apply below_alloc | apply pw_below_drewN | apply below_drew1 | refine below_set ?_ GE407.out) | exact HB.out)) hb); have n2_ := Aside0.mk (hbox); have n3_ := Aside0.mk ((by rw [hg]; exact (below_size (by repeat (first | (with_reducible first | exact HB.out | apply below_alloc | apply pw_below_drewN | apply below_drew1 | refine below_set ?_ GE407.out) | exact HB.out))) : w.heap.size ≤ gb408)); have n4_ := Aside0.mk ((by rw [hg]; exact (below_size (by repeat (first | (with_reducible first | exact HB.out | apply below_alloc | apply pw_below_drewN | apply below_drew1 | refine below_set ?_ GE407.out) | exact HB.out))) : w.heap.size ≤ gb408)); have n5_ := Aside0.mk ((by rw [hg]; exact Nat.ne_of_lt (blk_lt BK407.out) : gb407 ≠ gb408)); have n6_ := Aside0.mk ((by rw [hg]; exact Nat.ne_of_gt (blk_lt BK407.out) : gb408 ≠ gb407)); clear BK407; clear HB; have BK407 := n0_; have HB := n1_; have BK408 := n2_; have GW408 := n3_; have GE408 := n4_; have NB407_408 := n5_; have NB408_407 := n6_; clear n0_ n1_ n2_ n3_ n4_ n5_ n6_; clear hb hbox hg; have hnb12 := NB407_408.out; have hnc12 := NB408_407.out; obtain ⟨hcz13_0, hcz13_1, hcz13_2, hcz13_3, hcz13_4, hcz13_5, hcz13_6, hcz13_7, hcz13_8, hcz13_9, hcz13_10, hcz13_11, hcz13_12, hcz13_13, hcz13_14⟩ := cy15_22 BK407.out; have hfz13_0 := blk_frozen BK407.out 0; have hfz13_1 := blk_frozen BK407.out 1; have hfz13_2 := blk_frozen BK407.out 2; have hfz13_3 := blk_frozen BK407.out 3; have hfz13_4 := blk_frozen BK407.out 4; have hfz13_5 := blk_frozen BK407.out 5; have hfz13_6 := blk_frozen BK407.out 6; have hfz13_7 := blk_frozen BK407.out 7; have hfz13_8 := blk_frozen BK407.out 8; have hfz13_9 := blk_frozen BK407.out 9; have hfz13_10 := blk_frozen BK407.out 10; have hfz13_11 := blk_frozen BK407.out 11; have hfz13_12 := blk_frozen BK407.out 12; have hfz13_13 := blk_frozen BK407.out 13; have hfz13_14 := blk_frozen BK407.out 14) | ((with_reducible refine gate_dst (N := 5) rfl ?_); refine box_event ?hg (N := 5) ?hd (cs := #[.int .i64 0, .int .i64 0, .int .u64 0, .int .u64 0, .bool false, .bool false, .bool false, .bool false, .bool false, .bool false, .bool false]) (t := 50) ?hr ?_; (case hd => rfl); (case hg => rfl); (case hr => first | (go_simp; done) | (go_simp; rfl)); intro gb409 hg w14 hbox hb; have n0_ := Aside0.mk (bb22_ hb BK407.out); have n1_ := Aside0.mk (bb22_ hb BK408.out); have n2_ := Aside0.mk (below_step (by repeat (first | (with_reducible first | exact HB.out | apply below_alloc | apply pw_below_drewN | apply below_drew1 | refine below_set ?_ GE407.out | refine below_set ?_ GE408.out) | exact HB.out)) hb); have n3_ := Aside0.mk (hbox); have n4_ := Aside0.mk ((by rw [hg]; exact (below_size (by repeat (first | (with_reducible first | exact HB.out | apply below_alloc | apply pw_below_drewN | apply below_drew1 | refine below_set ?_ GE407.out | refine below_set ?_ GE408.out) | exact HB.out))) : w.heap.size ≤ gb409)); have n5_ := Aside0.mk ((by rw [hg]; exact (below_size (by repeat (first | (with_reducible first | exact HB.out | apply below_alloc | apply pw_below_drewN | apply below_drew1 | refine below_set ?_ GE407.out | refine below_set ?_ GE408.out) | exact HB.out))) : w.heap.size ≤ gb409)); have n6_ := Aside0.mk ((by rw [hg]; exact Nat.ne_of_lt (blk_lt BK407.out) : gb407 ≠ gb409)); have n7_ := Aside0.mk ((by rw [hg]; exact Nat.ne_of_gt (blk_lt BK407.out) : gb409 ≠ gb407)); have n8_ := Aside0.mk ((by rw [hg]; exact Nat.ne_of_lt (blk_lt BK408.out) : gb408 ≠ gb409)); have n9_ := Aside0.mk ((by rw [hg]; exact Nat.ne_of_gt (blk_lt BK408.out) : gb409 ≠ gb408)); clear BK407; clear BK408; clear HB; have BK407 := n0_; have BK408 := n1_; have HB := n2_; have BK409 := n3_; have GW409 := n4_; have GE409 := n5_; have NB407_409 := n6_; have NB409_407 := n7_; have NB408_409 := n8_; have NB409_408 := n9_; clear n0_ n1_ n2_ n3_ n4_ n5_ n6_ n7_ n8_ n9_; clear hb hbox hg; have hnb15 := NB409_407.out; have hnc15 := NB407_409.out; have hnb16 := NB409_408.out; have hnc16 := NB408_409.out; obtain ⟨hcz17_0, hcz17_1, hcz17_2, hcz17_3, hcz17_4, hcz17_5, hcz17_6, hcz17_7, hcz17_8, hcz17_9, hcz17_10⟩ := cy11_22 BK409.out; have hfz17_0 := blk_frozen BK409.out 0; have hfz17_1 := blk_frozen BK409.out 1; have hfz17_2 := blk_frozen BK409.out 2; have hfz17_3 := blk_frozen BK409.out 3; have hfz17_4 := blk_frozen BK409.out 4; have hfz17_5 := blk_frozen BK409.out 5; have hfz17_6 := blk_frozen BK409.out 6; have hfz17_7 := blk_frozen BK409.out 7; have hfz17_8 := blk_frozen BK409.out 8; have hfz17_9 := blk_frozen BK409.out 9; have hfz17_10 := blk_frozen BK409.out 10) | ((with_reducible refine gate_callee (f := 55) rfl ?_); refine goesL_ (some 15) rfl rfl Try.func55 (by kernel_rfl) rfl #[.agg #[.int .i64 a1, .int .i64 a0_4, .int .u64 a0_5, .int .u64 a0_6, .bool a0_7, .bool a0_8, .bool a0_9, .bool a0_10, .bool a0_11, .bool a0_12, .bool a0_13]] rfl (by (try simp only [List.map_toArray, List.map_cons, List.map_nil]); first | done | rfl | (simp only [List.length_drop, List.length_take]; rfl)) ?_; (with_reducible refine (lookasideref03_Good.calls k a1 a0_4 a0_5 a0_6 a0_7 a0_8 a0_9 a0_10 a0_11 a0_12 a0_13 t410 t411 t412 t413 t414 t415 t416 t417 t418 t419 t420 _ A9.out).mono ?_); rintro e w18 ⟨rfl, hb⟩; refine ⟨_, rfl, ?_⟩; have n0_ := Aside0.mk (blk_below (g := gb407) (o := .cells #[.int .i64 a0_0, .int .i64 a0_1, .int .u64 a0_2, .int .i64 a0_3, .int .i64 a0_4, .int .u64 a0_5, .int .u64 a0_6, .bool a0_7, .bool a0_8, .bool a0_9, .bool a0_10, .bool a0_11, .bool a0_12, .bool a0_13, .bool false] 52 (0, 0)) (by (with_reducible repeat (first | refine blk_drewN ?_ _ | refine blk_drew ?_ | refine blk_alloc ?_ _)); refine blk_far ?_ NB407_409.out _; refine blk_far ?_ NB407_409.out _; refine blk_far ?_ NB407_409.out _; refine blk_far ?_ NB407_409.out _; refine blk_far ?_ NB407_409.out _; refine blk_far ?_ NB407_409.out _; refine blk_far ?_ NB407_409.out _; refine blk_far ?_ NB407_409.out _; refine blk_far ?_ NB407_409.out _; refine blk_far ?_ NB407_409.out _; refine blk_far ?_ NB407_409.out _; refine blk_far ?_ NB407_409.out _; (with_reducible repeat (first | refine blk_drewN ?_ _ | refine blk_drew ?_ | refine blk_alloc ?_ _)); exact BK407.out) hb); have n1_ := Aside0.mk (blk_below (g := gb408) (o := .cells #[.int .i64 0, .int .i64 0, .int .u64 0, .int .u64 0, .bool false, .bool false, .bool false, .bool false, .bool false, .bool false, .bool false] 50 (0, 0)) (by (with_reducible repeat (first | refine blk_drewN ?_ _ | refine blk_drew ?_ | refine blk_alloc ?_ _)); refine blk_far ?_ NB408_409.out _; refine blk_far ?_ NB408_409.out _; refine blk_far ?_ NB408_409.out _; refine blk_far ?_ NB408_409.out _; refine blk_far ?_ NB408_409.out _; refine blk_far ?_ NB408_409.out _; refine blk_far ?_ NB408_409.out _; refine blk_far ?_ NB408_409.out _; refine blk_far ?_ NB408_409.out _; refine blk_far ?_ NB408_409.out _; refine blk_far ?_ NB408_409.out _; refine blk_far ?_ NB408_409.out _; (with_reducible repeat (first | refine blk_drewN ?_ _ | refine blk_drew ?_ | refine blk_alloc ?_ _)); exact BK408.out) hb); have n2_ := Aside0.mk (blk_below (g := gb409) (o := .cells #[.int .i64 a1, .int .i64 a0_4, .int .u64 a0_5, .int .u64 a0_6, .bool a0_7, .bool a0_8, .bool a0_9, .bool a0_10, .bool a0_11, .bool a0_12, .bool a0_13] 50 (0, 0)) (by (with_reducible repeat (first | refine blk_drewN ?_ _ | refine blk_drew ?_ | refine blk_alloc ?_ _)); refine blk_put (cs := #[.int .i64 a0_3, .int .i64 a0_4, .int .u64 a0_5, .int .u64 a0_6, .bool a0_7, .bool a0_8, .bool a0_9, .bool a0_10, .bool a0_11, .bool a0_12, .bool a0_13]) ?_ 0 _ rfl; refine blk_put (cs := #[.int .i64 a0_3, .int .i64 a0_4, .int .u64 a0_5, .int .u64 a0_6, .bool a0_7, .bool a0_8, .bool a0_9, .bool a0_10, .bool a0_11, .bool a0_12, .bool false]) ?_ 10 _ rfl; refine blk_put (cs := #[.int .i64 a0_3, .int .i64 a0_4, .int .u64 a0_5, .int .u64 a0_6, .bool a0_7, .bool a0_8, .bool a0_9, .bool a0_10, .bool a0_11, .bool false, .bool false]) ?_ 9 _ rfl; refine blk_put (cs := #[.int .i64 a0_3, .int .i64 a0_4, .int .u64 a0_5, .int .u64 a0_6, .bool a0_7, .bool a0_8, .bool a0_9, .bool a0_10, .bool false, .bool false, .bool false]) ?_ 8 _ rfl; refine blk_put (cs := #[.int .i64 a0_3, .int .i64 a0_4, .int .u64 a0_5, .int .u64 a0_6, .bool a0_7, .bool a0_8, .bool a0_9, .bool false, .bool false, .bool false, .bool false]) ?_ 7 _ rfl; refine blk_put (cs := #[.int .i64 a0_3, .int .i64 a0_4, .int .u64 a0_5, .int .u64 a0_6, .bool a0_7, .bool a0_8, .bool false, .bool false, .bool false, .bool false, .bool false]) ?_ 6 _ rfl; refine blk_put (cs := #[.int .i64 a0_3, .int .i64 a0_4, .int .u64 a0_5, .int .u64 a0_6, .bool a0_7, .bool false, .bool false, .bool false, .bool false, .bool false, .bool false]) ?_ 5 _ rfl; refine blk_put (cs := #[.int .i64 a0_3, .int .i64 a0_4, .int .u64 a0_5, .int .u64 a0_6, .bool false, .bool false, .bool false, .bool false, .bool false, .bool false, .bool false]) ?_ 4 _ rfl; refine blk_put (cs := #[.int .i64 a0_3, .int .i64 a0_4, .int .u64 a0_5, .int .u64 0, .bool false, .bool false, .bool false, .bool false, .bool false, .bool false, .bool false]) ?_ 3 _ rfl; refine blk_put (cs := #[.int .i64 a0_3, .int .i64 a0_4, .int .u64 0, .int .u64 0, .bool false, .bool false, .bool false, .bool false, .bool false, .bool false, .bool false]) ?_ 2 _ rfl; refine blk_put (cs := #[.int .i64 a0_3, .int .i64 0, .int .u64 0, .int .u64 0, .bool false, .bool false, .bool false, .bool false, .bool false, .bool false, .bool false]) ?_ 1 _ rfl; refine blk_put (cs := #[.int .i64 0, .int .i64 0, .int .u64 0, .int .u64 0, .bool false, .bool false, .bool false, .bool false, .bool false, .bool false, .bool false]) ?_ 0 _ rfl; (with_reducible repeat (first | refine blk_drewN ?_ _ | refine blk_drew ?_ | refine blk_alloc ?_ _)); exact BK409.out) hb); have n3_ := Aside0.mk (below_step (by repeat (first | (with_reducible first | exact HB.out | apply below_alloc | apply pw_below_drewN | apply below_drew1 | refine below_set ?_ GE407.out | refine below_set ?_ GE408.out | refine below_set ?_ GE409.out) | exact HB.out)) hb); clear BK407; clear BK408; clear BK409; clear HB; have BK407 := n0_; have BK408 := n1_; have BK409 := n2_; have HB := n3_; clear n0_ n1_ n2_ n3_; (try clear hb); (try clear hb2); (try clear hk); (try clear hi); obtain ⟨hcz19_0, hcz19_1, hcz19_2, hcz19_3, hcz19_4, hcz19_5, hcz19_6, hcz19_7, hcz19_8, hcz19_9, hcz19_10⟩ := cy11_22 BK408.out; have hfz19_0 := blk_frozen BK408.out 0; have hfz19_1 := blk_frozen BK408.out 1; have hfz19_2 := blk_frozen BK408.out 2; have hfz19_3 := blk_frozen BK408.out 3; have hfz19_4 := blk_frozen BK408.out 4; have hfz19_5 := blk_frozen BK408.out 5; have hfz19_6 := blk_frozen BK408.out 6; have hfz19_7 := blk_frozen BK408.out 7; have hfz19_8 := blk_frozen BK408.out 8; have hfz19_9 := blk_frozen BK408.out 9; have hfz19_10 := blk_frozen BK408.out 10))
  refine bodyPost_ret (results_cell_row rfl _ _ gb408 50 #[.int .i64 t410, .int .i64 t411, .int .u64 t412, .int .u64 t413, .bool t414, .bool t415, .bool t416, .bool t417, .bool t418, .bool t419, .bool t420] (0, 0) _ rfl (by (with_reducible repeat (first | refine blk_drewN ?_ _ | refine blk_drew ?_ | refine blk_alloc ?_ _)); refine blk_put (cs := #[.int .i64 t410, .int .i64 t411, .int .u64 t412, .int .u64 t413, .bool t414, .bool t415, .bool t416, .bool t417, .bool t418, .bool t419, .bool false]) ?_ 10 _ rfl; refine blk_put (cs := #[.int .i64 t410, .int .i64 t411, .int .u64 t412, .int .u64 t413, .bool t414, .bool t415, .bool t416, .bool t417, .bool t418, .bool false, .bool false]) ?_ 9 _ rfl; refine blk_put (cs := #[.int .i64 t410, .int .i64 t411, .int .u64 t412, .int .u64 t413, .bool t414, .bool t415, .bool t416, .bool t417, .bool false, .bool false, .bool false]) ?_ 8 _ rfl; refine blk_put (cs := #[.int .i64 t410, .int .i64 t411, .int .u64 t412, .int .u64 t413, .bool t414, .bool t415, .bool t416, .bool false, .bool false, .bool false, .bool false]) ?_ 7 _ rfl; refine blk_put (cs := #[.int .i64 t410, .int .i64 t411, .int .u64 t412, .int .u64 t413, .bool t414, .bool t415, .bool false, .bool false, .bool false, .bool false, .bool false]) ?_ 6 _ rfl; refine blk_put (cs := #[.int .i64 t410, .int .i64 t411, .int .u64 t412, .int .u64 t413, .bool t414, .bool false, .bool false, .bool false, .bool false, .bool false, .bool false]) ?_ 5 _ rfl; refine blk_put (cs := #[.int .i64 t410, .int .i64 t411, .int .u64 t412, .int .u64 t413, .bool false, .bool false, .bool false, .bool false, .bool false, .bool false, .bool false]) ?_ 4 _ rfl; refine blk_put (cs := #[.int .i64 t410, .int .i64 t411, .int .u64 t412, .int .u64 0, .bool false, .bool false, .bool false, .bool false, .bool false, .bool false, .bool false]) ?_ 3 _ rfl; refine blk_put (cs := #[.int .i64 t410, .int .i64 t411, .int .u64 0, .int .u64 0, .bool false, .bool false, .bool false, .bool false, .bool false, .bool false, .bool false]) ?_ 2 _ rfl; refine blk_put (cs := #[.int .i64 t410, .int .i64 0, .int .u64 0, .int .u64 0, .bool false, .bool false, .bool false, .bool false, .bool false, .bool false, .bool false]) ?_ 1 _ rfl; refine blk_put (cs := #[.int .i64 0, .int .i64 0, .int .u64 0, .int .u64 0, .bool false, .bool false, .bool false, .bool false, .bool false, .bool false, .bool false]) ?_ 0 _ rfl; (with_reducible repeat (first | refine blk_drewN ?_ _ | refine blk_drew ?_ | refine blk_alloc ?_ _)); exact BK408.out) Try.underlying50 rfl (by kernel_rfl)) rfl ?_
  exact ⟨by first | rfl | (simp [errW_none, errW_some] <;> rfl) | (simp [*, errW_none, errW_some] <;> rfl), by repeat (first | (with_reducible first | exact HB.out | apply below_alloc | apply pw_below_drewN | apply below_drew1 | refine below_set ?_ GE407.out | refine below_set ?_ GE408.out | refine below_set ?_ GE409.out) | exact HB.out)⟩

-- NOT PRINTED: function 82 (lookasidelaw10_puts)

-- NOT PRINTED: function 46 (lookasidelaw10_does)
end Go.Proofs.Ytjnffegjpkbjmaa.QTsbPlays
-- halved
