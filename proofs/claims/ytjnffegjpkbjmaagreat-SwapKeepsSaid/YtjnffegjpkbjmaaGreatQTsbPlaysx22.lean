-- Taken out of a text that a program of this session printed (wip/print/myprint.py, wip/print/take.py); Lean checks it.
import Derived.Test.YtjnffegjpkbjmaaGreatQTsbPlaysx20
namespace Go.Proofs.YtjnffegjpkbjmaaGreat.QTsbPlays
open Go.RowKit Go.Proofs.YtjnffegjpkbjmaaGreatW.PrintWords Go.Proofs.YtjnffegjpkbjmaaGreatW.PrintLast Go.Proofs.YtjnffegjpkbjmaaGreatW.PrintMore
attribute [local go_sem] max2_int min2_int max_two min_two max_three min_three max_four min_four   -- for this text's walks alone
set_option linter.unusedVariables false
set_option linter.unusedSimpArgs false
theorem cy11_22 {W : World} {g : Nat} {t : TypeId} {a0 a1 a2 a3 a4 a5 a6 a7 a8 a9 a10 : Value} {l : List Value} (h : W.heap[g]? = some (.cells (Array.mk (a0 :: a1 :: a2 :: a3 :: a4 :: a5 :: a6 :: a7 :: a8 :: a9 :: a10 :: l)) t (0, 0))) : W.cell? ⟨g, 0, none⟩ = some a0 ∧ W.cell? ⟨g, 1, none⟩ = some a1 ∧ W.cell? ⟨g, 2, none⟩ = some a2 ∧ W.cell? ⟨g, 3, none⟩ = some a3 ∧ W.cell? ⟨g, 4, none⟩ = some a4 ∧ W.cell? ⟨g, 5, none⟩ = some a5 ∧ W.cell? ⟨g, 6, none⟩ = some a6 ∧ W.cell? ⟨g, 7, none⟩ = some a7 ∧ W.cell? ⟨g, 8, none⟩ = some a8 ∧ W.cell? ⟨g, 9, none⟩ = some a9 ∧ W.cell? ⟨g, 10, none⟩ = some a10 := ⟨(blk_cell h 0).trans rfl, (blk_cell h 1).trans rfl, (blk_cell h 2).trans rfl, (blk_cell h 3).trans rfl, (blk_cell h 4).trans rfl, (blk_cell h 5).trans rfl, (blk_cell h 6).trans rfl, (blk_cell h 7).trans rfl, (blk_cell h 8).trans rfl, (blk_cell h 9).trans rfl, (blk_cell h 10).trans rfl⟩
theorem bb22_ {w2 w' : World} {g : Nat} {o : Obj} (hb : Below w2.heap.size w2 w') (h : w2.heap[g]? = some o) : w'.heap[g]? = some o := blk_below h hb
theorem ca11_22 {W : World} {g : Nat} {t : TypeId} {a0 a1 a2 a3 a4 a5 a6 a7 a8 a9 a10 : Value} {R : Prop} (h : W.heap[g]? = some (.cells #[a0, a1, a2, a3, a4, a5, a6, a7, a8, a9, a10] t (0, 0))) (r : R) : W.cell? ⟨g, 0, none⟩ = some a0 ∧ W.cell? ⟨g, 1, none⟩ = some a1 ∧ W.cell? ⟨g, 2, none⟩ = some a2 ∧ W.cell? ⟨g, 3, none⟩ = some a3 ∧ W.cell? ⟨g, 4, none⟩ = some a4 ∧ W.cell? ⟨g, 5, none⟩ = some a5 ∧ W.cell? ⟨g, 6, none⟩ = some a6 ∧ W.cell? ⟨g, 7, none⟩ = some a7 ∧ W.cell? ⟨g, 8, none⟩ = some a8 ∧ W.cell? ⟨g, 9, none⟩ = some a9 ∧ W.cell? ⟨g, 10, none⟩ = some a10 ∧ R := ⟨(blk_cell h 0).trans rfl, (blk_cell h 1).trans rfl, (blk_cell h 2).trans rfl, (blk_cell h 3).trans rfl, (blk_cell h 4).trans rfl, (blk_cell h 5).trans rfl, (blk_cell h 6).trans rfl, (blk_cell h 7).trans rfl, (blk_cell h 8).trans rfl, (blk_cell h 9).trans rfl, (blk_cell h 10).trans rfl, r⟩
theorem cz11_22 {W : World} {g : Nat} {t : TypeId} {a0 a1 a2 a3 a4 a5 a6 a7 a8 a9 a10 : Value} (h : W.heap[g]? = some (.cells #[a0, a1, a2, a3, a4, a5, a6, a7, a8, a9, a10] t (0, 0))) : W.cell? ⟨g, 0, none⟩ = some a0 ∧ W.cell? ⟨g, 1, none⟩ = some a1 ∧ W.cell? ⟨g, 2, none⟩ = some a2 ∧ W.cell? ⟨g, 3, none⟩ = some a3 ∧ W.cell? ⟨g, 4, none⟩ = some a4 ∧ W.cell? ⟨g, 5, none⟩ = some a5 ∧ W.cell? ⟨g, 6, none⟩ = some a6 ∧ W.cell? ⟨g, 7, none⟩ = some a7 ∧ W.cell? ⟨g, 8, none⟩ = some a8 ∧ W.cell? ⟨g, 9, none⟩ = some a9 ∧ W.cell? ⟨g, 10, none⟩ = some a10 := ⟨(blk_cell h 0).trans rfl, (blk_cell h 1).trans rfl, (blk_cell h 2).trans rfl, (blk_cell h 3).trans rfl, (blk_cell h 4).trans rfl, (blk_cell h 5).trans rfl, (blk_cell h 6).trans rfl, (blk_cell h 7).trans rfl, (blk_cell h 8).trans rfl, (blk_cell h 9).trans rfl, (blk_cell h 10).trans rfl⟩
/-! ### lookasideref02_Bytes: function 89 -/
def lookasideref02_Bytes.f (a0 : Int) : Option (Int) := if a0 = 0 then (some 8192) else (if a0 = 1 then (some 65536) else (if a0 = 2 then (some 524288) else (if a0 = 3 then (some 4194304) else (some 0))))
set_option maxHeartbeats 8000000 in
set_option maxRecDepth 100000 in
theorem lookasideref02_Bytes.calls (a0 : Int) (r : Int) (w : World) (h : lookasideref02_Bytes.f a0 = some r) :
    Calls Tryz.prog 89 #[.int .i64 a0] w fun e w' => e = .returned (.int .u64 r) ∧ Drawn0 w w' := by
  have H : (if a0 = 0 then (some 8192) else (if a0 = 1 then (some 65536) else (if a0 = 2 then (some 524288) else (if a0 = 3 then (some 4194304) else (some 0))))) = some r := h
  clear h
  by_cases c2 : a0 = 0
  · rw [if_pos c2] at H
    have c2b0 : (a0 == 0) = true := beq_iff_eq.mpr c2
    have c2b1 : (a0 != 0) = false := bne_eq_false_iff_eq.mpr c2
    clear c2
    obtain rfl := Option.some.inj H
    go_enter Tryz.func89, Tryz.ntmps89
    go_wp2
    go_ret
    exact ⟨by first | rfl | (simp; done) | (simp [*]; done), by repeat (first | exact Drawn0.refl _ | apply Drawn0.step)⟩
  · rw [if_neg c2] at H
    have c2b0 : (a0 == 0) = false := beq_eq_false_iff_ne.mpr c2
    have c2b1 : (a0 != 0) = true := bne_iff_ne.mpr c2
    by_cases c3 : a0 = 1
    · rw [if_pos c3] at H
      have c3b0 : (a0 == 1) = true := beq_iff_eq.mpr c3
      have c3b1 : (a0 != 1) = false := bne_eq_false_iff_eq.mpr c3
      clear c3
      obtain rfl := Option.some.inj H
      go_enter Tryz.func89, Tryz.ntmps89
      go_wp2
      go_ret
      exact ⟨by first | rfl | (simp; done) | (simp [*]; done), by repeat (first | exact Drawn0.refl _ | apply Drawn0.step)⟩
    · rw [if_neg c3] at H
      have c3b0 : (a0 == 1) = false := beq_eq_false_iff_ne.mpr c3
      have c3b1 : (a0 != 1) = true := bne_iff_ne.mpr c3
      by_cases c4 : a0 = 2
      · rw [if_pos c4] at H
        have c4b0 : (a0 == 2) = true := beq_iff_eq.mpr c4
        have c4b1 : (a0 != 2) = false := bne_eq_false_iff_eq.mpr c4
        clear c4
        obtain rfl := Option.some.inj H
        go_enter Tryz.func89, Tryz.ntmps89
        go_wp2
        go_ret
        exact ⟨by first | rfl | (simp; done) | (simp [*]; done), by repeat (first | exact Drawn0.refl _ | apply Drawn0.step)⟩
      · rw [if_neg c4] at H
        have c4b0 : (a0 == 2) = false := beq_eq_false_iff_ne.mpr c4
        have c4b1 : (a0 != 2) = true := bne_iff_ne.mpr c4
        by_cases c5 : a0 = 3
        · rw [if_pos c5] at H
          have c5b0 : (a0 == 3) = true := beq_iff_eq.mpr c5
          have c5b1 : (a0 != 3) = false := bne_eq_false_iff_eq.mpr c5
          clear c5
          obtain rfl := Option.some.inj H
          go_enter Tryz.func89, Tryz.ntmps89
          go_wp2
          go_ret
          exact ⟨by first | rfl | (simp; done) | (simp [*]; done), by repeat (first | exact Drawn0.refl _ | apply Drawn0.step)⟩
        · rw [if_neg c5] at H
          have c5b0 : (a0 == 3) = false := beq_eq_false_iff_ne.mpr c5
          have c5b1 : (a0 != 3) = true := bne_iff_ne.mpr c5
          obtain rfl := Option.some.inj H
          go_enter Tryz.func89, Tryz.ntmps89
          go_wp2
          go_ret
          exact ⟨by first | rfl | (simp; done) | (simp [*]; done), by repeat (first | exact Drawn0.refl _ | apply Drawn0.step)⟩
/-! ### lookasideref02_Base: function 58 -/
def lookasideref02_Base.f (a0 : Int) (a1 : Int) : Option (Int) := (lookasideref02_May.f a1).bind fun t214 => (if t214 = true then ((lookasideref02_Bytes.f a1).bind fun t215 => (if t215 = 0 then (none) else (some (IntKind.u64.wrap ((IntKind.u64.wrap (Int.tdiv a0 t215)) * t215))))) else (some 0))
set_option maxHeartbeats 8000000 in
set_option maxRecDepth 100000 in
theorem lookasideref02_Base.calls (a0 : Int) (a1 : Int) (r : Int) (w : World) (h : lookasideref02_Base.f a0 a1 = some r) :
    Calls Tryz.prog 58 #[.int .u64 a0, .int .i64 a1] w fun e w' => e = .returned (.int .u64 r) ∧ Drawn0 w w' := by
  have H : ((lookasideref02_May.f a1).bind fun t214 => (if t214 = true then ((lookasideref02_Bytes.f a1).bind fun t215 => (if t215 = 0 then (none) else (some (IntKind.u64.wrap ((IntKind.u64.wrap (Int.tdiv a0 t215)) * t215))))) else (some 0))) = some r := h
  clear h
  replace H := Option.bind_eq_some_iff.mp H
  obtain ⟨t214, A30, H⟩ := H
  replace H : (if t214 = true then ((lookasideref02_Bytes.f a1).bind fun t215 => (if t215 = 0 then (none) else (some (IntKind.u64.wrap ((IntKind.u64.wrap (Int.tdiv a0 t215)) * t215))))) else (some 0)) = some r := H
  have A3 := Aside0.mk A30
  clear A30
  by_cases c4 : t214 = true
  · subst c4
    have H1 : ((lookasideref02_Bytes.f a1).bind fun t215 => (if t215 = 0 then (none) else (some (IntKind.u64.wrap ((IntKind.u64.wrap (Int.tdiv a0 t215)) * t215))))) = some r := by rw [if_pos rfl] at H; exact H
    clear H
    have H := H1
    clear H1
    replace H := Option.bind_eq_some_iff.mp H
    obtain ⟨t215, A50, H⟩ := H
    replace H : (if t215 = 0 then (none) else (some (IntKind.u64.wrap ((IntKind.u64.wrap (Int.tdiv a0 t215)) * t215)))) = some r := H
    have A5 := Aside0.mk A50
    clear A50
    by_cases c6 : t215 = 0
    · rw [if_pos c6] at H
      exact absurd H (by simp)
    · rw [if_neg c6] at H
      have c6b0 : (t215 == 0) = false := beq_eq_false_iff_ne.mpr c6
      have c6b1 : (t215 != 0) = true := bne_iff_ne.mpr c6
      obtain rfl := Option.some.inj H
      go_enter Tryz.func58, Tryz.ntmps58
      go_wp2_with ((go_at_call 74; (with_reducible refine (lookasideref02_May.calls a1 true _ A3.out).mono ?_); rintro e w' ⟨rfl, ⟨nd, rfl⟩⟩; (try first | exact ⟨rfl, _, World.drewN_drewN _ _ _⟩ | exact ⟨rfl, _, Eq.trans (World.drewN_drewN _ _ _) (congrArg (World.drewN _) (Nat.add_assoc _ _ _))⟩)))
      repeat (go_quiet ((go_at_call 89; (with_reducible refine (lookasideref02_Bytes.calls a1 t215 _ A5.out).mono ?_); rintro e w' ⟨rfl, ⟨nd, rfl⟩⟩; (try first | exact ⟨rfl, _, World.drewN_drewN _ _ _⟩ | exact ⟨rfl, _, Eq.trans (World.drewN_drewN _ _ _) (congrArg (World.drewN _) (Nat.add_assoc _ _ _))⟩))); try go_wp2_with (fail))
      go_ret
      exact ⟨by first | rfl | (simp; done) | (simp [*]; done), by repeat (first | exact Drawn0.refl _ | apply Drawn0.step)⟩
  · replace c4 := Bool.eq_false_iff.mpr c4
    subst c4
    have H1 : (some 0) = some r := by rw [if_neg (show ¬ (false = true) by decide)] at H; exact H
    clear H
    have H := H1
    clear H1
    obtain rfl := Option.some.inj H
    go_enter Tryz.func58, Tryz.ntmps58
    go_wp2_with ((go_at_call 74; (with_reducible refine (lookasideref02_May.calls a1 false _ A3.out).mono ?_); rintro e w' ⟨rfl, ⟨nd, rfl⟩⟩; (try first | exact ⟨rfl, _, World.drewN_drewN _ _ _⟩ | exact ⟨rfl, _, Eq.trans (World.drewN_drewN _ _ _) (congrArg (World.drewN _) (Nat.add_assoc _ _ _))⟩)))
    repeat (go_quiet (fail); try go_wp2_with (fail))
    go_ret
    exact ⟨by first | rfl | (simp; done) | (simp [*]; done), by repeat (first | exact Drawn0.refl _ | apply Drawn0.step)⟩
/-! ### lookasideref01_Bit: function 90 -/
def lookasideref01_Bit.l0 : Nat → Int → Int → Int → Option (Int)
  | 0, _, _, _ => none
  | k + 1, x0, x1, x5 => if x5 < x1 then (lookasideref01_Bit.l0 k (IntKind.u64.wrap (Int.tdiv x0 2)) x1 (wrap64 (x5 + 1))) else (some (Int.tmod x0 2))
def lookasideref01_Bit.f (k : Nat) (a0 : Int) (a1 : Int) : Option (Int) := lookasideref01_Bit.l0 k a0 a1 0
theorem lookasideref01_Bit.mono_l : ∀ k, (∀ y0 y1 y2, LeO (lookasideref01_Bit.l0 k y0 y1 y2) (lookasideref01_Bit.l0 (k + 1) y0 y1 y2))
  | 0 => fun _ _ _ r h => by simp [lookasideref01_Bit.l0] at h
  | k + 1 => by
    have ih0 := lookasideref01_Bit.mono_l k
    · intro y0 y1 y2
      unfold lookasideref01_Bit.l0
      repeat' first
      | (with_reducible exact ih0 _ _ _)
      | (with_reducible exact LeO.refl _)
      | (with_reducible exact LeO.none _)
      | (with_reducible refine LeO.ite ?_ ?_)
      | (with_reducible refine LeO.bind ?_ (fun _ => ?_))
      | exact ih0 _ _ _
      | exact LeO.none _
      | refine LeO.ite ?_ ?_
      | refine LeO.bind ?_ (fun _ => ?_)
theorem lookasideref01_Bit.mono : ∀ a0 a1 k, LeO (lookasideref01_Bit.f k a0 a1) (lookasideref01_Bit.f (k + 1) a0 a1) := by
  intro a0 a1 k
  have ih0 := lookasideref01_Bit.mono_l k
  unfold lookasideref01_Bit.f
  repeat' first
      | (with_reducible exact ih0 _ _ _)
      | (with_reducible exact LeO.refl _)
      | (with_reducible exact LeO.none _)
      | (with_reducible refine LeO.ite ?_ ?_)
      | (with_reducible refine LeO.bind ?_ (fun _ => ?_))
      | exact ih0 _ _ _
      | exact LeO.none _
      | refine LeO.ite ?_ ?_
      | refine LeO.bind ?_ (fun _ => ?_)
set_option maxHeartbeats 8000000 in
set_option maxRecDepth 100000 in
theorem lookasideref01_Bit.calls (k : Nat) (a0 : Int) (a1 : Int) (r : Int) (w : World) (h : lookasideref01_Bit.f k a0 a1 = some r) :
    Calls Tryz.prog 90 #[.int .u64 a0, .int .i64 a1] w fun e w' => e = .returned (.int .u64 r) ∧ Drawn0 w w' := by
  have H : (lookasideref01_Bit.l0 k a0 a1 0) = some r := h
  clear h
  have H' := Aside0.mk H
  clear H
  go_enter Tryz.func90, Tryz.ntmps90
  go_wp2
  go_loopg [0, 5] k (fun kq v0 v5 w' => ∃ (x0_1 : Int) (x5_1 : Int), v0 = .int .u64 x0_1 ∧ v5 = .int .i64 x5_1 ∧ Aside0 (lookasideref01_Bit.l0 kq x0_1 a1 x5_1 = some r) ∧ Aside0 (kq ≤ k) ∧ Drawn0 w w')
  case atStart => exact ⟨(a0), (0), (by first | rfl | (simp; done) | (simp [*]; done)), (by first | rfl | (simp; done) | (simp [*]; done)), H', ⟨Nat.le_refl _⟩, by repeat (first | exact Drawn0.refl _ | apply Drawn0.step)⟩
  case round =>
    clear H'
    try clear p2
    obtain ⟨x0_1, x5_1, rfl, rfl, HA, HK1, ⟨m1, rfl⟩⟩ := hrel
    cases gk with
    | zero => exact absurd HA.out (by simp [lookasideref01_Bit.l0])
    | succ k1 =>
      have H := HA.out
      clear HA
      simp only [lookasideref01_Bit.l0] at H
      by_cases c3 : x5_1 < a1
      · rw [if_pos c3] at H
        have c3b0 : decide (x5_1 < a1) = true := decide_eq_true c3
        clear c3
        have H' := Aside0.mk H
        clear H
        go_wp2
        go_roundg k1
        case measure => have := HK1.out; omega
        case rel => exact ⟨(IntKind.u64.wrap (Int.tdiv x0_1 2)), (wrap64 (x5_1 + 1)), (by first | rfl | (simp; done) | (simp [*]; done)), (by first | rfl | (simp; done) | (simp [*]; done)), H', ⟨by have := HK1.out; omega⟩, by repeat (first | exact Drawn0.refl _ | apply Drawn0.step)⟩
      · rw [if_neg c3] at H
        have c3b0 : decide (x5_1 < a1) = false := decide_eq_false c3
        clear c3
        obtain rfl := Option.some.inj H
        go_wp2
        go_ret
        exact ⟨by first | rfl | (simp; done) | (simp [*]; done), by repeat (first | exact Drawn0.refl _ | apply Drawn0.step)⟩
/-! ### lookasideref02_Va: function 59 -/
def lookasideref02_Va.f (k : Nat) (a0 : Int) : Option (Int) := (lookasideref01_Bit.f k a0 43).bind fun t216 => (if t216 = 1 then (some (IntKind.u64.wrap ((Int.tmod a0 8796093022208) + 18446735277616529408))) else (some (Int.tmod a0 8796093022208)))
theorem lookasideref02_Va.mono : ∀ a0 k, LeO (lookasideref02_Va.f k a0) (lookasideref02_Va.f (k + 1) a0) := by
  intro a0 k
  unfold lookasideref02_Va.f
  repeat' first
      | (with_reducible exact lookasideref01_Bit.mono _ _ _)
      | (with_reducible exact LeO.refl _)
      | (with_reducible exact LeO.none _)
      | (with_reducible refine LeO.ite ?_ ?_)
      | (with_reducible refine LeO.bind ?_ (fun _ => ?_))
      | exact lookasideref01_Bit.mono _ _ _
      | exact LeO.none _
      | refine LeO.ite ?_ ?_
      | refine LeO.bind ?_ (fun _ => ?_)
set_option maxHeartbeats 8000000 in
set_option maxRecDepth 100000 in
theorem lookasideref02_Va.calls (k : Nat) (a0 : Int) (r : Int) (w : World) (h : lookasideref02_Va.f k a0 = some r) :
    Calls Tryz.prog 59 #[.int .u64 a0] w fun e w' => e = .returned (.int .u64 r) ∧ Drawn0 w w' := by
  have H : ((lookasideref01_Bit.f k a0 43).bind fun t216 => (if t216 = 1 then (some (IntKind.u64.wrap ((Int.tmod a0 8796093022208) + 18446735277616529408))) else (some (Int.tmod a0 8796093022208)))) = some r := h
  clear h
  replace H := Option.bind_eq_some_iff.mp H
  obtain ⟨t216, A20, H⟩ := H
  replace H : (if t216 = 1 then (some (IntKind.u64.wrap ((Int.tmod a0 8796093022208) + 18446735277616529408))) else (some (Int.tmod a0 8796093022208))) = some r := H
  have A2 := Aside0.mk A20
  clear A20
  by_cases c3 : t216 = 1
  · rw [if_pos c3] at H
    have c3b0 : (t216 == 1) = true := beq_iff_eq.mpr c3
    have c3b1 : (t216 != 1) = false := bne_eq_false_iff_eq.mpr c3
    clear c3
    obtain rfl := Option.some.inj H
    go_enter Tryz.func59, Tryz.ntmps59
    go_wp2_with (((with_reducible refine gate_callee (f := 90) rfl ?_); refine goesL_ (some 4) rfl rfl Tryz.func90 (by kernel_rfl) rfl #[.int .u64 a0, .int .i64 43] rfl (by (try simp only [List.map_toArray, List.map_cons, List.map_nil]); first | done | rfl | (simp only [List.length_drop, List.length_take]; rfl)) ?_; (with_reducible refine (lookasideref01_Bit.calls k a0 43 t216 _ A2.out).mono ?_); rintro e w' ⟨rfl, ⟨nd, rfl⟩⟩; refine ⟨_, rfl, ?_⟩))
    go_ret
    exact ⟨by first | rfl | (simp; done) | (simp [*]; done), by repeat (first | exact Drawn0.refl _ | apply Drawn0.step)⟩
  · rw [if_neg c3] at H
    have c3b0 : (t216 == 1) = false := beq_eq_false_iff_ne.mpr c3
    have c3b1 : (t216 != 1) = true := bne_iff_ne.mpr c3
    obtain rfl := Option.some.inj H
    go_enter Tryz.func59, Tryz.ntmps59
    go_wp2_with (((with_reducible refine gate_callee (f := 90) rfl ?_); refine goesL_ (some 4) rfl rfl Tryz.func90 (by kernel_rfl) rfl #[.int .u64 a0, .int .i64 43] rfl (by (try simp only [List.map_toArray, List.map_cons, List.map_nil]); first | done | rfl | (simp only [List.length_drop, List.length_take]; rfl)) ?_; (with_reducible refine (lookasideref01_Bit.calls k a0 43 t216 _ A2.out).mono ?_); rintro e w' ⟨rfl, ⟨nd, rfl⟩⟩; refine ⟨_, rfl, ?_⟩))
    go_ret
    exact ⟨by first | rfl | (simp; done) | (simp [*]; done), by repeat (first | exact Drawn0.refl _ | apply Drawn0.step)⟩
/-! ### lookasideref03_Good: function 30 -/
mutual
def lookasideref03_Good.j0 : Nat → Int → Int → Int → Int → Int → Bool → Bool → Bool → Bool → Bool → Bool → Bool → Int → Int → Int → Int → Bool → Bool → Bool → Bool → Bool → Bool → Bool → Option (Int × Int × Int × Int × Bool × Bool × Bool × Bool × Bool × Bool × Bool)
  | 0, _, _, _, _, _, _, _, _, _, _, _, _, _, _, _, _, _, _, _, _, _, _, _ => none
  | k + 1, x4, x218000, x218001, x218002, x218003, x218004, x218005, x218006, x218007, x218008, x218009, x218010, x220000, x220001, x220002, x220003, x220004, x220005, x220006, x220007, x220008, x220009, x220010 => if x218001 < 0 then (lookasideref03_Good.j1 k (wrap64 (-(wrap64 (x218001 + 1)))) x218000 x218001 x218002 x218003 x218004 x218005 x218006 x218007 x218008 x218009 x218010 (Int.tmod x4 4) x220001 x220002 x220003 x220004 x220005 x220006 x220007 x220008 x220009 x220010) else (lookasideref03_Good.j1 k x218001 x218000 x218001 x218002 x218003 x218004 x218005 x218006 x218007 x218008 x218009 x218010 (Int.tmod x4 4) x220001 x220002 x220003 x220004 x220005 x220006 x220007 x220008 x220009 x220010)
def lookasideref03_Good.j1 : Nat → Int → Int → Int → Int → Int → Bool → Bool → Bool → Bool → Bool → Bool → Bool → Int → Int → Int → Int → Bool → Bool → Bool → Bool → Bool → Bool → Bool → Option (Int × Int × Int × Int × Bool × Bool × Bool × Bool × Bool × Bool × Bool)
  | 0, _, _, _, _, _, _, _, _, _, _, _, _, _, _, _, _, _, _, _, _, _, _, _ => none
  | k + 1, x5, x218000, x218001, x218002, x218003, x218004, x218005, x218006, x218007, x218008, x218009, x218010, x220000, x220001, x220002, x220003, x220004, x220005, x220006, x220007, x220008, x220009, x220010 => if x220008 = true then ((lookasideref02_Va.f k x218002).bind fun t220 => ((lookasideref02_Base.f t220 x220000).bind fun t221 => ((lookasideref02_Base.f (Int.tmod x218003 2199023255552) x220000).bind fun t222 => (some (x220000, 0, t221, t222, x220004, x220005, x220006, x220007, x220008, x220009, x220010))))) else ((lookasideref02_Va.f k x218002).bind fun t223 => ((lookasideref02_Base.f t223 x220000).bind fun t224 => ((lookasideref02_Base.f (Int.tmod x218003 2199023255552) x220000).bind fun t225 => (some (x220000, Int.tmod x5 8192, t224, t225, x220004, x220005, x220006, x220007, x220008, x220009, x220010)))))
end
def lookasideref03_Good.f (k : Nat) (a0_0 : Int) (a0_1 : Int) (a0_2 : Int) (a0_3 : Int) (a0_4 : Bool) (a0_5 : Bool) (a0_6 : Bool) (a0_7 : Bool) (a0_8 : Bool) (a0_9 : Bool) (a0_10 : Bool) : Option (Int × Int × Int × Int × Bool × Bool × Bool × Bool × Bool × Bool × Bool) := if a0_0 < 0 then (lookasideref03_Good.j0 k (wrap64 (-(wrap64 (a0_0 + 1)))) a0_0 a0_1 a0_2 a0_3 a0_4 a0_5 a0_6 a0_7 a0_8 a0_9 a0_10 0 0 0 0 a0_4 a0_5 a0_6 a0_7 a0_8 a0_9 true) else (lookasideref03_Good.j0 k a0_0 a0_0 a0_1 a0_2 a0_3 a0_4 a0_5 a0_6 a0_7 a0_8 a0_9 a0_10 0 0 0 0 a0_4 a0_5 a0_6 a0_7 a0_8 a0_9 true)
theorem lookasideref03_Good.mono_l : ∀ k, (∀ y0 y1 y2 y3 y4 y5 y6 y7 y8 y9 y10 y11 y12 y13 y14 y15 y16 y17 y18 y19 y20 y21 y22, LeO (lookasideref03_Good.j0 k y0 y1 y2 y3 y4 y5 y6 y7 y8 y9 y10 y11 y12 y13 y14 y15 y16 y17 y18 y19 y20 y21 y22) (lookasideref03_Good.j0 (k + 1) y0 y1 y2 y3 y4 y5 y6 y7 y8 y9 y10 y11 y12 y13 y14 y15 y16 y17 y18 y19 y20 y21 y22)) ∧ (∀ y0 y1 y2 y3 y4 y5 y6 y7 y8 y9 y10 y11 y12 y13 y14 y15 y16 y17 y18 y19 y20 y21 y22, LeO (lookasideref03_Good.j1 k y0 y1 y2 y3 y4 y5 y6 y7 y8 y9 y10 y11 y12 y13 y14 y15 y16 y17 y18 y19 y20 y21 y22) (lookasideref03_Good.j1 (k + 1) y0 y1 y2 y3 y4 y5 y6 y7 y8 y9 y10 y11 y12 y13 y14 y15 y16 y17 y18 y19 y20 y21 y22))
  | 0 => ⟨fun _ _ _ _ _ _ _ _ _ _ _ _ _ _ _ _ _ _ _ _ _ _ _ r h => by simp [lookasideref03_Good.j0] at h, fun _ _ _ _ _ _ _ _ _ _ _ _ _ _ _ _ _ _ _ _ _ _ _ r h => by simp [lookasideref03_Good.j1] at h⟩
  | k + 1 => by
    obtain ⟨ih0, ih1⟩ := lookasideref03_Good.mono_l k
    refine ⟨?_, ?_⟩
    · intro y0 y1 y2 y3 y4 y5 y6 y7 y8 y9 y10 y11 y12 y13 y14 y15 y16 y17 y18 y19 y20 y21 y22
      unfold lookasideref03_Good.j0
      repeat' first
      | (with_reducible exact ih0 _ _ _ _ _ _ _ _ _ _ _ _ _ _ _ _ _ _ _ _ _ _ _)
      | (with_reducible exact ih1 _ _ _ _ _ _ _ _ _ _ _ _ _ _ _ _ _ _ _ _ _ _ _)
      | (with_reducible exact lookasideref02_Va.mono _ _)
      | (with_reducible exact LeO.refl _)
      | (with_reducible exact LeO.none _)
      | (with_reducible refine LeO.ite ?_ ?_)
      | (with_reducible refine LeO.bind ?_ (fun _ => ?_))
      | exact ih0 _ _ _ _ _ _ _ _ _ _ _ _ _ _ _ _ _ _ _ _ _ _ _
      | exact ih1 _ _ _ _ _ _ _ _ _ _ _ _ _ _ _ _ _ _ _ _ _ _ _
      | exact lookasideref02_Va.mono _ _
      | exact LeO.none _
      | refine LeO.ite ?_ ?_
      | refine LeO.bind ?_ (fun _ => ?_)
    · intro y0 y1 y2 y3 y4 y5 y6 y7 y8 y9 y10 y11 y12 y13 y14 y15 y16 y17 y18 y19 y20 y21 y22
      unfold lookasideref03_Good.j1
      repeat' first
      | (with_reducible exact ih0 _ _ _ _ _ _ _ _ _ _ _ _ _ _ _ _ _ _ _ _ _ _ _)
      | (with_reducible exact ih1 _ _ _ _ _ _ _ _ _ _ _ _ _ _ _ _ _ _ _ _ _ _ _)
      | (with_reducible exact lookasideref02_Va.mono _ _)
      | (with_reducible exact LeO.refl _)
      | (with_reducible exact LeO.none _)
      | (with_reducible refine LeO.ite ?_ ?_)
      | (with_reducible refine LeO.bind ?_ (fun _ => ?_))
      | exact ih0 _ _ _ _ _ _ _ _ _ _ _ _ _ _ _ _ _ _ _ _ _ _ _
      | exact ih1 _ _ _ _ _ _ _ _ _ _ _ _ _ _ _ _ _ _ _ _ _ _ _
      | exact lookasideref02_Va.mono _ _
      | exact LeO.none _
      | refine LeO.ite ?_ ?_
      | refine LeO.bind ?_ (fun _ => ?_)
def lookasideref03_Good.T12 : Bool × List (List Nat × List Nat) := (true, [([], []), ([0], [0]), ([1], [1]), ([], []), ([3], [3]), ([2, 4, 2], [2, 4]), ([0, 1, 2, 3, 4, 5], []), ([6, 5, 5, 0, 1, 2, 3, 4, 5], [5, 6])])
def lookasideref03_Good.B12 : List Nat := [0, 1, 3, 0, 8, 31, 63, 127]
theorem lookasideref03_Good.tab12 : rtab .any (opsOf Tryz.f30 12) = lookasideref03_Good.T12 := by kernel_rfl
theorem lookasideref03_Good.bits12 : waitsOk lookasideref03_Good.T12.2 lookasideref03_Good.B12 = true := by kernel_rfl
set_option maxHeartbeats 8000000 in
set_option maxRecDepth 100000 in
theorem lookasideref03_Good.calls (k : Nat) (a0_0 : Int) (a0_1 : Int) (a0_2 : Int) (a0_3 : Int) (a0_4 : Bool) (a0_5 : Bool) (a0_6 : Bool) (a0_7 : Bool) (a0_8 : Bool) (a0_9 : Bool) (a0_10 : Bool) (r1 : Int) (r2 : Int) (r3 : Int) (r4 : Int) (r5 : Bool) (r6 : Bool) (r7 : Bool) (r8 : Bool) (r9 : Bool) (r10 : Bool) (r11 : Bool) (w : World) (h : lookasideref03_Good.f k a0_0 a0_1 a0_2 a0_3 a0_4 a0_5 a0_6 a0_7 a0_8 a0_9 a0_10 = some (r1, r2, r3, r4, r5, r6, r7, r8, r9, r10, r11)) :
    Calls Tryz.prog 30 #[.agg #[.int .i64 a0_0, .int .i64 a0_1, .int .u64 a0_2, .int .u64 a0_3, .bool a0_4, .bool a0_5, .bool a0_6, .bool a0_7, .bool a0_8, .bool a0_9, .bool a0_10]] w fun e w' => e = .returned (.agg #[.int .i64 r1, .int .i64 r2, .int .u64 r3, .int .u64 r4, .bool r5, .bool r6, .bool r7, .bool r8, .bool r9, .bool r10, .bool r11]) ∧ Below w.heap.size w w' := by
  have hu41 := Tryz.underlying41
  have hu39 := Tryz.underlying39
  have HB := Aside0.mk (Below.refl w.heap.size w)
  have H : (if a0_0 < 0 then (lookasideref03_Good.j0 k (wrap64 (-(wrap64 (a0_0 + 1)))) a0_0 a0_1 a0_2 a0_3 a0_4 a0_5 a0_6 a0_7 a0_8 a0_9 a0_10 0 0 0 0 a0_4 a0_5 a0_6 a0_7 a0_8 a0_9 true) else (lookasideref03_Good.j0 k a0_0 a0_0 a0_1 a0_2 a0_3 a0_4 a0_5 a0_6 a0_7 a0_8 a0_9 a0_10 0 0 0 0 a0_4 a0_5 a0_6 a0_7 a0_8 a0_9 true)) = some (r1, r2, r3, r4, r5, r6, r7, r8, r9, r10, r11) := h
  clear h
  have HC2 := Aside0.mk H
  clear H
  go_enter Tryz.func30, Tryz.ntmps30
  go_upto_if 12 with (first | ((with_reducible refine gate_dst (N := 1) rfl ?_); refine box_event ?hg (N := 1) ?hd (cs := #[.int .i64 a0_0, .int .i64 a0_1, .int .u64 a0_2, .int .u64 a0_3, .bool a0_4, .bool a0_5, .bool a0_6, .bool a0_7, .bool a0_8, .bool a0_9, .bool a0_10]) (t := 41) ?hr ?_; (case hd => rfl); (case hg => rfl); (case hr => first | (go_simp; done) | (go_simp; rfl)); intro gb217 hg w3 hbox hb; have n0_ := Aside0.mk (below_step (by repeat (first | (with_reducible first | exact HB.out | apply below_alloc | apply pw_below_drewN | apply below_drew1) | exact HB.out)) hb); have n1_ := Aside0.mk (hbox); have n2_ := Aside0.mk ((by rw [hg]; exact (below_size (by repeat (first | (with_reducible first | exact HB.out | apply below_alloc | apply pw_below_drewN | apply below_drew1) | exact HB.out))) : w.heap.size ≤ gb217)); have n3_ := Aside0.mk ((by rw [hg]; exact (below_size (by repeat (first | (with_reducible first | exact HB.out | apply below_alloc | apply pw_below_drewN | apply below_drew1) | exact HB.out))) : w.heap.size ≤ gb217)); clear HB; have HB := n0_; have BK217 := n1_; have GW217 := n2_; have GE217 := n3_; clear n0_ n1_ n2_ n3_; clear hb hbox hg) | ((with_reducible refine gate_dst (N := 2) rfl ?_); refine box_event ?hg (N := 2) ?hd (cs := #[.int .i64 0, .int .i64 0, .int .u64 0, .int .u64 0, .bool false, .bool false, .bool false, .bool false, .bool false, .bool false, .bool false]) (t := 41) ?hr ?_; (case hd => rfl); (case hg => rfl); (case hr => first | (go_simp; done) | (go_simp; rfl)); intro gb218 hg w4 hbox hb; have n0_ := Aside0.mk (bb22_ hb BK217.out); have n1_ := Aside0.mk (below_step (by repeat (first | (with_reducible first | exact HB.out | apply below_alloc | apply pw_below_drewN | apply below_drew1 | refine below_set ?_ GE217.out) | exact HB.out)) hb); have n2_ := Aside0.mk (hbox); have n3_ := Aside0.mk ((by rw [hg]; exact (below_size (by repeat (first | (with_reducible first | exact HB.out | apply below_alloc | apply pw_below_drewN | apply below_drew1 | refine below_set ?_ GE217.out) | exact HB.out))) : w.heap.size ≤ gb218)); have n4_ := Aside0.mk ((by rw [hg]; exact (below_size (by repeat (first | (with_reducible first | exact HB.out | apply below_alloc | apply pw_below_drewN | apply below_drew1 | refine below_set ?_ GE217.out) | exact HB.out))) : w.heap.size ≤ gb218)); have n5_ := Aside0.mk ((by rw [hg]; exact Nat.ne_of_lt (blk_lt BK217.out) : gb217 ≠ gb218)); have n6_ := Aside0.mk ((by rw [hg]; exact Nat.ne_of_gt (blk_lt BK217.out) : gb218 ≠ gb217)); clear BK217; clear HB; have BK217 := n0_; have HB := n1_; have BK218 := n2_; have GW218 := n3_; have GE218 := n4_; have NB217_218 := n5_; have NB218_217 := n6_; clear n0_ n1_ n2_ n3_ n4_ n5_ n6_; clear hb hbox hg; have hnb5 := NB217_218.out; have hnc5 := NB218_217.out; obtain ⟨hcz6_0, hcz6_1, hcz6_2, hcz6_3, hcz6_4, hcz6_5, hcz6_6, hcz6_7, hcz6_8, hcz6_9, hcz6_10⟩ := cy11_22 BK217.out; have hfz6_0 := blk_frozen BK217.out 0; have hfz6_1 := blk_frozen BK217.out 1; have hfz6_2 := blk_frozen BK217.out 2; have hfz6_3 := blk_frozen BK217.out 3; have hfz6_4 := blk_frozen BK217.out 4; have hfz6_5 := blk_frozen BK217.out 5; have hfz6_6 := blk_frozen BK217.out 6; have hfz6_7 := blk_frozen BK217.out 7; have hfz6_8 := blk_frozen BK217.out 8; have hfz6_9 := blk_frozen BK217.out 9; have hfz6_10 := blk_frozen BK217.out 10) | ((with_reducible refine gate_dst (N := 3) rfl ?_); refine box_event ?hg (N := 3) ?hd (cs := #[.int .i64 0, .int .i64 0, .int .u64 0, .int .u64 0, .bool false, .bool false, .bool false, .bool false, .bool false, .bool false, .bool false]) (t := 41) ?hr ?_; (case hd => rfl); (case hg => rfl); (case hr => first | (go_simp; done) | (go_simp; rfl)); intro gb219 hg w7 hbox hb; have n0_ := Aside0.mk (bb22_ hb BK217.out); have n1_ := Aside0.mk (bb22_ hb BK218.out); have n2_ := Aside0.mk (below_step (by repeat (first | (with_reducible first | exact HB.out | apply below_alloc | apply pw_below_drewN | apply below_drew1 | refine below_set ?_ GE217.out | refine below_set ?_ GE218.out) | exact HB.out)) hb); have n3_ := Aside0.mk (hbox); have n4_ := Aside0.mk ((by rw [hg]; exact (below_size (by repeat (first | (with_reducible first | exact HB.out | apply below_alloc | apply pw_below_drewN | apply below_drew1 | refine below_set ?_ GE217.out | refine below_set ?_ GE218.out) | exact HB.out))) : w.heap.size ≤ gb219)); have n5_ := Aside0.mk ((by rw [hg]; exact (below_size (by repeat (first | (with_reducible first | exact HB.out | apply below_alloc | apply pw_below_drewN | apply below_drew1 | refine below_set ?_ GE217.out | refine below_set ?_ GE218.out) | exact HB.out))) : w.heap.size ≤ gb219)); have n6_ := Aside0.mk ((by rw [hg]; exact Nat.ne_of_lt (blk_lt BK217.out) : gb217 ≠ gb219)); have n7_ := Aside0.mk ((by rw [hg]; exact Nat.ne_of_gt (blk_lt BK217.out) : gb219 ≠ gb217)); have n8_ := Aside0.mk ((by rw [hg]; exact Nat.ne_of_lt (blk_lt BK218.out) : gb218 ≠ gb219)); have n9_ := Aside0.mk ((by rw [hg]; exact Nat.ne_of_gt (blk_lt BK218.out) : gb219 ≠ gb218)); clear BK217; clear BK218; clear HB; have BK217 := n0_; have BK218 := n1_; have HB := n2_; have BK219 := n3_; have GW219 := n4_; have GE219 := n5_; have NB217_219 := n6_; have NB219_217 := n7_; have NB218_219 := n8_; have NB219_218 := n9_; clear n0_ n1_ n2_ n3_ n4_ n5_ n6_ n7_ n8_ n9_; clear hb hbox hg; have hnb8 := NB219_217.out; have hnc8 := NB217_219.out; have hnb9 := NB219_218.out; have hnc9 := NB218_219.out; obtain ⟨hcz10_0, hcz10_1, hcz10_2, hcz10_3, hcz10_4, hcz10_5, hcz10_6, hcz10_7, hcz10_8, hcz10_9, hcz10_10⟩ := cy11_22 BK219.out; have hfz10_0 := blk_frozen BK219.out 0; have hfz10_1 := blk_frozen BK219.out 1; have hfz10_2 := blk_frozen BK219.out 2; have hfz10_3 := blk_frozen BK219.out 3; have hfz10_4 := blk_frozen BK219.out 4; have hfz10_5 := blk_frozen BK219.out 5; have hfz10_6 := blk_frozen BK219.out 6; have hfz10_7 := blk_frozen BK219.out 7; have hfz10_8 := blk_frozen BK219.out 8; have hfz10_9 := blk_frozen BK219.out 9; have hfz10_10 := blk_frozen BK219.out 10; obtain ⟨hcz11_0, hcz11_1, hcz11_2, hcz11_3, hcz11_4, hcz11_5, hcz11_6, hcz11_7, hcz11_8, hcz11_9, hcz11_10⟩ := cy11_22 BK217.out; have hfz11_0 := blk_frozen BK217.out 0; have hfz11_1 := blk_frozen BK217.out 1; have hfz11_2 := blk_frozen BK217.out 2; have hfz11_3 := blk_frozen BK217.out 3; have hfz11_4 := blk_frozen BK217.out 4; have hfz11_5 := blk_frozen BK217.out 5; have hfz11_6 := blk_frozen BK217.out 6; have hfz11_7 := blk_frozen BK217.out 7; have hfz11_8 := blk_frozen BK217.out 8; have hfz11_9 := blk_frozen BK217.out 9; have hfz11_10 := blk_frozen BK217.out 10))
  (try simp only [Act.put, List.setIfInBounds_toArray, List.set_cons_zero, List.set_cons_succ])
  go_cut [4] (fun v4 wc => ∃ (kq : Nat) (x4_1 : Int), v4 = .int .i64 x4_1 ∧ Aside0 (lookasideref03_Good.j0 kq x4_1 a0_0 a0_1 a0_2 a0_3 a0_4 a0_5 a0_6 a0_7 a0_8 a0_9 a0_10 0 0 0 0 a0_4 a0_5 a0_6 a0_7 a0_8 a0_9 true = some (r1, r2, r3, r4, r5, r6, r7, r8, r9, r10, r11)) ∧ Aside0 (kq ≤ k) ∧ Aside0 (wc.heap[gb217]? = some (.cells #[.int .i64 a0_0, .int .i64 a0_1, .int .u64 a0_2, .int .u64 a0_3, .bool a0_4, .bool a0_5, .bool a0_6, .bool a0_7, .bool a0_8, .bool a0_9, .bool a0_10] 41 (0, 0))) ∧ Aside0 (wc.heap[gb218]? = some (.cells #[.int .i64 0, .int .i64 0, .int .u64 0, .int .u64 0, .bool false, .bool false, .bool false, .bool false, .bool false, .bool false, .bool false] 41 (0, 0))) ∧ Aside0 (wc.heap[gb219]? = some (.cells #[.int .i64 0, .int .i64 0, .int .u64 0, .int .u64 0, .bool a0_4, .bool a0_5, .bool a0_6, .bool a0_7, .bool a0_8, .bool a0_9, .bool true] 41 (0, 0))) ∧ Aside0 (Below w.heap.size w wc))
  case first =>
    have H := HC2.out
    clear HC2
    by_cases c12 : a0_0 < 0
    · rw [if_pos c12] at H
      have c12b0 : decide (a0_0 < 0) = true := decide_eq_true c12
      clear c12
      (first | rw [c12b0] | (simp only [i64_w, i32_w]; rw [c12b0]) | skip)
      have H' := Aside0.mk H
      clear H
      go_wp2
      go_meet
      case rel => exact ⟨_, (wrap64 (-(wrap64 (a0_0 + 1)))), (by first | rfl | (simp; done) | (simp [*]; done)), H', ⟨by first | omega | exact Nat.le_refl _⟩, ⟨by (with_reducible repeat (first | refine blk_drewN ?_ _ | refine blk_drew ?_ | refine blk_alloc ?_ _)); refine blk_far ?_ NB217_219.out _; refine blk_far ?_ NB217_219.out _; refine blk_far ?_ NB217_219.out _; refine blk_far ?_ NB217_219.out _; refine blk_far ?_ NB217_219.out _; refine blk_far ?_ NB217_219.out _; refine blk_far ?_ NB217_219.out _; refine blk_far ?_ NB217_219.out _; refine blk_far ?_ NB217_219.out _; refine blk_far ?_ NB217_219.out _; refine blk_far ?_ NB217_219.out _; (with_reducible repeat (first | refine blk_drewN ?_ _ | refine blk_drew ?_ | refine blk_alloc ?_ _)); exact BK217.out⟩, ⟨by (with_reducible repeat (first | refine blk_drewN ?_ _ | refine blk_drew ?_ | refine blk_alloc ?_ _)); refine blk_far ?_ NB218_219.out _; refine blk_far ?_ NB218_219.out _; refine blk_far ?_ NB218_219.out _; refine blk_far ?_ NB218_219.out _; refine blk_far ?_ NB218_219.out _; refine blk_far ?_ NB218_219.out _; refine blk_far ?_ NB218_219.out _; refine blk_far ?_ NB218_219.out _; refine blk_far ?_ NB218_219.out _; refine blk_far ?_ NB218_219.out _; refine blk_far ?_ NB218_219.out _; (with_reducible repeat (first | refine blk_drewN ?_ _ | refine blk_drew ?_ | refine blk_alloc ?_ _)); exact BK218.out⟩, ⟨by (with_reducible repeat (first | refine blk_drewN ?_ _ | refine blk_drew ?_ | refine blk_alloc ?_ _)); refine blk_put (cs := #[.int .i64 0, .int .i64 0, .int .u64 0, .int .u64 0, .bool a0_4, .bool a0_5, .bool a0_6, .bool a0_7, .bool a0_8, .bool a0_9, .bool false]) ?_ 10 _ rfl; refine blk_put (cs := #[.int .i64 0, .int .i64 0, .int .u64 0, .int .u64 0, .bool a0_4, .bool a0_5, .bool a0_6, .bool a0_7, .bool a0_8, .bool false, .bool false]) ?_ 9 _ rfl; refine blk_put (cs := #[.int .i64 0, .int .i64 0, .int .u64 0, .int .u64 0, .bool a0_4, .bool a0_5, .bool a0_6, .bool a0_7, .bool false, .bool false, .bool false]) ?_ 8 _ rfl; refine blk_put (cs := #[.int .i64 0, .int .i64 0, .int .u64 0, .int .u64 0, .bool a0_4, .bool a0_5, .bool a0_6, .bool false, .bool false, .bool false, .bool false]) ?_ 7 _ rfl; refine blk_put (cs := #[.int .i64 0, .int .i64 0, .int .u64 0, .int .u64 0, .bool a0_4, .bool a0_5, .bool false, .bool false, .bool false, .bool false, .bool false]) ?_ 6 _ rfl; refine blk_put (cs := #[.int .i64 0, .int .i64 0, .int .u64 0, .int .u64 0, .bool a0_4, .bool false, .bool false, .bool false, .bool false, .bool false, .bool false]) ?_ 5 _ rfl; refine blk_put (cs := #[.int .i64 0, .int .i64 0, .int .u64 0, .int .u64 0, .bool false, .bool false, .bool false, .bool false, .bool false, .bool false, .bool false]) ?_ 4 _ rfl; refine blk_put (cs := #[.int .i64 0, .int .i64 0, .int .u64 0, .int .u64 0, .bool false, .bool false, .bool false, .bool false, .bool false, .bool false, .bool false]) ?_ 3 _ rfl; refine blk_put (cs := #[.int .i64 0, .int .i64 0, .int .u64 0, .int .u64 0, .bool false, .bool false, .bool false, .bool false, .bool false, .bool false, .bool false]) ?_ 2 _ rfl; refine blk_put (cs := #[.int .i64 0, .int .i64 0, .int .u64 0, .int .u64 0, .bool false, .bool false, .bool false, .bool false, .bool false, .bool false, .bool false]) ?_ 1 _ rfl; refine blk_put (cs := #[.int .i64 0, .int .i64 0, .int .u64 0, .int .u64 0, .bool false, .bool false, .bool false, .bool false, .bool false, .bool false, .bool false]) ?_ 0 _ rfl; (with_reducible repeat (first | refine blk_drewN ?_ _ | refine blk_drew ?_ | refine blk_alloc ?_ _)); exact BK219.out⟩, ⟨by repeat (first | (with_reducible first | exact HB.out | apply below_alloc | apply pw_below_drewN | apply below_drew1 | refine below_set ?_ GE217.out | refine below_set ?_ GE218.out | refine below_set ?_ GE219.out) | exact HB.out)⟩⟩
    · rw [if_neg c12] at H
      have c12b0 : decide (a0_0 < 0) = false := decide_eq_false c12
      clear c12
      (first | rw [c12b0] | (simp only [i64_w, i32_w]; rw [c12b0]) | skip)
      have H' := Aside0.mk H
      clear H
      go_wp2
      go_meet
      case rel => exact ⟨_, (a0_0), (by first | rfl | (simp; done) | (simp [*]; done)), H', ⟨by first | omega | exact Nat.le_refl _⟩, ⟨by (with_reducible repeat (first | refine blk_drewN ?_ _ | refine blk_drew ?_ | refine blk_alloc ?_ _)); refine blk_far ?_ NB217_219.out _; refine blk_far ?_ NB217_219.out _; refine blk_far ?_ NB217_219.out _; refine blk_far ?_ NB217_219.out _; refine blk_far ?_ NB217_219.out _; refine blk_far ?_ NB217_219.out _; refine blk_far ?_ NB217_219.out _; refine blk_far ?_ NB217_219.out _; refine blk_far ?_ NB217_219.out _; refine blk_far ?_ NB217_219.out _; refine blk_far ?_ NB217_219.out _; (with_reducible repeat (first | refine blk_drewN ?_ _ | refine blk_drew ?_ | refine blk_alloc ?_ _)); exact BK217.out⟩, ⟨by (with_reducible repeat (first | refine blk_drewN ?_ _ | refine blk_drew ?_ | refine blk_alloc ?_ _)); refine blk_far ?_ NB218_219.out _; refine blk_far ?_ NB218_219.out _; refine blk_far ?_ NB218_219.out _; refine blk_far ?_ NB218_219.out _; refine blk_far ?_ NB218_219.out _; refine blk_far ?_ NB218_219.out _; refine blk_far ?_ NB218_219.out _; refine blk_far ?_ NB218_219.out _; refine blk_far ?_ NB218_219.out _; refine blk_far ?_ NB218_219.out _; refine blk_far ?_ NB218_219.out _; (with_reducible repeat (first | refine blk_drewN ?_ _ | refine blk_drew ?_ | refine blk_alloc ?_ _)); exact BK218.out⟩, ⟨by (with_reducible repeat (first | refine blk_drewN ?_ _ | refine blk_drew ?_ | refine blk_alloc ?_ _)); refine blk_put (cs := #[.int .i64 0, .int .i64 0, .int .u64 0, .int .u64 0, .bool a0_4, .bool a0_5, .bool a0_6, .bool a0_7, .bool a0_8, .bool a0_9, .bool false]) ?_ 10 _ rfl; refine blk_put (cs := #[.int .i64 0, .int .i64 0, .int .u64 0, .int .u64 0, .bool a0_4, .bool a0_5, .bool a0_6, .bool a0_7, .bool a0_8, .bool false, .bool false]) ?_ 9 _ rfl; refine blk_put (cs := #[.int .i64 0, .int .i64 0, .int .u64 0, .int .u64 0, .bool a0_4, .bool a0_5, .bool a0_6, .bool a0_7, .bool false, .bool false, .bool false]) ?_ 8 _ rfl; refine blk_put (cs := #[.int .i64 0, .int .i64 0, .int .u64 0, .int .u64 0, .bool a0_4, .bool a0_5, .bool a0_6, .bool false, .bool false, .bool false, .bool false]) ?_ 7 _ rfl; refine blk_put (cs := #[.int .i64 0, .int .i64 0, .int .u64 0, .int .u64 0, .bool a0_4, .bool a0_5, .bool false, .bool false, .bool false, .bool false, .bool false]) ?_ 6 _ rfl; refine blk_put (cs := #[.int .i64 0, .int .i64 0, .int .u64 0, .int .u64 0, .bool a0_4, .bool false, .bool false, .bool false, .bool false, .bool false, .bool false]) ?_ 5 _ rfl; refine blk_put (cs := #[.int .i64 0, .int .i64 0, .int .u64 0, .int .u64 0, .bool false, .bool false, .bool false, .bool false, .bool false, .bool false, .bool false]) ?_ 4 _ rfl; refine blk_put (cs := #[.int .i64 0, .int .i64 0, .int .u64 0, .int .u64 0, .bool false, .bool false, .bool false, .bool false, .bool false, .bool false, .bool false]) ?_ 3 _ rfl; refine blk_put (cs := #[.int .i64 0, .int .i64 0, .int .u64 0, .int .u64 0, .bool false, .bool false, .bool false, .bool false, .bool false, .bool false, .bool false]) ?_ 2 _ rfl; refine blk_put (cs := #[.int .i64 0, .int .i64 0, .int .u64 0, .int .u64 0, .bool false, .bool false, .bool false, .bool false, .bool false, .bool false, .bool false]) ?_ 1 _ rfl; refine blk_put (cs := #[.int .i64 0, .int .i64 0, .int .u64 0, .int .u64 0, .bool false, .bool false, .bool false, .bool false, .bool false, .bool false, .bool false]) ?_ 0 _ rfl; (with_reducible repeat (first | refine blk_drewN ?_ _ | refine blk_drew ?_ | refine blk_alloc ?_ _)); exact BK219.out⟩, ⟨by repeat (first | (with_reducible first | exact HB.out | apply below_alloc | apply pw_below_drewN | apply below_drew1 | refine below_set ?_ GE217.out | refine below_set ?_ GE218.out | refine below_set ?_ GE219.out) | exact HB.out)⟩⟩
  case rest =>
    clear HC2
    try clear c1
    try clear p2
    try clear c3
    try clear c5
    try clear p6
    try clear c8
    try clear c9
    try clear c12
    try clear c12b0
    try clear hcz10_0
    try clear hcz10_1
    try clear hcz10_10
    try clear hcz10_2
    try clear hcz10_3
    try clear hcz10_4
    try clear hcz10_5
    try clear hcz10_6
    try clear hcz10_7
    try clear hcz10_8
    try clear hcz10_9
    try clear hcz11_0
    try clear hcz11_1
    try clear hcz11_10
    try clear hcz11_2
    try clear hcz11_3
    try clear hcz11_4
    try clear hcz11_5
    try clear hcz11_6
    try clear hcz11_7
    try clear hcz11_8
    try clear hcz11_9
    try clear hcz6_0
    try clear hcz6_1
    try clear hcz6_10
    try clear hcz6_2
    try clear hcz6_3
    try clear hcz6_4
    try clear hcz6_5
    try clear hcz6_6
    try clear hcz6_7
    try clear hcz6_8
    try clear hcz6_9
    try clear hfz10_0
    try clear hfz10_1
    try clear hfz10_10
    try clear hfz10_2
    try clear hfz10_3
    try clear hfz10_4
    try clear hfz10_5
    try clear hfz10_6
    try clear hfz10_7
    try clear hfz10_8
    try clear hfz10_9
    try clear hfz11_0
    try clear hfz11_1
    try clear hfz11_10
    try clear hfz11_2
    try clear hfz11_3
    try clear hfz11_4
    try clear hfz11_5
    try clear hfz11_6
    try clear hfz11_7
    try clear hfz11_8
    try clear hfz11_9
    try clear hfz6_0
    try clear hfz6_1
    try clear hfz6_10
    try clear hfz6_2
    try clear hfz6_3
    try clear hfz6_4
    try clear hfz6_5
    try clear hfz6_6
    try clear hfz6_7
    try clear hfz6_8
    try clear hfz6_9
    obtain ⟨kq, x4_1, rfl, HA, HJ1, BK217, BK218, BK219, HB⟩ := hcut
    cases kq with
    | zero => exact absurd HA.out (by simp [lookasideref03_Good.j0])
    | succ kj1 =>
      have H := HA.out
      clear HA
      simp only [lookasideref03_Good.j0] at H
      have HC13 := Aside0.mk H
      clear H
      have hnb14 := NB219_217.out
      have hnc14 := NB217_219.out
      have hnb15 := NB219_218.out
      have hnc15 := NB218_219.out
      obtain ⟨hcz16_0, hcz16_1, hcz16_2, hcz16_3, hcz16_4, hcz16_5, hcz16_6, hcz16_7, hcz16_8, hcz16_9, hcz16_10⟩ := cy11_22 BK219.out
      have hfz16_0 := blk_frozen BK219.out 0
      have hfz16_1 := blk_frozen BK219.out 1
      have hfz16_2 := blk_frozen BK219.out 2
      have hfz16_3 := blk_frozen BK219.out 3
      have hfz16_4 := blk_frozen BK219.out 4
      have hfz16_5 := blk_frozen BK219.out 5
      have hfz16_6 := blk_frozen BK219.out 6
      have hfz16_7 := blk_frozen BK219.out 7
      have hfz16_8 := blk_frozen BK219.out 8
      have hfz16_9 := blk_frozen BK219.out 9
      have hfz16_10 := blk_frozen BK219.out 10
      have hnb17 := NB217_218.out
      have hnc17 := NB218_217.out
      obtain ⟨hcz18_0, hcz18_1, hcz18_2, hcz18_3, hcz18_4, hcz18_5, hcz18_6, hcz18_7, hcz18_8, hcz18_9, hcz18_10⟩ := cy11_22 BK217.out
      have hfz18_0 := blk_frozen BK217.out 0
      have hfz18_1 := blk_frozen BK217.out 1
      have hfz18_2 := blk_frozen BK217.out 2
      have hfz18_3 := blk_frozen BK217.out 3
      have hfz18_4 := blk_frozen BK217.out 4
      have hfz18_5 := blk_frozen BK217.out 5
      have hfz18_6 := blk_frozen BK217.out 6
      have hfz18_7 := blk_frozen BK217.out 7
      have hfz18_8 := blk_frozen BK217.out 8
      have hfz18_9 := blk_frozen BK217.out 9
      have hfz18_10 := blk_frozen BK217.out 10
      go_upto_if 22 with (fail)
      go_cut [5] (fun v5 wc => ∃ (kq : Nat) (x5_12 : Int), v5 = .int .i64 x5_12 ∧ Aside0 (lookasideref03_Good.j1 kq x5_12 a0_0 a0_1 a0_2 a0_3 a0_4 a0_5 a0_6 a0_7 a0_8 a0_9 a0_10 (Int.tmod x4_1 4) 0 0 0 a0_4 a0_5 a0_6 a0_7 a0_8 a0_9 true = some (r1, r2, r3, r4, r5, r6, r7, r8, r9, r10, r11)) ∧ Aside0 (kq ≤ kj1) ∧ Aside0 (wc.heap[gb217]? = some (.cells #[.int .i64 a0_0, .int .i64 a0_1, .int .u64 a0_2, .int .u64 a0_3, .bool a0_4, .bool a0_5, .bool a0_6, .bool a0_7, .bool a0_8, .bool a0_9, .bool a0_10] 41 (0, 0))) ∧ Aside0 (wc.heap[gb218]? = some (.cells #[.int .i64 0, .int .i64 0, .int .u64 0, .int .u64 0, .bool false, .bool false, .bool false, .bool false, .bool false, .bool false, .bool false] 41 (0, 0))) ∧ Aside0 (wc.heap[gb219]? = some (.cells #[.int .i64 (Int.tmod x4_1 4), .int .i64 0, .int .u64 0, .int .u64 0, .bool a0_4, .bool a0_5, .bool a0_6, .bool a0_7, .bool a0_8, .bool a0_9, .bool true] 41 (0, 0))) ∧ Aside0 (Below w.heap.size w wc))
      case first =>
        have H := HC13.out
        clear HC13
        by_cases c19 : a0_1 < 0
        · rw [if_pos c19] at H
          have c19b0 : decide (a0_1 < 0) = true := decide_eq_true c19
          clear c19
          (first | rw [c19b0] | (simp only [i64_w, i32_w]; rw [c19b0]) | skip)
          have H' := Aside0.mk H
          clear H
          go_wp2
          go_meet
          case rel => exact ⟨_, (wrap64 (-(wrap64 (a0_1 + 1)))), (by first | rfl | (simp; done) | (simp [*]; done)), H', ⟨by have := HJ1.out; first | omega | exact Nat.le_refl _⟩, ⟨by (with_reducible repeat (first | refine blk_drewN ?_ _ | refine blk_drew ?_ | refine blk_alloc ?_ _)); refine blk_far ?_ NB217_219.out _; (with_reducible repeat (first | refine blk_drewN ?_ _ | refine blk_drew ?_ | refine blk_alloc ?_ _)); exact BK217.out⟩, ⟨by (with_reducible repeat (first | refine blk_drewN ?_ _ | refine blk_drew ?_ | refine blk_alloc ?_ _)); refine blk_far ?_ NB218_219.out _; (with_reducible repeat (first | refine blk_drewN ?_ _ | refine blk_drew ?_ | refine blk_alloc ?_ _)); exact BK218.out⟩, ⟨by (with_reducible repeat (first | refine blk_drewN ?_ _ | refine blk_drew ?_ | refine blk_alloc ?_ _)); refine blk_put (cs := #[.int .i64 0, .int .i64 0, .int .u64 0, .int .u64 0, .bool a0_4, .bool a0_5, .bool a0_6, .bool a0_7, .bool a0_8, .bool a0_9, .bool true]) ?_ 0 _ rfl; (with_reducible repeat (first | refine blk_drewN ?_ _ | refine blk_drew ?_ | refine blk_alloc ?_ _)); exact BK219.out⟩, ⟨by repeat (first | (with_reducible first | exact HB.out | apply below_alloc | apply pw_below_drewN | apply below_drew1 | refine below_set ?_ GE217.out | refine below_set ?_ GE218.out | refine below_set ?_ GE219.out) | exact HB.out)⟩⟩
        · rw [if_neg c19] at H
          have c19b0 : decide (a0_1 < 0) = false := decide_eq_false c19
          clear c19
          (first | rw [c19b0] | (simp only [i64_w, i32_w]; rw [c19b0]) | skip)
          have H' := Aside0.mk H
          clear H
          go_wp2
          go_meet
          case rel => exact ⟨_, (a0_1), (by first | rfl | (simp; done) | (simp [*]; done)), H', ⟨by have := HJ1.out; first | omega | exact Nat.le_refl _⟩, ⟨by (with_reducible repeat (first | refine blk_drewN ?_ _ | refine blk_drew ?_ | refine blk_alloc ?_ _)); refine blk_far ?_ NB217_219.out _; (with_reducible repeat (first | refine blk_drewN ?_ _ | refine blk_drew ?_ | refine blk_alloc ?_ _)); exact BK217.out⟩, ⟨by (with_reducible repeat (first | refine blk_drewN ?_ _ | refine blk_drew ?_ | refine blk_alloc ?_ _)); refine blk_far ?_ NB218_219.out _; (with_reducible repeat (first | refine blk_drewN ?_ _ | refine blk_drew ?_ | refine blk_alloc ?_ _)); exact BK218.out⟩, ⟨by (with_reducible repeat (first | refine blk_drewN ?_ _ | refine blk_drew ?_ | refine blk_alloc ?_ _)); refine blk_put (cs := #[.int .i64 0, .int .i64 0, .int .u64 0, .int .u64 0, .bool a0_4, .bool a0_5, .bool a0_6, .bool a0_7, .bool a0_8, .bool a0_9, .bool true]) ?_ 0 _ rfl; (with_reducible repeat (first | refine blk_drewN ?_ _ | refine blk_drew ?_ | refine blk_alloc ?_ _)); exact BK219.out⟩, ⟨by repeat (first | (with_reducible first | exact HB.out | apply below_alloc | apply pw_below_drewN | apply below_drew1 | refine below_set ?_ GE217.out | refine below_set ?_ GE218.out | refine below_set ?_ GE219.out) | exact HB.out)⟩⟩
      case rest =>
        clear HC13
        try clear c1
        try clear p2
        try clear c3
        try clear c5
        try clear p6
        try clear c8
        try clear c9
        try clear c12
        try clear c12b0
        try clear c14
        try clear c15
        try clear c17
        try clear c19
        try clear c19b0
        try clear hcz10_0
        try clear hcz10_1
        try clear hcz10_10
        try clear hcz10_2
        try clear hcz10_3
        try clear hcz10_4
        try clear hcz10_5
        try clear hcz10_6
        try clear hcz10_7
        try clear hcz10_8
        try clear hcz10_9
        try clear hcz11_0
        try clear hcz11_1
        try clear hcz11_10
        try clear hcz11_2
        try clear hcz11_3
        try clear hcz11_4
        try clear hcz11_5
        try clear hcz11_6
        try clear hcz11_7
        try clear hcz11_8
        try clear hcz11_9
        try clear hcz16_0
        try clear hcz16_1
        try clear hcz16_10
        try clear hcz16_2
        try clear hcz16_3
        try clear hcz16_4
        try clear hcz16_5
        try clear hcz16_6
        try clear hcz16_7
        try clear hcz16_8
        try clear hcz16_9
        try clear hcz18_0
        try clear hcz18_1
        try clear hcz18_10
        try clear hcz18_2
        try clear hcz18_3
        try clear hcz18_4
        try clear hcz18_5
        try clear hcz18_6
        try clear hcz18_7
        try clear hcz18_8
        try clear hcz18_9
        try clear hcz6_0
        try clear hcz6_1
        try clear hcz6_10
        try clear hcz6_2
        try clear hcz6_3
        try clear hcz6_4
        try clear hcz6_5
        try clear hcz6_6
        try clear hcz6_7
        try clear hcz6_8
        try clear hcz6_9
        try clear hfz10_0
        try clear hfz10_1
        try clear hfz10_10
        try clear hfz10_2
        try clear hfz10_3
        try clear hfz10_4
        try clear hfz10_5
        try clear hfz10_6
        try clear hfz10_7
        try clear hfz10_8
        try clear hfz10_9
        try clear hfz11_0
        try clear hfz11_1
        try clear hfz11_10
        try clear hfz11_2
        try clear hfz11_3
        try clear hfz11_4
        try clear hfz11_5
        try clear hfz11_6
        try clear hfz11_7
        try clear hfz11_8
        try clear hfz11_9
        try clear hfz16_0
        try clear hfz16_1
        try clear hfz16_10
        try clear hfz16_2
        try clear hfz16_3
        try clear hfz16_4
        try clear hfz16_5
        try clear hfz16_6
        try clear hfz16_7
        try clear hfz16_8
        try clear hfz16_9
        try clear hfz18_0
        try clear hfz18_1
        try clear hfz18_10
        try clear hfz18_2
        try clear hfz18_3
        try clear hfz18_4
        try clear hfz18_5
        try clear hfz18_6
        try clear hfz18_7
        try clear hfz18_8
        try clear hfz18_9
        try clear hfz6_0
        try clear hfz6_1
        try clear hfz6_10
        try clear hfz6_2
        try clear hfz6_3
        try clear hfz6_4
        try clear hfz6_5
        try clear hfz6_6
        try clear hfz6_7
        try clear hfz6_8
        try clear hfz6_9
        try clear p2
        try clear p6
        obtain ⟨kq, x5_12, rfl, HA, HJ12, BK217, BK218, BK219, HB⟩ := hcut
        cases kq with
        | zero => exact absurd HA.out (by simp [lookasideref03_Good.j1])
        | succ kj12 =>
          have H := HA.out
          clear HA
          simp only [lookasideref03_Good.j1] at H
          by_cases c20 : a0_8 = true
          · subst c20
            have H1 : ((lookasideref02_Va.f kj12 a0_2).bind fun t220 => ((lookasideref02_Base.f t220 (Int.tmod x4_1 4)).bind fun t221 => ((lookasideref02_Base.f (Int.tmod a0_3 2199023255552) (Int.tmod x4_1 4)).bind fun t222 => (some ((Int.tmod x4_1 4), 0, t221, t222, a0_4, a0_5, a0_6, a0_7, true, a0_9, true))))) = some (r1, r2, r3, r4, r5, r6, r7, r8, r9, r10, r11) := by rw [if_pos rfl] at H; exact H
            clear H
            have H := H1
            clear H1
            replace H := Option.bind_eq_some_iff.mp H
            obtain ⟨t220, A210, H⟩ := H
            replace H : ((lookasideref02_Base.f t220 (Int.tmod x4_1 4)).bind fun t221 => ((lookasideref02_Base.f (Int.tmod a0_3 2199023255552) (Int.tmod x4_1 4)).bind fun t222 => (some ((Int.tmod x4_1 4), 0, t221, t222, a0_4, a0_5, a0_6, a0_7, true, a0_9, true)))) = some (r1, r2, r3, r4, r5, r6, r7, r8, r9, r10, r11) := H
            have A21 := Aside0.mk A210
            clear A210
            replace H := Option.bind_eq_some_iff.mp H
            obtain ⟨t221, A220, H⟩ := H
            replace H : ((lookasideref02_Base.f (Int.tmod a0_3 2199023255552) (Int.tmod x4_1 4)).bind fun t222 => (some ((Int.tmod x4_1 4), 0, t221, t222, a0_4, a0_5, a0_6, a0_7, true, a0_9, true))) = some (r1, r2, r3, r4, r5, r6, r7, r8, r9, r10, r11) := H
            have A22 := Aside0.mk A220
            clear A220
            replace H := Option.bind_eq_some_iff.mp H
            obtain ⟨t222, A230, H⟩ := H
            replace H : (some ((Int.tmod x4_1 4), 0, t221, t222, a0_4, a0_5, a0_6, a0_7, true, a0_9, true)) = some (r1, r2, r3, r4, r5, r6, r7, r8, r9, r10, r11) := H
            have A23 := Aside0.mk A230
            clear A230
            simp only [Option.some.injEq, Prod.mk.injEq] at H
            obtain ⟨rfl, rfl, rfl, rfl, rfl, rfl, rfl, rfl, rfl, rfl, rfl⟩ := H
            have hnb24 := NB219_217.out
            have hnc24 := NB217_219.out
            have hnb25 := NB219_218.out
            have hnc25 := NB218_219.out
            obtain ⟨hcz26_0, hcz26_1, hcz26_2, hcz26_3, hcz26_4, hcz26_5, hcz26_6, hcz26_7, hcz26_8, hcz26_9, hcz26_10⟩ := cy11_22 BK219.out
            have hfz26_0 := blk_frozen BK219.out 0
            have hfz26_1 := blk_frozen BK219.out 1
            have hfz26_2 := blk_frozen BK219.out 2
            have hfz26_3 := blk_frozen BK219.out 3
            have hfz26_4 := blk_frozen BK219.out 4
            have hfz26_5 := blk_frozen BK219.out 5
            have hfz26_6 := blk_frozen BK219.out 6
            have hfz26_7 := blk_frozen BK219.out 7
            have hfz26_8 := blk_frozen BK219.out 8
            have hfz26_9 := blk_frozen BK219.out 9
            have hfz26_10 := blk_frozen BK219.out 10
            try go_wp2
            have n0_ : Aside0 (((wc.setCell ⟨gb219, 1, none⟩ (.int .i64 (Int.tmod x5_12 8192))).setCell ⟨gb219, 1, none⟩ (.int .i64 0)).heap[gb217]? = some (.cells #[.int .i64 a0_0, .int .i64 a0_1, .int .u64 a0_2, .int .u64 a0_3, .bool a0_4, .bool a0_5, .bool a0_6, .bool a0_7, .bool true, .bool a0_9, .bool a0_10] 41 (0, 0))) := ⟨by (with_reducible repeat (first | refine blk_drewN ?_ _ | refine blk_drew ?_ | refine blk_alloc ?_ _)); refine blk_far ?_ NB217_219.out _; refine blk_far ?_ NB217_219.out _; (with_reducible repeat (first | refine blk_drewN ?_ _ | refine blk_drew ?_ | refine blk_alloc ?_ _)); exact BK217.out⟩
            have n1_ : Aside0 (((wc.setCell ⟨gb219, 1, none⟩ (.int .i64 (Int.tmod x5_12 8192))).setCell ⟨gb219, 1, none⟩ (.int .i64 0)).heap[gb218]? = some (.cells #[.int .i64 0, .int .i64 0, .int .u64 0, .int .u64 0, .bool false, .bool false, .bool false, .bool false, .bool false, .bool false, .bool false] 41 (0, 0))) := ⟨by (with_reducible repeat (first | refine blk_drewN ?_ _ | refine blk_drew ?_ | refine blk_alloc ?_ _)); refine blk_far ?_ NB218_219.out _; refine blk_far ?_ NB218_219.out _; (with_reducible repeat (first | refine blk_drewN ?_ _ | refine blk_drew ?_ | refine blk_alloc ?_ _)); exact BK218.out⟩
            have n2_ : Aside0 (((wc.setCell ⟨gb219, 1, none⟩ (.int .i64 (Int.tmod x5_12 8192))).setCell ⟨gb219, 1, none⟩ (.int .i64 0)).heap[gb219]? = some (.cells #[.int .i64 (Int.tmod x4_1 4), .int .i64 0, .int .u64 0, .int .u64 0, .bool a0_4, .bool a0_5, .bool a0_6, .bool a0_7, .bool true, .bool a0_9, .bool true] 41 (0, 0))) := ⟨by (with_reducible repeat (first | refine blk_drewN ?_ _ | refine blk_drew ?_ | refine blk_alloc ?_ _)); refine blk_put (cs := #[.int .i64 (Int.tmod x4_1 4), .int .i64 (Int.tmod x5_12 8192), .int .u64 0, .int .u64 0, .bool a0_4, .bool a0_5, .bool a0_6, .bool a0_7, .bool true, .bool a0_9, .bool true]) ?_ 1 _ rfl; refine blk_put (cs := #[.int .i64 (Int.tmod x4_1 4), .int .i64 0, .int .u64 0, .int .u64 0, .bool a0_4, .bool a0_5, .bool a0_6, .bool a0_7, .bool true, .bool a0_9, .bool true]) ?_ 1 _ rfl; (with_reducible repeat (first | refine blk_drewN ?_ _ | refine blk_drew ?_ | refine blk_alloc ?_ _)); exact BK219.out⟩
            have n3_ : Aside0 (Below w.heap.size w ((wc.setCell ⟨gb219, 1, none⟩ (.int .i64 (Int.tmod x5_12 8192))).setCell ⟨gb219, 1, none⟩ (.int .i64 0))) := ⟨by repeat (first | (with_reducible first | exact HB.out | apply below_alloc | apply pw_below_drewN | apply below_drew1 | refine below_set ?_ GE217.out | refine below_set ?_ GE218.out | refine below_set ?_ GE219.out) | exact HB.out)⟩
            (try clear BK217)
            (try clear BK218)
            (try clear BK219)
            (try clear HB)
            generalize ((wc.setCell ⟨gb219, 1, none⟩ (.int .i64 (Int.tmod x5_12 8192))).setCell ⟨gb219, 1, none⟩ (.int .i64 0)) = w27 at n0_ n1_ n2_ n3_ ⊢
            have BK217 := n0_
            have BK218 := n1_
            have BK219 := n2_
            have HB := n3_
            clear n0_ n1_ n2_ n3_
            have n0_ := Aside0.mk (blk_drew BK217.out)
            have n1_ := Aside0.mk (blk_drew BK218.out)
            have n2_ := Aside0.mk (blk_drew BK219.out)
            have n3_ := Aside0.mk (below_drew1 HB.out)
            clear BK217
            clear BK218
            clear BK219
            clear HB
            have BK217 := n0_
            have BK218 := n1_
            have BK219 := n2_
            have HB := n3_
            clear n0_ n1_ n2_ n3_
            refine start_ (n := 8) (S := fun w' => w'.cell? ⟨gb217, 0, none⟩ = some (.int .i64 a0_0) ∧ w'.cell? ⟨gb217, 1, none⟩ = some (.int .i64 a0_1) ∧ w'.cell? ⟨gb217, 2, none⟩ = some (.int .u64 a0_2) ∧ w'.cell? ⟨gb217, 3, none⟩ = some (.int .u64 a0_3) ∧ w'.cell? ⟨gb217, 4, none⟩ = some (.bool a0_4) ∧ w'.cell? ⟨gb217, 5, none⟩ = some (.bool a0_5) ∧ w'.cell? ⟨gb217, 6, none⟩ = some (.bool a0_6) ∧ w'.cell? ⟨gb217, 7, none⟩ = some (.bool a0_7) ∧ w'.cell? ⟨gb217, 8, none⟩ = some (.bool true) ∧ w'.cell? ⟨gb217, 9, none⟩ = some (.bool a0_9) ∧ w'.cell? ⟨gb217, 10, none⟩ = some (.bool a0_10) ∧ w'.cell? ⟨gb219, 0, none⟩ = some (.int .i64 (Int.tmod x4_1 4)) ∧ w'.cell? ⟨gb219, 1, none⟩ = some (.int .i64 0) ∧ w'.cell? ⟨gb219, 2, none⟩ = some (.int .u64 0) ∧ w'.cell? ⟨gb219, 3, none⟩ = some (.int .u64 0) ∧ w'.cell? ⟨gb219, 4, none⟩ = some (.bool a0_4) ∧ w'.cell? ⟨gb219, 5, none⟩ = some (.bool a0_5) ∧ w'.cell? ⟨gb219, 6, none⟩ = some (.bool a0_6) ∧ w'.cell? ⟨gb219, 7, none⟩ = some (.bool a0_7) ∧ w'.cell? ⟨gb219, 8, none⟩ = some (.bool true) ∧ w'.cell? ⟨gb219, 9, none⟩ = some (.bool a0_9) ∧ w'.cell? ⟨gb219, 10, none⟩ = some (.bool true)) (ds := [7]) #[false, false, false, false, false, false, false, false] (by kernel_rfl) rfl rfl (ca11_22 BK217.out (cz11_22 BK219.out)) (fun hHeld => ?_); refine with_tabW lookasideref03_Good.tab12 lookasideref03_Good.bits12 (fun HT_ HW_ => ?_)
            generalize w27.drew = w28 at BK217 BK218 BK219 HB hHeld ⊢
            refine pure_ (i := 0) (N := some 33) (v := ?_) (a' := ?_) #[true, false, false, false, false, false, false, false] rfl rfl (any_of HT_.out (by kernel_rfl)) (fun _ _ _ h => h) (Or.inl ⟨by rfl, ?_⟩) ?_ ?_
            rotate_left
            · intro w'
              go_simp
              with_reducible rfl
            rotate_left
            · simp only [ap_]
              rfl
            refine pure_ (i := 3) (N := some 36) (v := ?_) (a' := ?_) #[true, false, false, true, false, false, false, false] rfl rfl (any_of HT_.out (by kernel_rfl)) (fun _ _ _ h => h) (Or.inl ⟨by rfl, ?_⟩) ?_ ?_
            rotate_left
            · intro w'
              go_simp
              with_reducible rfl
            rotate_left
            · simp only [ap_]
              rfl
            refine take_ (i := 1) (N := some 34) (v := ?_) (a' := ?_) #[true, true, false, true, false, false, false, false] rfl rfl (take_ofW HT_.out HW_.out (by kernel_rfl)) (fun _ _ _ h => h) (Or.inl ⟨by rfl, ?_⟩) hHeld ?_ ?_
            rotate_left
            · rintro w' ⟨s0, s1, s2, s3, s4, s5, s6, s7, s8, s9, s10, s11, s12, s13, s14, s15, s16, s17, s18, s19, s20, s21⟩
              go_simp
              with_reducible rfl
            rotate_left
            · simp only [ap_]
              rfl
            refine take_ (i := 4) (N := some 37) (v := ?_) (a' := ?_) #[true, true, false, true, true, false, false, false] rfl rfl (take_ofW HT_.out HW_.out (by kernel_rfl)) (fun _ _ _ h => h) (Or.inl ⟨by rfl, ?_⟩) hHeld ?_ ?_
            rotate_left
            · rintro w' ⟨s0, s1, s2, s3, s4, s5, s6, s7, s8, s9, s10, s11, s12, s13, s14, s15, s16, s17, s18, s19, s20, s21⟩
              go_simp
              with_reducible rfl
            rotate_left
            · simp only [ap_]
              rfl
            refine one_ (i := 2) (N := some 35) #[true, true, true, true, true, false, false, false] rfl rfl (one_of HT_.out (by kernel_rfl)) (by decide) (fun K hK => ?_)
            refine goes_ Tryz.func59 (by kernel_rfl) rfl #[.int .u64 a0_2] (by rfl) rfl rfl (by (try simp only [List.map_toArray, List.map_cons, List.map_nil]); first | done | rfl | (simp only [List.length_drop, List.length_take]; rfl)) ?_
            with_reducible refine (lookasideref02_Va.calls kj12 a0_2 t220 _ A21.out).mono ?_
            rintro e w' ⟨rfl, ⟨nd, rfl⟩⟩
            refine ⟨_, rfl, ?_⟩
            refine hK.out _ _ (ca11_22 BK217.out (cz11_22 BK219.out)) (fun hHeld => ?_)
            clear hK K
            refine norm_ (a' := ?_) ?_ ?_
            rotate_left
            · show Act.put _ (some 35) _ = _
              simp only [ap_]
              rfl
            refine one_ (i := 5) (N := some 38) #[true, true, true, true, true, true, false, false] rfl rfl (one_of HT_.out (by kernel_rfl)) (by decide) (fun K hK => ?_)
            refine goes_ Tryz.func58 (by kernel_rfl) rfl #[.int .u64 t220, .int .i64 (Int.tmod x4_1 4)] (by rfl) rfl rfl (by (try simp only [List.map_toArray, List.map_cons, List.map_nil]); first | done | rfl | (simp only [List.length_drop, List.length_take]; rfl)) ?_
            with_reducible refine (lookasideref02_Base.calls t220 (Int.tmod x4_1 4) t221 _ A22.out).mono ?_
            rintro e w' ⟨rfl, ⟨nd, rfl⟩⟩
            refine ⟨_, rfl, ?_⟩
            refine hK.out _ _ (ca11_22 BK217.out (cz11_22 BK219.out)) (fun hHeld => ?_)
            clear hK K
            refine norm_ (a' := ?_) ?_ ?_
            rotate_left
            · show Act.put _ (some 38) _ = _
              simp only [ap_]
              rfl
            refine pure_ (i := 6) (N := some 39) (v := ?_) (a' := ?_) #[true, true, true, true, true, true, true, false] rfl rfl (any_of HT_.out (by kernel_rfl)) (fun _ _ _ h => h) (Or.inl ⟨by rfl, ?_⟩) ?_ ?_
            rotate_left
            · intro w'
              go_simp
              with_reducible rfl
            rotate_left
            · simp only [ap_]
              rfl
            refine last_ (i := 7) (N := none) #[true, true, true, true, true, true, true, true] rfl rfl (one_of HT_.out (by kernel_rfl)) (by decide) (fun K hK => ?_)
            have hs29 : w28.cell? ⟨gb219, 2, none⟩ = some (.int .u64 0) := (blk_cell BK219.out 2).trans rfl
            have hfs29 := blk_frozen BK219.out 2
            have hns29_0 := NB217_219.out
            have hns29_1 := NB218_219.out
            have hms29_0 := NB219_217.out
            have hms29_1 := NB219_218.out
            refine skip_ (w1 := ?_) (by rfl) rfl ?_ ?_
            rotate_left
            · go_simp
              rfl
            refine hK.out _ _ ?_
            clear hK K
            refine done_ (done_of HT_.out (by kernel_rfl)) ?_
            have hnb30 := NB217_218.out
            have hnc30 := NB218_217.out
            obtain ⟨hcz31_0, hcz31_1, hcz31_2, hcz31_3, hcz31_4, hcz31_5, hcz31_6, hcz31_7, hcz31_8, hcz31_9, hcz31_10⟩ := cy11_22 BK217.out
            have hfz31_0 := blk_frozen BK217.out 0
            have hfz31_1 := blk_frozen BK217.out 1
            have hfz31_2 := blk_frozen BK217.out 2
            have hfz31_3 := blk_frozen BK217.out 3
            have hfz31_4 := blk_frozen BK217.out 4
            have hfz31_5 := blk_frozen BK217.out 5
            have hfz31_6 := blk_frozen BK217.out 6
            have hfz31_7 := blk_frozen BK217.out 7
            have hfz31_8 := blk_frozen BK217.out 8
            have hfz31_9 := blk_frozen BK217.out 9
            have hfz31_10 := blk_frozen BK217.out 10
            obtain ⟨hcz32_0, hcz32_1, hcz32_2, hcz32_3, hcz32_4, hcz32_5, hcz32_6, hcz32_7, hcz32_8, hcz32_9, hcz32_10⟩ := cy11_22 BK219.out
            have hfz32_0 := blk_frozen BK219.out 0
            have hfz32_1 := blk_frozen BK219.out 1
            have hfz32_2 := blk_frozen BK219.out 2
            have hfz32_3 := blk_frozen BK219.out 3
            have hfz32_4 := blk_frozen BK219.out 4
            have hfz32_5 := blk_frozen BK219.out 5
            have hfz32_6 := blk_frozen BK219.out 6
            have hfz32_7 := blk_frozen BK219.out 7
            have hfz32_8 := blk_frozen BK219.out 8
            have hfz32_9 := blk_frozen BK219.out 9
            have hfz32_10 := blk_frozen BK219.out 10
            try go_wp2_with (((with_reducible refine gate_callee (f := 58) rfl ?_); refine goesL_ (some 45) rfl rfl Tryz.func58 (by kernel_rfl) rfl #[.int .u64 (Int.tmod a0_3 2199023255552), .int .i64 (Int.tmod x4_1 4)] rfl (by (try simp only [List.map_toArray, List.map_cons, List.map_nil]); first | done | rfl | (simp only [List.length_drop, List.length_take]; rfl)) ?_; (with_reducible refine (lookasideref02_Base.calls (Int.tmod a0_3 2199023255552) (Int.tmod x4_1 4) t222 _ A23.out).mono ?_); rintro e w' ⟨rfl, ⟨nd, rfl⟩⟩; refine ⟨_, rfl, ?_⟩; obtain ⟨hcz33_0, hcz33_1, hcz33_2, hcz33_3, hcz33_4, hcz33_5, hcz33_6, hcz33_7, hcz33_8, hcz33_9, hcz33_10⟩ := cy11_22 BK218.out; have hfz33_0 := blk_frozen BK218.out 0; have hfz33_1 := blk_frozen BK218.out 1; have hfz33_2 := blk_frozen BK218.out 2; have hfz33_3 := blk_frozen BK218.out 3; have hfz33_4 := blk_frozen BK218.out 4; have hfz33_5 := blk_frozen BK218.out 5; have hfz33_6 := blk_frozen BK218.out 6; have hfz33_7 := blk_frozen BK218.out 7; have hfz33_8 := blk_frozen BK218.out 8; have hfz33_9 := blk_frozen BK218.out 9; have hfz33_10 := blk_frozen BK218.out 10))
            refine bodyPost_ret (results_cell_row rfl _ _ gb218 41 #[.int .i64 (Int.tmod x4_1 4), .int .i64 0, .int .u64 t221, .int .u64 t222, .bool a0_4, .bool a0_5, .bool a0_6, .bool a0_7, .bool true, .bool a0_9, .bool true] (0, 0) _ rfl (by (with_reducible repeat (first | refine blk_drewN ?_ _ | refine blk_drew ?_ | refine blk_alloc ?_ _)); refine blk_put (cs := #[.int .i64 (Int.tmod x4_1 4), .int .i64 0, .int .u64 t221, .int .u64 t222, .bool a0_4, .bool a0_5, .bool a0_6, .bool a0_7, .bool true, .bool a0_9, .bool false]) ?_ 10 _ rfl; refine blk_put (cs := #[.int .i64 (Int.tmod x4_1 4), .int .i64 0, .int .u64 t221, .int .u64 t222, .bool a0_4, .bool a0_5, .bool a0_6, .bool a0_7, .bool true, .bool false, .bool false]) ?_ 9 _ rfl; refine blk_put (cs := #[.int .i64 (Int.tmod x4_1 4), .int .i64 0, .int .u64 t221, .int .u64 t222, .bool a0_4, .bool a0_5, .bool a0_6, .bool a0_7, .bool false, .bool false, .bool false]) ?_ 8 _ rfl; refine blk_put (cs := #[.int .i64 (Int.tmod x4_1 4), .int .i64 0, .int .u64 t221, .int .u64 t222, .bool a0_4, .bool a0_5, .bool a0_6, .bool false, .bool false, .bool false, .bool false]) ?_ 7 _ rfl; refine blk_put (cs := #[.int .i64 (Int.tmod x4_1 4), .int .i64 0, .int .u64 t221, .int .u64 t222, .bool a0_4, .bool a0_5, .bool false, .bool false, .bool false, .bool false, .bool false]) ?_ 6 _ rfl; refine blk_put (cs := #[.int .i64 (Int.tmod x4_1 4), .int .i64 0, .int .u64 t221, .int .u64 t222, .bool a0_4, .bool false, .bool false, .bool false, .bool false, .bool false, .bool false]) ?_ 5 _ rfl; refine blk_put (cs := #[.int .i64 (Int.tmod x4_1 4), .int .i64 0, .int .u64 t221, .int .u64 t222, .bool false, .bool false, .bool false, .bool false, .bool false, .bool false, .bool false]) ?_ 4 _ rfl; refine blk_put (cs := #[.int .i64 (Int.tmod x4_1 4), .int .i64 0, .int .u64 t221, .int .u64 0, .bool false, .bool false, .bool false, .bool false, .bool false, .bool false, .bool false]) ?_ 3 _ rfl; refine blk_put (cs := #[.int .i64 (Int.tmod x4_1 4), .int .i64 0, .int .u64 0, .int .u64 0, .bool false, .bool false, .bool false, .bool false, .bool false, .bool false, .bool false]) ?_ 2 _ rfl; refine blk_put (cs := #[.int .i64 (Int.tmod x4_1 4), .int .i64 0, .int .u64 0, .int .u64 0, .bool false, .bool false, .bool false, .bool false, .bool false, .bool false, .bool false]) ?_ 1 _ rfl; refine blk_put (cs := #[.int .i64 0, .int .i64 0, .int .u64 0, .int .u64 0, .bool false, .bool false, .bool false, .bool false, .bool false, .bool false, .bool false]) ?_ 0 _ rfl; refine blk_far ?_ NB218_219.out _; refine blk_far ?_ NB218_219.out _; (with_reducible repeat (first | refine blk_drewN ?_ _ | refine blk_drew ?_ | refine blk_alloc ?_ _)); exact BK218.out) Tryz.underlying41 rfl (by kernel_rfl)) rfl ?_
            exact ⟨by first | rfl | (simp [errW_none, errW_some] <;> rfl) | (simp [*, errW_none, errW_some] <;> rfl), by repeat (first | (with_reducible first | exact HB.out | apply below_alloc | apply pw_below_drewN | apply below_drew1 | refine below_set ?_ GE217.out | refine below_set ?_ GE218.out | refine below_set ?_ GE219.out) | exact HB.out)⟩
          · replace c20 := Bool.eq_false_iff.mpr c20
            subst c20
            have H1 : ((lookasideref02_Va.f kj12 a0_2).bind fun t223 => ((lookasideref02_Base.f t223 (Int.tmod x4_1 4)).bind fun t224 => ((lookasideref02_Base.f (Int.tmod a0_3 2199023255552) (Int.tmod x4_1 4)).bind fun t225 => (some ((Int.tmod x4_1 4), Int.tmod x5_12 8192, t224, t225, a0_4, a0_5, a0_6, a0_7, false, a0_9, true))))) = some (r1, r2, r3, r4, r5, r6, r7, r8, r9, r10, r11) := by rw [if_neg (show ¬ (false = true) by decide)] at H; exact H
            clear H
            have H := H1
            clear H1
            replace H := Option.bind_eq_some_iff.mp H
            obtain ⟨t223, A340, H⟩ := H
            replace H : ((lookasideref02_Base.f t223 (Int.tmod x4_1 4)).bind fun t224 => ((lookasideref02_Base.f (Int.tmod a0_3 2199023255552) (Int.tmod x4_1 4)).bind fun t225 => (some ((Int.tmod x4_1 4), Int.tmod x5_12 8192, t224, t225, a0_4, a0_5, a0_6, a0_7, false, a0_9, true)))) = some (r1, r2, r3, r4, r5, r6, r7, r8, r9, r10, r11) := H
            have A34 := Aside0.mk A340
            clear A340
            replace H := Option.bind_eq_some_iff.mp H
            obtain ⟨t224, A350, H⟩ := H
            replace H : ((lookasideref02_Base.f (Int.tmod a0_3 2199023255552) (Int.tmod x4_1 4)).bind fun t225 => (some ((Int.tmod x4_1 4), Int.tmod x5_12 8192, t224, t225, a0_4, a0_5, a0_6, a0_7, false, a0_9, true))) = some (r1, r2, r3, r4, r5, r6, r7, r8, r9, r10, r11) := H
            have A35 := Aside0.mk A350
            clear A350
            replace H := Option.bind_eq_some_iff.mp H
            obtain ⟨t225, A360, H⟩ := H
            replace H : (some ((Int.tmod x4_1 4), Int.tmod x5_12 8192, t224, t225, a0_4, a0_5, a0_6, a0_7, false, a0_9, true)) = some (r1, r2, r3, r4, r5, r6, r7, r8, r9, r10, r11) := H
            have A36 := Aside0.mk A360
            clear A360
            simp only [Option.some.injEq, Prod.mk.injEq] at H
            obtain ⟨rfl, rfl, rfl, rfl, rfl, rfl, rfl, rfl, rfl, rfl, rfl⟩ := H
            have hnb37 := NB219_217.out
            have hnc37 := NB217_219.out
            have hnb38 := NB219_218.out
            have hnc38 := NB218_219.out
            obtain ⟨hcz39_0, hcz39_1, hcz39_2, hcz39_3, hcz39_4, hcz39_5, hcz39_6, hcz39_7, hcz39_8, hcz39_9, hcz39_10⟩ := cy11_22 BK219.out
            have hfz39_0 := blk_frozen BK219.out 0
            have hfz39_1 := blk_frozen BK219.out 1
            have hfz39_2 := blk_frozen BK219.out 2
            have hfz39_3 := blk_frozen BK219.out 3
            have hfz39_4 := blk_frozen BK219.out 4
            have hfz39_5 := blk_frozen BK219.out 5
            have hfz39_6 := blk_frozen BK219.out 6
            have hfz39_7 := blk_frozen BK219.out 7
            have hfz39_8 := blk_frozen BK219.out 8
            have hfz39_9 := blk_frozen BK219.out 9
            have hfz39_10 := blk_frozen BK219.out 10
            try go_wp2
            have n0_ : Aside0 ((wc.setCell ⟨gb219, 1, none⟩ (.int .i64 (Int.tmod x5_12 8192))).heap[gb217]? = some (.cells #[.int .i64 a0_0, .int .i64 a0_1, .int .u64 a0_2, .int .u64 a0_3, .bool a0_4, .bool a0_5, .bool a0_6, .bool a0_7, .bool false, .bool a0_9, .bool a0_10] 41 (0, 0))) := ⟨by (with_reducible repeat (first | refine blk_drewN ?_ _ | refine blk_drew ?_ | refine blk_alloc ?_ _)); refine blk_far ?_ NB217_219.out _; (with_reducible repeat (first | refine blk_drewN ?_ _ | refine blk_drew ?_ | refine blk_alloc ?_ _)); exact BK217.out⟩
            have n1_ : Aside0 ((wc.setCell ⟨gb219, 1, none⟩ (.int .i64 (Int.tmod x5_12 8192))).heap[gb218]? = some (.cells #[.int .i64 0, .int .i64 0, .int .u64 0, .int .u64 0, .bool false, .bool false, .bool false, .bool false, .bool false, .bool false, .bool false] 41 (0, 0))) := ⟨by (with_reducible repeat (first | refine blk_drewN ?_ _ | refine blk_drew ?_ | refine blk_alloc ?_ _)); refine blk_far ?_ NB218_219.out _; (with_reducible repeat (first | refine blk_drewN ?_ _ | refine blk_drew ?_ | refine blk_alloc ?_ _)); exact BK218.out⟩
            have n2_ : Aside0 ((wc.setCell ⟨gb219, 1, none⟩ (.int .i64 (Int.tmod x5_12 8192))).heap[gb219]? = some (.cells #[.int .i64 (Int.tmod x4_1 4), .int .i64 (Int.tmod x5_12 8192), .int .u64 0, .int .u64 0, .bool a0_4, .bool a0_5, .bool a0_6, .bool a0_7, .bool false, .bool a0_9, .bool true] 41 (0, 0))) := ⟨by (with_reducible repeat (first | refine blk_drewN ?_ _ | refine blk_drew ?_ | refine blk_alloc ?_ _)); refine blk_put (cs := #[.int .i64 (Int.tmod x4_1 4), .int .i64 0, .int .u64 0, .int .u64 0, .bool a0_4, .bool a0_5, .bool a0_6, .bool a0_7, .bool false, .bool a0_9, .bool true]) ?_ 1 _ rfl; (with_reducible repeat (first | refine blk_drewN ?_ _ | refine blk_drew ?_ | refine blk_alloc ?_ _)); exact BK219.out⟩
            have n3_ : Aside0 (Below w.heap.size w (wc.setCell ⟨gb219, 1, none⟩ (.int .i64 (Int.tmod x5_12 8192)))) := ⟨by repeat (first | (with_reducible first | exact HB.out | apply below_alloc | apply pw_below_drewN | apply below_drew1 | refine below_set ?_ GE217.out | refine below_set ?_ GE218.out | refine below_set ?_ GE219.out) | exact HB.out)⟩
            (try clear BK217)
            (try clear BK218)
            (try clear BK219)
            (try clear HB)
            generalize (wc.setCell ⟨gb219, 1, none⟩ (.int .i64 (Int.tmod x5_12 8192))) = w40 at n0_ n1_ n2_ n3_ ⊢
            have BK217 := n0_
            have BK218 := n1_
            have BK219 := n2_
            have HB := n3_
            clear n0_ n1_ n2_ n3_
            have n0_ := Aside0.mk (blk_drew BK217.out)
            have n1_ := Aside0.mk (blk_drew BK218.out)
            have n2_ := Aside0.mk (blk_drew BK219.out)
            have n3_ := Aside0.mk (below_drew1 HB.out)
            clear BK217
            clear BK218
            clear BK219
            clear HB
            have BK217 := n0_
            have BK218 := n1_
            have BK219 := n2_
            have HB := n3_
            clear n0_ n1_ n2_ n3_
            refine start_ (n := 8) (S := fun w' => w'.cell? ⟨gb217, 0, none⟩ = some (.int .i64 a0_0) ∧ w'.cell? ⟨gb217, 1, none⟩ = some (.int .i64 a0_1) ∧ w'.cell? ⟨gb217, 2, none⟩ = some (.int .u64 a0_2) ∧ w'.cell? ⟨gb217, 3, none⟩ = some (.int .u64 a0_3) ∧ w'.cell? ⟨gb217, 4, none⟩ = some (.bool a0_4) ∧ w'.cell? ⟨gb217, 5, none⟩ = some (.bool a0_5) ∧ w'.cell? ⟨gb217, 6, none⟩ = some (.bool a0_6) ∧ w'.cell? ⟨gb217, 7, none⟩ = some (.bool a0_7) ∧ w'.cell? ⟨gb217, 8, none⟩ = some (.bool false) ∧ w'.cell? ⟨gb217, 9, none⟩ = some (.bool a0_9) ∧ w'.cell? ⟨gb217, 10, none⟩ = some (.bool a0_10) ∧ w'.cell? ⟨gb219, 0, none⟩ = some (.int .i64 (Int.tmod x4_1 4)) ∧ w'.cell? ⟨gb219, 1, none⟩ = some (.int .i64 (Int.tmod x5_12 8192)) ∧ w'.cell? ⟨gb219, 2, none⟩ = some (.int .u64 0) ∧ w'.cell? ⟨gb219, 3, none⟩ = some (.int .u64 0) ∧ w'.cell? ⟨gb219, 4, none⟩ = some (.bool a0_4) ∧ w'.cell? ⟨gb219, 5, none⟩ = some (.bool a0_5) ∧ w'.cell? ⟨gb219, 6, none⟩ = some (.bool a0_6) ∧ w'.cell? ⟨gb219, 7, none⟩ = some (.bool a0_7) ∧ w'.cell? ⟨gb219, 8, none⟩ = some (.bool false) ∧ w'.cell? ⟨gb219, 9, none⟩ = some (.bool a0_9) ∧ w'.cell? ⟨gb219, 10, none⟩ = some (.bool true)) (ds := [7]) #[false, false, false, false, false, false, false, false] (by kernel_rfl) rfl rfl (ca11_22 BK217.out (cz11_22 BK219.out)) (fun hHeld => ?_); refine with_tabW lookasideref03_Good.tab12 lookasideref03_Good.bits12 (fun HT_ HW_ => ?_)
            generalize w40.drew = w41 at BK217 BK218 BK219 HB hHeld ⊢
            refine pure_ (i := 0) (N := some 33) (v := ?_) (a' := ?_) #[true, false, false, false, false, false, false, false] rfl rfl (any_of HT_.out (by kernel_rfl)) (fun _ _ _ h => h) (Or.inl ⟨by rfl, ?_⟩) ?_ ?_
            rotate_left
            · intro w'
              go_simp
              with_reducible rfl
            rotate_left
            · simp only [ap_]
              rfl
            refine pure_ (i := 3) (N := some 36) (v := ?_) (a' := ?_) #[true, false, false, true, false, false, false, false] rfl rfl (any_of HT_.out (by kernel_rfl)) (fun _ _ _ h => h) (Or.inl ⟨by rfl, ?_⟩) ?_ ?_
            rotate_left
            · intro w'
              go_simp
              with_reducible rfl
            rotate_left
            · simp only [ap_]
              rfl
            refine take_ (i := 1) (N := some 34) (v := ?_) (a' := ?_) #[true, true, false, true, false, false, false, false] rfl rfl (take_ofW HT_.out HW_.out (by kernel_rfl)) (fun _ _ _ h => h) (Or.inl ⟨by rfl, ?_⟩) hHeld ?_ ?_
            rotate_left
            · rintro w' ⟨s0, s1, s2, s3, s4, s5, s6, s7, s8, s9, s10, s11, s12, s13, s14, s15, s16, s17, s18, s19, s20, s21⟩
              go_simp
              with_reducible rfl
            rotate_left
            · simp only [ap_]
              rfl
            refine take_ (i := 4) (N := some 37) (v := ?_) (a' := ?_) #[true, true, false, true, true, false, false, false] rfl rfl (take_ofW HT_.out HW_.out (by kernel_rfl)) (fun _ _ _ h => h) (Or.inl ⟨by rfl, ?_⟩) hHeld ?_ ?_
            rotate_left
            · rintro w' ⟨s0, s1, s2, s3, s4, s5, s6, s7, s8, s9, s10, s11, s12, s13, s14, s15, s16, s17, s18, s19, s20, s21⟩
              go_simp
              with_reducible rfl
            rotate_left
            · simp only [ap_]
              rfl
            refine one_ (i := 2) (N := some 35) #[true, true, true, true, true, false, false, false] rfl rfl (one_of HT_.out (by kernel_rfl)) (by decide) (fun K hK => ?_)
            refine goes_ Tryz.func59 (by kernel_rfl) rfl #[.int .u64 a0_2] (by rfl) rfl rfl (by (try simp only [List.map_toArray, List.map_cons, List.map_nil]); first | done | rfl | (simp only [List.length_drop, List.length_take]; rfl)) ?_
            with_reducible refine (lookasideref02_Va.calls kj12 a0_2 t223 _ A34.out).mono ?_
            rintro e w' ⟨rfl, ⟨nd, rfl⟩⟩
            refine ⟨_, rfl, ?_⟩
            refine hK.out _ _ (ca11_22 BK217.out (cz11_22 BK219.out)) (fun hHeld => ?_)
            clear hK K
            refine norm_ (a' := ?_) ?_ ?_
            rotate_left
            · show Act.put _ (some 35) _ = _
              simp only [ap_]
              rfl
            refine one_ (i := 5) (N := some 38) #[true, true, true, true, true, true, false, false] rfl rfl (one_of HT_.out (by kernel_rfl)) (by decide) (fun K hK => ?_)
            refine goes_ Tryz.func58 (by kernel_rfl) rfl #[.int .u64 t223, .int .i64 (Int.tmod x4_1 4)] (by rfl) rfl rfl (by (try simp only [List.map_toArray, List.map_cons, List.map_nil]); first | done | rfl | (simp only [List.length_drop, List.length_take]; rfl)) ?_
            with_reducible refine (lookasideref02_Base.calls t223 (Int.tmod x4_1 4) t224 _ A35.out).mono ?_
            rintro e w' ⟨rfl, ⟨nd, rfl⟩⟩
            refine ⟨_, rfl, ?_⟩
            refine hK.out _ _ (ca11_22 BK217.out (cz11_22 BK219.out)) (fun hHeld => ?_)
            clear hK K
            refine norm_ (a' := ?_) ?_ ?_
            rotate_left
            · show Act.put _ (some 38) _ = _
              simp only [ap_]
              rfl
            refine pure_ (i := 6) (N := some 39) (v := ?_) (a' := ?_) #[true, true, true, true, true, true, true, false] rfl rfl (any_of HT_.out (by kernel_rfl)) (fun _ _ _ h => h) (Or.inl ⟨by rfl, ?_⟩) ?_ ?_
            rotate_left
            · intro w'
              go_simp
              with_reducible rfl
            rotate_left
            · simp only [ap_]
              rfl
            refine last_ (i := 7) (N := none) #[true, true, true, true, true, true, true, true] rfl rfl (one_of HT_.out (by kernel_rfl)) (by decide) (fun K hK => ?_)
            have hs42 : w41.cell? ⟨gb219, 2, none⟩ = some (.int .u64 0) := (blk_cell BK219.out 2).trans rfl
            have hfs42 := blk_frozen BK219.out 2
            have hns42_0 := NB217_219.out
            have hns42_1 := NB218_219.out
            have hms42_0 := NB219_217.out
            have hms42_1 := NB219_218.out
            refine skip_ (w1 := ?_) (by rfl) rfl ?_ ?_
            rotate_left
            · go_simp
              rfl
            refine hK.out _ _ ?_
            clear hK K
            refine done_ (done_of HT_.out (by kernel_rfl)) ?_
            have hnb43 := NB217_218.out
            have hnc43 := NB218_217.out
            obtain ⟨hcz44_0, hcz44_1, hcz44_2, hcz44_3, hcz44_4, hcz44_5, hcz44_6, hcz44_7, hcz44_8, hcz44_9, hcz44_10⟩ := cy11_22 BK217.out
            have hfz44_0 := blk_frozen BK217.out 0
            have hfz44_1 := blk_frozen BK217.out 1
            have hfz44_2 := blk_frozen BK217.out 2
            have hfz44_3 := blk_frozen BK217.out 3
            have hfz44_4 := blk_frozen BK217.out 4
            have hfz44_5 := blk_frozen BK217.out 5
            have hfz44_6 := blk_frozen BK217.out 6
            have hfz44_7 := blk_frozen BK217.out 7
            have hfz44_8 := blk_frozen BK217.out 8
            have hfz44_9 := blk_frozen BK217.out 9
            have hfz44_10 := blk_frozen BK217.out 10
            obtain ⟨hcz45_0, hcz45_1, hcz45_2, hcz45_3, hcz45_4, hcz45_5, hcz45_6, hcz45_7, hcz45_8, hcz45_9, hcz45_10⟩ := cy11_22 BK219.out
            have hfz45_0 := blk_frozen BK219.out 0
            have hfz45_1 := blk_frozen BK219.out 1
            have hfz45_2 := blk_frozen BK219.out 2
            have hfz45_3 := blk_frozen BK219.out 3
            have hfz45_4 := blk_frozen BK219.out 4
            have hfz45_5 := blk_frozen BK219.out 5
            have hfz45_6 := blk_frozen BK219.out 6
            have hfz45_7 := blk_frozen BK219.out 7
            have hfz45_8 := blk_frozen BK219.out 8
            have hfz45_9 := blk_frozen BK219.out 9
            have hfz45_10 := blk_frozen BK219.out 10
            try go_wp2_with (((with_reducible refine gate_callee (f := 58) rfl ?_); refine goesL_ (some 45) rfl rfl Tryz.func58 (by kernel_rfl) rfl #[.int .u64 (Int.tmod a0_3 2199023255552), .int .i64 (Int.tmod x4_1 4)] rfl (by (try simp only [List.map_toArray, List.map_cons, List.map_nil]); first | done | rfl | (simp only [List.length_drop, List.length_take]; rfl)) ?_; (with_reducible refine (lookasideref02_Base.calls (Int.tmod a0_3 2199023255552) (Int.tmod x4_1 4) t225 _ A36.out).mono ?_); rintro e w' ⟨rfl, ⟨nd, rfl⟩⟩; refine ⟨_, rfl, ?_⟩; obtain ⟨hcz46_0, hcz46_1, hcz46_2, hcz46_3, hcz46_4, hcz46_5, hcz46_6, hcz46_7, hcz46_8, hcz46_9, hcz46_10⟩ := cy11_22 BK218.out; have hfz46_0 := blk_frozen BK218.out 0; have hfz46_1 := blk_frozen BK218.out 1; have hfz46_2 := blk_frozen BK218.out 2; have hfz46_3 := blk_frozen BK218.out 3; have hfz46_4 := blk_frozen BK218.out 4; have hfz46_5 := blk_frozen BK218.out 5; have hfz46_6 := blk_frozen BK218.out 6; have hfz46_7 := blk_frozen BK218.out 7; have hfz46_8 := blk_frozen BK218.out 8; have hfz46_9 := blk_frozen BK218.out 9; have hfz46_10 := blk_frozen BK218.out 10))
            refine bodyPost_ret (results_cell_row rfl _ _ gb218 41 #[.int .i64 (Int.tmod x4_1 4), .int .i64 (Int.tmod x5_12 8192), .int .u64 t224, .int .u64 t225, .bool a0_4, .bool a0_5, .bool a0_6, .bool a0_7, .bool false, .bool a0_9, .bool true] (0, 0) _ rfl (by (with_reducible repeat (first | refine blk_drewN ?_ _ | refine blk_drew ?_ | refine blk_alloc ?_ _)); refine blk_put (cs := #[.int .i64 (Int.tmod x4_1 4), .int .i64 (Int.tmod x5_12 8192), .int .u64 t224, .int .u64 t225, .bool a0_4, .bool a0_5, .bool a0_6, .bool a0_7, .bool false, .bool a0_9, .bool false]) ?_ 10 _ rfl; refine blk_put (cs := #[.int .i64 (Int.tmod x4_1 4), .int .i64 (Int.tmod x5_12 8192), .int .u64 t224, .int .u64 t225, .bool a0_4, .bool a0_5, .bool a0_6, .bool a0_7, .bool false, .bool false, .bool false]) ?_ 9 _ rfl; refine blk_put (cs := #[.int .i64 (Int.tmod x4_1 4), .int .i64 (Int.tmod x5_12 8192), .int .u64 t224, .int .u64 t225, .bool a0_4, .bool a0_5, .bool a0_6, .bool a0_7, .bool false, .bool false, .bool false]) ?_ 8 _ rfl; refine blk_put (cs := #[.int .i64 (Int.tmod x4_1 4), .int .i64 (Int.tmod x5_12 8192), .int .u64 t224, .int .u64 t225, .bool a0_4, .bool a0_5, .bool a0_6, .bool false, .bool false, .bool false, .bool false]) ?_ 7 _ rfl; refine blk_put (cs := #[.int .i64 (Int.tmod x4_1 4), .int .i64 (Int.tmod x5_12 8192), .int .u64 t224, .int .u64 t225, .bool a0_4, .bool a0_5, .bool false, .bool false, .bool false, .bool false, .bool false]) ?_ 6 _ rfl; refine blk_put (cs := #[.int .i64 (Int.tmod x4_1 4), .int .i64 (Int.tmod x5_12 8192), .int .u64 t224, .int .u64 t225, .bool a0_4, .bool false, .bool false, .bool false, .bool false, .bool false, .bool false]) ?_ 5 _ rfl; refine blk_put (cs := #[.int .i64 (Int.tmod x4_1 4), .int .i64 (Int.tmod x5_12 8192), .int .u64 t224, .int .u64 t225, .bool false, .bool false, .bool false, .bool false, .bool false, .bool false, .bool false]) ?_ 4 _ rfl; refine blk_put (cs := #[.int .i64 (Int.tmod x4_1 4), .int .i64 (Int.tmod x5_12 8192), .int .u64 t224, .int .u64 0, .bool false, .bool false, .bool false, .bool false, .bool false, .bool false, .bool false]) ?_ 3 _ rfl; refine blk_put (cs := #[.int .i64 (Int.tmod x4_1 4), .int .i64 (Int.tmod x5_12 8192), .int .u64 0, .int .u64 0, .bool false, .bool false, .bool false, .bool false, .bool false, .bool false, .bool false]) ?_ 2 _ rfl; refine blk_put (cs := #[.int .i64 (Int.tmod x4_1 4), .int .i64 0, .int .u64 0, .int .u64 0, .bool false, .bool false, .bool false, .bool false, .bool false, .bool false, .bool false]) ?_ 1 _ rfl; refine blk_put (cs := #[.int .i64 0, .int .i64 0, .int .u64 0, .int .u64 0, .bool false, .bool false, .bool false, .bool false, .bool false, .bool false, .bool false]) ?_ 0 _ rfl; refine blk_far ?_ NB218_219.out _; refine blk_far ?_ NB218_219.out _; (with_reducible repeat (first | refine blk_drewN ?_ _ | refine blk_drew ?_ | refine blk_alloc ?_ _)); exact BK218.out) Tryz.underlying41 rfl (by kernel_rfl)) rfl ?_
            exact ⟨by first | rfl | (simp [errW_none, errW_some] <;> rfl) | (simp [*, errW_none, errW_some] <;> rfl), by repeat (first | (with_reducible first | exact HB.out | apply below_alloc | apply pw_below_drewN | apply below_drew1 | refine below_set ?_ GE217.out | refine below_set ?_ GE218.out | refine below_set ?_ GE219.out) | exact HB.out)⟩
end Go.Proofs.YtjnffegjpkbjmaaGreat.QTsbPlays
