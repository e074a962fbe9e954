-- Printed by a program of this session (wip/print/myprint.py) out of the translation; Lean checks it.
import Derived.Test.YtecbngibhobgbaaQTteFramesx0
import Derived.Test.YtecbngibhobgbaaQTteFramesx1
import Derived.Test.YtecbngibhobgbaaQTteFramesx2
import Derived.Test.YtecbngibhobgbaaQTteFramesx4
namespace Go.Proofs.Ytecbngibhobgbaa.QTteFrames
open Go.RowKit Go.Proofs.YtecbngibhobgbaaW.PrintWords Go.Proofs.YtecbngibhobgbaaW.PrintLast Go.Proofs.YtecbngibhobgbaaW.PrintMore
attribute [local go_sem] max2_int min2_int max_two min_two max_three min_three max_four min_four   -- for this text's walks alone
set_option linter.unusedVariables false
set_option linter.unusedSimpArgs false

/-! ### lookasidelaw03_TteFrames: function 7 -/
def lookasidelaw03_TteFrames.f (k : Nat) (a0_0 : Int) (a0_1 : Int) (a0_2 : Int) (a0_3 : Int) (a0_4 : Bool) (a0_5 : Bool) (a0_6 : Bool) (a0_7 : Bool) (a0_8 : Bool) (a0_9 : Bool) (a0_10 : Bool) (a1 : Int) (a2 : Int) : Option (Bool) := (lookasideref03_Good.f k a0_0 a0_1 a0_2 a0_3 a0_4 a0_5 a0_6 a0_7 a0_8 a0_9 a0_10).bind fun bt152 => ((lookasideref02_Bytes.f bt152.1).bind fun t164 => (if t164 = 0 then (none) else ((tte_Frame.f bt152.1 bt152.2.1 bt152.2.2.1 bt152.2.2.2.1 bt152.2.2.2.2.1 bt152.2.2.2.2.2.1 bt152.2.2.2.2.2.2.1 bt152.2.2.2.2.2.2.2.1 bt152.2.2.2.2.2.2.2.2.1 bt152.2.2.2.2.2.2.2.2.2.1 bt152.2.2.2.2.2.2.2.2.2.2 (IntKind.u64.wrap (bt152.2.2.1 + (Int.tmod a1 t164)))).bind fun bt165 => ((tte_Frame.f bt152.1 bt152.2.1 bt152.2.2.1 bt152.2.2.2.1 bt152.2.2.2.2.1 bt152.2.2.2.2.2.1 bt152.2.2.2.2.2.2.1 bt152.2.2.2.2.2.2.2.1 bt152.2.2.2.2.2.2.2.2.1 bt152.2.2.2.2.2.2.2.2.2.1 bt152.2.2.2.2.2.2.2.2.2.2 (IntKind.u64.wrap (bt152.2.2.1 + (Int.tmod a2 t164)))).bind fun bt167 => ((tte_Frame.f bt152.1 bt152.2.1 bt152.2.2.1 bt152.2.2.2.1 bt152.2.2.2.2.1 bt152.2.2.2.2.2.1 bt152.2.2.2.2.2.2.1 bt152.2.2.2.2.2.2.2.1 bt152.2.2.2.2.2.2.2.2.1 bt152.2.2.2.2.2.2.2.2.2.1 bt152.2.2.2.2.2.2.2.2.2.2 (IntKind.u64.wrap (bt152.2.2.1 + t164))).bind fun bt169 => ((tte_Frame.f bt152.1 bt152.2.1 bt152.2.2.1 bt152.2.2.2.1 bt152.2.2.2.2.1 bt152.2.2.2.2.2.1 bt152.2.2.2.2.2.2.1 bt152.2.2.2.2.2.2.2.1 bt152.2.2.2.2.2.2.2.2.1 bt152.2.2.2.2.2.2.2.2.2.1 bt152.2.2.2.2.2.2.2.2.2.2 (IntKind.u64.wrap (bt152.2.2.1 - 1))).bind fun bt171 => (if bt165.2 = true then (if bt167.2 = true then (if bt169.2 = true then (some false) else (if bt171.2 = true then (some false) else (if bt165.1 = (IntKind.u64.wrap (bt152.2.2.2.1 + (Int.tmod a1 t164))) then (if (IntKind.u64.wrap (bt167.1 - bt165.1)) = (IntKind.u64.wrap ((Int.tmod a2 t164) - (Int.tmod a1 t164))) then ((lookasidelaw03_lives.f k).bind fun t173 => (some t173)) else (some false)) else (some false)))) else (some false)) else (some false))))))))
theorem lookasidelaw03_TteFrames.mono : ∀ a0 a1 a2 a3 a4 a5 a6 a7 a8 a9 a10 a11 a12 k, LeO (lookasidelaw03_TteFrames.f k a0 a1 a2 a3 a4 a5 a6 a7 a8 a9 a10 a11 a12) (lookasidelaw03_TteFrames.f (k + 1) a0 a1 a2 a3 a4 a5 a6 a7 a8 a9 a10 a11 a12) := by
  intro a0 a1 a2 a3 a4 a5 a6 a7 a8 a9 a10 a11 a12 k
  unfold lookasidelaw03_TteFrames.f
  repeat' first
      | (with_reducible exact lookasidelaw03_lives.mono _)
      | (with_reducible exact lookasideref03_Good.mono _ _ _ _ _ _ _ _ _ _ _ _)
      | (with_reducible exact LeO.refl _)
      | (with_reducible exact LeO.none _)
      | (with_reducible refine LeO.ite ?_ ?_)
      | (with_reducible refine LeO.bind ?_ (fun _ => ?_))
      | exact lookasidelaw03_lives.mono _
      | exact lookasideref03_Good.mono _ _ _ _ _ _ _ _ _ _ _ _
      | exact LeO.none _
      | refine LeO.ite ?_ ?_
      | refine LeO.bind ?_ (fun _ => ?_)
def lookasidelaw03_TteFrames.T3 : Bool × List (List Nat × List Nat) := (true, [([], []), ([], []), ([1], [1]), ([], []), ([], []), ([3, 4], [3, 4]), ([2, 5], [2, 5]), ([0, 6], [0, 6]), ([7], [7]), ([8], [8]), ([8], [8]), ([9, 7, 0, 1, 2, 3, 4, 5, 6, 7, 8, 9], [9]), ([10, 11, 0, 1, 2, 3, 4, 5, 6, 7, 8, 9, 10, 11], [10])])
def lookasidelaw03_TteFrames.B3 : List Nat := [0, 0, 2, 0, 0, 24, 62, 127, 255, 511, 511, 1023, 4095]
theorem lookasidelaw03_TteFrames.tab3 : rtab .any (opsOf Try.f7 3) = lookasidelaw03_TteFrames.T3 := by kernel_rfl
theorem lookasidelaw03_TteFrames.bits3 : waitsOk lookasidelaw03_TteFrames.T3.2 lookasidelaw03_TteFrames.B3 = true := by kernel_rfl
def lookasidelaw03_TteFrames.T4 : Bool × List (List Nat × List Nat) := (true, [([], []), ([], []), ([1], [1]), ([], []), ([], []), ([3, 4], [3, 4]), ([2, 5], [2, 5]), ([0, 6], [0, 6]), ([7], [7]), ([8], [8]), ([8], [8]), ([9, 7, 0, 1, 2, 3, 4, 5, 6, 7, 8, 9], [9]), ([10, 11, 0, 1, 2, 3, 4, 5, 6, 7, 8, 9, 10, 11], [10])])
def lookasidelaw03_TteFrames.B4 : List Nat := [0, 0, 2, 0, 0, 24, 62, 127, 255, 511, 511, 1023, 4095]
theorem lookasidelaw03_TteFrames.tab4 : rtab .any (opsOf Try.f7 4) = lookasidelaw03_TteFrames.T4 := by kernel_rfl
theorem lookasidelaw03_TteFrames.bits4 : waitsOk lookasidelaw03_TteFrames.T4.2 lookasidelaw03_TteFrames.B4 = true := by kernel_rfl
def lookasidelaw03_TteFrames.T7 : Bool × List (List Nat × List Nat) := (true, [([], []), ([0], [0]), ([1], [1]), ([1, 2], [1, 2]), ([3, 1], [3]), ([4], [4]), ([5, 4], [4, 5]), ([4, 6], [4, 6]), ([7, 4], [7]), ([8], [8]), ([9, 8], [8, 9]), ([8, 10], [8, 10]), ([11, 8], [11]), ([12], [12]), ([12], [12]), ([14, 12], [12, 14]), ([12], [12]), ([12], [12]), ([16, 17, 12], [12, 16, 17]), ([15, 18, 12], [12, 15, 18]), ([13, 19, 12], [12, 13, 19]), ([12, 20], [12, 20]), ([21, 12], [21]), ([22], [22]), ([22], [22]), ([23, 24, 22], [22, 23, 24]), ([22], [22]), ([22], [22]), ([26, 27, 22], [22, 26, 27]), ([22], [22]), ([22], [22]), ([29, 30, 22], [22, 29, 30]), ([28, 31, 22], [22, 28, 31]), ([25, 32, 22], [22, 25, 32]), ([22, 33], [22, 33]), ([34, 22], [34]), ([35, 35], [35]), ([35, 36], [35, 36]), ([37, 36, 0, 1, 2, 3, 4, 5, 6, 7, 8, 9, 10, 11, 12, 13, 14, 15, 16, 17, 18, 19, 20, 21, 22, 23, 24, 25, 26, 27, 28, 29, 30, 31, 32, 33, 34, 35, 36, 37], [37])])
def lookasidelaw03_TteFrames.B7 : List Nat := [0, 1, 3, 7, 15, 31, 63, 127, 255, 511, 1023, 2047, 4095, 8191, 8191, 24575, 8191, 8191, 204799, 516095, 1048575, 2097151, 4194303, 8388607, 8388607, 33554431, 8388607, 8388607, 209715199, 8388607, 8388607, 1619001343, 4236247039, 8589934591, 17179869183, 34359738367, 68719476735, 137438953471, 274877906943]
theorem lookasidelaw03_TteFrames.tab7 : rtab .any (opsOf Try.f7 7) = lookasidelaw03_TteFrames.T7 := by kernel_rfl
theorem lookasidelaw03_TteFrames.bits7 : waitsOk lookasidelaw03_TteFrames.T7.2 lookasidelaw03_TteFrames.B7 = true := by kernel_rfl
set_option maxHeartbeats 8000000 in
set_option maxRecDepth 100000 in
theorem lookasidelaw03_TteFrames.calls (k : Nat) (a0_0 : Int) (a0_1 : Int) (a0_2 : Int) (a0_3 : Int) (a0_4 : Bool) (a0_5 : Bool) (a0_6 : Bool) (a0_7 : Bool) (a0_8 : Bool) (a0_9 : Bool) (a0_10 : Bool) (a1 : Int) (a2 : Int) (r : Bool) (w : World) (h : lookasidelaw03_TteFrames.f k a0_0 a0_1 a0_2 a0_3 a0_4 a0_5 a0_6 a0_7 a0_8 a0_9 a0_10 a1 a2 = some r) (hr0_ : r = true) :
    Calls Try.prog 7 #[.agg #[.int .i64 a0_0, .int .i64 a0_1, .int .u64 a0_2, .int .u64 a0_3, .bool a0_4, .bool a0_5, .bool a0_6, .bool a0_7, .bool a0_8, .bool a0_9, .bool a0_10], .int .u64 a1, .int .u64 a2] w fun e w' => e = .returned (.bool r) ∧ Below w.heap.size w w' := by
  have hu26 := Try.underlying26
  have HB := Aside0.mk (Below.refl w.heap.size w)
  have H : ((lookasideref03_Good.f k a0_0 a0_1 a0_2 a0_3 a0_4 a0_5 a0_6 a0_7 a0_8 a0_9 a0_10).bind fun bt152 => ((lookasideref02_Bytes.f bt152.1).bind fun t164 => (if t164 = 0 then (none) else ((tte_Frame.f bt152.1 bt152.2.1 bt152.2.2.1 bt152.2.2.2.1 bt152.2.2.2.2.1 bt152.2.2.2.2.2.1 bt152.2.2.2.2.2.2.1 bt152.2.2.2.2.2.2.2.1 bt152.2.2.2.2.2.2.2.2.1 bt152.2.2.2.2.2.2.2.2.2.1 bt152.2.2.2.2.2.2.2.2.2.2 (IntKind.u64.wrap (bt152.2.2.1 + (Int.tmod a1 t164)))).bind fun bt165 => ((tte_Frame.f bt152.1 bt152.2.1 bt152.2.2.1 bt152.2.2.2.1 bt152.2.2.2.2.1 bt152.2.2.2.2.2.1 bt152.2.2.2.2.2.2.1 bt152.2.2.2.2.2.2.2.1 bt152.2.2.2.2.2.2.2.2.1 bt152.2.2.2.2.2.2.2.2.2.1 bt152.2.2.2.2.2.2.2.2.2.2 (IntKind.u64.wrap (bt152.2.2.1 + (Int.tmod a2 t164)))).bind fun bt167 => ((tte_Frame.f bt152.1 bt152.2.1 bt152.2.2.1 bt152.2.2.2.1 bt152.2.2.2.2.1 bt152.2.2.2.2.2.1 bt152.2.2.2.2.2.2.1 bt152.2.2.2.2.2.2.2.1 bt152.2.2.2.2.2.2.2.2.1 bt152.2.2.2.2.2.2.2.2.2.1 bt152.2.2.2.2.2.2.2.2.2.2 (IntKind.u64.wrap (bt152.2.2.1 + t164))).bind fun bt169 => ((tte_Frame.f bt152.1 bt152.2.1 bt152.2.2.1 bt152.2.2.2.1 bt152.2.2.2.2.1 bt152.2.2.2.2.2.1 bt152.2.2.2.2.2.2.1 bt152.2.2.2.2.2.2.2.1 bt152.2.2.2.2.2.2.2.2.1 bt152.2.2.2.2.2.2.2.2.2.1 bt152.2.2.2.2.2.2.2.2.2.2 (IntKind.u64.wrap (bt152.2.2.1 - 1))).bind fun bt171 => (if bt165.2 = true then (if bt167.2 = true then (if bt169.2 = true then (some false) else (if bt171.2 = true then (some false) else (if bt165.1 = (IntKind.u64.wrap (bt152.2.2.2.1 + (Int.tmod a1 t164))) then (if (IntKind.u64.wrap (bt167.1 - bt165.1)) = (IntKind.u64.wrap ((Int.tmod a2 t164) - (Int.tmod a1 t164))) then ((lookasidelaw03_lives.f k).bind fun t173 => (some t173)) else (some false)) else (some false)))) else (some false)) else (some false))))))))) = some r := h
  clear h
  have hr_ := Aside0.mk hr0_
  clear hr0_
  replace H := Option.bind_eq_some_iff.mp H
  obtain ⟨⟨t152, t153, t154, t155, t156, t157, t158, t159, t160, t161, t162⟩, A40, H⟩ := H
  replace H : ((lookasideref02_Bytes.f t152).bind fun t164 => (if t164 = 0 then (none) else ((tte_Frame.f t152 t153 t154 t155 t156 t157 t158 t159 t160 t161 t162 (IntKind.u64.wrap (t154 + (Int.tmod a1 t164)))).bind fun bt165 => ((tte_Frame.f t152 t153 t154 t155 t156 t157 t158 t159 t160 t161 t162 (IntKind.u64.wrap (t154 + (Int.tmod a2 t164)))).bind fun bt167 => ((tte_Frame.f t152 t153 t154 t155 t156 t157 t158 t159 t160 t161 t162 (IntKind.u64.wrap (t154 + t164))).bind fun bt169 => ((tte_Frame.f t152 t153 t154 t155 t156 t157 t158 t159 t160 t161 t162 (IntKind.u64.wrap (t154 - 1))).bind fun bt171 => (if bt165.2 = true then (if bt167.2 = true then (if bt169.2 = true then (some false) else (if bt171.2 = true then (some false) else (if bt165.1 = (IntKind.u64.wrap (t155 + (Int.tmod a1 t164))) then (if (IntKind.u64.wrap (bt167.1 - bt165.1)) = (IntKind.u64.wrap ((Int.tmod a2 t164) - (Int.tmod a1 t164))) then ((lookasidelaw03_lives.f k).bind fun t173 => (some t173)) else (some false)) else (some false)))) else (some false)) else (some false)))))))) = some r := H
  have A4 := Aside0.mk A40
  clear A40
  replace H := Option.bind_eq_some_iff.mp H
  obtain ⟨t164, A50, H⟩ := H
  replace H : (if t164 = 0 then (none) else ((tte_Frame.f t152 t153 t154 t155 t156 t157 t158 t159 t160 t161 t162 (IntKind.u64.wrap (t154 + (Int.tmod a1 t164)))).bind fun bt165 => ((tte_Frame.f t152 t153 t154 t155 t156 t157 t158 t159 t160 t161 t162 (IntKind.u64.wrap (t154 + (Int.tmod a2 t164)))).bind fun bt167 => ((tte_Frame.f t152 t153 t154 t155 t156 t157 t158 t159 t160 t161 t162 (IntKind.u64.wrap (t154 + t164))).bind fun bt169 => ((tte_Frame.f t152 t153 t154 t155 t156 t157 t158 t159 t160 t161 t162 (IntKind.u64.wrap (t154 - 1))).bind fun bt171 => (if bt165.2 = true then (if bt167.2 = true then (if bt169.2 = true then (some false) else (if bt171.2 = true then (some false) else (if bt165.1 = (IntKind.u64.wrap (t155 + (Int.tmod a1 t164))) then (if (IntKind.u64.wrap (bt167.1 - bt165.1)) = (IntKind.u64.wrap ((Int.tmod a2 t164) - (Int.tmod a1 t164))) then ((lookasidelaw03_lives.f k).bind fun t173 => (some t173)) else (some false)) else (some false)))) else (some false)) else (some false))))))) = some r := H
  have A5 := Aside0.mk A50
  clear A50
  by_cases c6 : t164 = 0
  · rw [if_pos c6] at H
    exact absurd H (by simp)
  · rw [if_neg c6] at H
    have c6b0 : (t164 == 0) = false := beq_eq_false_iff_ne.mpr c6
    have c6b1 : (t164 != 0) = true := bne_iff_ne.mpr c6
    replace H := Option.bind_eq_some_iff.mp H
    obtain ⟨⟨t165, t166⟩, A70, H⟩ := H
    replace H : ((tte_Frame.f t152 t153 t154 t155 t156 t157 t158 t159 t160 t161 t162 (IntKind.u64.wrap (t154 + (Int.tmod a2 t164)))).bind fun bt167 => ((tte_Frame.f t152 t153 t154 t155 t156 t157 t158 t159 t160 t161 t162 (IntKind.u64.wrap (t154 + t164))).bind fun bt169 => ((tte_Frame.f t152 t153 t154 t155 t156 t157 t158 t159 t160 t161 t162 (IntKind.u64.wrap (t154 - 1))).bind fun bt171 => (if t166 = true then (if bt167.2 = true then (if bt169.2 = true then (some false) else (if bt171.2 = true then (some false) else (if t165 = (IntKind.u64.wrap (t155 + (Int.tmod a1 t164))) then (if (IntKind.u64.wrap (bt167.1 - t165)) = (IntKind.u64.wrap ((Int.tmod a2 t164) - (Int.tmod a1 t164))) then ((lookasidelaw03_lives.f k).bind fun t173 => (some t173)) else (some false)) else (some false)))) else (some false)) else (some false))))) = some r := H
    have A7 := Aside0.mk A70
    clear A70
    replace H := Option.bind_eq_some_iff.mp H
    obtain ⟨⟨t167, t168⟩, A80, H⟩ := H
    replace H : ((tte_Frame.f t152 t153 t154 t155 t156 t157 t158 t159 t160 t161 t162 (IntKind.u64.wrap (t154 + t164))).bind fun bt169 => ((tte_Frame.f t152 t153 t154 t155 t156 t157 t158 t159 t160 t161 t162 (IntKind.u64.wrap (t154 - 1))).bind fun bt171 => (if t166 = true then (if t168 = true then (if bt169.2 = true then (some false) else (if bt171.2 = true then (some false) else (if t165 = (IntKind.u64.wrap (t155 + (Int.tmod a1 t164))) then (if (IntKind.u64.wrap (t167 - t165)) = (IntKind.u64.wrap ((Int.tmod a2 t164) - (Int.tmod a1 t164))) then ((lookasidelaw03_lives.f k).bind fun t173 => (some t173)) else (some false)) else (some false)))) else (some false)) else (some false)))) = some r := H
    have A8 := Aside0.mk A80
    clear A80
    replace H := Option.bind_eq_some_iff.mp H
    obtain ⟨⟨t169, t170⟩, A90, H⟩ := H
    replace H : ((tte_Frame.f t152 t153 t154 t155 t156 t157 t158 t159 t160 t161 t162 (IntKind.u64.wrap (t154 - 1))).bind fun bt171 => (if t166 = true then (if t168 = true then (if t170 = true then (some false) else (if bt171.2 = true then (some false) else (if t165 = (IntKind.u64.wrap (t155 + (Int.tmod a1 t164))) then (if (IntKind.u64.wrap (t167 - t165)) = (IntKind.u64.wrap ((Int.tmod a2 t164) - (Int.tmod a1 t164))) then ((lookasidelaw03_lives.f k).bind fun t173 => (some t173)) else (some false)) else (some false)))) else (some false)) else (some false))) = some r := H
    have A9 := Aside0.mk A90
    clear A90
    replace H := Option.bind_eq_some_iff.mp H
    obtain ⟨⟨t171, t172⟩, A100, H⟩ := H
    replace H : (if t166 = true then (if t168 = true then (if t170 = true then (some false) else (if t172 = true then (some false) else (if t165 = (IntKind.u64.wrap (t155 + (Int.tmod a1 t164))) then (if (IntKind.u64.wrap (t167 - t165)) = (IntKind.u64.wrap ((Int.tmod a2 t164) - (Int.tmod a1 t164))) then ((lookasidelaw03_lives.f k).bind fun t173 => (some t173)) else (some false)) else (some false)))) else (some false)) else (some false)) = some r := H
    have A10 := Aside0.mk A100
    clear A100
    by_cases c11 : t166 = true
    · subst c11
      have H1 : (if t168 = true then (if t170 = true then (some false) else (if t172 = true then (some false) else (if t165 = (IntKind.u64.wrap (t155 + (Int.tmod a1 t164))) then (if (IntKind.u64.wrap (t167 - t165)) = (IntKind.u64.wrap ((Int.tmod a2 t164) - (Int.tmod a1 t164))) then ((lookasidelaw03_lives.f k).bind fun t173 => (some t173)) else (some false)) else (some false)))) else (some false)) = some r := by rw [if_pos rfl] at H; exact H
      clear H
      have H := H1
      clear H1
      by_cases c12 : t168 = true
      · subst c12
        have H1 : (if t170 = true then (some false) else (if t172 = true then (some false) else (if t165 = (IntKind.u64.wrap (t155 + (Int.tmod a1 t164))) then (if (IntKind.u64.wrap (t167 - t165)) = (IntKind.u64.wrap ((Int.tmod a2 t164) - (Int.tmod a1 t164))) then ((lookasidelaw03_lives.f k).bind fun t173 => (some t173)) else (some false)) else (some false)))) = some r := by rw [if_pos rfl] at H; exact H
        clear H
        have H := H1
        clear H1
        by_cases c13 : t170 = true
        · subst c13
          have H1 : (some false) = some r := by rw [if_pos rfl] at H; exact H
          clear H
          have H := H1
          clear H1
          exact absurd ((Option.some.inj H).trans hr_.out) (by decide)
        · replace c13 := Bool.eq_false_iff.mpr c13
          subst c13
          have H1 : (if t172 = true then (some false) else (if t165 = (IntKind.u64.wrap (t155 + (Int.tmod a1 t164))) then (if (IntKind.u64.wrap (t167 - t165)) = (IntKind.u64.wrap ((Int.tmod a2 t164) - (Int.tmod a1 t164))) then ((lookasidelaw03_lives.f k).bind fun t173 => (some t173)) else (some false)) else (some false))) = some r := by rw [if_neg (show ¬ (false = true) by decide)] at H; exact H
          clear H
          have H := H1
          clear H1
          by_cases c14 : t172 = true
          · subst c14
            have H1 : (some false) = some r := by rw [if_pos rfl] at H; exact H
            clear H
            have H := H1
            clear H1
            exact absurd ((Option.some.inj H).trans hr_.out) (by decide)
          · replace c14 := Bool.eq_false_iff.mpr c14
            subst c14
            have H1 : (if t165 = (IntKind.u64.wrap (t155 + (Int.tmod a1 t164))) then (if (IntKind.u64.wrap (t167 - t165)) = (IntKind.u64.wrap ((Int.tmod a2 t164) - (Int.tmod a1 t164))) then ((lookasidelaw03_lives.f k).bind fun t173 => (some t173)) else (some false)) else (some false)) = some r := by rw [if_neg (show ¬ (false = true) by decide)] at H; exact H
            clear H
            have H := H1
            clear H1
            by_cases c15 : t165 = (IntKind.u64.wrap (t155 + (Int.tmod a1 t164)))
            · rw [if_pos c15] at H
              have c15b0 : (t165 == (IntKind.u64.wrap (t155 + (Int.tmod a1 t164)))) = true := beq_iff_eq.mpr c15
              have c15b1 : (t165 != (IntKind.u64.wrap (t155 + (Int.tmod a1 t164)))) = false := bne_eq_false_iff_eq.mpr c15
              clear c15
              by_cases c16 : (IntKind.u64.wrap (t167 - t165)) = (IntKind.u64.wrap ((Int.tmod a2 t164) - (Int.tmod a1 t164)))
              · rw [if_pos c16] at H
                have c16b0 : ((IntKind.u64.wrap (t167 - t165)) == (IntKind.u64.wrap ((Int.tmod a2 t164) - (Int.tmod a1 t164)))) = true := beq_iff_eq.mpr c16
                have c16b1 : ((IntKind.u64.wrap (t167 - t165)) != (IntKind.u64.wrap ((Int.tmod a2 t164) - (Int.tmod a1 t164)))) = false := bne_eq_false_iff_eq.mpr c16
                clear c16
                replace H := Option.bind_eq_some_iff.mp H
                obtain ⟨t173, A170, H⟩ := H
                replace H : (some t173) = some r := H
                have A17 := Aside0.mk A170
                clear A170
                obtain rfl := Option.some.inj H
                go_enter Try.func7, Try.ntmps7
                try go_wp2_with (first | ((with_reducible refine gate_dst (N := 3) rfl ?_); refine box_event ?hg (N := 3) ?hd (cs := #[.int .i64 a0_0, .int .i64 a0_1, .int .u64 a0_2, .int .u64 a0_3, .bool a0_4, .bool a0_5, .bool a0_6, .bool a0_7, .bool a0_8, .bool a0_9, .bool a0_10]) (t := 26) ?hr ?_; (case hd => rfl); (case hg => rfl); (case hr => first | (go_simp; done) | (go_simp; rfl)); intro gb151 hg w18 hbox hb; have n0_ := Aside0.mk (below_step (by repeat (first | (with_reducible first | exact HB.out | apply below_alloc | apply pw_below_drewN | apply below_drew1) | exact HB.out)) hb); have n1_ := Aside0.mk (hbox); have n2_ := Aside0.mk ((by rw [hg]; exact (below_size (by repeat (first | (with_reducible first | exact HB.out | apply below_alloc | apply pw_below_drewN | apply below_drew1) | exact HB.out))) : w.heap.size ≤ gb151)); have n3_ := Aside0.mk ((by rw [hg]; exact (below_size (by repeat (first | (with_reducible first | exact HB.out | apply below_alloc | apply pw_below_drewN | apply below_drew1) | exact HB.out))) : w.heap.size ≤ gb151)); clear HB; have HB := n0_; have BK151 := n1_; have GW151 := n2_; have GE151 := n3_; clear n0_ n1_ n2_ n3_; clear hb hbox hg; have hcz19_0 : w18.cell? ⟨gb151, 0, none⟩ = some (.int .i64 a0_0) := (blk_cell BK151.out 0).trans rfl; have hcz19_1 : w18.cell? ⟨gb151, 1, none⟩ = some (.int .i64 a0_1) := (blk_cell BK151.out 1).trans rfl; have hcz19_2 : w18.cell? ⟨gb151, 2, none⟩ = some (.int .u64 a0_2) := (blk_cell BK151.out 2).trans rfl; have hcz19_3 : w18.cell? ⟨gb151, 3, none⟩ = some (.int .u64 a0_3) := (blk_cell BK151.out 3).trans rfl; have hcz19_4 : w18.cell? ⟨gb151, 4, none⟩ = some (.bool a0_4) := (blk_cell BK151.out 4).trans rfl; have hcz19_5 : w18.cell? ⟨gb151, 5, none⟩ = some (.bool a0_5) := (blk_cell BK151.out 5).trans rfl; have hcz19_6 : w18.cell? ⟨gb151, 6, none⟩ = some (.bool a0_6) := (blk_cell BK151.out 6).trans rfl; have hcz19_7 : w18.cell? ⟨gb151, 7, none⟩ = some (.bool a0_7) := (blk_cell BK151.out 7).trans rfl; have hcz19_8 : w18.cell? ⟨gb151, 8, none⟩ = some (.bool a0_8) := (blk_cell BK151.out 8).trans rfl; have hcz19_9 : w18.cell? ⟨gb151, 9, none⟩ = some (.bool a0_9) := (blk_cell BK151.out 9).trans rfl; have hcz19_10 : w18.cell? ⟨gb151, 10, none⟩ = some (.bool a0_10) := (blk_cell BK151.out 10).trans rfl; have hfz19_0 := blk_frozen BK151.out 0; have hfz19_1 := blk_frozen BK151.out 1; have hfz19_2 := blk_frozen BK151.out 2; have hfz19_3 := blk_frozen BK151.out 3; have hfz19_4 := blk_frozen BK151.out 4; have hfz19_5 := blk_frozen BK151.out 5; have hfz19_6 := blk_frozen BK151.out 6; have hfz19_7 := blk_frozen BK151.out 7; have hfz19_8 := blk_frozen BK151.out 8; have hfz19_9 := blk_frozen BK151.out 9; have hfz19_10 := blk_frozen BK151.out 10) | ((with_reducible refine gate_callee (f := 13) rfl ?_); refine goesL_ (some 18) rfl rfl Try.func13 (by kernel_rfl) rfl #[.agg #[.int .i64 a0_0, .int .i64 a0_1, .int .u64 a0_2, .int .u64 a0_3, .bool a0_4, .bool a0_5, .bool a0_6, .bool a0_7, .bool a0_8, .bool a0_9, .bool a0_10]] rfl (by (try simp only [List.map_toArray, List.map_cons, List.map_nil]); first | done | rfl | (simp only [List.length_drop, List.length_take]; rfl)) ?_; (with_reducible refine (lookasideref03_Good.calls k a0_0 a0_1 a0_2 a0_3 a0_4 a0_5 a0_6 a0_7 a0_8 a0_9 a0_10 t152 t153 t154 t155 t156 t157 t158 t159 t160 t161 t162 _ A4.out).mono ?_); rintro e w20 ⟨rfl, hb⟩; refine ⟨_, rfl, ?_⟩; have n0_ := Aside0.mk (blk_below (g := gb151) (o := .cells #[.int .i64 a0_0, .int .i64 a0_1, .int .u64 a0_2, .int .u64 a0_3, .bool a0_4, .bool a0_5, .bool a0_6, .bool a0_7, .bool a0_8, .bool a0_9, .bool a0_10] 26 (0, 0)) (by (with_reducible repeat (first | refine blk_drewN ?_ _ | refine blk_drew ?_ | refine blk_alloc ?_ _)); exact BK151.out) hb); have n1_ := Aside0.mk (below_step (by repeat (first | (with_reducible first | exact HB.out | apply below_alloc | apply pw_below_drewN | apply below_drew1 | refine below_set ?_ GE151.out) | exact HB.out)) hb); clear BK151; clear HB; have BK151 := n0_; have HB := n1_; clear n0_ n1_; (try clear hb); (try clear hb2); (try clear hk); (try clear hi)) | ((with_reducible refine gate_dst (N := 7) rfl ?_); refine box_event ?hg (N := 7) ?hd (cs := #[.int .i64 0, .int .i64 0, .int .u64 0, .int .u64 0, .bool false, .bool false, .bool false, .bool false, .bool false, .bool false, .bool false]) (t := 26) ?hr ?_; (case hd => rfl); (case hg => rfl); (case hr => first | (go_simp; done) | (go_simp; rfl)); intro gb163 hg w21 hbox hb; have n0_ := Aside0.mk (blk_below (g := gb151) (o := .cells #[.int .i64 a0_0, .int .i64 a0_1, .int .u64 a0_2, .int .u64 a0_3, .bool a0_4, .bool a0_5, .bool a0_6, .bool a0_7, .bool a0_8, .bool a0_9, .bool a0_10] 26 (0, 0)) (by (with_reducible repeat (first | refine blk_drewN ?_ _ | refine blk_drew ?_ | refine blk_alloc ?_ _)); exact BK151.out) hb); have n1_ := Aside0.mk (below_step (by repeat (first | (with_reducible first | exact HB.out | apply below_alloc | apply pw_below_drewN | apply below_drew1 | refine below_set ?_ GE151.out) | exact HB.out)) hb); have n2_ := Aside0.mk (hbox); have n3_ := Aside0.mk ((by rw [hg]; exact (below_size (by repeat (first | (with_reducible first | exact HB.out | apply below_alloc | apply pw_below_drewN | apply below_drew1 | refine below_set ?_ GE151.out) | exact HB.out))) : w.heap.size ≤ gb163)); have n4_ := Aside0.mk ((by rw [hg]; exact (below_size (by repeat (first | (with_reducible first | exact HB.out | apply below_alloc | apply pw_below_drewN | apply below_drew1 | refine below_set ?_ GE151.out) | exact HB.out))) : w.heap.size ≤ gb163)); have n5_ := Aside0.mk ((by rw [hg]; exact Nat.ne_of_lt (blk_lt (g := gb151) (o := .cells #[.int .i64 a0_0, .int .i64 a0_1, .int .u64 a0_2, .int .u64 a0_3, .bool a0_4, .bool a0_5, .bool a0_6, .bool a0_7, .bool a0_8, .bool a0_9, .bool a0_10] 26 (0, 0)) (by (with_reducible repeat (first | refine blk_drewN ?_ _ | refine blk_drew ?_ | refine blk_alloc ?_ _)); exact BK151.out)) : gb151 ≠ gb163)); have n6_ := Aside0.mk ((by rw [hg]; exact Nat.ne_of_gt (blk_lt (g := gb151) (o := .cells #[.int .i64 a0_0, .int .i64 a0_1, .int .u64 a0_2, .int .u64 a0_3, .bool a0_4, .bool a0_5, .bool a0_6, .bool a0_7, .bool a0_8, .bool a0_9, .bool a0_10] 26 (0, 0)) (by (with_reducible repeat (first | refine blk_drewN ?_ _ | refine blk_drew ?_ | refine blk_alloc ?_ _)); exact BK151.out)) : gb163 ≠ gb151)); clear BK151; clear HB; have BK151 := n0_; have HB := n1_; have BK163 := n2_; have GW163 := n3_; have GE163 := n4_; have NB151_163 := n5_; have NB163_151 := n6_; clear n0_ n1_ n2_ n3_ n4_ n5_ n6_; clear hb hbox hg; have hnb22 := NB163_151.out; have hnc22 := NB151_163.out; have hcz23_0 : w21.cell? ⟨gb163, 0, none⟩ = some (.int .i64 0) := (blk_cell BK163.out 0).trans rfl; have hcz23_1 : w21.cell? ⟨gb163, 1, none⟩ = some (.int .i64 0) := (blk_cell BK163.out 1).trans rfl; have hcz23_2 : w21.cell? ⟨gb163, 2, none⟩ = some (.int .u64 0) := (blk_cell BK163.out 2).trans rfl; have hcz23_3 : w21.cell? ⟨gb163, 3, none⟩ = some (.int .u64 0) := (blk_cell BK163.out 3).trans rfl; have hcz23_4 : w21.cell? ⟨gb163, 4, none⟩ = some (.bool false) := (blk_cell BK163.out 4).trans rfl; have hcz23_5 : w21.cell? ⟨gb163, 5, none⟩ = some (.bool false) := (blk_cell BK163.out 5).trans rfl; have hcz23_6 : w21.cell? ⟨gb163, 6, none⟩ = some (.bool false) := (blk_cell BK163.out 6).trans rfl; have hcz23_7 : w21.cell? ⟨gb163, 7, none⟩ = some (.bool false) := (blk_cell BK163.out 7).trans rfl; have hcz23_8 : w21.cell? ⟨gb163, 8, none⟩ = some (.bool false) := (blk_cell BK163.out 8).trans rfl; have hcz23_9 : w21.cell? ⟨gb163, 9, none⟩ = some (.bool false) := (blk_cell BK163.out 9).trans rfl; have hcz23_10 : w21.cell? ⟨gb163, 10, none⟩ = some (.bool false) := (blk_cell BK163.out 10).trans rfl; have hfz23_0 := blk_frozen BK163.out 0; have hfz23_1 := blk_frozen BK163.out 1; have hfz23_2 := blk_frozen BK163.out 2; have hfz23_3 := blk_frozen BK163.out 3; have hfz23_4 := blk_frozen BK163.out 4; have hfz23_5 := blk_frozen BK163.out 5; have hfz23_6 := blk_frozen BK163.out 6; have hfz23_7 := blk_frozen BK163.out 7; have hfz23_8 := blk_frozen BK163.out 8; have hfz23_9 := blk_frozen BK163.out 9; have hfz23_10 := blk_frozen BK163.out 10) | ((with_reducible refine gate_callee (f := 27) rfl ?_); refine goesL_ (some 21) rfl rfl Try.func27 (by kernel_rfl) rfl #[.int .i64 t152] rfl (by (try simp only [List.map_toArray, List.map_cons, List.map_nil]); first | done | rfl | (simp only [List.length_drop, List.length_take]; rfl)) ?_; (with_reducible refine (lookasideref02_Bytes.calls t152 t164 _ A5.out).mono ?_); rintro e w' ⟨rfl, ⟨nd, rfl⟩⟩; refine ⟨_, rfl, ?_⟩))
                have n0_ : Aside0 ((((((((((((w21.setCell ⟨gb163, 0, none⟩ (.int .i64 t152)).setCell ⟨gb163, 1, none⟩ (.int .i64 t153)).setCell ⟨gb163, 2, none⟩ (.int .u64 t154)).setCell ⟨gb163, 3, none⟩ (.int .u64 t155)).setCell ⟨gb163, 4, none⟩ (.bool t156)).setCell ⟨gb163, 5, none⟩ (.bool t157)).setCell ⟨gb163, 6, none⟩ (.bool t158)).setCell ⟨gb163, 7, none⟩ (.bool t159)).setCell ⟨gb163, 8, none⟩ (.bool t160)).setCell ⟨gb163, 9, none⟩ (.bool t161)).setCell ⟨gb163, 10, none⟩ (.bool t162)).heap[gb151]? = some (.cells #[.int .i64 a0_0, .int .i64 a0_1, .int .u64 a0_2, .int .u64 a0_3, .bool a0_4, .bool a0_5, .bool a0_6, .bool a0_7, .bool a0_8, .bool a0_9, .bool a0_10] 26 (0, 0))) := ⟨by (with_reducible repeat (first | refine blk_drewN ?_ _ | refine blk_drew ?_ | refine blk_alloc ?_ _)); refine blk_far ?_ NB151_163.out _; (with_reducible repeat (first | refine blk_drewN ?_ _ | refine blk_drew ?_ | refine blk_alloc ?_ _)); refine blk_far ?_ NB151_163.out _; (with_reducible repeat (first | refine blk_drewN ?_ _ | refine blk_drew ?_ | refine blk_alloc ?_ _)); refine blk_far ?_ NB151_163.out _; (with_reducible repeat (first | refine blk_drewN ?_ _ | refine blk_drew ?_ | refine blk_alloc ?_ _)); refine blk_far ?_ NB151_163.out _; (with_reducible repeat (first | refine blk_drewN ?_ _ | refine blk_drew ?_ | refine blk_alloc ?_ _)); refine blk_far ?_ NB151_163.out _; (with_reducible repeat (first | refine blk_drewN ?_ _ | refine blk_drew ?_ | refine blk_alloc ?_ _)); refine blk_far ?_ NB151_163.out _; (with_reducible repeat (first | refine blk_drewN ?_ _ | refine blk_drew ?_ | refine blk_alloc ?_ _)); refine blk_far ?_ NB151_163.out _; (with_reducible repeat (first | refine blk_drewN ?_ _ | refine blk_drew ?_ | refine blk_alloc ?_ _)); refine blk_far ?_ NB151_163.out _; (with_reducible repeat (first | refine blk_drewN ?_ _ | refine blk_drew ?_ | refine blk_alloc ?_ _)); refine blk_far ?_ NB151_163.out _; (with_reducible repeat (first | refine blk_drewN ?_ _ | refine blk_drew ?_ | refine blk_alloc ?_ _)); refine blk_far ?_ NB151_163.out _; (with_reducible repeat (first | refine blk_drewN ?_ _ | refine blk_drew ?_ | refine blk_alloc ?_ _)); refine blk_far ?_ NB151_163.out _; (with_reducible repeat (first | refine blk_drewN ?_ _ | refine blk_drew ?_ | refine blk_alloc ?_ _)); exact BK151.out⟩
                have n1_ : Aside0 ((((((((((((w21.setCell ⟨gb163, 0, none⟩ (.int .i64 t152)).setCell ⟨gb163, 1, none⟩ (.int .i64 t153)).setCell ⟨gb163, 2, none⟩ (.int .u64 t154)).setCell ⟨gb163, 3, none⟩ (.int .u64 t155)).setCell ⟨gb163, 4, none⟩ (.bool t156)).setCell ⟨gb163, 5, none⟩ (.bool t157)).setCell ⟨gb163, 6, none⟩ (.bool t158)).setCell ⟨gb163, 7, none⟩ (.bool t159)).setCell ⟨gb163, 8, none⟩ (.bool t160)).setCell ⟨gb163, 9, none⟩ (.bool t161)).setCell ⟨gb163, 10, none⟩ (.bool t162)).heap[gb163]? = some (.cells #[.int .i64 t152, .int .i64 t153, .int .u64 t154, .int .u64 t155, .bool t156, .bool t157, .bool t158, .bool t159, .bool t160, .bool t161, .bool t162] 26 (0, 0))) := ⟨by (with_reducible repeat (first | refine blk_drewN ?_ _ | refine blk_drew ?_ | refine blk_alloc ?_ _)); refine blk_put (cs := #[.int .i64 t152, .int .i64 t153, .int .u64 t154, .int .u64 t155, .bool t156, .bool t157, .bool t158, .bool t159, .bool t160, .bool t161, .bool false]) ?_ 10 _ rfl; (with_reducible repeat (first | refine blk_drewN ?_ _ | refine blk_drew ?_ | refine blk_alloc ?_ _)); refine blk_put (cs := #[.int .i64 t152, .int .i64 t153, .int .u64 t154, .int .u64 t155, .bool t156, .bool t157, .bool t158, .bool t159, .bool t160, .bool false, .bool false]) ?_ 9 _ rfl; (with_reducible repeat (first | refine blk_drewN ?_ _ | refine blk_drew ?_ | refine blk_alloc ?_ _)); refine blk_put (cs := #[.int .i64 t152, .int .i64 t153, .int .u64 t154, .int .u64 t155, .bool t156, .bool t157, .bool t158, .bool t159, .bool false, .bool false, .bool false]) ?_ 8 _ rfl; (with_reducible repeat (first | refine blk_drewN ?_ _ | refine blk_drew ?_ | refine blk_alloc ?_ _)); refine blk_put (cs := #[.int .i64 t152, .int .i64 t153, .int .u64 t154, .int .u64 t155, .bool t156, .bool t157, .bool t158, .bool false, .bool false, .bool false, .bool false]) ?_ 7 _ rfl; (with_reducible repeat (first | refine blk_drewN ?_ _ | refine blk_drew ?_ | refine blk_alloc ?_ _)); refine blk_put (cs := #[.int .i64 t152, .int .i64 t153, .int .u64 t154, .int .u64 t155, .bool t156, .bool t157, .bool false, .bool false, .bool false, .bool false, .bool false]) ?_ 6 _ rfl; (with_reducible repeat (first | refine blk_drewN ?_ _ | refine blk_drew ?_ | refine blk_alloc ?_ _)); refine blk_put (cs := #[.int .i64 t152, .int .i64 t153, .int .u64 t154, .int .u64 t155, .bool t156, .bool false, .bool false, .bool false, .bool false, .bool false, .bool false]) ?_ 5 _ rfl; (with_reducible repeat (first | refine blk_drewN ?_ _ | refine blk_drew ?_ | refine blk_alloc ?_ _)); refine blk_put (cs := #[.int .i64 t152, .int .i64 t153, .int .u64 t154, .int .u64 t155, .bool false, .bool false, .bool false, .bool false, .bool false, .bool false, .bool false]) ?_ 4 _ rfl; (with_reducible repeat (first | refine blk_drewN ?_ _ | refine blk_drew ?_ | refine blk_alloc ?_ _)); refine blk_put (cs := #[.int .i64 t152, .int .i64 t153, .int .u64 t154, .int .u64 0, .bool false, .bool false, .bool false, .bool false, .bool false, .bool false, .bool false]) ?_ 3 _ rfl; (with_reducible repeat (first | refine blk_drewN ?_ _ | refine blk_drew ?_ | refine blk_alloc ?_ _)); refine blk_put (cs := #[.int .i64 t152, .int .i64 t153, .int .u64 0, .int .u64 0, .bool false, .bool false, .bool false, .bool false, .bool false, .bool false, .bool false]) ?_ 2 _ rfl; (with_reducible repeat (first | refine blk_drewN ?_ _ | refine blk_drew ?_ | refine blk_alloc ?_ _)); refine blk_put (cs := #[.int .i64 t152, .int .i64 0, .int .u64 0, .int .u64 0, .bool false, .bool false, .bool false, .bool false, .bool false, .bool false, .bool false]) ?_ 1 _ rfl; (with_reducible repeat (first | refine blk_drewN ?_ _ | refine blk_drew ?_ | refine blk_alloc ?_ _)); refine blk_put (cs := #[.int .i64 0, .int .i64 0, .int .u64 0, .int .u64 0, .bool false, .bool false, .bool false, .bool false, .bool false, .bool false, .bool false]) ?_ 0 _ rfl; (with_reducible repeat (first | refine blk_drewN ?_ _ | refine blk_drew ?_ | refine blk_alloc ?_ _)); exact BK163.out⟩
                have n2_ : Aside0 (Below w.heap.size w (((((((((((w21.setCell ⟨gb163, 0, none⟩ (.int .i64 t152)).setCell ⟨gb163, 1, none⟩ (.int .i64 t153)).setCell ⟨gb163, 2, none⟩ (.int .u64 t154)).setCell ⟨gb163, 3, none⟩ (.int .u64 t155)).setCell ⟨gb163, 4, none⟩ (.bool t156)).setCell ⟨gb163, 5, none⟩ (.bool t157)).setCell ⟨gb163, 6, none⟩ (.bool t158)).setCell ⟨gb163, 7, none⟩ (.bool t159)).setCell ⟨gb163, 8, none⟩ (.bool t160)).setCell ⟨gb163, 9, none⟩ (.bool t161)).setCell ⟨gb163, 10, none⟩ (.bool t162))) := ⟨by repeat (first | (with_reducible first | exact HB.out | apply below_alloc | apply pw_below_drewN | apply below_drew1 | refine below_set ?_ GE151.out | refine below_set ?_ GE163.out) | exact HB.out)⟩
                (try clear BK151)
                (try clear BK163)
                (try clear HB)
                generalize (((((((((((w21.setCell ⟨gb163, 0, none⟩ (.int .i64 t152)).setCell ⟨gb163, 1, none⟩ (.int .i64 t153)).setCell ⟨gb163, 2, none⟩ (.int .u64 t154)).setCell ⟨gb163, 3, none⟩ (.int .u64 t155)).setCell ⟨gb163, 4, none⟩ (.bool t156)).setCell ⟨gb163, 5, none⟩ (.bool t157)).setCell ⟨gb163, 6, none⟩ (.bool t158)).setCell ⟨gb163, 7, none⟩ (.bool t159)).setCell ⟨gb163, 8, none⟩ (.bool t160)).setCell ⟨gb163, 9, none⟩ (.bool t161)).setCell ⟨gb163, 10, none⟩ (.bool t162)) = w24 at n0_ n1_ n2_ ⊢
                have BK151 := n0_
                have BK163 := n1_
                have HB := n2_
                clear n0_ n1_ n2_
                (try (rw [drewN_self w24]; generalize hq_ : World.drewN w24 _ = w24; have n0_ : Aside0 (w24.heap[gb151]? = some (.cells #[.int .i64 a0_0, .int .i64 a0_1, .int .u64 a0_2, .int .u64 a0_3, .bool a0_4, .bool a0_5, .bool a0_6, .bool a0_7, .bool a0_8, .bool a0_9, .bool a0_10] 26 (0, 0))) := ⟨by rw [← hq_]; exact (by (with_reducible repeat (first | refine blk_drewN ?_ _ | refine blk_drew ?_ | refine blk_alloc ?_ _)); exact BK151.out)⟩; have n1_ : Aside0 (w24.heap[gb163]? = some (.cells #[.int .i64 t152, .int .i64 t153, .int .u64 t154, .int .u64 t155, .bool t156, .bool t157, .bool t158, .bool t159, .bool t160, .bool t161, .bool t162] 26 (0, 0))) := ⟨by rw [← hq_]; exact (by (with_reducible repeat (first | refine blk_drewN ?_ _ | refine blk_drew ?_ | refine blk_alloc ?_ _)); exact BK163.out)⟩; have n2_ : Aside0 (Below w.heap.size w w24) := ⟨by rw [← hq_]; exact (by repeat (first | (with_reducible first | exact HB.out | apply below_alloc | apply pw_below_drewN | apply below_drew1 | refine below_set ?_ GE151.out | refine below_set ?_ GE163.out) | exact HB.out))⟩; clear BK151 BK163 HB hq_; have BK151 := n0_; have BK163 := n1_; have HB := n2_; clear n0_ n1_ n2_))
                have n0_ := Aside0.mk (blk_drew BK151.out)
                have n1_ := Aside0.mk (blk_drew BK163.out)
                have n2_ := Aside0.mk (below_drew1 HB.out)
                clear BK151
                clear BK163
                clear HB
                have BK151 := n0_
                have BK163 := n1_
                have HB := n2_
                clear n0_ n1_ n2_
                refine start_ (n := 13) (S := fun w' => w'.cell? ⟨gb163, 0, none⟩ = some (.int .i64 t152) ∧ w'.cell? ⟨gb163, 1, none⟩ = some (.int .i64 t153) ∧ w'.cell? ⟨gb163, 2, none⟩ = some (.int .u64 t154) ∧ w'.cell? ⟨gb163, 3, none⟩ = some (.int .u64 t155) ∧ w'.cell? ⟨gb163, 4, none⟩ = some (.bool t156) ∧ w'.cell? ⟨gb163, 5, none⟩ = some (.bool t157) ∧ w'.cell? ⟨gb163, 6, none⟩ = some (.bool t158) ∧ w'.cell? ⟨gb163, 7, none⟩ = some (.bool t159) ∧ w'.cell? ⟨gb163, 8, none⟩ = some (.bool t160) ∧ w'.cell? ⟨gb163, 9, none⟩ = some (.bool t161) ∧ w'.cell? ⟨gb163, 10, none⟩ = some (.bool t162)) (ds := []) #[false, false, false, false, false, false, false, false, false, false, false, false, false] (by kernel_rfl) rfl rfl ⟨(blk_cell BK163.out 0).trans rfl, (blk_cell BK163.out 1).trans rfl, (blk_cell BK163.out 2).trans rfl, (blk_cell BK163.out 3).trans rfl, (blk_cell BK163.out 4).trans rfl, (blk_cell BK163.out 5).trans rfl, (blk_cell BK163.out 6).trans rfl, (blk_cell BK163.out 7).trans rfl, (blk_cell BK163.out 8).trans rfl, (blk_cell BK163.out 9).trans rfl, (blk_cell BK163.out 10).trans rfl⟩ (fun hHeld => ?_); refine with_tabW lookasidelaw03_TteFrames.tab3 lookasidelaw03_TteFrames.bits3 (fun HT_ HW_ => ?_)
                generalize w24.drew = w25 at BK151 BK163 HB hHeld ⊢
                refine pure_ (i := 1) (N := some 24) (v := ?_) (a' := ?_) #[false, true, false, false, false, false, false, false, false, false, false, false, false] rfl rfl (any_of HT_.out (by kernel_rfl)) (fun _ _ _ h => h) (Or.inl ⟨by rfl, ?_⟩) ?_ ?_
                rotate_left
                · intro w'
                  go_simp
                  with_reducible rfl
                rotate_left
                · simp only [Act.put, List.setIfInBounds_toArray, List.set_cons_zero, List.set_cons_succ, i64_w, i32_w]
                  rfl
                refine pure_ (i := 3) (N := some 26) (v := ?_) (a' := ?_) #[false, true, false, true, false, false, false, false, false, false, false, false, false] rfl rfl (any_of HT_.out (by kernel_rfl)) (fun _ _ _ h => h) (Or.inl ⟨by rfl, ?_⟩) ?_ ?_
                rotate_left
                · intro w'
                  go_simp
                  with_reducible rfl
                rotate_left
                · simp only [Act.put, List.setIfInBounds_toArray, List.set_cons_zero, List.set_cons_succ, i64_w, i32_w]
                  rfl
                refine pure_ (i := 4) (N := some 27) (v := ?_) (a' := ?_) #[false, true, false, true, true, false, false, false, false, false, false, false, false] rfl rfl (any_of HT_.out (by kernel_rfl)) (fun _ _ _ h => h) (Or.inl ⟨by rfl, ?_⟩) ?_ ?_
                rotate_left
                · intro w'
                  go_simp
                  with_reducible rfl
                rotate_left
                · simp only [Act.put, List.setIfInBounds_toArray, List.set_cons_zero, List.set_cons_succ, i64_w, i32_w]
                  rfl
                refine pure_ (i := 5) (N := some 28) (v := ?_) (a' := ?_) #[false, true, false, true, true, true, false, false, false, false, false, false, false] rfl rfl (any_of HT_.out (by kernel_rfl)) (fun _ _ _ h => h) (Or.inl ⟨by rfl, ?_⟩) ?_ ?_
                rotate_left
                · intro w'
                  go_simp
                  with_reducible rfl
                rotate_left
                · simp only [Act.put, List.setIfInBounds_toArray, List.set_cons_zero, List.set_cons_succ, i64_w, i32_w]
                  rfl
                refine take_ (i := 0) (N := some 23) (v := ?_) (a' := ?_) #[true, true, false, true, true, true, false, false, false, false, false, false, false] rfl rfl (take_ofW HT_.out HW_.out (by kernel_rfl)) (fun _ _ _ h => h) (Or.inl ⟨by rfl, ?_⟩) hHeld ?_ ?_
                rotate_left
                · rintro w' ⟨s0, s1, s2, s3, s4, s5, s6, s7, s8, s9, s10⟩
                  go_simp
                  with_reducible rfl
                rotate_left
                · simp only [Act.put, List.setIfInBounds_toArray, List.set_cons_zero, List.set_cons_succ, i64_w, i32_w]
                  rfl
                refine take_ (i := 2) (N := some 25) (v := ?_) (a' := ?_) #[true, true, true, true, true, true, false, false, false, false, false, false, false] rfl rfl (take_ofW HT_.out HW_.out (by kernel_rfl)) (fun _ _ _ h => h) (Or.inl ⟨by rfl, ?_⟩) hHeld ?_ ?_
                rotate_left
                · rintro w' ⟨s0, s1, s2, s3, s4, s5, s6, s7, s8, s9, s10⟩
                  go_simp
                  with_reducible rfl
                rotate_left
                · simp only [Act.put, List.setIfInBounds_toArray, List.set_cons_zero, List.set_cons_succ, i64_w, i32_w]
                  rfl
                refine pure_ (i := 6) (N := some 29) (v := ?_) (a' := ?_) #[true, true, true, true, true, true, true, false, false, false, false, false, false] rfl rfl (any_of HT_.out (by kernel_rfl)) (fun _ _ _ h => h) (Or.inl ⟨by rfl, ?_⟩) ?_ ?_
                rotate_left
                · intro w'
                  go_simp
                  with_reducible rfl
                rotate_left
                · simp only [Act.put, List.setIfInBounds_toArray, List.set_cons_zero, List.set_cons_succ, i64_w, i32_w]
                  rfl
                refine one_ (i := 7) (N := some 30) #[true, true, true, true, true, true, true, true, false, false, false, false, false] rfl rfl (one_of HT_.out (by kernel_rfl)) (by decide) (fun K hK => ?_)
                refine goes_ Try.func28 (by kernel_rfl) rfl #[.agg #[.int .i64 t152, .int .i64 t153, .int .u64 t154, .int .u64 t155, .bool t156, .bool t157, .bool t158, .bool t159, .bool t160, .bool t161, .bool t162], .int .u64 (IntKind.u64.wrap (t154 + (Int.tmod a1 t164)))] (by rfl) rfl rfl (by (try simp only [List.map_toArray, List.map_cons, List.map_nil]); first | done | rfl | (simp only [List.length_drop, List.length_take]; rfl)) ?_
                with_reducible refine (tte_Frame.calls t152 t153 t154 t155 t156 t157 t158 t159 t160 t161 t162 (IntKind.u64.wrap (t154 + (Int.tmod a1 t164))) t165 true _ A7.out).mono ?_
                rintro e w26 ⟨rfl, hb⟩
                refine ⟨_, rfl, ?_⟩
                have n0_ := Aside0.mk (blk_below (g := gb151) (o := .cells #[.int .i64 a0_0, .int .i64 a0_1, .int .u64 a0_2, .int .u64 a0_3, .bool a0_4, .bool a0_5, .bool a0_6, .bool a0_7, .bool a0_8, .bool a0_9, .bool a0_10] 26 (0, 0)) (by (with_reducible repeat (first | refine blk_drewN ?_ _ | refine blk_drew ?_ | refine blk_alloc ?_ _)); exact BK151.out) hb)
                have n1_ := Aside0.mk (blk_below (g := gb163) (o := .cells #[.int .i64 t152, .int .i64 t153, .int .u64 t154, .int .u64 t155, .bool t156, .bool t157, .bool t158, .bool t159, .bool t160, .bool t161, .bool t162] 26 (0, 0)) (by (with_reducible repeat (first | refine blk_drewN ?_ _ | refine blk_drew ?_ | refine blk_alloc ?_ _)); exact BK163.out) hb)
                have n2_ := Aside0.mk (below_step (by repeat (first | (with_reducible first | exact HB.out | apply below_alloc | apply pw_below_drewN | apply below_drew1 | refine below_set ?_ GE151.out | refine below_set ?_ GE163.out) | exact HB.out)) hb)
                clear BK151
                clear BK163
                clear HB
                have BK151 := n0_
                have BK163 := n1_
                have HB := n2_
                clear n0_ n1_ n2_
                (try clear hb)
                (try clear hb2)
                (try clear hk)
                (try clear hi)
                refine hK.out _ _ ⟨(blk_cell BK163.out 0).trans rfl, (blk_cell BK163.out 1).trans rfl, (blk_cell BK163.out 2).trans rfl, (blk_cell BK163.out 3).trans rfl, (blk_cell BK163.out 4).trans rfl, (blk_cell BK163.out 5).trans rfl, (blk_cell BK163.out 6).trans rfl, (blk_cell BK163.out 7).trans rfl, (blk_cell BK163.out 8).trans rfl, (blk_cell BK163.out 9).trans rfl, (blk_cell BK163.out 10).trans rfl⟩ (fun hHeld => ?_)
                clear hK K
                refine norm_ (a' := ?_) ?_ ?_
                rotate_left
                · show Act.put _ (some 30) _ = _
                  simp only [Act.put, List.setIfInBounds_toArray, List.set_cons_zero, List.set_cons_succ, i64_w, i32_w]
                  rfl
                refine pure_ (i := 8) (N := some 22) (v := ?_) (a' := ?_) #[true, true, true, true, true, true, true, true, true, false, false, false, false] rfl rfl (any_of HT_.out (by kernel_rfl)) (fun _ _ _ h => h) (Or.inl ⟨by rfl, ?_⟩) ?_ ?_
                rotate_left
                · intro w'
                  go_simp
                  with_reducible rfl
                rotate_left
                · simp only [Act.put, List.setIfInBounds_toArray, List.set_cons_zero, List.set_cons_succ, i64_w, i32_w]
                  rfl
                refine pure_ (i := 9) (N := some 31) (v := ?_) (a' := ?_) #[true, true, true, true, true, true, true, true, true, true, false, false, false] rfl rfl (any_of HT_.out (by kernel_rfl)) (fun _ _ _ h => h) (Or.inl ⟨by rfl, ?_⟩) ?_ ?_
                rotate_left
                · intro w'
                  go_simp
                  with_reducible rfl
                rotate_left
                · simp only [Act.put, List.setIfInBounds_toArray, List.set_cons_zero, List.set_cons_succ, i64_w, i32_w]
                  rfl
                refine pure_ (i := 10) (N := some 32) (v := ?_) (a' := ?_) #[true, true, true, true, true, true, true, true, true, true, true, false, false] rfl rfl (any_of HT_.out (by kernel_rfl)) (fun _ _ _ h => h) (Or.inl ⟨by rfl, ?_⟩) ?_ ?_
                rotate_left
                · intro w'
                  go_simp
                  with_reducible rfl
                rotate_left
                · simp only [Act.put, List.setIfInBounds_toArray, List.set_cons_zero, List.set_cons_succ, i64_w, i32_w]
                  rfl
                refine pure_ (i := 11) (N := some 9) (v := ?_) (a' := ?_) #[true, true, true, true, true, true, true, true, true, true, true, true, false] rfl rfl (any_of HT_.out (by kernel_rfl)) (fun _ _ _ h => h) (Or.inl ⟨by rfl, ?_⟩) ?_ ?_
                rotate_left
                · intro w'
                  go_simp
                  with_reducible rfl
                rotate_left
                · simp only [Act.put, List.setIfInBounds_toArray, List.set_cons_zero, List.set_cons_succ, i64_w, i32_w]
                  rfl
                refine pure_ (i := 12) (N := some 10) (v := ?_) (a' := ?_) #[true, true, true, true, true, true, true, true, true, true, true, true, true] rfl rfl (any_of HT_.out (by kernel_rfl)) (fun _ _ _ h => h) (Or.inl ⟨by rfl, ?_⟩) ?_ ?_
                rotate_left
                · intro w'
                  go_simp
                  with_reducible rfl
                rotate_left
                · simp only [Act.put, List.setIfInBounds_toArray, List.set_cons_zero, List.set_cons_succ, i64_w, i32_w]
                  rfl
                refine done_ (done_of HT_.out (by kernel_rfl)) ?_
                try go_wp2
                have n0_ := Aside0.mk (blk_drew BK151.out)
                have n1_ := Aside0.mk (blk_drew BK163.out)
                have n2_ := Aside0.mk (below_drew1 HB.out)
                clear BK151
                clear BK163
                clear HB
                have BK151 := n0_
                have BK163 := n1_
                have HB := n2_
                clear n0_ n1_ n2_
                refine start_ (n := 13) (S := fun w' => w'.cell? ⟨gb163, 0, none⟩ = some (.int .i64 t152) ∧ w'.cell? ⟨gb163, 1, none⟩ = some (.int .i64 t153) ∧ w'.cell? ⟨gb163, 2, none⟩ = some (.int .u64 t154) ∧ w'.cell? ⟨gb163, 3, none⟩ = some (.int .u64 t155) ∧ w'.cell? ⟨gb163, 4, none⟩ = some (.bool t156) ∧ w'.cell? ⟨gb163, 5, none⟩ = some (.bool t157) ∧ w'.cell? ⟨gb163, 6, none⟩ = some (.bool t158) ∧ w'.cell? ⟨gb163, 7, none⟩ = some (.bool t159) ∧ w'.cell? ⟨gb163, 8, none⟩ = some (.bool t160) ∧ w'.cell? ⟨gb163, 9, none⟩ = some (.bool t161) ∧ w'.cell? ⟨gb163, 10, none⟩ = some (.bool t162)) (ds := []) #[false, false, false, false, false, false, false, false, false, false, false, false, false] (by kernel_rfl) rfl rfl ⟨(blk_cell BK163.out 0).trans rfl, (blk_cell BK163.out 1).trans rfl, (blk_cell BK163.out 2).trans rfl, (blk_cell BK163.out 3).trans rfl, (blk_cell BK163.out 4).trans rfl, (blk_cell BK163.out 5).trans rfl, (blk_cell BK163.out 6).trans rfl, (blk_cell BK163.out 7).trans rfl, (blk_cell BK163.out 8).trans rfl, (blk_cell BK163.out 9).trans rfl, (blk_cell BK163.out 10).trans rfl⟩ (fun hHeld => ?_); refine with_tabW lookasidelaw03_TteFrames.tab4 lookasidelaw03_TteFrames.bits4 (fun HT_ HW_ => ?_)
                generalize w26.drew = w27 at BK151 BK163 HB hHeld ⊢
                refine pure_ (i := 1) (N := some 35) (v := ?_) (a' := ?_) #[false, true, false, false, false, false, false, false, false, false, false, false, false] rfl rfl (any_of HT_.out (by kernel_rfl)) (fun _ _ _ h => h) (Or.inl ⟨by rfl, ?_⟩) ?_ ?_
                rotate_left
                · intro w'
                  go_simp
                  with_reducible rfl
                rotate_left
                · simp only [Act.put, List.setIfInBounds_toArray, List.set_cons_zero, List.set_cons_succ, i64_w, i32_w]
                  rfl
                refine pure_ (i := 3) (N := some 37) (v := ?_) (a' := ?_) #[false, true, false, true, false, false, false, false, false, false, false, false, false] rfl rfl (any_of HT_.out (by kernel_rfl)) (fun _ _ _ h => h) (Or.inl ⟨by rfl, ?_⟩) ?_ ?_
                rotate_left
                · intro w'
                  go_simp
                  with_reducible rfl
                rotate_left
                · simp only [Act.put, List.setIfInBounds_toArray, List.set_cons_zero, List.set_cons_succ, i64_w, i32_w]
                  rfl
                refine pure_ (i := 4) (N := some 38) (v := ?_) (a' := ?_) #[false, true, false, true, true, false, false, false, false, false, false, false, false] rfl rfl (any_of HT_.out (by kernel_rfl)) (fun _ _ _ h => h) (Or.inl ⟨by rfl, ?_⟩) ?_ ?_
                rotate_left
                · intro w'
                  go_simp
                  with_reducible rfl
                rotate_left
                · simp only [Act.put, List.setIfInBounds_toArray, List.set_cons_zero, List.set_cons_succ, i64_w, i32_w]
                  rfl
                refine pure_ (i := 5) (N := some 39) (v := ?_) (a' := ?_) #[false, true, false, true, true, true, false, false, false, false, false, false, false] rfl rfl (any_of HT_.out (by kernel_rfl)) (fun _ _ _ h => h) (Or.inl ⟨by rfl, ?_⟩) ?_ ?_
                rotate_left
                · intro w'
                  go_simp
                  with_reducible rfl
                rotate_left
                · simp only [Act.put, List.setIfInBounds_toArray, List.set_cons_zero, List.set_cons_succ, i64_w, i32_w]
                  rfl
                refine take_ (i := 0) (N := some 34) (v := ?_) (a' := ?_) #[true, true, false, true, true, true, false, false, false, false, false, false, false] rfl rfl (take_ofW HT_.out HW_.out (by kernel_rfl)) (fun _ _ _ h => h) (Or.inl ⟨by rfl, ?_⟩) hHeld ?_ ?_
                rotate_left
                · rintro w' ⟨s0, s1, s2, s3, s4, s5, s6, s7, s8, s9, s10⟩
                  go_simp
                  with_reducible rfl
                rotate_left
                · simp only [Act.put, List.setIfInBounds_toArray, List.set_cons_zero, List.set_cons_succ, i64_w, i32_w]
                  rfl
                refine take_ (i := 2) (N := some 36) (v := ?_) (a' := ?_) #[true, true, true, true, true, true, false, false, false, false, false, false, false] rfl rfl (take_ofW HT_.out HW_.out (by kernel_rfl)) (fun _ _ _ h => h) (Or.inl ⟨by rfl, ?_⟩) hHeld ?_ ?_
                rotate_left
                · rintro w' ⟨s0, s1, s2, s3, s4, s5, s6, s7, s8, s9, s10⟩
                  go_simp
                  with_reducible rfl
                rotate_left
                · simp only [Act.put, List.setIfInBounds_toArray, List.set_cons_zero, List.set_cons_succ, i64_w, i32_w]
                  rfl
                refine pure_ (i := 6) (N := some 40) (v := ?_) (a' := ?_) #[true, true, true, true, true, true, true, false, false, false, false, false, false] rfl rfl (any_of HT_.out (by kernel_rfl)) (fun _ _ _ h => h) (Or.inl ⟨by rfl, ?_⟩) ?_ ?_
                rotate_left
                · intro w'
                  go_simp
                  with_reducible rfl
                rotate_left
                · simp only [Act.put, List.setIfInBounds_toArray, List.set_cons_zero, List.set_cons_succ, i64_w, i32_w]
                  rfl
                refine one_ (i := 7) (N := some 41) #[true, true, true, true, true, true, true, true, false, false, false, false, false] rfl rfl (one_of HT_.out (by kernel_rfl)) (by decide) (fun K hK => ?_)
                refine goes_ Try.func28 (by kernel_rfl) rfl #[.agg #[.int .i64 t152, .int .i64 t153, .int .u64 t154, .int .u64 t155, .bool t156, .bool t157, .bool t158, .bool t159, .bool t160, .bool t161, .bool t162], .int .u64 (IntKind.u64.wrap (t154 + (Int.tmod a2 t164)))] (by rfl) rfl rfl (by (try simp only [List.map_toArray, List.map_cons, List.map_nil]); first | done | rfl | (simp only [List.length_drop, List.length_take]; rfl)) ?_
                with_reducible refine (tte_Frame.calls t152 t153 t154 t155 t156 t157 t158 t159 t160 t161 t162 (IntKind.u64.wrap (t154 + (Int.tmod a2 t164))) t167 true _ A8.out).mono ?_
                rintro e w28 ⟨rfl, hb⟩
                refine ⟨_, rfl, ?_⟩
                have n0_ := Aside0.mk (blk_below (g := gb151) (o := .cells #[.int .i64 a0_0, .int .i64 a0_1, .int .u64 a0_2, .int .u64 a0_3, .bool a0_4, .bool a0_5, .bool a0_6, .bool a0_7, .bool a0_8, .bool a0_9, .bool a0_10] 26 (0, 0)) (by (with_reducible repeat (first | refine blk_drewN ?_ _ | refine blk_drew ?_ | refine blk_alloc ?_ _)); exact BK151.out) hb)
                have n1_ := Aside0.mk (blk_below (g := gb163) (o := .cells #[.int .i64 t152, .int .i64 t153, .int .u64 t154, .int .u64 t155, .bool t156, .bool t157, .bool t158, .bool t159, .bool t160, .bool t161, .bool t162] 26 (0, 0)) (by (with_reducible repeat (first | refine blk_drewN ?_ _ | refine blk_drew ?_ | refine blk_alloc ?_ _)); exact BK163.out) hb)
                have n2_ := Aside0.mk (below_step (by repeat (first | (with_reducible first | exact HB.out | apply below_alloc | apply pw_below_drewN | apply below_drew1 | refine below_set ?_ GE151.out | refine below_set ?_ GE163.out) | exact HB.out)) hb)
                clear BK151
                clear BK163
                clear HB
                have BK151 := n0_
                have BK163 := n1_
                have HB := n2_
                clear n0_ n1_ n2_
                (try clear hb)
                (try clear hb2)
                (try clear hk)
                (try clear hi)
                refine hK.out _ _ ⟨(blk_cell BK163.out 0).trans rfl, (blk_cell BK163.out 1).trans rfl, (blk_cell BK163.out 2).trans rfl, (blk_cell BK163.out 3).trans rfl, (blk_cell BK163.out 4).trans rfl, (blk_cell BK163.out 5).trans rfl, (blk_cell BK163.out 6).trans rfl, (blk_cell BK163.out 7).trans rfl, (blk_cell BK163.out 8).trans rfl, (blk_cell BK163.out 9).trans rfl, (blk_cell BK163.out 10).trans rfl⟩ (fun hHeld => ?_)
                clear hK K
                refine norm_ (a' := ?_) ?_ ?_
                rotate_left
                · show Act.put _ (some 41) _ = _
                  simp only [Act.put, List.setIfInBounds_toArray, List.set_cons_zero, List.set_cons_succ, i64_w, i32_w]
                  rfl
                refine pure_ (i := 8) (N := some 33) (v := ?_) (a' := ?_) #[true, true, true, true, true, true, true, true, true, false, false, false, false] rfl rfl (any_of HT_.out (by kernel_rfl)) (fun _ _ _ h => h) (Or.inl ⟨by rfl, ?_⟩) ?_ ?_
                rotate_left
                · intro w'
                  go_simp
                  with_reducible rfl
                rotate_left
                · simp only [Act.put, List.setIfInBounds_toArray, List.set_cons_zero, List.set_cons_succ, i64_w, i32_w]
                  rfl
                refine pure_ (i := 9) (N := some 42) (v := ?_) (a' := ?_) #[true, true, true, true, true, true, true, true, true, true, false, false, false] rfl rfl (any_of HT_.out (by kernel_rfl)) (fun _ _ _ h => h) (Or.inl ⟨by rfl, ?_⟩) ?_ ?_
                rotate_left
                · intro w'
                  go_simp
                  with_reducible rfl
                rotate_left
                · simp only [Act.put, List.setIfInBounds_toArray, List.set_cons_zero, List.set_cons_succ, i64_w, i32_w]
                  rfl
                refine pure_ (i := 10) (N := some 43) (v := ?_) (a' := ?_) #[true, true, true, true, true, true, true, true, true, true, true, false, false] rfl rfl (any_of HT_.out (by kernel_rfl)) (fun _ _ _ h => h) (Or.inl ⟨by rfl, ?_⟩) ?_ ?_
                rotate_left
                · intro w'
                  go_simp
                  with_reducible rfl
                rotate_left
                · simp only [Act.put, List.setIfInBounds_toArray, List.set_cons_zero, List.set_cons_succ, i64_w, i32_w]
                  rfl
                refine pure_ (i := 11) (N := some 11) (v := ?_) (a' := ?_) #[true, true, true, true, true, true, true, true, true, true, true, true, false] rfl rfl (any_of HT_.out (by kernel_rfl)) (fun _ _ _ h => h) (Or.inl ⟨by rfl, ?_⟩) ?_ ?_
                rotate_left
                · intro w'
                  go_simp
                  with_reducible rfl
                rotate_left
                · simp only [Act.put, List.setIfInBounds_toArray, List.set_cons_zero, List.set_cons_succ, i64_w, i32_w]
                  rfl
                refine pure_ (i := 12) (N := some 12) (v := ?_) (a' := ?_) #[true, true, true, true, true, true, true, true, true, true, true, true, true] rfl rfl (any_of HT_.out (by kernel_rfl)) (fun _ _ _ h => h) (Or.inl ⟨by rfl, ?_⟩) ?_ ?_
                rotate_left
                · intro w'
                  go_simp
                  with_reducible rfl
                rotate_left
                · simp only [Act.put, List.setIfInBounds_toArray, List.set_cons_zero, List.set_cons_succ, i64_w, i32_w]
                  rfl
                refine done_ (done_of HT_.out (by kernel_rfl)) ?_
                have hcz29_0 : w28.cell? ⟨gb163, 0, none⟩ = some (.int .i64 t152) := (blk_cell BK163.out 0).trans rfl
                have hcz29_1 : w28.cell? ⟨gb163, 1, none⟩ = some (.int .i64 t153) := (blk_cell BK163.out 1).trans rfl
                have hcz29_2 : w28.cell? ⟨gb163, 2, none⟩ = some (.int .u64 t154) := (blk_cell BK163.out 2).trans rfl
                have hcz29_3 : w28.cell? ⟨gb163, 3, none⟩ = some (.int .u64 t155) := (blk_cell BK163.out 3).trans rfl
                have hcz29_4 : w28.cell? ⟨gb163, 4, none⟩ = some (.bool t156) := (blk_cell BK163.out 4).trans rfl
                have hcz29_5 : w28.cell? ⟨gb163, 5, none⟩ = some (.bool t157) := (blk_cell BK163.out 5).trans rfl
                have hcz29_6 : w28.cell? ⟨gb163, 6, none⟩ = some (.bool t158) := (blk_cell BK163.out 6).trans rfl
                have hcz29_7 : w28.cell? ⟨gb163, 7, none⟩ = some (.bool t159) := (blk_cell BK163.out 7).trans rfl
                have hcz29_8 : w28.cell? ⟨gb163, 8, none⟩ = some (.bool t160) := (blk_cell BK163.out 8).trans rfl
                have hcz29_9 : w28.cell? ⟨gb163, 9, none⟩ = some (.bool t161) := (blk_cell BK163.out 9).trans rfl
                have hcz29_10 : w28.cell? ⟨gb163, 10, none⟩ = some (.bool t162) := (blk_cell BK163.out 10).trans rfl
                have hfz29_0 := blk_frozen BK163.out 0
                have hfz29_1 := blk_frozen BK163.out 1
                have hfz29_2 := blk_frozen BK163.out 2
                have hfz29_3 := blk_frozen BK163.out 3
                have hfz29_4 := blk_frozen BK163.out 4
                have hfz29_5 := blk_frozen BK163.out 5
                have hfz29_6 := blk_frozen BK163.out 6
                have hfz29_7 := blk_frozen BK163.out 7
                have hfz29_8 := blk_frozen BK163.out 8
                have hfz29_9 := blk_frozen BK163.out 9
                have hfz29_10 := blk_frozen BK163.out 10
                try go_wp2_with (first | ((with_reducible refine gate_callee (f := 28) rfl ?_); refine goesL_ (some 50) rfl rfl Try.func28 (by kernel_rfl) rfl #[.agg #[.int .i64 t152, .int .i64 t153, .int .u64 t154, .int .u64 t155, .bool t156, .bool t157, .bool t158, .bool t159, .bool t160, .bool t161, .bool t162], .int .u64 (IntKind.u64.wrap (t154 + t164))] rfl (by (try simp only [List.map_toArray, List.map_cons, List.map_nil]); first | done | rfl | (simp only [List.length_drop, List.length_take]; rfl)) ?_; (with_reducible refine (tte_Frame.calls t152 t153 t154 t155 t156 t157 t158 t159 t160 t161 t162 (IntKind.u64.wrap (t154 + t164)) t169 false _ A9.out).mono ?_); rintro e w30 ⟨rfl, hb⟩; refine ⟨_, rfl, ?_⟩; have n0_ := Aside0.mk (blk_below (g := gb151) (o := .cells #[.int .i64 a0_0, .int .i64 a0_1, .int .u64 a0_2, .int .u64 a0_3, .bool a0_4, .bool a0_5, .bool a0_6, .bool a0_7, .bool a0_8, .bool a0_9, .bool a0_10] 26 (0, 0)) (by (with_reducible repeat (first | refine blk_drewN ?_ _ | refine blk_drew ?_ | refine blk_alloc ?_ _)); exact BK151.out) hb); have n1_ := Aside0.mk (blk_below (g := gb163) (o := .cells #[.int .i64 t152, .int .i64 t153, .int .u64 t154, .int .u64 t155, .bool t156, .bool t157, .bool t158, .bool t159, .bool t160, .bool t161, .bool t162] 26 (0, 0)) (by (with_reducible repeat (first | refine blk_drewN ?_ _ | refine blk_drew ?_ | refine blk_alloc ?_ _)); exact BK163.out) hb); have n2_ := Aside0.mk (below_step (by repeat (first | (with_reducible first | exact HB.out | apply below_alloc | apply pw_below_drewN | apply below_drew1 | refine below_set ?_ GE151.out | refine below_set ?_ GE163.out) | exact HB.out)) hb); clear BK151; clear BK163; clear HB; have BK151 := n0_; have BK163 := n1_; have HB := n2_; clear n0_ n1_ n2_; (try clear hb); (try clear hb2); (try clear hk); (try clear hi); have hcz31_0 : w30.cell? ⟨gb163, 0, none⟩ = some (.int .i64 t152) := (blk_cell BK163.out 0).trans rfl; have hcz31_1 : w30.cell? ⟨gb163, 1, none⟩ = some (.int .i64 t153) := (blk_cell BK163.out 1).trans rfl; have hcz31_2 : w30.cell? ⟨gb163, 2, none⟩ = some (.int .u64 t154) := (blk_cell BK163.out 2).trans rfl; have hcz31_3 : w30.cell? ⟨gb163, 3, none⟩ = some (.int .u64 t155) := (blk_cell BK163.out 3).trans rfl; have hcz31_4 : w30.cell? ⟨gb163, 4, none⟩ = some (.bool t156) := (blk_cell BK163.out 4).trans rfl; have hcz31_5 : w30.cell? ⟨gb163, 5, none⟩ = some (.bool t157) := (blk_cell BK163.out 5).trans rfl; have hcz31_6 : w30.cell? ⟨gb163, 6, none⟩ = some (.bool t158) := (blk_cell BK163.out 6).trans rfl; have hcz31_7 : w30.cell? ⟨gb163, 7, none⟩ = some (.bool t159) := (blk_cell BK163.out 7).trans rfl; have hcz31_8 : w30.cell? ⟨gb163, 8, none⟩ = some (.bool t160) := (blk_cell BK163.out 8).trans rfl; have hcz31_9 : w30.cell? ⟨gb163, 9, none⟩ = some (.bool t161) := (blk_cell BK163.out 9).trans rfl; have hcz31_10 : w30.cell? ⟨gb163, 10, none⟩ = some (.bool t162) := (blk_cell BK163.out 10).trans rfl; have hfz31_0 := blk_frozen BK163.out 0; have hfz31_1 := blk_frozen BK163.out 1; have hfz31_2 := blk_frozen BK163.out 2; have hfz31_3 := blk_frozen BK163.out 3; have hfz31_4 := blk_frozen BK163.out 4; have hfz31_5 := blk_frozen BK163.out 5; have hfz31_6 := blk_frozen BK163.out 6; have hfz31_7 := blk_frozen BK163.out 7; have hfz31_8 := blk_frozen BK163.out 8; have hfz31_9 := blk_frozen BK163.out 9; have hfz31_10 := blk_frozen BK163.out 10) | ((with_reducible refine gate_callee (f := 28) rfl ?_); refine goesL_ (some 58) rfl rfl Try.func28 (by kernel_rfl) rfl #[.agg #[.int .i64 t152, .int .i64 t153, .int .u64 t154, .int .u64 t155, .bool t156, .bool t157, .bool t158, .bool t159, .bool t160, .bool t161, .bool t162], .int .u64 (IntKind.u64.wrap (t154 - 1))] rfl (by (try simp only [List.map_toArray, List.map_cons, List.map_nil]); first | done | rfl | (simp only [List.length_drop, List.length_take]; rfl)) ?_; (with_reducible refine (tte_Frame.calls t152 t153 t154 t155 t156 t157 t158 t159 t160 t161 t162 (IntKind.u64.wrap (t154 - 1)) t171 false _ A10.out).mono ?_); rintro e w32 ⟨rfl, hb⟩; refine ⟨_, rfl, ?_⟩; have n0_ := Aside0.mk (blk_below (g := gb151) (o := .cells #[.int .i64 a0_0, .int .i64 a0_1, .int .u64 a0_2, .int .u64 a0_3, .bool a0_4, .bool a0_5, .bool a0_6, .bool a0_7, .bool a0_8, .bool a0_9, .bool a0_10] 26 (0, 0)) (by (with_reducible repeat (first | refine blk_drewN ?_ _ | refine blk_drew ?_ | refine blk_alloc ?_ _)); exact BK151.out) hb); have n1_ := Aside0.mk (blk_below (g := gb163) (o := .cells #[.int .i64 t152, .int .i64 t153, .int .u64 t154, .int .u64 t155, .bool t156, .bool t157, .bool t158, .bool t159, .bool t160, .bool t161, .bool t162] 26 (0, 0)) (by (with_reducible repeat (first | refine blk_drewN ?_ _ | refine blk_drew ?_ | refine blk_alloc ?_ _)); exact BK163.out) hb); have n2_ := Aside0.mk (below_step (by repeat (first | (with_reducible first | exact HB.out | apply below_alloc | apply pw_below_drewN | apply below_drew1 | refine below_set ?_ GE151.out | refine below_set ?_ GE163.out) | exact HB.out)) hb); clear BK151; clear BK163; clear HB; have BK151 := n0_; have BK163 := n1_; have HB := n2_; clear n0_ n1_ n2_; (try clear hb); (try clear hb2); (try clear hk); (try clear hi)))
                have n0_ := Aside0.mk (blk_drew BK151.out)
                have n1_ := Aside0.mk (blk_drew BK163.out)
                have n2_ := Aside0.mk (below_drew1 HB.out)
                clear BK151
                clear BK163
                clear HB
                have BK151 := n0_
                have BK163 := n1_
                have HB := n2_
                clear n0_ n1_ n2_
                refine start_ (n := 39) (S := fun w' => w'.cell? ⟨gb163, 0, none⟩ = some (.int .i64 t152) ∧ w'.cell? ⟨gb163, 1, none⟩ = some (.int .i64 t153) ∧ w'.cell? ⟨gb163, 2, none⟩ = some (.int .u64 t154) ∧ w'.cell? ⟨gb163, 3, none⟩ = some (.int .u64 t155) ∧ w'.cell? ⟨gb163, 4, none⟩ = some (.bool t156) ∧ w'.cell? ⟨gb163, 5, none⟩ = some (.bool t157) ∧ w'.cell? ⟨gb163, 6, none⟩ = some (.bool t158) ∧ w'.cell? ⟨gb163, 7, none⟩ = some (.bool t159) ∧ w'.cell? ⟨gb163, 8, none⟩ = some (.bool t160) ∧ w'.cell? ⟨gb163, 9, none⟩ = some (.bool t161) ∧ w'.cell? ⟨gb163, 10, none⟩ = some (.bool t162)) (ds := []) #[false, false, false, false, false, false, false, false, false, false, false, false, false, false, false, false, false, false, false, false, false, false, false, false, false, false, false, false, false, false, false, false, false, false, false, false, false, false, false] (by kernel_rfl) rfl rfl ⟨(blk_cell BK163.out 0).trans rfl, (blk_cell BK163.out 1).trans rfl, (blk_cell BK163.out 2).trans rfl, (blk_cell BK163.out 3).trans rfl, (blk_cell BK163.out 4).trans rfl, (blk_cell BK163.out 5).trans rfl, (blk_cell BK163.out 6).trans rfl, (blk_cell BK163.out 7).trans rfl, (blk_cell BK163.out 8).trans rfl, (blk_cell BK163.out 9).trans rfl, (blk_cell BK163.out 10).trans rfl⟩ (fun hHeld => ?_); refine with_tabW lookasidelaw03_TteFrames.tab7 lookasidelaw03_TteFrames.bits7 (fun HT_ HW_ => ?_)
                generalize w32.drew = w33 at BK151 BK163 HB hHeld ⊢
                refine pure_ (i := 0) (N := some 61) (v := ?_) (a' := ?_) #[true, false, false, false, false, false, false, false, false, false, false, false, false, false, false, false, false, false, false, false, false, false, false, false, false, false, false, false, false, false, false, false, false, false, false, false, false, false, false] rfl rfl (any_of HT_.out (by kernel_rfl)) (fun _ _ _ h => h) (Or.inl ⟨by rfl, ?_⟩) ?_ ?_
                rotate_left
                · intro w'
                  go_simp
                  with_reducible rfl
                rotate_left
                · simp only [Act.put, List.setIfInBounds_toArray, List.set_cons_zero, List.set_cons_succ, i64_w, i32_w]
                  rfl
                refine pure_ (i := 1) (N := some 62) (v := ?_) (a' := ?_) #[true, true, false, false, false, false, false, false, false, false, false, false, false, false, false, false, false, false, false, false, false, false, false, false, false, false, false, false, false, false, false, false, false, false, false, false, false, false, false] rfl rfl (any_of HT_.out (by kernel_rfl)) (fun _ _ _ h => h) (Or.inl ⟨by rfl, ?_⟩) ?_ ?_
                rotate_left
                · intro w'
                  go_simp
                  with_reducible rfl
                rotate_left
                · simp only [Act.put, List.setIfInBounds_toArray, List.set_cons_zero, List.set_cons_succ, i64_w, i32_w]
                  rfl
                refine pure_ (i := 2) (N := some 63) (v := ?_) (a' := ?_) #[true, true, true, false, false, false, false, false, false, false, false, false, false, false, false, false, false, false, false, false, false, false, false, false, false, false, false, false, false, false, false, false, false, false, false, false, false, false, false] rfl rfl (any_of HT_.out (by kernel_rfl)) (fun _ _ _ h => h) (Or.inl ⟨by rfl, ?_⟩) ?_ ?_
                rotate_left
                · intro w'
                  go_simp
                  with_reducible rfl
                rotate_left
                · simp only [Act.put, List.setIfInBounds_toArray, List.set_cons_zero, List.set_cons_succ, i64_w, i32_w]
                  rfl
                refine pure_ (i := 3) (N := some 64) (v := ?_) (a' := ?_) #[true, true, true, true, false, false, false, false, false, false, false, false, false, false, false, false, false, false, false, false, false, false, false, false, false, false, false, false, false, false, false, false, false, false, false, false, false, false, false] rfl rfl (any_of HT_.out (by kernel_rfl)) (fun _ _ _ h => h) (Or.inl ⟨by rfl, ?_⟩) ?_ ?_
                rotate_left
                · intro w'
                  go_simp
                  with_reducible rfl
                rotate_left
                · simp only [Act.put, List.setIfInBounds_toArray, List.set_cons_zero, List.set_cons_succ, i64_w, i32_w]
                  rfl
                refine pure_ (i := 4) (N := some 65) (v := ?_) (a' := ?_) #[true, true, true, true, true, false, false, false, false, false, false, false, false, false, false, false, false, false, false, false, false, false, false, false, false, false, false, false, false, false, false, false, false, false, false, false, false, false, false] rfl rfl (any_of HT_.out (by kernel_rfl)) (fun _ _ _ h => h) (Or.inl ⟨by rfl, ?_⟩) ?_ ?_
                rotate_left
                · intro w'
                  go_simp
                  with_reducible rfl
                rotate_left
                · simp only [Act.put, List.setIfInBounds_toArray, List.set_cons_zero, List.set_cons_succ, i64_w, i32_w]
                  rfl
                refine pure_ (i := 5) (N := some 66) (v := ?_) (a' := ?_) #[true, true, true, true, true, true, false, false, false, false, false, false, false, false, false, false, false, false, false, false, false, false, false, false, false, false, false, false, false, false, false, false, false, false, false, false, false, false, false] rfl rfl (any_of HT_.out (by kernel_rfl)) (fun _ _ _ h => h) (Or.inl ⟨by rfl, ?_⟩) ?_ ?_
                rotate_left
                · intro w'
                  go_simp
                  with_reducible rfl
                rotate_left
                · simp only [Act.put, List.setIfInBounds_toArray, List.set_cons_zero, List.set_cons_succ, i64_w, i32_w]
                  rfl
                refine pure_ (i := 6) (N := some 67) (v := ?_) (a' := ?_) #[true, true, true, true, true, true, true, false, false, false, false, false, false, false, false, false, false, false, false, false, false, false, false, false, false, false, false, false, false, false, false, false, false, false, false, false, false, false, false] rfl rfl (any_of HT_.out (by kernel_rfl)) (fun _ _ _ h => h) (Or.inl ⟨by rfl, ?_⟩) ?_ ?_
                rotate_left
                · intro w'
                  go_simp
                  with_reducible rfl
                rotate_left
                · simp only [Act.put, List.setIfInBounds_toArray, List.set_cons_zero, List.set_cons_succ, i64_w, i32_w]
                  rfl
                refine pure_ (i := 7) (N := some 68) (v := ?_) (a' := ?_) #[true, true, true, true, true, true, true, true, false, false, false, false, false, false, false, false, false, false, false, false, false, false, false, false, false, false, false, false, false, false, false, false, false, false, false, false, false, false, false] rfl rfl (any_of HT_.out (by kernel_rfl)) (fun _ _ _ h => h) (Or.inl ⟨by rfl, ?_⟩) ?_ ?_
                rotate_left
                · intro w'
                  go_simp
                  with_reducible rfl
                rotate_left
                · simp only [Act.put, List.setIfInBounds_toArray, List.set_cons_zero, List.set_cons_succ, i64_w, i32_w]
                  rfl
                refine pure_ (i := 8) (N := some 69) (v := ?_) (a' := ?_) #[true, true, true, true, true, true, true, true, true, false, false, false, false, false, false, false, false, false, false, false, false, false, false, false, false, false, false, false, false, false, false, false, false, false, false, false, false, false, false] rfl rfl (any_of HT_.out (by kernel_rfl)) (fun _ _ _ h => h) (Or.inl ⟨by rfl, ?_⟩) ?_ ?_
                rotate_left
                · intro w'
                  go_simp
                  with_reducible rfl
                rotate_left
                · simp only [Act.put, List.setIfInBounds_toArray, List.set_cons_zero, List.set_cons_succ, i64_w, i32_w]
                  rfl
                refine pure_ (i := 9) (N := some 70) (v := ?_) (a' := ?_) #[true, true, true, true, true, true, true, true, true, true, false, false, false, false, false, false, false, false, false, false, false, false, false, false, false, false, false, false, false, false, false, false, false, false, false, false, false, false, false] rfl rfl (any_of HT_.out (by kernel_rfl)) (fun _ _ _ h => h) (Or.inl ⟨by rfl, ?_⟩) ?_ ?_
                rotate_left
                · intro w'
                  go_simp
                  with_reducible rfl
                rotate_left
                · simp only [Act.put, List.setIfInBounds_toArray, List.set_cons_zero, List.set_cons_succ, i64_w, i32_w]
                  rfl
                refine pure_ (i := 10) (N := some 71) (v := ?_) (a' := ?_) #[true, true, true, true, true, true, true, true, true, true, true, false, false, false, false, false, false, false, false, false, false, false, false, false, false, false, false, false, false, false, false, false, false, false, false, false, false, false, false] rfl rfl (any_of HT_.out (by kernel_rfl)) (fun _ _ _ h => h) (Or.inl ⟨by rfl, ?_⟩) ?_ ?_
                rotate_left
                · intro w'
                  go_simp
                  with_reducible rfl
                rotate_left
                · simp only [Act.put, List.setIfInBounds_toArray, List.set_cons_zero, List.set_cons_succ, i64_w, i32_w]
                  rfl
                refine pure_ (i := 11) (N := some 72) (v := ?_) (a' := ?_) #[true, true, true, true, true, true, true, true, true, true, true, true, false, false, false, false, false, false, false, false, false, false, false, false, false, false, false, false, false, false, false, false, false, false, false, false, false, false, false] rfl rfl (any_of HT_.out (by kernel_rfl)) (fun _ _ _ h => h) (Or.inl ⟨by rfl, ?_⟩) ?_ ?_
                rotate_left
                · intro w'
                  go_simp
                  with_reducible rfl
                rotate_left
                · simp only [Act.put, List.setIfInBounds_toArray, List.set_cons_zero, List.set_cons_succ, i64_w, i32_w]
                  rfl
                refine pure_ (i := 12) (N := some 73) (v := ?_) (a' := ?_) #[true, true, true, true, true, true, true, true, true, true, true, true, true, false, false, false, false, false, false, false, false, false, false, false, false, false, false, false, false, false, false, false, false, false, false, false, false, false, false] rfl rfl (any_of HT_.out (by kernel_rfl)) (fun _ _ _ h => h) (Or.inl ⟨by rfl, ?_⟩) ?_ ?_
                rotate_left
                · intro w'
                  go_simp
                  with_reducible rfl
                rotate_left
                · simp only [Act.put, List.setIfInBounds_toArray, List.set_cons_zero, List.set_cons_succ, i64_w, i32_w]
                  rfl
                refine pure_ (i := 13) (N := some 74) (v := ?_) (a' := ?_) #[true, true, true, true, true, true, true, true, true, true, true, true, true, true, false, false, false, false, false, false, false, false, false, false, false, false, false, false, false, false, false, false, false, false, false, false, false, false, false] rfl rfl (any_of HT_.out (by kernel_rfl)) (fun _ _ _ h => h) (Or.inl ⟨by rfl, ?_⟩) ?_ ?_
                rotate_left
                · intro w'
                  go_simp
                  with_reducible rfl
                rotate_left
                · simp only [Act.put, List.setIfInBounds_toArray, List.set_cons_zero, List.set_cons_succ, i64_w, i32_w]
                  rfl
                refine pure_ (i := 14) (N := some 75) (v := ?_) (a' := ?_) #[true, true, true, true, true, true, true, true, true, true, true, true, true, true, true, false, false, false, false, false, false, false, false, false, false, false, false, false, false, false, false, false, false, false, false, false, false, false, false] rfl rfl (any_of HT_.out (by kernel_rfl)) (fun _ _ _ h => h) (Or.inl ⟨by rfl, ?_⟩) ?_ ?_
                rotate_left
                · intro w'
                  go_simp
                  with_reducible rfl
                rotate_left
                · simp only [Act.put, List.setIfInBounds_toArray, List.set_cons_zero, List.set_cons_succ, i64_w, i32_w]
                  rfl
                refine pure_ (i := 16) (N := some 77) (v := ?_) (a' := ?_) #[true, true, true, true, true, true, true, true, true, true, true, true, true, true, true, false, true, false, false, false, false, false, false, false, false, false, false, false, false, false, false, false, false, false, false, false, false, false, false] rfl rfl (any_of HT_.out (by kernel_rfl)) (fun _ _ _ h => h) (Or.inl ⟨by rfl, ?_⟩) ?_ ?_
                rotate_left
                · intro w'
                  go_simp
                  with_reducible rfl
                rotate_left
                · simp only [Act.put, List.setIfInBounds_toArray, List.set_cons_zero, List.set_cons_succ, i64_w, i32_w]
                  rfl
                refine pure_ (i := 17) (N := some 78) (v := ?_) (a' := ?_) #[true, true, true, true, true, true, true, true, true, true, true, true, true, true, true, false, true, true, false, false, false, false, false, false, false, false, false, false, false, false, false, false, false, false, false, false, false, false, false] rfl rfl (any_of HT_.out (by kernel_rfl)) (fun _ _ _ h => h) (Or.inl ⟨by rfl, ?_⟩) ?_ ?_
                rotate_left
                · intro w'
                  go_simp
                  with_reducible rfl
                rotate_left
                · simp only [Act.put, List.setIfInBounds_toArray, List.set_cons_zero, List.set_cons_succ, i64_w, i32_w]
                  rfl
                refine pure_ (i := 18) (N := some 79) (v := ?_) (a' := ?_) #[true, true, true, true, true, true, true, true, true, true, true, true, true, true, true, false, true, true, true, false, false, false, false, false, false, false, false, false, false, false, false, false, false, false, false, false, false, false, false] rfl rfl (any_of HT_.out (by kernel_rfl)) (fun _ _ _ h => h) (Or.inl ⟨by rfl, ?_⟩) ?_ ?_
                rotate_left
                · intro w'
                  go_simp
                  with_reducible rfl
                rotate_left
                · simp only [Act.put, List.setIfInBounds_toArray, List.set_cons_zero, List.set_cons_succ, i64_w, i32_w]
                  rfl
                refine take_ (i := 15) (N := some 76) (v := ?_) (a' := ?_) #[true, true, true, true, true, true, true, true, true, true, true, true, true, true, true, true, true, true, true, false, false, false, false, false, false, false, false, false, false, false, false, false, false, false, false, false, false, false, false] rfl rfl (take_ofW HT_.out HW_.out (by kernel_rfl)) (fun _ _ _ h => h) (Or.inl ⟨by rfl, ?_⟩) hHeld ?_ ?_
                rotate_left
                · rintro w' ⟨s0, s1, s2, s3, s4, s5, s6, s7, s8, s9, s10⟩
                  go_simp
                  with_reducible rfl
                rotate_left
                · simp only [Act.put, List.setIfInBounds_toArray, List.set_cons_zero, List.set_cons_succ, i64_w, i32_w]
                  rfl
                refine pure_ (i := 19) (N := some 80) (v := ?_) (a' := ?_) #[true, true, true, true, true, true, true, true, true, true, true, true, true, true, true, true, true, true, true, true, false, false, false, false, false, false, false, false, false, false, false, false, false, false, false, false, false, false, false] rfl rfl (any_of HT_.out (by kernel_rfl)) (fun _ _ _ h => h) (Or.inl ⟨by rfl, ?_⟩) ?_ ?_
                rotate_left
                · intro w'
                  go_simp
                  with_reducible rfl
                rotate_left
                · simp only [Act.put, List.setIfInBounds_toArray, List.set_cons_zero, List.set_cons_succ, i64_w, i32_w]
                  rfl
                refine pure_ (i := 20) (N := some 81) (v := ?_) (a' := ?_) #[true, true, true, true, true, true, true, true, true, true, true, true, true, true, true, true, true, true, true, true, true, false, false, false, false, false, false, false, false, false, false, false, false, false, false, false, false, false, false] rfl rfl (any_of HT_.out (by kernel_rfl)) (fun _ _ _ h => h) (Or.inl ⟨by rfl, ?_⟩) ?_ ?_
                rotate_left
                · intro w'
                  go_simp
                  with_reducible rfl
                rotate_left
                · simp only [Act.put, List.setIfInBounds_toArray, List.set_cons_zero, List.set_cons_succ, i64_w, i32_w]
                  rfl
                refine pure_ (i := 21) (N := some 82) (v := ?_) (a' := ?_) #[true, true, true, true, true, true, true, true, true, true, true, true, true, true, true, true, true, true, true, true, true, true, false, false, false, false, false, false, false, false, false, false, false, false, false, false, false, false, false] rfl rfl (any_of HT_.out (by kernel_rfl)) (fun _ _ _ h => h) (Or.inl ⟨by rfl, ?_⟩) ?_ ?_
                rotate_left
                · intro w'
                  go_simp
                  with_reducible rfl
                rotate_left
                · simp only [Act.put, List.setIfInBounds_toArray, List.set_cons_zero, List.set_cons_succ, i64_w, i32_w]
                  rfl
                refine pure_ (i := 22) (N := some 83) (v := ?_) (a' := ?_) #[true, true, true, true, true, true, true, true, true, true, true, true, true, true, true, true, true, true, true, true, true, true, true, false, false, false, false, false, false, false, false, false, false, false, false, false, false, false, false] rfl rfl (any_of HT_.out (by kernel_rfl)) (fun _ _ _ h => h) (Or.inl ⟨by rfl, ?_⟩) ?_ ?_
                rotate_left
                · intro w'
                  go_simp
                  with_reducible rfl
                rotate_left
                · simp only [Act.put, List.setIfInBounds_toArray, List.set_cons_zero, List.set_cons_succ, i64_w, i32_w]
                  rfl
                refine pure_ (i := 23) (N := some 84) (v := ?_) (a' := ?_) #[true, true, true, true, true, true, true, true, true, true, true, true, true, true, true, true, true, true, true, true, true, true, true, true, false, false, false, false, false, false, false, false, false, false, false, false, false, false, false] rfl rfl (any_of HT_.out (by kernel_rfl)) (fun _ _ _ h => h) (Or.inl ⟨by rfl, ?_⟩) ?_ ?_
                rotate_left
                · intro w'
                  go_simp
                  with_reducible rfl
                rotate_left
                · simp only [Act.put, List.setIfInBounds_toArray, List.set_cons_zero, List.set_cons_succ, i64_w, i32_w]
                  rfl
                refine pure_ (i := 24) (N := some 85) (v := ?_) (a' := ?_) #[true, true, true, true, true, true, true, true, true, true, true, true, true, true, true, true, true, true, true, true, true, true, true, true, true, false, false, false, false, false, false, false, false, false, false, false, false, false, false] rfl rfl (any_of HT_.out (by kernel_rfl)) (fun _ _ _ h => h) (Or.inl ⟨by rfl, ?_⟩) ?_ ?_
                rotate_left
                · intro w'
                  go_simp
                  with_reducible rfl
                rotate_left
                · simp only [Act.put, List.setIfInBounds_toArray, List.set_cons_zero, List.set_cons_succ, i64_w, i32_w]
                  rfl
                refine pure_ (i := 25) (N := some 86) (v := ?_) (a' := ?_) #[true, true, true, true, true, true, true, true, true, true, true, true, true, true, true, true, true, true, true, true, true, true, true, true, true, true, false, false, false, false, false, false, false, false, false, false, false, false, false] rfl rfl (any_of HT_.out (by kernel_rfl)) (fun _ _ _ h => h) (Or.inl ⟨by rfl, ?_⟩) ?_ ?_
                rotate_left
                · intro w'
                  go_simp
                  with_reducible rfl
                rotate_left
                · simp only [Act.put, List.setIfInBounds_toArray, List.set_cons_zero, List.set_cons_succ, i64_w, i32_w]
                  rfl
                refine pure_ (i := 26) (N := some 87) (v := ?_) (a' := ?_) #[true, true, true, true, true, true, true, true, true, true, true, true, true, true, true, true, true, true, true, true, true, true, true, true, true, true, true, false, false, false, false, false, false, false, false, false, false, false, false] rfl rfl (any_of HT_.out (by kernel_rfl)) (fun _ _ _ h => h) (Or.inl ⟨by rfl, ?_⟩) ?_ ?_
                rotate_left
                · intro w'
                  go_simp
                  with_reducible rfl
                rotate_left
                · simp only [Act.put, List.setIfInBounds_toArray, List.set_cons_zero, List.set_cons_succ, i64_w, i32_w]
                  rfl
                refine pure_ (i := 27) (N := some 88) (v := ?_) (a' := ?_) #[true, true, true, true, true, true, true, true, true, true, true, true, true, true, true, true, true, true, true, true, true, true, true, true, true, true, true, true, false, false, false, false, false, false, false, false, false, false, false] rfl rfl (any_of HT_.out (by kernel_rfl)) (fun _ _ _ h => h) (Or.inl ⟨by rfl, ?_⟩) ?_ ?_
                rotate_left
                · intro w'
                  go_simp
                  with_reducible rfl
                rotate_left
                · simp only [Act.put, List.setIfInBounds_toArray, List.set_cons_zero, List.set_cons_succ, i64_w, i32_w]
                  rfl
                refine pure_ (i := 28) (N := some 89) (v := ?_) (a' := ?_) #[true, true, true, true, true, true, true, true, true, true, true, true, true, true, true, true, true, true, true, true, true, true, true, true, true, true, true, true, true, false, false, false, false, false, false, false, false, false, false] rfl rfl (any_of HT_.out (by kernel_rfl)) (fun _ _ _ h => h) (Or.inl ⟨by rfl, ?_⟩) ?_ ?_
                rotate_left
                · intro w'
                  go_simp
                  with_reducible rfl
                rotate_left
                · simp only [Act.put, List.setIfInBounds_toArray, List.set_cons_zero, List.set_cons_succ, i64_w, i32_w]
                  rfl
                refine pure_ (i := 29) (N := some 90) (v := ?_) (a' := ?_) #[true, true, true, true, true, true, true, true, true, true, true, true, true, true, true, true, true, true, true, true, true, true, true, true, true, true, true, true, true, true, false, false, false, false, false, false, false, false, false] rfl rfl (any_of HT_.out (by kernel_rfl)) (fun _ _ _ h => h) (Or.inl ⟨by rfl, ?_⟩) ?_ ?_
                rotate_left
                · intro w'
                  go_simp
                  with_reducible rfl
                rotate_left
                · simp only [Act.put, List.setIfInBounds_toArray, List.set_cons_zero, List.set_cons_succ, i64_w, i32_w]
                  rfl
                refine pure_ (i := 30) (N := some 91) (v := ?_) (a' := ?_) #[true, true, true, true, true, true, true, true, true, true, true, true, true, true, true, true, true, true, true, true, true, true, true, true, true, true, true, true, true, true, true, false, false, false, false, false, false, false, false] rfl rfl (any_of HT_.out (by kernel_rfl)) (fun _ _ _ h => h) (Or.inl ⟨by rfl, ?_⟩) ?_ ?_
                rotate_left
                · intro w'
                  go_simp
                  with_reducible rfl
                rotate_left
                · simp only [Act.put, List.setIfInBounds_toArray, List.set_cons_zero, List.set_cons_succ, i64_w, i32_w]
                  rfl
                refine pure_ (i := 31) (N := some 92) (v := ?_) (a' := ?_) #[true, true, true, true, true, true, true, true, true, true, true, true, true, true, true, true, true, true, true, true, true, true, true, true, true, true, true, true, true, true, true, true, false, false, false, false, false, false, false] rfl rfl (any_of HT_.out (by kernel_rfl)) (fun _ _ _ h => h) (Or.inl ⟨by rfl, ?_⟩) ?_ ?_
                rotate_left
                · intro w'
                  go_simp
                  with_reducible rfl
                rotate_left
                · simp only [Act.put, List.setIfInBounds_toArray, List.set_cons_zero, List.set_cons_succ, i64_w, i32_w]
                  rfl
                refine pure_ (i := 32) (N := some 93) (v := ?_) (a' := ?_) #[true, true, true, true, true, true, true, true, true, true, true, true, true, true, true, true, true, true, true, true, true, true, true, true, true, true, true, true, true, true, true, true, true, false, false, false, false, false, false] rfl rfl (any_of HT_.out (by kernel_rfl)) (fun _ _ _ h => h) (Or.inl ⟨by rfl, ?_⟩) ?_ ?_
                rotate_left
                · intro w'
                  go_simp
                  with_reducible rfl
                rotate_left
                · simp only [Act.put, List.setIfInBounds_toArray, List.set_cons_zero, List.set_cons_succ, i64_w, i32_w]
                  rfl
                refine pure_ (i := 33) (N := some 94) (v := ?_) (a' := ?_) #[true, true, true, true, true, true, true, true, true, true, true, true, true, true, true, true, true, true, true, true, true, true, true, true, true, true, true, true, true, true, true, true, true, true, false, false, false, false, false] rfl rfl (any_of HT_.out (by kernel_rfl)) (fun _ _ _ h => h) (Or.inl ⟨by rfl, ?_⟩) ?_ ?_
                rotate_left
                · intro w'
                  go_simp
                  with_reducible rfl
                rotate_left
                · simp only [Act.put, List.setIfInBounds_toArray, List.set_cons_zero, List.set_cons_succ, i64_w, i32_w]
                  rfl
                refine pure_ (i := 34) (N := some 95) (v := ?_) (a' := ?_) #[true, true, true, true, true, true, true, true, true, true, true, true, true, true, true, true, true, true, true, true, true, true, true, true, true, true, true, true, true, true, true, true, true, true, true, false, false, false, false] rfl rfl (any_of HT_.out (by kernel_rfl)) (fun _ _ _ h => h) (Or.inl ⟨by rfl, ?_⟩) ?_ ?_
                rotate_left
                · intro w'
                  go_simp
                  with_reducible rfl
                rotate_left
                · simp only [Act.put, List.setIfInBounds_toArray, List.set_cons_zero, List.set_cons_succ, i64_w, i32_w]
                  rfl
                refine pure_ (i := 35) (N := some 96) (v := ?_) (a' := ?_) #[true, true, true, true, true, true, true, true, true, true, true, true, true, true, true, true, true, true, true, true, true, true, true, true, true, true, true, true, true, true, true, true, true, true, true, true, false, false, false] rfl rfl (any_of HT_.out (by kernel_rfl)) (fun _ _ _ h => h) (Or.inl ⟨by rfl, ?_⟩) ?_ ?_
                rotate_left
                · intro w'
                  go_simp
                  with_reducible rfl
                rotate_left
                · simp only [Act.put, List.setIfInBounds_toArray, List.set_cons_zero, List.set_cons_succ, i64_w, i32_w]
                  rfl
                refine one_ (i := 36) (N := some 97) #[true, true, true, true, true, true, true, true, true, true, true, true, true, true, true, true, true, true, true, true, true, true, true, true, true, true, true, true, true, true, true, true, true, true, true, true, true, false, false] rfl rfl (one_of HT_.out (by kernel_rfl)) (by decide) (fun K hK => ?_)
                refine goes_ Try.func17 (by kernel_rfl) rfl #[] (by rfl) rfl rfl (by (try simp only [List.map_toArray, List.map_cons, List.map_nil]); first | done | rfl | (simp only [List.length_drop, List.length_take]; rfl)) ?_
                with_reducible refine (lookasidelaw03_lives.calls k  t173 _ A17.out).mono ?_
                rintro e w34 ⟨rfl, hb⟩
                refine ⟨_, rfl, ?_⟩
                have n0_ := Aside0.mk (blk_below (g := gb151) (o := .cells #[.int .i64 a0_0, .int .i64 a0_1, .int .u64 a0_2, .int .u64 a0_3, .bool a0_4, .bool a0_5, .bool a0_6, .bool a0_7, .bool a0_8, .bool a0_9, .bool a0_10] 26 (0, 0)) (by (with_reducible repeat (first | refine blk_drewN ?_ _ | refine blk_drew ?_ | refine blk_alloc ?_ _)); exact BK151.out) hb)
                have n1_ := Aside0.mk (blk_below (g := gb163) (o := .cells #[.int .i64 t152, .int .i64 t153, .int .u64 t154, .int .u64 t155, .bool t156, .bool t157, .bool t158, .bool t159, .bool t160, .bool t161, .bool t162] 26 (0, 0)) (by (with_reducible repeat (first | refine blk_drewN ?_ _ | refine blk_drew ?_ | refine blk_alloc ?_ _)); exact BK163.out) hb)
                have n2_ := Aside0.mk (below_step (by repeat (first | (with_reducible first | exact HB.out | apply below_alloc | apply pw_below_drewN | apply below_drew1 | refine below_set ?_ GE151.out | refine below_set ?_ GE163.out) | exact HB.out)) hb)
                clear BK151
                clear BK163
                clear HB
                have BK151 := n0_
                have BK163 := n1_
                have HB := n2_
                clear n0_ n1_ n2_
                (try clear hb)
                (try clear hb2)
                (try clear hk)
                (try clear hi)
                refine hK.out _ _ ⟨(blk_cell BK163.out 0).trans rfl, (blk_cell BK163.out 1).trans rfl, (blk_cell BK163.out 2).trans rfl, (blk_cell BK163.out 3).trans rfl, (blk_cell BK163.out 4).trans rfl, (blk_cell BK163.out 5).trans rfl, (blk_cell BK163.out 6).trans rfl, (blk_cell BK163.out 7).trans rfl, (blk_cell BK163.out 8).trans rfl, (blk_cell BK163.out 9).trans rfl, (blk_cell BK163.out 10).trans rfl⟩ (fun hHeld => ?_)
                clear hK K
                refine norm_ (a' := ?_) ?_ ?_
                rotate_left
                · show Act.put _ (some 97) _ = _
                  simp only [Act.put, List.setIfInBounds_toArray, List.set_cons_zero, List.set_cons_succ, i64_w, i32_w]
                  rfl
                refine pure_ (i := 37) (N := some 98) (v := ?_) (a' := ?_) #[true, true, true, true, true, true, true, true, true, true, true, true, true, true, true, true, true, true, true, true, true, true, true, true, true, true, true, true, true, true, true, true, true, true, true, true, true, true, false] rfl rfl (any_of HT_.out (by kernel_rfl)) (fun _ _ _ h => h) (Or.inl ⟨by rfl, ?_⟩) ?_ ?_
                rotate_left
                · intro w'
                  go_simp
                  with_reducible rfl
                rotate_left
                · simp only [Act.put, List.setIfInBounds_toArray, List.set_cons_zero, List.set_cons_succ, i64_w, i32_w]
                  rfl
                refine pure_ (i := 38) (N := some 6) (v := ?_) (a' := ?_) #[true, true, true, true, true, true, true, true, true, true, true, true, true, true, true, true, true, true, true, true, true, true, true, true, true, true, true, true, true, true, true, true, true, true, true, true, true, true, true] rfl rfl (any_of HT_.out (by kernel_rfl)) (fun _ _ _ h => h) (Or.inl ⟨by rfl, ?_⟩) ?_ ?_
                rotate_left
                · intro w'
                  go_simp
                  with_reducible rfl
                rotate_left
                · simp only [Act.put, List.setIfInBounds_toArray, List.set_cons_zero, List.set_cons_succ, i64_w, i32_w]
                  rfl
                refine done_ (done_of HT_.out (by kernel_rfl)) ?_
                try go_wp2
                go_ret
                exact ⟨by first | rfl | (simp [errW_none, errW_some] <;> rfl) | (simp [*, errW_none, errW_some] <;> rfl), by repeat (first | (with_reducible first | exact HB.out | apply below_alloc | apply pw_below_drewN | apply below_drew1 | refine below_set ?_ GE151.out | refine below_set ?_ GE163.out) | exact HB.out)⟩
              · rw [if_neg c16] at H
                have c16b0 : ((IntKind.u64.wrap (t167 - t165)) == (IntKind.u64.wrap ((Int.tmod a2 t164) - (Int.tmod a1 t164)))) = false := beq_eq_false_iff_ne.mpr c16
                have c16b1 : ((IntKind.u64.wrap (t167 - t165)) != (IntKind.u64.wrap ((Int.tmod a2 t164) - (Int.tmod a1 t164)))) = true := bne_iff_ne.mpr c16
                exact absurd ((Option.some.inj H).trans hr_.out) (by decide)
            · rw [if_neg c15] at H
              have c15b0 : (t165 == (IntKind.u64.wrap (t155 + (Int.tmod a1 t164)))) = false := beq_eq_false_iff_ne.mpr c15
              have c15b1 : (t165 != (IntKind.u64.wrap (t155 + (Int.tmod a1 t164)))) = true := bne_iff_ne.mpr c15
              exact absurd ((Option.some.inj H).trans hr_.out) (by decide)
      · replace c12 := Bool.eq_false_iff.mpr c12
        subst c12
        have H1 : (some false) = some r := by rw [if_neg (show ¬ (false = true) by decide)] at H; exact H
        clear H
        have H := H1
        clear H1
        exact absurd ((Option.some.inj H).trans hr_.out) (by decide)
    · replace c11 := Bool.eq_false_iff.mpr c11
      subst c11
      have H1 : (some false) = some r := by rw [if_neg (show ¬ (false = true) by decide)] at H; exact H
      clear H
      have H := H1
      clear H1
      exact absurd ((Option.some.inj H).trans hr_.out) (by decide)

/-- THE ONE PURE STATEMENT of lookasidelaw03_TteFrames: yours. -/
def lookasidelaw03_TteFrames.Pure : Prop := ∀ (a0_0 : Int) (a0_1 : Int) (a0_2 : Int) (a0_3 : Int) (a0_4 : Bool) (a0_5 : Bool) (a0_6 : Bool) (a0_7 : Bool) (a0_8 : Bool) (a0_9 : Bool) (a0_10 : Bool) (a1 : Int) (a2 : Int), (Lit.int .i64 a0_0).wf = true → (Lit.int .i64 a0_1).wf = true → (Lit.int .u64 a0_2).wf = true → (Lit.int .u64 a0_3).wf = true → (Lit.int .u64 a1).wf = true → (Lit.int .u64 a2).wf = true → ∃ k, lookasidelaw03_TteFrames.f k a0_0 a0_1 a0_2 a0_3 a0_4 a0_5 a0_6 a0_7 a0_8 a0_9 a0_10 a1 a2 = some true
theorem lookasidelaw03_TteFrames.walk (P : lookasidelaw03_TteFrames.Pure) (a0_0 : Int) (a0_1 : Int) (a0_2 : Int) (a0_3 : Int) (a0_4 : Bool) (a0_5 : Bool) (a0_6 : Bool) (a0_7 : Bool) (a0_8 : Bool) (a0_9 : Bool) (a0_10 : Bool) (a1 : Int) (a2 : Int) (w : World) (w0_0 : (Lit.int .i64 a0_0).wf = true) (w0_1 : (Lit.int .i64 a0_1).wf = true) (w0_2 : (Lit.int .u64 a0_2).wf = true) (w0_3 : (Lit.int .u64 a0_3).wf = true) (w1 : (Lit.int .u64 a1).wf = true) (w2 : (Lit.int .u64 a2).wf = true) :
    Calls Try.prog 7 #[.agg #[.int .i64 a0_0, .int .i64 a0_1, .int .u64 a0_2, .int .u64 a0_3, .bool a0_4, .bool a0_5, .bool a0_6, .bool a0_7, .bool a0_8, .bool a0_9, .bool a0_10], .int .u64 a1, .int .u64 a2] w fun e w' => e = .returned (.bool true) ∧ Below w.heap.size w w' := by
  obtain ⟨k, h⟩ := P a0_0 a0_1 a0_2 a0_3 a0_4 a0_5 a0_6 a0_7 a0_8 a0_9 a0_10 a1 a2 w0_0 w0_1 w0_2 w0_3 w1 w2
  refine (lookasidelaw03_TteFrames.calls k a0_0 a0_1 a0_2 a0_3 a0_4 a0_5 a0_6 a0_7 a0_8 a0_9 a0_10 a1 a2 true w h rfl).mono ?_
  rintro e w' ⟨rfl, hd⟩
  exact ⟨rfl, hd⟩

end Go.Proofs.Ytecbngibhobgbaa.QTteFrames
