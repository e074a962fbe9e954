-- Printed by a program of this session (wip/print/myprint.py) out of the translation; Lean checks it.
import Derived.Test.YtecbngibhobgbaaQFaultJudgesx0
import Derived.Test.YtecbngibhobgbaaQFaultJudgesx2
import Derived.Test.YtecbngibhobgbaaQFaultJudgesx3
import Derived.Test.YtecbngibhobgbaaQFaultJudgesx4
import Derived.Test.YtecbngibhobgbaaQFaultJudgesx5
namespace Go.Proofs.Ytecbngibhobgbaa.QFaultJudges
open Go.RowKit Go.Proofs.YtecbngibhobgbaaW.PrintWords Go.Proofs.YtecbngibhobgbaaW.PrintLast Go.Proofs.YtecbngibhobgbaaW.PrintMore
attribute [local go_sem] max2_int min2_int max_two min_two max_three min_three max_four min_four   -- for this text's walks alone
set_option linter.unusedVariables false
set_option linter.unusedSimpArgs false
theorem bb_ {w2 w' : World} {g : Nat} {o : Obj} (hb : Below w2.heap.size w2 w') (h : w2.heap[g]? = some o) : w'.heap[g]? = some o := blk_below h hb
theorem ca3_ {W : World} {g : Nat} {t : TypeId} {a0 a1 a2 : Value} {R : Prop} (h : W.heap[g]? = some (.cells #[a0, a1, a2] t (0, 0))) (r : R) : W.cell? ⟨g, 0, none⟩ = some a0 ∧ W.cell? ⟨g, 1, none⟩ = some a1 ∧ W.cell? ⟨g, 2, none⟩ = some a2 ∧ R := ⟨(blk_cell h 0).trans rfl, (blk_cell h 1).trans rfl, (blk_cell h 2).trans rfl, r⟩
theorem cz3_ {W : World} {g : Nat} {t : TypeId} {a0 a1 a2 : Value} (h : W.heap[g]? = some (.cells #[a0, a1, a2] t (0, 0))) : W.cell? ⟨g, 0, none⟩ = some a0 ∧ W.cell? ⟨g, 1, none⟩ = some a1 ∧ W.cell? ⟨g, 2, none⟩ = some a2 := ⟨(blk_cell h 0).trans rfl, (blk_cell h 1).trans rfl, (blk_cell h 2).trans rfl⟩
theorem ca6_ {W : World} {g : Nat} {t : TypeId} {a0 a1 a2 a3 a4 a5 : Value} {R : Prop} (h : W.heap[g]? = some (.cells #[a0, a1, a2, a3, a4, a5] t (0, 0))) (r : R) : W.cell? ⟨g, 0, none⟩ = some a0 ∧ W.cell? ⟨g, 1, none⟩ = some a1 ∧ W.cell? ⟨g, 2, none⟩ = some a2 ∧ W.cell? ⟨g, 3, none⟩ = some a3 ∧ W.cell? ⟨g, 4, none⟩ = some a4 ∧ W.cell? ⟨g, 5, none⟩ = some a5 ∧ R := ⟨(blk_cell h 0).trans rfl, (blk_cell h 1).trans rfl, (blk_cell h 2).trans rfl, (blk_cell h 3).trans rfl, (blk_cell h 4).trans rfl, (blk_cell h 5).trans rfl, r⟩
theorem ca11_ {W : World} {g : Nat} {t : TypeId} {a0 a1 a2 a3 a4 a5 a6 a7 a8 a9 a10 : Value} {R : Prop} (h : W.heap[g]? = some (.cells #[a0, a1, a2, a3, a4, a5, a6, a7, a8, a9, a10] t (0, 0))) (r : R) : W.cell? ⟨g, 0, none⟩ = some a0 ∧ W.cell? ⟨g, 1, none⟩ = some a1 ∧ W.cell? ⟨g, 2, none⟩ = some a2 ∧ W.cell? ⟨g, 3, none⟩ = some a3 ∧ W.cell? ⟨g, 4, none⟩ = some a4 ∧ W.cell? ⟨g, 5, none⟩ = some a5 ∧ W.cell? ⟨g, 6, none⟩ = some a6 ∧ W.cell? ⟨g, 7, none⟩ = some a7 ∧ W.cell? ⟨g, 8, none⟩ = some a8 ∧ W.cell? ⟨g, 9, none⟩ = some a9 ∧ W.cell? ⟨g, 10, none⟩ = some a10 ∧ R := ⟨(blk_cell h 0).trans rfl, (blk_cell h 1).trans rfl, (blk_cell h 2).trans rfl, (blk_cell h 3).trans rfl, (blk_cell h 4).trans rfl, (blk_cell h 5).trans rfl, (blk_cell h 6).trans rfl, (blk_cell h 7).trans rfl, (blk_cell h 8).trans rfl, (blk_cell h 9).trans rfl, (blk_cell h 10).trans rfl, r⟩

/-! ### lookasidelaw09_FaultJudges: function 11 -/
def lookasidelaw09_FaultJudges.f (k : Nat) (a0_0 : Bool) (a0_1 : Bool) (a0_2 : Bool) (a0_3 : Bool) (a0_4 : Bool) (a0_5 : Bool) (a1_0 : Int) (a1_1 : Int) (a1_2 : Int) (a1_3 : Int) (a1_4 : Bool) (a1_5 : Bool) (a1_6 : Bool) (a1_7 : Bool) (a1_8 : Bool) (a1_9 : Bool) (a1_10 : Bool) (a2 : Int) (a3_0 : Int) (a3_1 : Bool) (a3_2 : Int) : Option (Bool) := (lookasideref09_Good.f k a3_0 a3_1 a3_2 false).bind fun bt171 => ((lookasideref09_Good.f k a3_0 a3_1 a3_2 true).bind fun bt175 => ((lookasideref03_Good.f k a1_0 a1_1 a1_2 a1_3 a1_4 a1_5 a1_6 a1_7 a1_8 a1_9 a1_10).bind fun bt179 => ((fault_May.f a3_0 a3_1 a3_2).bind fun t191 => (if a3_0 ≥ 0 then (if (t191 == (decide (a3_0 ≤ 3))) = true then ((fault_Judge.f k a0_0 a0_1 a0_2 a0_3 a0_4 a0_5 bt171.1 bt171.2.1 bt171.2.2).bind fun t192 => ((lookasideref09_Judge.f k a0_0 a0_1 a0_2 a0_3 a0_4 a0_5 bt171.1 bt171.2.1 bt171.2.2).bind fun t193 => (if t192 = t193 then ((fault_Of.f k a1_0 a1_1 a1_2 a1_3 a1_4 a1_5 a1_6 a1_7 a1_8 a1_9 a1_10 a2 bt171.1 bt171.2.1 bt171.2.2).bind fun t194 => ((lookasideref09_Of.f k a1_0 a1_1 a1_2 a1_3 a1_4 a1_5 a1_6 a1_7 a1_8 a1_9 a1_10 a2 bt171.1 bt171.2.1 bt171.2.2).bind fun t195 => (if t194 = t195 then ((fault_Of.f k bt179.1 bt179.2.1 bt179.2.2.1 bt179.2.2.2.1 bt179.2.2.2.2.1 bt179.2.2.2.2.2.1 bt179.2.2.2.2.2.2.1 bt179.2.2.2.2.2.2.2.1 bt179.2.2.2.2.2.2.2.2.1 bt179.2.2.2.2.2.2.2.2.2.1 bt179.2.2.2.2.2.2.2.2.2.2 a2 bt171.1 bt171.2.1 bt171.2.2).bind fun t196 => ((lookasideref09_Of.f k bt179.1 bt179.2.1 bt179.2.2.1 bt179.2.2.2.1 bt179.2.2.2.2.1 bt179.2.2.2.2.2.1 bt179.2.2.2.2.2.2.1 bt179.2.2.2.2.2.2.2.1 bt179.2.2.2.2.2.2.2.2.1 bt179.2.2.2.2.2.2.2.2.2.1 bt179.2.2.2.2.2.2.2.2.2.2 a2 bt171.1 bt171.2.1 bt171.2.2).bind fun t197 => (if t196 = t197 then ((fault_Of.f k bt179.1 bt179.2.1 bt179.2.2.1 bt179.2.2.2.1 bt179.2.2.2.2.1 bt179.2.2.2.2.2.1 bt179.2.2.2.2.2.2.1 bt179.2.2.2.2.2.2.2.1 bt179.2.2.2.2.2.2.2.2.1 bt179.2.2.2.2.2.2.2.2.2.1 bt179.2.2.2.2.2.2.2.2.2.2 bt179.2.1 bt175.1 bt175.2.1 bt179.2.2.1).bind fun t198 => ((lookasideref09_Judge.f k bt179.2.2.2.2.1 bt179.2.2.2.2.2.1 bt179.2.2.2.2.2.2.1 bt179.2.2.2.2.2.2.2.1 bt179.2.2.2.2.2.2.2.2.1 bt179.2.2.2.2.2.2.2.2.2.1 bt175.1 bt175.2.1 bt179.2.2.1).bind fun t199 => (if t198 = t199 then ((lookasidelaw09_lives.f k).bind fun t200 => (some t200)) else (some false)))) else (some false)))) else (some false)))) else (some false)))) else (some false)) else (if (t191 == false) = true then ((fault_Judge.f k a0_0 a0_1 a0_2 a0_3 a0_4 a0_5 bt171.1 bt171.2.1 bt171.2.2).bind fun t201 => ((lookasideref09_Judge.f k a0_0 a0_1 a0_2 a0_3 a0_4 a0_5 bt171.1 bt171.2.1 bt171.2.2).bind fun t202 => (if t201 = t202 then ((fault_Of.f k a1_0 a1_1 a1_2 a1_3 a1_4 a1_5 a1_6 a1_7 a1_8 a1_9 a1_10 a2 bt171.1 bt171.2.1 bt171.2.2).bind fun t203 => ((lookasideref09_Of.f k a1_0 a1_1 a1_2 a1_3 a1_4 a1_5 a1_6 a1_7 a1_8 a1_9 a1_10 a2 bt171.1 bt171.2.1 bt171.2.2).bind fun t204 => (if t203 = t204 then ((fault_Of.f k bt179.1 bt179.2.1 bt179.2.2.1 bt179.2.2.2.1 bt179.2.2.2.2.1 bt179.2.2.2.2.2.1 bt179.2.2.2.2.2.2.1 bt179.2.2.2.2.2.2.2.1 bt179.2.2.2.2.2.2.2.2.1 bt179.2.2.2.2.2.2.2.2.2.1 bt179.2.2.2.2.2.2.2.2.2.2 a2 bt171.1 bt171.2.1 bt171.2.2).bind fun t205 => ((lookasideref09_Of.f k bt179.1 bt179.2.1 bt179.2.2.1 bt179.2.2.2.1 bt179.2.2.2.2.1 bt179.2.2.2.2.2.1 bt179.2.2.2.2.2.2.1 bt179.2.2.2.2.2.2.2.1 bt179.2.2.2.2.2.2.2.2.1 bt179.2.2.2.2.2.2.2.2.2.1 bt179.2.2.2.2.2.2.2.2.2.2 a2 bt171.1 bt171.2.1 bt171.2.2).bind fun t206 => (if t205 = t206 then ((fault_Of.f k bt179.1 bt179.2.1 bt179.2.2.1 bt179.2.2.2.1 bt179.2.2.2.2.1 bt179.2.2.2.2.2.1 bt179.2.2.2.2.2.2.1 bt179.2.2.2.2.2.2.2.1 bt179.2.2.2.2.2.2.2.2.1 bt179.2.2.2.2.2.2.2.2.2.1 bt179.2.2.2.2.2.2.2.2.2.2 bt179.2.1 bt175.1 bt175.2.1 bt179.2.2.1).bind fun t207 => ((lookasideref09_Judge.f k bt179.2.2.2.2.1 bt179.2.2.2.2.2.1 bt179.2.2.2.2.2.2.1 bt179.2.2.2.2.2.2.2.1 bt179.2.2.2.2.2.2.2.2.1 bt179.2.2.2.2.2.2.2.2.2.1 bt175.1 bt175.2.1 bt179.2.2.1).bind fun t208 => (if t207 = t208 then ((lookasidelaw09_lives.f k).bind fun t209 => (some t209)) else (some false)))) else (some false)))) else (some false)))) else (some false)))) else (some false))))))
theorem lookasidelaw09_FaultJudges.mono : ∀ a0 a1 a2 a3 a4 a5 a6 a7 a8 a9 a10 a11 a12 a13 a14 a15 a16 a17 a18 a19 a20 k, LeO (lookasidelaw09_FaultJudges.f k a0 a1 a2 a3 a4 a5 a6 a7 a8 a9 a10 a11 a12 a13 a14 a15 a16 a17 a18 a19 a20) (lookasidelaw09_FaultJudges.f (k + 1) a0 a1 a2 a3 a4 a5 a6 a7 a8 a9 a10 a11 a12 a13 a14 a15 a16 a17 a18 a19 a20) := by
  intro a0 a1 a2 a3 a4 a5 a6 a7 a8 a9 a10 a11 a12 a13 a14 a15 a16 a17 a18 a19 a20 k
  unfold lookasidelaw09_FaultJudges.f
  repeat' first
      | (with_reducible exact fault_Judge.mono _ _ _ _ _ _ _ _ _ _)
      | (with_reducible exact fault_Of.mono _ _ _ _ _ _ _ _ _ _ _ _ _ _ _ _)
      | (with_reducible exact lookasidelaw09_lives.mono _)
      | (with_reducible exact lookasideref03_Good.mono _ _ _ _ _ _ _ _ _ _ _ _)
      | (with_reducible exact lookasideref09_Good.mono _ _ _ _ _)
      | (with_reducible exact lookasideref09_Judge.mono _ _ _ _ _ _ _ _ _ _)
      | (with_reducible exact lookasideref09_Of.mono _ _ _ _ _ _ _ _ _ _ _ _ _ _ _ _)
      | (with_reducible exact LeO.refl _)
      | (with_reducible exact LeO.none _)
      | (with_reducible refine LeO.ite ?_ ?_)
      | (with_reducible refine LeO.bind ?_ (fun _ => ?_))
      | exact fault_Judge.mono _ _ _ _ _ _ _ _ _ _
      | exact fault_Of.mono _ _ _ _ _ _ _ _ _ _ _ _ _ _ _ _
      | exact lookasidelaw09_lives.mono _
      | exact lookasideref03_Good.mono _ _ _ _ _ _ _ _ _ _ _ _
      | exact lookasideref09_Good.mono _ _ _ _ _
      | exact lookasideref09_Judge.mono _ _ _ _ _ _ _ _ _ _
      | exact lookasideref09_Of.mono _ _ _ _ _ _ _ _ _ _ _ _ _ _ _ _
      | exact LeO.none _
      | refine LeO.ite ?_ ?_
      | refine LeO.bind ?_ (fun _ => ?_)
def lookasidelaw09_FaultJudges.T5 : Bool × List (List Nat × List Nat) := (true, [([], []), ([0], [0]), ([], []), ([2], [2]), ([3], [3]), ([4, 1], [4]), ([5], [5]), ([6, 5], [5, 6]), ([7, 5], [5, 7]), ([5, 8], [5, 8]), ([1, 9], [1, 9]), ([10, 5], [10]), ([11], [11]), ([11], [11]), ([12, 13, 11, 11], [11, 12, 13]), ([11], [11]), ([11], [11]), ([15, 16, 14, 11], [11, 15, 16]), ([14, 17, 11], [11, 14, 17]), ([11, 18], [11, 18]), ([19, 17], [19]), ([20], [20]), ([20], [20]), ([20], [20]), ([21, 22, 23, 20, 20], [20, 21, 22, 23]), ([20], [20]), ([20], [20]), ([20], [20]), ([25, 26, 27, 24, 20], [20, 25, 26, 27]), ([24, 28, 20], [20, 24, 28]), ([20, 29], [20, 29]), ([30, 28], [30]), ([31], [31]), ([31], [31]), ([31], [31]), ([32, 33, 34, 31, 31], [31, 32, 33, 34]), ([31], [31]), ([31], [31]), ([31], [31]), ([36, 37, 38, 35, 31], [31, 36, 37, 38]), ([35, 39, 31], [31, 35, 39]), ([31, 40], [31, 40]), ([41, 39], [41]), ([42], [42]), ([42], [42]), ([44, 42], [42, 44]), ([42], [42]), ([43, 45, 46, 42, 42], [42, 43, 45, 46]), ([42], [42]), ([48, 42], [42, 48]), ([42], [42]), ([49, 50, 47, 42], [42, 49, 50]), ([47, 51, 42], [42, 47, 51]), ([42, 52], [42, 52]), ([53, 51], [53]), ([54, 54], [54]), ([54, 55], [54, 55]), ([56, 55, 0, 1, 2, 3, 4, 5, 6, 7, 8, 9, 10, 11, 12, 13, 14, 15, 16, 17, 18, 19, 20, 21, 22, 23, 24, 25, 26, 27, 28, 29, 30, 31, 32, 33, 34, 35, 36, 37, 38, 39, 40, 41, 42, 43, 44, 45, 46, 47, 48, 49, 50, 51, 52, 53, 54, 55, 56], [56])])
def lookasidelaw09_FaultJudges.B5 : List Nat := [0, 1, 0, 4, 12, 31, 63, 127, 255, 511, 1023, 2047, 4095, 4095, 16383, 4095, 4095, 131071, 262143, 524287, 1048575, 2097151, 2097151, 2097151, 16777215, 2097151, 2097151, 2097151, 268435455, 536870911, 1073741823, 2147483647, 4294967295, 4294967295, 4294967295, 34359738367, 4294967295, 4294967295, 4294967295, 549755813887, 1099511627775, 2199023255551, 4398046511103, 8796093022207, 8796093022207, 26388279066623, 8796093022207, 140737488355327, 8796093022207, 290271069732863, 8796093022207, 2251799813685247, 4503599627370495, 9007199254740991, 18014398509481983, 36028797018963967, 72057594037927935, 144115188075855871]
theorem lookasidelaw09_FaultJudges.tab5 : rtab .any (opsOf Try.f11 5) = lookasidelaw09_FaultJudges.T5 := by kernel_rfl
theorem lookasidelaw09_FaultJudges.bits5 : waitsOk lookasidelaw09_FaultJudges.T5.2 lookasidelaw09_FaultJudges.B5 = true := by kernel_rfl
set_option maxHeartbeats 8000000 in
set_option maxRecDepth 100000 in
theorem lookasidelaw09_FaultJudges.calls (k : Nat) (a0_0 : Bool) (a0_1 : Bool) (a0_2 : Bool) (a0_3 : Bool) (a0_4 : Bool) (a0_5 : Bool) (a1_0 : Int) (a1_1 : Int) (a1_2 : Int) (a1_3 : Int) (a1_4 : Bool) (a1_5 : Bool) (a1_6 : Bool) (a1_7 : Bool) (a1_8 : Bool) (a1_9 : Bool) (a1_10 : Bool) (a2 : Int) (a3_0 : Int) (a3_1 : Bool) (a3_2 : Int) (r : Bool) (w : World) (h : lookasidelaw09_FaultJudges.f k a0_0 a0_1 a0_2 a0_3 a0_4 a0_5 a1_0 a1_1 a1_2 a1_3 a1_4 a1_5 a1_6 a1_7 a1_8 a1_9 a1_10 a2 a3_0 a3_1 a3_2 = some r) (hr0_ : r = true) :
    Calls Try.prog 11 #[.agg #[.bool a0_0, .bool a0_1, .bool a0_2, .bool a0_3, .bool a0_4, .bool a0_5], .agg #[.int .i64 a1_0, .int .i64 a1_1, .int .u64 a1_2, .int .u64 a1_3, .bool a1_4, .bool a1_5, .bool a1_6, .bool a1_7, .bool a1_8, .bool a1_9, .bool a1_10], .int .i64 a2, .agg #[.int .i64 a3_0, .bool a3_1, .int .u64 a3_2]] w fun e w' => e = .returned (.bool r) ∧ Below w.heap.size w w' := by
  have hu24 := Try.underlying24
  have hu26 := Try.underlying26
  have hu49 := Try.underlying49
  have HB := Aside0.mk (Below.refl w.heap.size w)
  have H : ((lookasideref09_Good.f k a3_0 a3_1 a3_2 false).bind fun bt171 => ((lookasideref09_Good.f k a3_0 a3_1 a3_2 true).bind fun bt175 => ((lookasideref03_Good.f k a1_0 a1_1 a1_2 a1_3 a1_4 a1_5 a1_6 a1_7 a1_8 a1_9 a1_10).bind fun bt179 => ((fault_May.f a3_0 a3_1 a3_2).bind fun t191 => (if a3_0 ≥ 0 then (if (t191 == (decide (a3_0 ≤ 3))) = true then ((fault_Judge.f k a0_0 a0_1 a0_2 a0_3 a0_4 a0_5 bt171.1 bt171.2.1 bt171.2.2).bind fun t192 => ((lookasideref09_Judge.f k a0_0 a0_1 a0_2 a0_3 a0_4 a0_5 bt171.1 bt171.2.1 bt171.2.2).bind fun t193 => (if t192 = t193 then ((fault_Of.f k a1_0 a1_1 a1_2 a1_3 a1_4 a1_5 a1_6 a1_7 a1_8 a1_9 a1_10 a2 bt171.1 bt171.2.1 bt171.2.2).bind fun t194 => ((lookasideref09_Of.f k a1_0 a1_1 a1_2 a1_3 a1_4 a1_5 a1_6 a1_7 a1_8 a1_9 a1_10 a2 bt171.1 bt171.2.1 bt171.2.2).bind fun t195 => (if t194 = t195 then ((fault_Of.f k bt179.1 bt179.2.1 bt179.2.2.1 bt179.2.2.2.1 bt179.2.2.2.2.1 bt179.2.2.2.2.2.1 bt179.2.2.2.2.2.2.1 bt179.2.2.2.2.2.2.2.1 bt179.2.2.2.2.2.2.2.2.1 bt179.2.2.2.2.2.2.2.2.2.1 bt179.2.2.2.2.2.2.2.2.2.2 a2 bt171.1 bt171.2.1 bt171.2.2).bind fun t196 => ((lookasideref09_Of.f k bt179.1 bt179.2.1 bt179.2.2.1 bt179.2.2.2.1 bt179.2.2.2.2.1 bt179.2.2.2.2.2.1 bt179.2.2.2.2.2.2.1 bt179.2.2.2.2.2.2.2.1 bt179.2.2.2.2.2.2.2.2.1 bt179.2.2.2.2.2.2.2.2.2.1 bt179.2.2.2.2.2.2.2.2.2.2 a2 bt171.1 bt171.2.1 bt171.2.2).bind fun t197 => (if t196 = t197 then ((fault_Of.f k bt179.1 bt179.2.1 bt179.2.2.1 bt179.2.2.2.1 bt179.2.2.2.2.1 bt179.2.2.2.2.2.1 bt179.2.2.2.2.2.2.1 bt179.2.2.2.2.2.2.2.1 bt179.2.2.2.2.2.2.2.2.1 bt179.2.2.2.2.2.2.2.2.2.1 bt179.2.2.2.2.2.2.2.2.2.2 bt179.2.1 bt175.1 bt175.2.1 bt179.2.2.1).bind fun t198 => ((lookasideref09_Judge.f k bt179.2.2.2.2.1 bt179.2.2.2.2.2.1 bt179.2.2.2.2.2.2.1 bt179.2.2.2.2.2.2.2.1 bt179.2.2.2.2.2.2.2.2.1 bt179.2.2.2.2.2.2.2.2.2.1 bt175.1 bt175.2.1 bt179.2.2.1).bind fun t199 => (if t198 = t199 then ((lookasidelaw09_lives.f k).bind fun t200 => (some t200)) else (some false)))) else (some false)))) else (some false)))) else (some false)))) else (some false)) else (if (t191 == false) = true then ((fault_Judge.f k a0_0 a0_1 a0_2 a0_3 a0_4 a0_5 bt171.1 bt171.2.1 bt171.2.2).bind fun t201 => ((lookasideref09_Judge.f k a0_0 a0_1 a0_2 a0_3 a0_4 a0_5 bt171.1 bt171.2.1 bt171.2.2).bind fun t202 => (if t201 = t202 then ((fault_Of.f k a1_0 a1_1 a1_2 a1_3 a1_4 a1_5 a1_6 a1_7 a1_8 a1_9 a1_10 a2 bt171.1 bt171.2.1 bt171.2.2).bind fun t203 => ((lookasideref09_Of.f k a1_0 a1_1 a1_2 a1_3 a1_4 a1_5 a1_6 a1_7 a1_8 a1_9 a1_10 a2 bt171.1 bt171.2.1 bt171.2.2).bind fun t204 => (if t203 = t204 then ((fault_Of.f k bt179.1 bt179.2.1 bt179.2.2.1 bt179.2.2.2.1 bt179.2.2.2.2.1 bt179.2.2.2.2.2.1 bt179.2.2.2.2.2.2.1 bt179.2.2.2.2.2.2.2.1 bt179.2.2.2.2.2.2.2.2.1 bt179.2.2.2.2.2.2.2.2.2.1 bt179.2.2.2.2.2.2.2.2.2.2 a2 bt171.1 bt171.2.1 bt171.2.2).bind fun t205 => ((lookasideref09_Of.f k bt179.1 bt179.2.1 bt179.2.2.1 bt179.2.2.2.1 bt179.2.2.2.2.1 bt179.2.2.2.2.2.1 bt179.2.2.2.2.2.2.1 bt179.2.2.2.2.2.2.2.1 bt179.2.2.2.2.2.2.2.2.1 bt179.2.2.2.2.2.2.2.2.2.1 bt179.2.2.2.2.2.2.2.2.2.2 a2 bt171.1 bt171.2.1 bt171.2.2).bind fun t206 => (if t205 = t206 then ((fault_Of.f k bt179.1 bt179.2.1 bt179.2.2.1 bt179.2.2.2.1 bt179.2.2.2.2.1 bt179.2.2.2.2.2.1 bt179.2.2.2.2.2.2.1 bt179.2.2.2.2.2.2.2.1 bt179.2.2.2.2.2.2.2.2.1 bt179.2.2.2.2.2.2.2.2.2.1 bt179.2.2.2.2.2.2.2.2.2.2 bt179.2.1 bt175.1 bt175.2.1 bt179.2.2.1).bind fun t207 => ((lookasideref09_Judge.f k bt179.2.2.2.2.1 bt179.2.2.2.2.2.1 bt179.2.2.2.2.2.2.1 bt179.2.2.2.2.2.2.2.1 bt179.2.2.2.2.2.2.2.2.1 bt179.2.2.2.2.2.2.2.2.2.1 bt175.1 bt175.2.1 bt179.2.2.1).bind fun t208 => (if t207 = t208 then ((lookasidelaw09_lives.f k).bind fun t209 => (some t209)) else (some false)))) else (some false)))) else (some false)))) else (some false)))) else (some false))))))) = some r := h
  clear h
  have hr_ := Aside0.mk hr0_
  clear hr0_
  replace H := Option.bind_eq_some_iff.mp H
  obtain ⟨⟨t171, t172, t173⟩, A50, H⟩ := H
  replace H : ((lookasideref09_Good.f k a3_0 a3_1 a3_2 true).bind fun bt175 => ((lookasideref03_Good.f k a1_0 a1_1 a1_2 a1_3 a1_4 a1_5 a1_6 a1_7 a1_8 a1_9 a1_10).bind fun bt179 => ((fault_May.f a3_0 a3_1 a3_2).bind fun t191 => (if a3_0 ≥ 0 then (if (t191 == (decide (a3_0 ≤ 3))) = true then ((fault_Judge.f k a0_0 a0_1 a0_2 a0_3 a0_4 a0_5 t171 t172 t173).bind fun t192 => ((lookasideref09_Judge.f k a0_0 a0_1 a0_2 a0_3 a0_4 a0_5 t171 t172 t173).bind fun t193 => (if t192 = t193 then ((fault_Of.f k a1_0 a1_1 a1_2 a1_3 a1_4 a1_5 a1_6 a1_7 a1_8 a1_9 a1_10 a2 t171 t172 t173).bind fun t194 => ((lookasideref09_Of.f k a1_0 a1_1 a1_2 a1_3 a1_4 a1_5 a1_6 a1_7 a1_8 a1_9 a1_10 a2 t171 t172 t173).bind fun t195 => (if t194 = t195 then ((fault_Of.f k bt179.1 bt179.2.1 bt179.2.2.1 bt179.2.2.2.1 bt179.2.2.2.2.1 bt179.2.2.2.2.2.1 bt179.2.2.2.2.2.2.1 bt179.2.2.2.2.2.2.2.1 bt179.2.2.2.2.2.2.2.2.1 bt179.2.2.2.2.2.2.2.2.2.1 bt179.2.2.2.2.2.2.2.2.2.2 a2 t171 t172 t173).bind fun t196 => ((lookasideref09_Of.f k bt179.1 bt179.2.1 bt179.2.2.1 bt179.2.2.2.1 bt179.2.2.2.2.1 bt179.2.2.2.2.2.1 bt179.2.2.2.2.2.2.1 bt179.2.2.2.2.2.2.2.1 bt179.2.2.2.2.2.2.2.2.1 bt179.2.2.2.2.2.2.2.2.2.1 bt179.2.2.2.2.2.2.2.2.2.2 a2 t171 t172 t173).bind fun t197 => (if t196 = t197 then ((fault_Of.f k bt179.1 bt179.2.1 bt179.2.2.1 bt179.2.2.2.1 bt179.2.2.2.2.1 bt179.2.2.2.2.2.1 bt179.2.2.2.2.2.2.1 bt179.2.2.2.2.2.2.2.1 bt179.2.2.2.2.2.2.2.2.1 bt179.2.2.2.2.2.2.2.2.2.1 bt179.2.2.2.2.2.2.2.2.2.2 bt179.2.1 bt175.1 bt175.2.1 bt179.2.2.1).bind fun t198 => ((lookasideref09_Judge.f k bt179.2.2.2.2.1 bt179.2.2.2.2.2.1 bt179.2.2.2.2.2.2.1 bt179.2.2.2.2.2.2.2.1 bt179.2.2.2.2.2.2.2.2.1 bt179.2.2.2.2.2.2.2.2.2.1 bt175.1 bt175.2.1 bt179.2.2.1).bind fun t199 => (if t198 = t199 then ((lookasidelaw09_lives.f k).bind fun t200 => (some t200)) else (some false)))) else (some false)))) else (some false)))) else (some false)))) else (some false)) else (if (t191 == false) = true then ((fault_Judge.f k a0_0 a0_1 a0_2 a0_3 a0_4 a0_5 t171 t172 t173).bind fun t201 => ((lookasideref09_Judge.f k a0_0 a0_1 a0_2 a0_3 a0_4 a0_5 t171 t172 t173).bind fun t202 => (if t201 = t202 then ((fault_Of.f k a1_0 a1_1 a1_2 a1_3 a1_4 a1_5 a1_6 a1_7 a1_8 a1_9 a1_10 a2 t171 t172 t173).bind fun t203 => ((lookasideref09_Of.f k a1_0 a1_1 a1_2 a1_3 a1_4 a1_5 a1_6 a1_7 a1_8 a1_9 a1_10 a2 t171 t172 t173).bind fun t204 => (if t203 = t204 then ((fault_Of.f k bt179.1 bt179.2.1 bt179.2.2.1 bt179.2.2.2.1 bt179.2.2.2.2.1 bt179.2.2.2.2.2.1 bt179.2.2.2.2.2.2.1 bt179.2.2.2.2.2.2.2.1 bt179.2.2.2.2.2.2.2.2.1 bt179.2.2.2.2.2.2.2.2.2.1 bt179.2.2.2.2.2.2.2.2.2.2 a2 t171 t172 t173).bind fun t205 => ((lookasideref09_Of.f k bt179.1 bt179.2.1 bt179.2.2.1 bt179.2.2.2.1 bt179.2.2.2.2.1 bt179.2.2.2.2.2.1 bt179.2.2.2.2.2.2.1 bt179.2.2.2.2.2.2.2.1 bt179.2.2.2.2.2.2.2.2.1 bt179.2.2.2.2.2.2.2.2.2.1 bt179.2.2.2.2.2.2.2.2.2.2 a2 t171 t172 t173).bind fun t206 => (if t205 = t206 then ((fault_Of.f k bt179.1 bt179.2.1 bt179.2.2.1 bt179.2.2.2.1 bt179.2.2.2.2.1 bt179.2.2.2.2.2.1 bt179.2.2.2.2.2.2.1 bt179.2.2.2.2.2.2.2.1 bt179.2.2.2.2.2.2.2.2.1 bt179.2.2.2.2.2.2.2.2.2.1 bt179.2.2.2.2.2.2.2.2.2.2 bt179.2.1 bt175.1 bt175.2.1 bt179.2.2.1).bind fun t207 => ((lookasideref09_Judge.f k bt179.2.2.2.2.1 bt179.2.2.2.2.2.1 bt179.2.2.2.2.2.2.1 bt179.2.2.2.2.2.2.2.1 bt179.2.2.2.2.2.2.2.2.1 bt179.2.2.2.2.2.2.2.2.2.1 bt175.1 bt175.2.1 bt179.2.2.1).bind fun t208 => (if t207 = t208 then ((lookasidelaw09_lives.f k).bind fun t209 => (some t209)) else (some false)))) else (some false)))) else (some false)))) else (some false)))) else (some false)))))) = some r := H
  have A5 := Aside0.mk A50
  clear A50
  replace H := Option.bind_eq_some_iff.mp H
  obtain ⟨⟨t175, t176, t177⟩, A60, H⟩ := H
  replace H : ((lookasideref03_Good.f k a1_0 a1_1 a1_2 a1_3 a1_4 a1_5 a1_6 a1_7 a1_8 a1_9 a1_10).bind fun bt179 => ((fault_May.f a3_0 a3_1 a3_2).bind fun t191 => (if a3_0 ≥ 0 then (if (t191 == (decide (a3_0 ≤ 3))) = true then ((fault_Judge.f k a0_0 a0_1 a0_2 a0_3 a0_4 a0_5 t171 t172 t173).bind fun t192 => ((lookasideref09_Judge.f k a0_0 a0_1 a0_2 a0_3 a0_4 a0_5 t171 t172 t173).bind fun t193 => (if t192 = t193 then ((fault_Of.f k a1_0 a1_1 a1_2 a1_3 a1_4 a1_5 a1_6 a1_7 a1_8 a1_9 a1_10 a2 t171 t172 t173).bind fun t194 => ((lookasideref09_Of.f k a1_0 a1_1 a1_2 a1_3 a1_4 a1_5 a1_6 a1_7 a1_8 a1_9 a1_10 a2 t171 t172 t173).bind fun t195 => (if t194 = t195 then ((fault_Of.f k bt179.1 bt179.2.1 bt179.2.2.1 bt179.2.2.2.1 bt179.2.2.2.2.1 bt179.2.2.2.2.2.1 bt179.2.2.2.2.2.2.1 bt179.2.2.2.2.2.2.2.1 bt179.2.2.2.2.2.2.2.2.1 bt179.2.2.2.2.2.2.2.2.2.1 bt179.2.2.2.2.2.2.2.2.2.2 a2 t171 t172 t173).bind fun t196 => ((lookasideref09_Of.f k bt179.1 bt179.2.1 bt179.2.2.1 bt179.2.2.2.1 bt179.2.2.2.2.1 bt179.2.2.2.2.2.1 bt179.2.2.2.2.2.2.1 bt179.2.2.2.2.2.2.2.1 bt179.2.2.2.2.2.2.2.2.1 bt179.2.2.2.2.2.2.2.2.2.1 bt179.2.2.2.2.2.2.2.2.2.2 a2 t171 t172 t173).bind fun t197 => (if t196 = t197 then ((fault_Of.f k bt179.1 bt179.2.1 bt179.2.2.1 bt179.2.2.2.1 bt179.2.2.2.2.1 bt179.2.2.2.2.2.1 bt179.2.2.2.2.2.2.1 bt179.2.2.2.2.2.2.2.1 bt179.2.2.2.2.2.2.2.2.1 bt179.2.2.2.2.2.2.2.2.2.1 bt179.2.2.2.2.2.2.2.2.2.2 bt179.2.1 t175 t176 bt179.2.2.1).bind fun t198 => ((lookasideref09_Judge.f k bt179.2.2.2.2.1 bt179.2.2.2.2.2.1 bt179.2.2.2.2.2.2.1 bt179.2.2.2.2.2.2.2.1 bt179.2.2.2.2.2.2.2.2.1 bt179.2.2.2.2.2.2.2.2.2.1 t175 t176 bt179.2.2.1).bind fun t199 => (if t198 = t199 then ((lookasidelaw09_lives.f k).bind fun t200 => (some t200)) else (some false)))) else (some false)))) else (some false)))) else (some false)))) else (some false)) else (if (t191 == false) = true then ((fault_Judge.f k a0_0 a0_1 a0_2 a0_3 a0_4 a0_5 t171 t172 t173).bind fun t201 => ((lookasideref09_Judge.f k a0_0 a0_1 a0_2 a0_3 a0_4 a0_5 t171 t172 t173).bind fun t202 => (if t201 = t202 then ((fault_Of.f k a1_0 a1_1 a1_2 a1_3 a1_4 a1_5 a1_6 a1_7 a1_8 a1_9 a1_10 a2 t171 t172 t173).bind fun t203 => ((lookasideref09_Of.f k a1_0 a1_1 a1_2 a1_3 a1_4 a1_5 a1_6 a1_7 a1_8 a1_9 a1_10 a2 t171 t172 t173).bind fun t204 => (if t203 = t204 then ((fault_Of.f k bt179.1 bt179.2.1 bt179.2.2.1 bt179.2.2.2.1 bt179.2.2.2.2.1 bt179.2.2.2.2.2.1 bt179.2.2.2.2.2.2.1 bt179.2.2.2.2.2.2.2.1 bt179.2.2.2.2.2.2.2.2.1 bt179.2.2.2.2.2.2.2.2.2.1 bt179.2.2.2.2.2.2.2.2.2.2 a2 t171 t172 t173).bind fun t205 => ((lookasideref09_Of.f k bt179.1 bt179.2.1 bt179.2.2.1 bt179.2.2.2.1 bt179.2.2.2.2.1 bt179.2.2.2.2.2.1 bt179.2.2.2.2.2.2.1 bt179.2.2.2.2.2.2.2.1 bt179.2.2.2.2.2.2.2.2.1 bt179.2.2.2.2.2.2.2.2.2.1 bt179.2.2.2.2.2.2.2.2.2.2 a2 t171 t172 t173).bind fun t206 => (if t205 = t206 then ((fault_Of.f k bt179.1 bt179.2.1 bt179.2.2.1 bt179.2.2.2.1 bt179.2.2.2.2.1 bt179.2.2.2.2.2.1 bt179.2.2.2.2.2.2.1 bt179.2.2.2.2.2.2.2.1 bt179.2.2.2.2.2.2.2.2.1 bt179.2.2.2.2.2.2.2.2.2.1 bt179.2.2.2.2.2.2.2.2.2.2 bt179.2.1 t175 t176 bt179.2.2.1).bind fun t207 => ((lookasideref09_Judge.f k bt179.2.2.2.2.1 bt179.2.2.2.2.2.1 bt179.2.2.2.2.2.2.1 bt179.2.2.2.2.2.2.2.1 bt179.2.2.2.2.2.2.2.2.1 bt179.2.2.2.2.2.2.2.2.2.1 t175 t176 bt179.2.2.1).bind fun t208 => (if t207 = t208 then ((lookasidelaw09_lives.f k).bind fun t209 => (some t209)) else (some false)))) else (some false)))) else (some false)))) else (some false)))) else (some false))))) = some r := H
  have A6 := Aside0.mk A60
  clear A60
  replace H := Option.bind_eq_some_iff.mp H
  obtain ⟨⟨t179, t180, t181, t182, t183, t184, t185, t186, t187, t188, t189⟩, A70, H⟩ := H
  replace H : ((fault_May.f a3_0 a3_1 a3_2).bind fun t191 => (if a3_0 ≥ 0 then (if (t191 == (decide (a3_0 ≤ 3))) = true then ((fault_Judge.f k a0_0 a0_1 a0_2 a0_3 a0_4 a0_5 t171 t172 t173).bind fun t192 => ((lookasideref09_Judge.f k a0_0 a0_1 a0_2 a0_3 a0_4 a0_5 t171 t172 t173).bind fun t193 => (if t192 = t193 then ((fault_Of.f k a1_0 a1_1 a1_2 a1_3 a1_4 a1_5 a1_6 a1_7 a1_8 a1_9 a1_10 a2 t171 t172 t173).bind fun t194 => ((lookasideref09_Of.f k a1_0 a1_1 a1_2 a1_3 a1_4 a1_5 a1_6 a1_7 a1_8 a1_9 a1_10 a2 t171 t172 t173).bind fun t195 => (if t194 = t195 then ((fault_Of.f k t179 t180 t181 t182 t183 t184 t185 t186 t187 t188 t189 a2 t171 t172 t173).bind fun t196 => ((lookasideref09_Of.f k t179 t180 t181 t182 t183 t184 t185 t186 t187 t188 t189 a2 t171 t172 t173).bind fun t197 => (if t196 = t197 then ((fault_Of.f k t179 t180 t181 t182 t183 t184 t185 t186 t187 t188 t189 t180 t175 t176 t181).bind fun t198 => ((lookasideref09_Judge.f k t183 t184 t185 t186 t187 t188 t175 t176 t181).bind fun t199 => (if t198 = t199 then ((lookasidelaw09_lives.f k).bind fun t200 => (some t200)) else (some false)))) else (some false)))) else (some false)))) else (some false)))) else (some false)) else (if (t191 == false) = true then ((fault_Judge.f k a0_0 a0_1 a0_2 a0_3 a0_4 a0_5 t171 t172 t173).bind fun t201 => ((lookasideref09_Judge.f k a0_0 a0_1 a0_2 a0_3 a0_4 a0_5 t171 t172 t173).bind fun t202 => (if t201 = t202 then ((fault_Of.f k a1_0 a1_1 a1_2 a1_3 a1_4 a1_5 a1_6 a1_7 a1_8 a1_9 a1_10 a2 t171 t172 t173).bind fun t203 => ((lookasideref09_Of.f k a1_0 a1_1 a1_2 a1_3 a1_4 a1_5 a1_6 a1_7 a1_8 a1_9 a1_10 a2 t171 t172 t173).bind fun t204 => (if t203 = t204 then ((fault_Of.f k t179 t180 t181 t182 t183 t184 t185 t186 t187 t188 t189 a2 t171 t172 t173).bind fun t205 => ((lookasideref09_Of.f k t179 t180 t181 t182 t183 t184 t185 t186 t187 t188 t189 a2 t171 t172 t173).bind fun t206 => (if t205 = t206 then ((fault_Of.f k t179 t180 t181 t182 t183 t184 t185 t186 t187 t188 t189 t180 t175 t176 t181).bind fun t207 => ((lookasideref09_Judge.f k t183 t184 t185 t186 t187 t188 t175 t176 t181).bind fun t208 => (if t207 = t208 then ((lookasidelaw09_lives.f k).bind fun t209 => (some t209)) else (some false)))) else (some false)))) else (some false)))) else (some false)))) else (some false)))) = some r := H
  have A7 := Aside0.mk A70
  clear A70
  replace H := Option.bind_eq_some_iff.mp H
  obtain ⟨t191, A80, H⟩ := H
  replace H : (if a3_0 ≥ 0 then (if (t191 == (decide (a3_0 ≤ 3))) = true then ((fault_Judge.f k a0_0 a0_1 a0_2 a0_3 a0_4 a0_5 t171 t172 t173).bind fun t192 => ((lookasideref09_Judge.f k a0_0 a0_1 a0_2 a0_3 a0_4 a0_5 t171 t172 t173).bind fun t193 => (if t192 = t193 then ((fault_Of.f k a1_0 a1_1 a1_2 a1_3 a1_4 a1_5 a1_6 a1_7 a1_8 a1_9 a1_10 a2 t171 t172 t173).bind fun t194 => ((lookasideref09_Of.f k a1_0 a1_1 a1_2 a1_3 a1_4 a1_5 a1_6 a1_7 a1_8 a1_9 a1_10 a2 t171 t172 t173).bind fun t195 => (if t194 = t195 then ((fault_Of.f k t179 t180 t181 t182 t183 t184 t185 t186 t187 t188 t189 a2 t171 t172 t173).bind fun t196 => ((lookasideref09_Of.f k t179 t180 t181 t182 t183 t184 t185 t186 t187 t188 t189 a2 t171 t172 t173).bind fun t197 => (if t196 = t197 then ((fault_Of.f k t179 t180 t181 t182 t183 t184 t185 t186 t187 t188 t189 t180 t175 t176 t181).bind fun t198 => ((lookasideref09_Judge.f k t183 t184 t185 t186 t187 t188 t175 t176 t181).bind fun t199 => (if t198 = t199 then ((lookasidelaw09_lives.f k).bind fun t200 => (some t200)) else (some false)))) else (some false)))) else (some false)))) else (some false)))) else (some false)) else (if (t191 == false) = true then ((fault_Judge.f k a0_0 a0_1 a0_2 a0_3 a0_4 a0_5 t171 t172 t173).bind fun t201 => ((lookasideref09_Judge.f k a0_0 a0_1 a0_2 a0_3 a0_4 a0_5 t171 t172 t173).bind fun t202 => (if t201 = t202 then ((fault_Of.f k a1_0 a1_1 a1_2 a1_3 a1_4 a1_5 a1_6 a1_7 a1_8 a1_9 a1_10 a2 t171 t172 t173).bind fun t203 => ((lookasideref09_Of.f k a1_0 a1_1 a1_2 a1_3 a1_4 a1_5 a1_6 a1_7 a1_8 a1_9 a1_10 a2 t171 t172 t173).bind fun t204 => (if t203 = t204 then ((fault_Of.f k t179 t180 t181 t182 t183 t184 t185 t186 t187 t188 t189 a2 t171 t172 t173).bind fun t205 => ((lookasideref09_Of.f k t179 t180 t181 t182 t183 t184 t185 t186 t187 t188 t189 a2 t171 t172 t173).bind fun t206 => (if t205 = t206 then ((fault_Of.f k t179 t180 t181 t182 t183 t184 t185 t186 t187 t188 t189 t180 t175 t176 t181).bind fun t207 => ((lookasideref09_Judge.f k t183 t184 t185 t186 t187 t188 t175 t176 t181).bind fun t208 => (if t207 = t208 then ((lookasidelaw09_lives.f k).bind fun t209 => (some t209)) else (some false)))) else (some false)))) else (some false)))) else (some false)))) else (some false))) = some r := H
  have A8 := Aside0.mk A80
  clear A80
  by_cases c9 : a3_0 ≥ 0
  · rw [if_pos c9] at H
    have c9b0 : decide (0 ≤ a3_0) = true := decide_eq_true c9
    clear c9
    by_cases c10 : (t191 == (decide (a3_0 ≤ 3))) = true
    · rw [if_pos c10] at H
      have c10b0 : (t191 == (decide (a3_0 ≤ 3))) = true := c10
      (try (have c10b1 : decide (t191 = (decide (a3_0 ≤ 3))) = true := by simpa using c10))
      (try (have c10b2 : (t191 == (decide (a3_0 ≤ 3))) = true := by simpa using c10))
      clear c10
      replace H := Option.bind_eq_some_iff.mp H
      obtain ⟨t192, A110, H⟩ := H
      replace H : ((lookasideref09_Judge.f k a0_0 a0_1 a0_2 a0_3 a0_4 a0_5 t171 t172 t173).bind fun t193 => (if t192 = t193 then ((fault_Of.f k a1_0 a1_1 a1_2 a1_3 a1_4 a1_5 a1_6 a1_7 a1_8 a1_9 a1_10 a2 t171 t172 t173).bind fun t194 => ((lookasideref09_Of.f k a1_0 a1_1 a1_2 a1_3 a1_4 a1_5 a1_6 a1_7 a1_8 a1_9 a1_10 a2 t171 t172 t173).bind fun t195 => (if t194 = t195 then ((fault_Of.f k t179 t180 t181 t182 t183 t184 t185 t186 t187 t188 t189 a2 t171 t172 t173).bind fun t196 => ((lookasideref09_Of.f k t179 t180 t181 t182 t183 t184 t185 t186 t187 t188 t189 a2 t171 t172 t173).bind fun t197 => (if t196 = t197 then ((fault_Of.f k t179 t180 t181 t182 t183 t184 t185 t186 t187 t188 t189 t180 t175 t176 t181).bind fun t198 => ((lookasideref09_Judge.f k t183 t184 t185 t186 t187 t188 t175 t176 t181).bind fun t199 => (if t198 = t199 then ((lookasidelaw09_lives.f k).bind fun t200 => (some t200)) else (some false)))) else (some false)))) else (some false)))) else (some false))) = some r := H
      have A11 := Aside0.mk A110
      clear A110
      replace H := Option.bind_eq_some_iff.mp H
      obtain ⟨t193, A120, H⟩ := H
      replace H : (if t192 = t193 then ((fault_Of.f k a1_0 a1_1 a1_2 a1_3 a1_4 a1_5 a1_6 a1_7 a1_8 a1_9 a1_10 a2 t171 t172 t173).bind fun t194 => ((lookasideref09_Of.f k a1_0 a1_1 a1_2 a1_3 a1_4 a1_5 a1_6 a1_7 a1_8 a1_9 a1_10 a2 t171 t172 t173).bind fun t195 => (if t194 = t195 then ((fault_Of.f k t179 t180 t181 t182 t183 t184 t185 t186 t187 t188 t189 a2 t171 t172 t173).bind fun t196 => ((lookasideref09_Of.f k t179 t180 t181 t182 t183 t184 t185 t186 t187 t188 t189 a2 t171 t172 t173).bind fun t197 => (if t196 = t197 then ((fault_Of.f k t179 t180 t181 t182 t183 t184 t185 t186 t187 t188 t189 t180 t175 t176 t181).bind fun t198 => ((lookasideref09_Judge.f k t183 t184 t185 t186 t187 t188 t175 t176 t181).bind fun t199 => (if t198 = t199 then ((lookasidelaw09_lives.f k).bind fun t200 => (some t200)) else (some false)))) else (some false)))) else (some false)))) else (some false)) = some r := H
      have A12 := Aside0.mk A120
      clear A120
      by_cases c13 : t192 = t193
      · rw [if_pos c13] at H
        have c13b0 : (t192 == t193) = true := beq_iff_eq.mpr c13
        have c13b1 : (t192 != t193) = false := bne_eq_false_iff_eq.mpr c13
        clear c13
        replace H := Option.bind_eq_some_iff.mp H
        obtain ⟨t194, A140, H⟩ := H
        replace H : ((lookasideref09_Of.f k a1_0 a1_1 a1_2 a1_3 a1_4 a1_5 a1_6 a1_7 a1_8 a1_9 a1_10 a2 t171 t172 t173).bind fun t195 => (if t194 = t195 then ((fault_Of.f k t179 t180 t181 t182 t183 t184 t185 t186 t187 t188 t189 a2 t171 t172 t173).bind fun t196 => ((lookasideref09_Of.f k t179 t180 t181 t182 t183 t184 t185 t186 t187 t188 t189 a2 t171 t172 t173).bind fun t197 => (if t196 = t197 then ((fault_Of.f k t179 t180 t181 t182 t183 t184 t185 t186 t187 t188 t189 t180 t175 t176 t181).bind fun t198 => ((lookasideref09_Judge.f k t183 t184 t185 t186 t187 t188 t175 t176 t181).bind fun t199 => (if t198 = t199 then ((lookasidelaw09_lives.f k).bind fun t200 => (some t200)) else (some false)))) else (some false)))) else (some false))) = some r := H
        have A14 := Aside0.mk A140
        clear A140
        replace H := Option.bind_eq_some_iff.mp H
        obtain ⟨t195, A150, H⟩ := H
        replace H : (if t194 = t195 then ((fault_Of.f k t179 t180 t181 t182 t183 t184 t185 t186 t187 t188 t189 a2 t171 t172 t173).bind fun t196 => ((lookasideref09_Of.f k t179 t180 t181 t182 t183 t184 t185 t186 t187 t188 t189 a2 t171 t172 t173).bind fun t197 => (if t196 = t197 then ((fault_Of.f k t179 t180 t181 t182 t183 t184 t185 t186 t187 t188 t189 t180 t175 t176 t181).bind fun t198 => ((lookasideref09_Judge.f k t183 t184 t185 t186 t187 t188 t175 t176 t181).bind fun t199 => (if t198 = t199 then ((lookasidelaw09_lives.f k).bind fun t200 => (some t200)) else (some false)))) else (some false)))) else (some false)) = some r := H
        have A15 := Aside0.mk A150
        clear A150
        by_cases c16 : t194 = t195
        · rw [if_pos c16] at H
          have c16b0 : (t194 == t195) = true := beq_iff_eq.mpr c16
          have c16b1 : (t194 != t195) = false := bne_eq_false_iff_eq.mpr c16
          clear c16
          replace H := Option.bind_eq_some_iff.mp H
          obtain ⟨t196, A170, H⟩ := H
          replace H : ((lookasideref09_Of.f k t179 t180 t181 t182 t183 t184 t185 t186 t187 t188 t189 a2 t171 t172 t173).bind fun t197 => (if t196 = t197 then ((fault_Of.f k t179 t180 t181 t182 t183 t184 t185 t186 t187 t188 t189 t180 t175 t176 t181).bind fun t198 => ((lookasideref09_Judge.f k t183 t184 t185 t186 t187 t188 t175 t176 t181).bind fun t199 => (if t198 = t199 then ((lookasidelaw09_lives.f k).bind fun t200 => (some t200)) else (some false)))) else (some false))) = some r := H
          have A17 := Aside0.mk A170
          clear A170
          replace H := Option.bind_eq_some_iff.mp H
          obtain ⟨t197, A180, H⟩ := H
          replace H : (if t196 = t197 then ((fault_Of.f k t179 t180 t181 t182 t183 t184 t185 t186 t187 t188 t189 t180 t175 t176 t181).bind fun t198 => ((lookasideref09_Judge.f k t183 t184 t185 t186 t187 t188 t175 t176 t181).bind fun t199 => (if t198 = t199 then ((lookasidelaw09_lives.f k).bind fun t200 => (some t200)) else (some false)))) else (some false)) = some r := H
          have A18 := Aside0.mk A180
          clear A180
          by_cases c19 : t196 = t197
          · rw [if_pos c19] at H
            have c19b0 : (t196 == t197) = true := beq_iff_eq.mpr c19
            have c19b1 : (t196 != t197) = false := bne_eq_false_iff_eq.mpr c19
            clear c19
            replace H := Option.bind_eq_some_iff.mp H
            obtain ⟨t198, A200, H⟩ := H
            replace H : ((lookasideref09_Judge.f k t183 t184 t185 t186 t187 t188 t175 t176 t181).bind fun t199 => (if t198 = t199 then ((lookasidelaw09_lives.f k).bind fun t200 => (some t200)) else (some false))) = some r := H
            have A20 := Aside0.mk A200
            clear A200
            replace H := Option.bind_eq_some_iff.mp H
            obtain ⟨t199, A210, H⟩ := H
            replace H : (if t198 = t199 then ((lookasidelaw09_lives.f k).bind fun t200 => (some t200)) else (some false)) = some r := H
            have A21 := Aside0.mk A210
            clear A210
            by_cases c22 : t198 = t199
            · rw [if_pos c22] at H
              have c22b0 : (t198 == t199) = true := beq_iff_eq.mpr c22
              have c22b1 : (t198 != t199) = false := bne_eq_false_iff_eq.mpr c22
              clear c22
              replace H := Option.bind_eq_some_iff.mp H
              obtain ⟨t200, A230, H⟩ := H
              replace H : (some t200) = some r := H
              have A23 := Aside0.mk A230
              clear A230
              obtain rfl := Option.some.inj H
              go_enter Try.func11, Try.ntmps11
              try go_wp2_with (first | ((with_reducible refine gate_dst (N := 4) rfl ?_); refine box_event ?hg (N := 4) ?hd (cs := #[.bool a0_0, .bool a0_1, .bool a0_2, .bool a0_3, .bool a0_4, .bool a0_5]) (t := 24) ?hr ?_; (case hd => rfl); (case hg => rfl); (case hr => first | (go_simp; done) | (go_simp; rfl)); intro gb168 hg w24 hbox hb; have n0_ := Aside0.mk (below_step (by repeat (first | (with_reducible first | exact HB.out | apply below_alloc | apply pw_below_drewN | apply below_drew1) | exact HB.out)) hb); have n1_ := Aside0.mk (hbox); have n2_ := Aside0.mk ((by rw [hg]; exact (below_size (by repeat (first | (with_reducible first | exact HB.out | apply below_alloc | apply pw_below_drewN | apply below_drew1) | exact HB.out))) : w.heap.size ≤ gb168)); have n3_ := Aside0.mk ((by rw [hg]; exact (below_size (by repeat (first | (with_reducible first | exact HB.out | apply below_alloc | apply pw_below_drewN | apply below_drew1) | exact HB.out))) : w.heap.size ≤ gb168)); clear HB; have HB := n0_; have BK168 := n1_; have GW168 := n2_; have GE168 := n3_; clear n0_ n1_ n2_ n3_; clear hb hbox hg) | ((with_reducible refine gate_dst (N := 5) rfl ?_); refine box_event ?hg (N := 5) ?hd (cs := #[.int .i64 a1_0, .int .i64 a1_1, .int .u64 a1_2, .int .u64 a1_3, .bool a1_4, .bool a1_5, .bool a1_6, .bool a1_7, .bool a1_8, .bool a1_9, .bool a1_10]) (t := 26) ?hr ?_; (case hd => rfl); (case hg => rfl); (case hr => first | (go_simp; done) | (go_simp; rfl)); intro gb169 hg w25 hbox hb; have n0_ := Aside0.mk (bb_ hb BK168.out); have n1_ := Aside0.mk (below_step (by repeat (first | (with_reducible first | exact HB.out | apply below_alloc | apply pw_below_drewN | apply below_drew1 | refine below_set ?_ GE168.out) | exact HB.out)) hb); have n2_ := Aside0.mk (hbox); have n3_ := Aside0.mk ((by rw [hg]; exact (below_size (by repeat (first | (with_reducible first | exact HB.out | apply below_alloc | apply pw_below_drewN | apply below_drew1 | refine below_set ?_ GE168.out) | exact HB.out))) : w.heap.size ≤ gb169)); have n4_ := Aside0.mk ((by rw [hg]; exact (below_size (by repeat (first | (with_reducible first | exact HB.out | apply below_alloc | apply pw_below_drewN | apply below_drew1 | refine below_set ?_ GE168.out) | exact HB.out))) : w.heap.size ≤ gb169)); have n5_ := Aside0.mk ((by rw [hg]; exact Nat.ne_of_lt (blk_lt BK168.out) : gb168 ≠ gb169)); have n6_ := Aside0.mk ((by rw [hg]; exact Nat.ne_of_gt (blk_lt BK168.out) : gb169 ≠ gb168)); clear BK168; clear HB; have BK168 := n0_; have HB := n1_; have BK169 := n2_; have GW169 := n3_; have GE169 := n4_; have NB168_169 := n5_; have NB169_168 := n6_; clear n0_ n1_ n2_ n3_ n4_ n5_ n6_; clear hb hbox hg) | ((with_reducible refine gate_dst (N := 7) rfl ?_); refine box_event ?hg (N := 7) ?hd (cs := #[.int .i64 a3_0, .bool a3_1, .int .u64 a3_2]) (t := 49) ?hr ?_; (case hd => rfl); (case hg => rfl); (case hr => first | (go_simp; done) | (go_simp; rfl)); intro gb170 hg w26 hbox hb; have n0_ := Aside0.mk (bb_ hb BK168.out); have n1_ := Aside0.mk (bb_ hb BK169.out); have n2_ := Aside0.mk (below_step (by repeat (first | (with_reducible first | exact HB.out | apply below_alloc | apply pw_below_drewN | apply below_drew1 | refine below_set ?_ GE168.out | refine below_set ?_ GE169.out) | exact HB.out)) hb); have n3_ := Aside0.mk (hbox); have n4_ := Aside0.mk ((by rw [hg]; exact (below_size (by repeat (first | (with_reducible first | exact HB.out | apply below_alloc | apply pw_below_drewN | apply below_drew1 | refine below_set ?_ GE168.out | refine below_set ?_ GE169.out) | exact HB.out))) : w.heap.size ≤ gb170)); have n5_ := Aside0.mk ((by rw [hg]; exact (below_size (by repeat (first | (with_reducible first | exact HB.out | apply below_alloc | apply pw_below_drewN | apply below_drew1 | refine below_set ?_ GE168.out | refine below_set ?_ GE169.out) | exact HB.out))) : w.heap.size ≤ gb170)); have n6_ := Aside0.mk ((by rw [hg]; exact Nat.ne_of_lt (blk_lt BK168.out) : gb168 ≠ gb170)); have n7_ := Aside0.mk ((by rw [hg]; exact Nat.ne_of_gt (blk_lt BK168.out) : gb170 ≠ gb168)); have n8_ := Aside0.mk ((by rw [hg]; exact Nat.ne_of_lt (blk_lt BK169.out) : gb169 ≠ gb170)); have n9_ := Aside0.mk ((by rw [hg]; exact Nat.ne_of_gt (blk_lt BK169.out) : gb170 ≠ gb169)); clear BK168; clear BK169; clear HB; have BK168 := n0_; have BK169 := n1_; have HB := n2_; have BK170 := n3_; have GW170 := n4_; have GE170 := n5_; have NB168_170 := n6_; have NB170_168 := n7_; have NB169_170 := n8_; have NB170_169 := n9_; clear n0_ n1_ n2_ n3_ n4_ n5_ n6_ n7_ n8_ n9_; clear hb hbox hg; have hnb27 := NB170_168.out; have hnc27 := NB168_170.out; have hnb28 := NB170_169.out; have hnc28 := NB169_170.out; have hcz29_0 : w26.cell? ⟨gb170, 0, none⟩ = some (.int .i64 a3_0) := (blk_cell BK170.out 0).trans rfl; have hcz29_1 : w26.cell? ⟨gb170, 1, none⟩ = some (.bool a3_1) := (blk_cell BK170.out 1).trans rfl; have hcz29_2 : w26.cell? ⟨gb170, 2, none⟩ = some (.int .u64 a3_2) := (blk_cell BK170.out 2).trans rfl; have hfz29_0 := blk_frozen BK170.out 0; have hfz29_1 := blk_frozen BK170.out 1; have hfz29_2 := blk_frozen BK170.out 2) | ((with_reducible refine gate_callee (f := 36) rfl ?_); refine goesL_ (some 13) rfl rfl Try.func36 (by kernel_rfl) rfl #[.agg #[.int .i64 a3_0, .bool a3_1, .int .u64 a3_2], .bool false] rfl (by (try simp only [List.map_toArray, List.map_cons, List.map_nil]); first | done | rfl | (simp only [List.length_drop, List.length_take]; rfl)) ?_; (with_reducible refine (lookasideref09_Good.calls k a3_0 a3_1 a3_2 false t171 t172 t173 _ A5.out).mono ?_); rintro e w30 ⟨rfl, hb⟩; refine ⟨_, rfl, ?_⟩; have n0_ := Aside0.mk (bb_ hb BK168.out); have n1_ := Aside0.mk (bb_ hb BK169.out); have n2_ := Aside0.mk (bb_ hb BK170.out); have n3_ := Aside0.mk (below_step (by repeat (first | (with_reducible first | exact HB.out | apply below_alloc | apply pw_below_drewN | apply below_drew1 | refine below_set ?_ GE168.out | refine below_set ?_ GE169.out | refine below_set ?_ GE170.out) | exact HB.out)) hb); clear BK168; clear BK169; clear BK170; clear HB; have BK168 := n0_; have BK169 := n1_; have BK170 := n2_; have HB := n3_; clear n0_ n1_ n2_ n3_; (try clear hb); (try clear hb2); (try clear hk); (try clear hi)) | ((with_reducible refine gate_dst (N := 9) rfl ?_); refine box_event ?hg (N := 9) ?hd (cs := #[.int .i64 0, .bool false, .int .u64 0]) (t := 49) ?hr ?_; (case hd => rfl); (case hg => rfl); (case hr => first | (go_simp; done) | (go_simp; rfl)); intro gb174 hg w31 hbox hb; have n0_ := Aside0.mk (bb_ hb BK168.out); have n1_ := Aside0.mk (bb_ hb BK169.out); have n2_ := Aside0.mk (bb_ hb BK170.out); have n3_ := Aside0.mk (below_step (by repeat (first | (with_reducible first | exact HB.out | apply below_alloc | apply pw_below_drewN | apply below_drew1 | refine below_set ?_ GE168.out | refine below_set ?_ GE169.out | refine below_set ?_ GE170.out) | exact HB.out)) hb); have n4_ := Aside0.mk (hbox); have n5_ := Aside0.mk ((by rw [hg]; exact (below_size (by repeat (first | (with_reducible first | exact HB.out | apply below_alloc | apply pw_below_drewN | apply below_drew1 | refine below_set ?_ GE168.out | refine below_set ?_ GE169.out | refine below_set ?_ GE170.out) | exact HB.out))) : w.heap.size ≤ gb174)); have n6_ := Aside0.mk ((by rw [hg]; exact (below_size (by repeat (first | (with_reducible first | exact HB.out | apply below_alloc | apply pw_below_drewN | apply below_drew1 | refine below_set ?_ GE168.out | refine below_set ?_ GE169.out | refine below_set ?_ GE170.out) | exact HB.out))) : w.heap.size ≤ gb174)); have n7_ := Aside0.mk ((by rw [hg]; exact Nat.ne_of_lt (blk_lt BK168.out) : gb168 ≠ gb174)); have n8_ := Aside0.mk ((by rw [hg]; exact Nat.ne_of_gt (blk_lt BK168.out) : gb174 ≠ gb168)); have n9_ := Aside0.mk ((by rw [hg]; exact Nat.ne_of_lt (blk_lt BK169.out) : gb169 ≠ gb174)); have n10_ := Aside0.mk ((by rw [hg]; exact Nat.ne_of_gt (blk_lt BK169.out) : gb174 ≠ gb169)); have n11_ := Aside0.mk ((by rw [hg]; exact Nat.ne_of_lt (blk_lt BK170.out) : gb170 ≠ gb174)); have n12_ := Aside0.mk ((by rw [hg]; exact Nat.ne_of_gt (blk_lt BK170.out) : gb174 ≠ gb170)); clear BK168; clear BK169; clear BK170; clear HB; have BK168 := n0_; have BK169 := n1_; have BK170 := n2_; have HB := n3_; have BK174 := n4_; have GW174 := n5_; have GE174 := n6_; have NB168_174 := n7_; have NB174_168 := n8_; have NB169_174 := n9_; have NB174_169 := n10_; have NB170_174 := n11_; have NB174_170 := n12_; clear n0_ n1_ n2_ n3_ n4_ n5_ n6_ n7_ n8_ n9_ n10_ n11_ n12_; clear hb hbox hg; have hnb32 := NB174_168.out; have hnc32 := NB168_174.out; have hnb33 := NB174_169.out; have hnc33 := NB169_174.out; have hnb34 := NB174_170.out; have hnc34 := NB170_174.out; have hcz35_0 : w31.cell? ⟨gb174, 0, none⟩ = some (.int .i64 0) := (blk_cell BK174.out 0).trans rfl; have hcz35_1 : w31.cell? ⟨gb174, 1, none⟩ = some (.bool false) := (blk_cell BK174.out 1).trans rfl; have hcz35_2 : w31.cell? ⟨gb174, 2, none⟩ = some (.int .u64 0) := (blk_cell BK174.out 2).trans rfl; have hfz35_0 := blk_frozen BK174.out 0; have hfz35_1 := blk_frozen BK174.out 1; have hfz35_2 := blk_frozen BK174.out 2; have hcz36_0 : w31.cell? ⟨gb170, 0, none⟩ = some (.int .i64 a3_0) := (blk_cell BK170.out 0).trans rfl; have hcz36_1 : w31.cell? ⟨gb170, 1, none⟩ = some (.bool a3_1) := (blk_cell BK170.out 1).trans rfl; have hcz36_2 : w31.cell? ⟨gb170, 2, none⟩ = some (.int .u64 a3_2) := (blk_cell BK170.out 2).trans rfl; have hfz36_0 := blk_frozen BK170.out 0; have hfz36_1 := blk_frozen BK170.out 1; have hfz36_2 := blk_frozen BK170.out 2) | ((with_reducible refine gate_callee (f := 36) rfl ?_); refine goesL_ (some 15) rfl rfl Try.func36 (by kernel_rfl) rfl #[.agg #[.int .i64 a3_0, .bool a3_1, .int .u64 a3_2], .bool true] rfl (by (try simp only [List.map_toArray, List.map_cons, List.map_nil]); first | done | rfl | (simp only [List.length_drop, List.length_take]; rfl)) ?_; (with_reducible refine (lookasideref09_Good.calls k a3_0 a3_1 a3_2 true t175 t176 t177 _ A6.out).mono ?_); rintro e w37 ⟨rfl, hb⟩; refine ⟨_, rfl, ?_⟩; have n0_ := Aside0.mk (blk_below (g := gb168) (o := .cells #[.bool a0_0, .bool a0_1, .bool a0_2, .bool a0_3, .bool a0_4, .bool a0_5] 24 (0, 0)) (by (with_reducible repeat (first | refine blk_drewN ?_ _ | refine blk_drew ?_ | refine blk_alloc ?_ _)); refine blk_far ?_ NB168_174.out _; refine blk_far ?_ NB168_174.out _; refine blk_far ?_ NB168_174.out _; (with_reducible repeat (first | refine blk_drewN ?_ _ | refine blk_drew ?_ | refine blk_alloc ?_ _)); exact BK168.out) hb); have n1_ := Aside0.mk (blk_below (g := gb169) (o := .cells #[.int .i64 a1_0, .int .i64 a1_1, .int .u64 a1_2, .int .u64 a1_3, .bool a1_4, .bool a1_5, .bool a1_6, .bool a1_7, .bool a1_8, .bool a1_9, .bool a1_10] 26 (0, 0)) (by (with_reducible repeat (first | refine blk_drewN ?_ _ | refine blk_drew ?_ | refine blk_alloc ?_ _)); refine blk_far ?_ NB169_174.out _; refine blk_far ?_ NB169_174.out _; refine blk_far ?_ NB169_174.out _; (with_reducible repeat (first | refine blk_drewN ?_ _ | refine blk_drew ?_ | refine blk_alloc ?_ _)); exact BK169.out) hb); have n2_ := Aside0.mk (blk_below (g := gb170) (o := .cells #[.int .i64 a3_0, .bool a3_1, .int .u64 a3_2] 49 (0, 0)) (by (with_reducible repeat (first | refine blk_drewN ?_ _ | refine blk_drew ?_ | refine blk_alloc ?_ _)); refine blk_far ?_ NB170_174.out _; refine blk_far ?_ NB170_174.out _; refine blk_far ?_ NB170_174.out _; (with_reducible repeat (first | refine blk_drewN ?_ _ | refine blk_drew ?_ | refine blk_alloc ?_ _)); exact BK170.out) hb); have n3_ := Aside0.mk (blk_below (g := gb174) (o := .cells #[.int .i64 t171, .bool t172, .int .u64 t173] 49 (0, 0)) (by (with_reducible repeat (first | refine blk_drewN ?_ _ | refine blk_drew ?_ | refine blk_alloc ?_ _)); refine blk_put (cs := #[.int .i64 t171, .bool t172, .int .u64 0]) ?_ 2 _ rfl; refine blk_put (cs := #[.int .i64 t171, .bool false, .int .u64 0]) ?_ 1 _ rfl; refine blk_put (cs := #[.int .i64 0, .bool false, .int .u64 0]) ?_ 0 _ rfl; (with_reducible repeat (first | refine blk_drewN ?_ _ | refine blk_drew ?_ | refine blk_alloc ?_ _)); exact BK174.out) hb); have n4_ := Aside0.mk (below_step (by repeat (first | (with_reducible first | exact HB.out | apply below_alloc | apply pw_below_drewN | apply below_drew1 | refine below_set ?_ GE168.out | refine below_set ?_ GE169.out | refine below_set ?_ GE170.out | refine below_set ?_ GE174.out) | exact HB.out)) hb); clear BK168; clear BK169; clear BK170; clear BK174; clear HB; have BK168 := n0_; have BK169 := n1_; have BK170 := n2_; have BK174 := n3_; have HB := n4_; clear n0_ n1_ n2_ n3_ n4_; (try clear hb); (try clear hb2); (try clear hk); (try clear hi)) | ((with_reducible refine gate_dst (N := 10) rfl ?_); refine box_event ?hg (N := 10) ?hd (cs := #[.int .i64 0, .bool false, .int .u64 0]) (t := 49) ?hr ?_; (case hd => rfl); (case hg => rfl); (case hr => first | (go_simp; done) | (go_simp; rfl)); intro gb178 hg w38 hbox hb; have n0_ := Aside0.mk (bb_ hb BK168.out); have n1_ := Aside0.mk (bb_ hb BK169.out); have n2_ := Aside0.mk (bb_ hb BK170.out); have n3_ := Aside0.mk (bb_ hb BK174.out); have n4_ := Aside0.mk (below_step (by repeat (first | (with_reducible first | exact HB.out | apply below_alloc | apply pw_below_drewN | apply below_drew1 | refine below_set ?_ GE168.out | refine below_set ?_ GE169.out | refine below_set ?_ GE170.out | refine below_set ?_ GE174.out) | exact HB.out)) hb); have n5_ := Aside0.mk (hbox); have n6_ := Aside0.mk ((by rw [hg]; exact (below_size (by repeat (first | (with_reducible first | exact HB.out | apply below_alloc | apply pw_below_drewN | apply below_drew1 | refine below_set ?_ GE168.out | refine below_set ?_ GE169.out | refine below_set ?_ GE170.out | refine below_set ?_ GE174.out) | exact HB.out))) : w.heap.size ≤ gb178)); have n7_ := Aside0.mk ((by rw [hg]; exact (below_size (by repeat (first | (with_reducible first | exact HB.out | apply below_alloc | apply pw_below_drewN | apply below_drew1 | refine below_set ?_ GE168.out | refine below_set ?_ GE169.out | refine below_set ?_ GE170.out | refine below_set ?_ GE174.out) | exact HB.out))) : w.heap.size ≤ gb178)); have n8_ := Aside0.mk ((by rw [hg]; exact Nat.ne_of_lt (blk_lt BK168.out) : gb168 ≠ gb178)); have n9_ := Aside0.mk ((by rw [hg]; exact Nat.ne_of_gt (blk_lt BK168.out) : gb178 ≠ gb168)); have n10_ := Aside0.mk ((by rw [hg]; exact Nat.ne_of_lt (blk_lt BK169.out) : gb169 ≠ gb178)); have n11_ := Aside0.mk ((by rw [hg]; exact Nat.ne_of_gt (blk_lt BK169.out) : gb178 ≠ gb169)); have n12_ := Aside0.mk ((by rw [hg]; exact Nat.ne_of_lt (blk_lt BK170.out) : gb170 ≠ gb178)); have n13_ := Aside0.mk ((by rw [hg]; exact Nat.ne_of_gt (blk_lt BK170.out) : gb178 ≠ gb170)); have n14_ := Aside0.mk ((by rw [hg]; exact Nat.ne_of_lt (blk_lt BK174.out) : gb174 ≠ gb178)); have n15_ := Aside0.mk ((by rw [hg]; exact Nat.ne_of_gt (blk_lt BK174.out) : gb178 ≠ gb174)); clear BK168; clear BK169; clear BK170; clear BK174; clear HB; have BK168 := n0_; have BK169 := n1_; have BK170 := n2_; have BK174 := n3_; have HB := n4_; have BK178 := n5_; have GW178 := n6_; have GE178 := n7_; have NB168_178 := n8_; have NB178_168 := n9_; have NB169_178 := n10_; have NB178_169 := n11_; have NB170_178 := n12_; have NB178_170 := n13_; have NB174_178 := n14_; have NB178_174 := n15_; clear n0_ n1_ n2_ n3_ n4_ n5_ n6_ n7_ n8_ n9_ n10_ n11_ n12_ n13_ n14_ n15_; clear hb hbox hg; have hnb39 := NB178_168.out; have hnc39 := NB168_178.out; have hnb40 := NB178_169.out; have hnc40 := NB169_178.out; have hnb41 := NB178_170.out; have hnc41 := NB170_178.out; have hnb42 := NB178_174.out; have hnc42 := NB174_178.out; have hcz43_0 : w38.cell? ⟨gb178, 0, none⟩ = some (.int .i64 0) := (blk_cell BK178.out 0).trans rfl; have hcz43_1 : w38.cell? ⟨gb178, 1, none⟩ = some (.bool false) := (blk_cell BK178.out 1).trans rfl; have hcz43_2 : w38.cell? ⟨gb178, 2, none⟩ = some (.int .u64 0) := (blk_cell BK178.out 2).trans rfl; have hfz43_0 := blk_frozen BK178.out 0; have hfz43_1 := blk_frozen BK178.out 1; have hfz43_2 := blk_frozen BK178.out 2; have hnb44 := NB169_168.out; have hnc44 := NB168_169.out; have hcz45_0 : w38.cell? ⟨gb169, 0, none⟩ = some (.int .i64 a1_0) := (blk_cell BK169.out 0).trans rfl; have hcz45_1 : w38.cell? ⟨gb169, 1, none⟩ = some (.int .i64 a1_1) := (blk_cell BK169.out 1).trans rfl; have hcz45_2 : w38.cell? ⟨gb169, 2, none⟩ = some (.int .u64 a1_2) := (blk_cell BK169.out 2).trans rfl; have hcz45_3 : w38.cell? ⟨gb169, 3, none⟩ = some (.int .u64 a1_3) := (blk_cell BK169.out 3).trans rfl; have hcz45_4 : w38.cell? ⟨gb169, 4, none⟩ = some (.bool a1_4) := (blk_cell BK169.out 4).trans rfl; have hcz45_5 : w38.cell? ⟨gb169, 5, none⟩ = some (.bool a1_5) := (blk_cell BK169.out 5).trans rfl; have hcz45_6 : w38.cell? ⟨gb169, 6, none⟩ = some (.bool a1_6) := (blk_cell BK169.out 6).trans rfl; have hcz45_7 : w38.cell? ⟨gb169, 7, none⟩ = some (.bool a1_7) := (blk_cell BK169.out 7).trans rfl; have hcz45_8 : w38.cell? ⟨gb169, 8, none⟩ = some (.bool a1_8) := (blk_cell BK169.out 8).trans rfl; have hcz45_9 : w38.cell? ⟨gb169, 9, none⟩ = some (.bool a1_9) := (blk_cell BK169.out 9).trans rfl; have hcz45_10 : w38.cell? ⟨gb169, 10, none⟩ = some (.bool a1_10) := (blk_cell BK169.out 10).trans rfl; have hfz45_0 := blk_frozen BK169.out 0; have hfz45_1 := blk_frozen BK169.out 1; have hfz45_2 := blk_frozen BK169.out 2; have hfz45_3 := blk_frozen BK169.out 3; have hfz45_4 := blk_frozen BK169.out 4; have hfz45_5 := blk_frozen BK169.out 5; have hfz45_6 := blk_frozen BK169.out 6; have hfz45_7 := blk_frozen BK169.out 7; have hfz45_8 := blk_frozen BK169.out 8; have hfz45_9 := blk_frozen BK169.out 9; have hfz45_10 := blk_frozen BK169.out 10) | ((with_reducible refine gate_callee (f := 13) rfl ?_); refine goesL_ (some 17) rfl rfl Try.func13 (by kernel_rfl) rfl #[.agg #[.int .i64 a1_0, .int .i64 a1_1, .int .u64 a1_2, .int .u64 a1_3, .bool a1_4, .bool a1_5, .bool a1_6, .bool a1_7, .bool a1_8, .bool a1_9, .bool a1_10]] rfl (by (try simp only [List.map_toArray, List.map_cons, List.map_nil]); first | done | rfl | (simp only [List.length_drop, List.length_take]; rfl)) ?_; (with_reducible refine (lookasideref03_Good.calls k a1_0 a1_1 a1_2 a1_3 a1_4 a1_5 a1_6 a1_7 a1_8 a1_9 a1_10 t179 t180 t181 t182 t183 t184 t185 t186 t187 t188 t189 _ A7.out).mono ?_); rintro e w46 ⟨rfl, hb⟩; refine ⟨_, rfl, ?_⟩; have n0_ := Aside0.mk (blk_below (g := gb168) (o := .cells #[.bool a0_0, .bool a0_1, .bool a0_2, .bool a0_3, .bool a0_4, .bool a0_5] 24 (0, 0)) (by (with_reducible repeat (first | refine blk_drewN ?_ _ | refine blk_drew ?_ | refine blk_alloc ?_ _)); refine blk_far ?_ NB168_178.out _; refine blk_far ?_ NB168_178.out _; refine blk_far ?_ NB168_178.out _; (with_reducible repeat (first | refine blk_drewN ?_ _ | refine blk_drew ?_ | refine blk_alloc ?_ _)); exact BK168.out) hb); have n1_ := Aside0.mk (blk_below (g := gb169) (o := .cells #[.int .i64 a1_0, .int .i64 a1_1, .int .u64 a1_2, .int .u64 a1_3, .bool a1_4, .bool a1_5, .bool a1_6, .bool a1_7, .bool a1_8, .bool a1_9, .bool a1_10] 26 (0, 0)) (by (with_reducible repeat (first | refine blk_drewN ?_ _ | refine blk_drew ?_ | refine blk_alloc ?_ _)); refine blk_far ?_ NB169_178.out _; refine blk_far ?_ NB169_178.out _; refine blk_far ?_ NB169_178.out _; (with_reducible repeat (first | refine blk_drewN ?_ _ | refine blk_drew ?_ | refine blk_alloc ?_ _)); exact BK169.out) hb); have n2_ := Aside0.mk (blk_below (g := gb170) (o := .cells #[.int .i64 a3_0, .bool a3_1, .int .u64 a3_2] 49 (0, 0)) (by (with_reducible repeat (first | refine blk_drewN ?_ _ | refine blk_drew ?_ | refine blk_alloc ?_ _)); refine blk_far ?_ NB170_178.out _; refine blk_far ?_ NB170_178.out _; refine blk_far ?_ NB170_178.out _; (with_reducible repeat (first | refine blk_drewN ?_ _ | refine blk_drew ?_ | refine blk_alloc ?_ _)); exact BK170.out) hb); have n3_ := Aside0.mk (blk_below (g := gb174) (o := .cells #[.int .i64 t171, .bool t172, .int .u64 t173] 49 (0, 0)) (by (with_reducible repeat (first | refine blk_drewN ?_ _ | refine blk_drew ?_ | refine blk_alloc ?_ _)); refine blk_far ?_ NB174_178.out _; refine blk_far ?_ NB174_178.out _; refine blk_far ?_ NB174_178.out _; (with_reducible repeat (first | refine blk_drewN ?_ _ | refine blk_drew ?_ | refine blk_alloc ?_ _)); exact BK174.out) hb); have n4_ := Aside0.mk (blk_below (g := gb178) (o := .cells #[.int .i64 t175, .bool t176, .int .u64 t177] 49 (0, 0)) (by (with_reducible repeat (first | refine blk_drewN ?_ _ | refine blk_drew ?_ | refine blk_alloc ?_ _)); refine blk_put (cs := #[.int .i64 t175, .bool t176, .int .u64 0]) ?_ 2 _ rfl; refine blk_put (cs := #[.int .i64 t175, .bool false, .int .u64 0]) ?_ 1 _ rfl; refine blk_put (cs := #[.int .i64 0, .bool false, .int .u64 0]) ?_ 0 _ rfl; (with_reducible repeat (first | refine blk_drewN ?_ _ | refine blk_drew ?_ | refine blk_alloc ?_ _)); exact BK178.out) hb); have n5_ := Aside0.mk (below_step (by repeat (first | (with_reducible first | exact HB.out | apply below_alloc | apply pw_below_drewN | apply below_drew1 | refine below_set ?_ GE168.out | refine below_set ?_ GE169.out | refine below_set ?_ GE170.out | refine below_set ?_ GE174.out | refine below_set ?_ GE178.out) | exact HB.out)) hb); clear BK168; clear BK169; clear BK170; clear BK174; clear BK178; clear HB; have BK168 := n0_; have BK169 := n1_; have BK170 := n2_; have BK174 := n3_; have BK178 := n4_; have HB := n5_; clear n0_ n1_ n2_ n3_ n4_ n5_; (try clear hb); (try clear hb2); (try clear hk); (try clear hi)) | ((with_reducible refine gate_dst (N := 11) rfl ?_); refine box_event ?hg (N := 11) ?hd (cs := #[.int .i64 0, .int .i64 0, .int .u64 0, .int .u64 0, .bool false, .bool false, .bool false, .bool false, .bool false, .bool false, .bool false]) (t := 26) ?hr ?_; (case hd => rfl); (case hg => rfl); (case hr => first | (go_simp; done) | (go_simp; rfl)); intro gb190 hg w47 hbox hb; have n0_ := Aside0.mk (bb_ hb BK168.out); have n1_ := Aside0.mk (bb_ hb BK169.out); have n2_ := Aside0.mk (bb_ hb BK170.out); have n3_ := Aside0.mk (bb_ hb BK174.out); have n4_ := Aside0.mk (bb_ hb BK178.out); have n5_ := Aside0.mk (below_step (by repeat (first | (with_reducible first | exact HB.out | apply below_alloc | apply pw_below_drewN | apply below_drew1 | refine below_set ?_ GE168.out | refine below_set ?_ GE169.out | refine below_set ?_ GE170.out | refine below_set ?_ GE174.out | refine below_set ?_ GE178.out) | exact HB.out)) hb); have n6_ := Aside0.mk (hbox); have n7_ := Aside0.mk ((by rw [hg]; exact (below_size (by repeat (first | (with_reducible first | exact HB.out | apply below_alloc | apply pw_below_drewN | apply below_drew1 | refine below_set ?_ GE168.out | refine below_set ?_ GE169.out | refine below_set ?_ GE170.out | refine below_set ?_ GE174.out | refine below_set ?_ GE178.out) | exact HB.out))) : w.heap.size ≤ gb190)); have n8_ := Aside0.mk ((by rw [hg]; exact (below_size (by repeat (first | (with_reducible first | exact HB.out | apply below_alloc | apply pw_below_drewN | apply below_drew1 | refine below_set ?_ GE168.out | refine below_set ?_ GE169.out | refine below_set ?_ GE170.out | refine below_set ?_ GE174.out | refine below_set ?_ GE178.out) | exact HB.out))) : w.heap.size ≤ gb190)); have n9_ := Aside0.mk ((by rw [hg]; exact Nat.ne_of_lt (blk_lt BK168.out) : gb168 ≠ gb190)); have n10_ := Aside0.mk ((by rw [hg]; exact Nat.ne_of_gt (blk_lt BK168.out) : gb190 ≠ gb168)); have n11_ := Aside0.mk ((by rw [hg]; exact Nat.ne_of_lt (blk_lt BK169.out) : gb169 ≠ gb190)); have n12_ := Aside0.mk ((by rw [hg]; exact Nat.ne_of_gt (blk_lt BK169.out) : gb190 ≠ gb169)); have n13_ := Aside0.mk ((by rw [hg]; exact Nat.ne_of_lt (blk_lt BK170.out) : gb170 ≠ gb190)); have n14_ := Aside0.mk ((by rw [hg]; exact Nat.ne_of_gt (blk_lt BK170.out) : gb190 ≠ gb170)); have n15_ := Aside0.mk ((by rw [hg]; exact Nat.ne_of_lt (blk_lt BK174.out) : gb174 ≠ gb190)); have n16_ := Aside0.mk ((by rw [hg]; exact Nat.ne_of_gt (blk_lt BK174.out) : gb190 ≠ gb174)); have n17_ := Aside0.mk ((by rw [hg]; exact Nat.ne_of_lt (blk_lt BK178.out) : gb178 ≠ gb190)); have n18_ := Aside0.mk ((by rw [hg]; exact Nat.ne_of_gt (blk_lt BK178.out) : gb190 ≠ gb178)); clear BK168; clear BK169; clear BK170; clear BK174; clear BK178; clear HB; have BK168 := n0_; have BK169 := n1_; have BK170 := n2_; have BK174 := n3_; have BK178 := n4_; have HB := n5_; have BK190 := n6_; have GW190 := n7_; have GE190 := n8_; have NB168_190 := n9_; have NB190_168 := n10_; have NB169_190 := n11_; have NB190_169 := n12_; have NB170_190 := n13_; have NB190_170 := n14_; have NB174_190 := n15_; have NB190_174 := n16_; have NB178_190 := n17_; have NB190_178 := n18_; clear n0_ n1_ n2_ n3_ n4_ n5_ n6_ n7_ n8_ n9_ n10_ n11_ n12_ n13_ n14_ n15_ n16_ n17_ n18_; clear hb hbox hg; have hnb48 := NB190_168.out; have hnc48 := NB168_190.out; have hnb49 := NB190_169.out; have hnc49 := NB169_190.out; have hnb50 := NB190_170.out; have hnc50 := NB170_190.out; have hnb51 := NB190_174.out; have hnc51 := NB174_190.out; have hnb52 := NB190_178.out; have hnc52 := NB178_190.out; have hcz53_0 : w47.cell? ⟨gb190, 0, none⟩ = some (.int .i64 0) := (blk_cell BK190.out 0).trans rfl; have hcz53_1 : w47.cell? ⟨gb190, 1, none⟩ = some (.int .i64 0) := (blk_cell BK190.out 1).trans rfl; have hcz53_2 : w47.cell? ⟨gb190, 2, none⟩ = some (.int .u64 0) := (blk_cell BK190.out 2).trans rfl; have hcz53_3 : w47.cell? ⟨gb190, 3, none⟩ = some (.int .u64 0) := (blk_cell BK190.out 3).trans rfl; have hcz53_4 : w47.cell? ⟨gb190, 4, none⟩ = some (.bool false) := (blk_cell BK190.out 4).trans rfl; have hcz53_5 : w47.cell? ⟨gb190, 5, none⟩ = some (.bool false) := (blk_cell BK190.out 5).trans rfl; have hcz53_6 : w47.cell? ⟨gb190, 6, none⟩ = some (.bool false) := (blk_cell BK190.out 6).trans rfl; have hcz53_7 : w47.cell? ⟨gb190, 7, none⟩ = some (.bool false) := (blk_cell BK190.out 7).trans rfl; have hcz53_8 : w47.cell? ⟨gb190, 8, none⟩ = some (.bool false) := (blk_cell BK190.out 8).trans rfl; have hcz53_9 : w47.cell? ⟨gb190, 9, none⟩ = some (.bool false) := (blk_cell BK190.out 9).trans rfl; have hcz53_10 : w47.cell? ⟨gb190, 10, none⟩ = some (.bool false) := (blk_cell BK190.out 10).trans rfl; have hfz53_0 := blk_frozen BK190.out 0; have hfz53_1 := blk_frozen BK190.out 1; have hfz53_2 := blk_frozen BK190.out 2; have hfz53_3 := blk_frozen BK190.out 3; have hfz53_4 := blk_frozen BK190.out 4; have hfz53_5 := blk_frozen BK190.out 5; have hfz53_6 := blk_frozen BK190.out 6; have hfz53_7 := blk_frozen BK190.out 7; have hfz53_8 := blk_frozen BK190.out 8; have hfz53_9 := blk_frozen BK190.out 9; have hfz53_10 := blk_frozen BK190.out 10; have hcz54_0 : w47.cell? ⟨gb178, 0, none⟩ = some (.int .i64 t175) := (blk_cell BK178.out 0).trans rfl; have hcz54_1 : w47.cell? ⟨gb178, 1, none⟩ = some (.bool t176) := (blk_cell BK178.out 1).trans rfl; have hcz54_2 : w47.cell? ⟨gb178, 2, none⟩ = some (.int .u64 t177) := (blk_cell BK178.out 2).trans rfl; have hfz54_0 := blk_frozen BK178.out 0; have hfz54_1 := blk_frozen BK178.out 1; have hfz54_2 := blk_frozen BK178.out 2))
              have n0_ : Aside0 (((((((((((((w47.setCell ⟨gb190, 0, none⟩ (.int .i64 t179)).setCell ⟨gb190, 1, none⟩ (.int .i64 t180)).setCell ⟨gb190, 2, none⟩ (.int .u64 t181)).setCell ⟨gb190, 3, none⟩ (.int .u64 t182)).setCell ⟨gb190, 4, none⟩ (.bool t183)).setCell ⟨gb190, 5, none⟩ (.bool t184)).setCell ⟨gb190, 6, none⟩ (.bool t185)).setCell ⟨gb190, 7, none⟩ (.bool t186)).setCell ⟨gb190, 8, none⟩ (.bool t187)).setCell ⟨gb190, 9, none⟩ (.bool t188)).setCell ⟨gb190, 10, none⟩ (.bool t189)).setCell ⟨gb178, 2, none⟩ (.int .u64 t181)).heap[gb168]? = some (.cells #[.bool a0_0, .bool a0_1, .bool a0_2, .bool a0_3, .bool a0_4, .bool a0_5] 24 (0, 0))) := ⟨by (with_reducible repeat (first | refine blk_drewN ?_ _ | refine blk_drew ?_ | refine blk_alloc ?_ _)); refine blk_far ?_ NB168_178.out _; refine blk_far ?_ NB168_190.out _; refine blk_far ?_ NB168_190.out _; refine blk_far ?_ NB168_190.out _; refine blk_far ?_ NB168_190.out _; refine blk_far ?_ NB168_190.out _; refine blk_far ?_ NB168_190.out _; refine blk_far ?_ NB168_190.out _; refine blk_far ?_ NB168_190.out _; refine blk_far ?_ NB168_190.out _; refine blk_far ?_ NB168_190.out _; refine blk_far ?_ NB168_190.out _; (with_reducible repeat (first | refine blk_drewN ?_ _ | refine blk_drew ?_ | refine blk_alloc ?_ _)); exact BK168.out⟩
              have n1_ : Aside0 (((((((((((((w47.setCell ⟨gb190, 0, none⟩ (.int .i64 t179)).setCell ⟨gb190, 1, none⟩ (.int .i64 t180)).setCell ⟨gb190, 2, none⟩ (.int .u64 t181)).setCell ⟨gb190, 3, none⟩ (.int .u64 t182)).setCell ⟨gb190, 4, none⟩ (.bool t183)).setCell ⟨gb190, 5, none⟩ (.bool t184)).setCell ⟨gb190, 6, none⟩ (.bool t185)).setCell ⟨gb190, 7, none⟩ (.bool t186)).setCell ⟨gb190, 8, none⟩ (.bool t187)).setCell ⟨gb190, 9, none⟩ (.bool t188)).setCell ⟨gb190, 10, none⟩ (.bool t189)).setCell ⟨gb178, 2, none⟩ (.int .u64 t181)).heap[gb169]? = some (.cells #[.int .i64 a1_0, .int .i64 a1_1, .int .u64 a1_2, .int .u64 a1_3, .bool a1_4, .bool a1_5, .bool a1_6, .bool a1_7, .bool a1_8, .bool a1_9, .bool a1_10] 26 (0, 0))) := ⟨by (with_reducible repeat (first | refine blk_drewN ?_ _ | refine blk_drew ?_ | refine blk_alloc ?_ _)); refine blk_far ?_ NB169_178.out _; refine blk_far ?_ NB169_190.out _; refine blk_far ?_ NB169_190.out _; refine blk_far ?_ NB169_190.out _; refine blk_far ?_ NB169_190.out _; refine blk_far ?_ NB169_190.out _; refine blk_far ?_ NB169_190.out _; refine blk_far ?_ NB169_190.out _; refine blk_far ?_ NB169_190.out _; refine blk_far ?_ NB169_190.out _; refine blk_far ?_ NB169_190.out _; refine blk_far ?_ NB169_190.out _; (with_reducible repeat (first | refine blk_drewN ?_ _ | refine blk_drew ?_ | refine blk_alloc ?_ _)); exact BK169.out⟩
              have n2_ : Aside0 (((((((((((((w47.setCell ⟨gb190, 0, none⟩ (.int .i64 t179)).setCell ⟨gb190, 1, none⟩ (.int .i64 t180)).setCell ⟨gb190, 2, none⟩ (.int .u64 t181)).setCell ⟨gb190, 3, none⟩ (.int .u64 t182)).setCell ⟨gb190, 4, none⟩ (.bool t183)).setCell ⟨gb190, 5, none⟩ (.bool t184)).setCell ⟨gb190, 6, none⟩ (.bool t185)).setCell ⟨gb190, 7, none⟩ (.bool t186)).setCell ⟨gb190, 8, none⟩ (.bool t187)).setCell ⟨gb190, 9, none⟩ (.bool t188)).setCell ⟨gb190, 10, none⟩ (.bool t189)).setCell ⟨gb178, 2, none⟩ (.int .u64 t181)).heap[gb170]? = some (.cells #[.int .i64 a3_0, .bool a3_1, .int .u64 a3_2] 49 (0, 0))) := ⟨by (with_reducible repeat (first | refine blk_drewN ?_ _ | refine blk_drew ?_ | refine blk_alloc ?_ _)); refine blk_far ?_ NB170_178.out _; refine blk_far ?_ NB170_190.out _; refine blk_far ?_ NB170_190.out _; refine blk_far ?_ NB170_190.out _; refine blk_far ?_ NB170_190.out _; refine blk_far ?_ NB170_190.out _; refine blk_far ?_ NB170_190.out _; refine blk_far ?_ NB170_190.out _; refine blk_far ?_ NB170_190.out _; refine blk_far ?_ NB170_190.out _; refine blk_far ?_ NB170_190.out _; refine blk_far ?_ NB170_190.out _; (with_reducible repeat (first | refine blk_drewN ?_ _ | refine blk_drew ?_ | refine blk_alloc ?_ _)); exact BK170.out⟩
              have n3_ : Aside0 (((((((((((((w47.setCell ⟨gb190, 0, none⟩ (.int .i64 t179)).setCell ⟨gb190, 1, none⟩ (.int .i64 t180)).setCell ⟨gb190, 2, none⟩ (.int .u64 t181)).setCell ⟨gb190, 3, none⟩ (.int .u64 t182)).setCell ⟨gb190, 4, none⟩ (.bool t183)).setCell ⟨gb190, 5, none⟩ (.bool t184)).setCell ⟨gb190, 6, none⟩ (.bool t185)).setCell ⟨gb190, 7, none⟩ (.bool t186)).setCell ⟨gb190, 8, none⟩ (.bool t187)).setCell ⟨gb190, 9, none⟩ (.bool t188)).setCell ⟨gb190, 10, none⟩ (.bool t189)).setCell ⟨gb178, 2, none⟩ (.int .u64 t181)).heap[gb174]? = some (.cells #[.int .i64 t171, .bool t172, .int .u64 t173] 49 (0, 0))) := ⟨by (with_reducible repeat (first | refine blk_drewN ?_ _ | refine blk_drew ?_ | refine blk_alloc ?_ _)); refine blk_far ?_ NB174_178.out _; refine blk_far ?_ NB174_190.out _; refine blk_far ?_ NB174_190.out _; refine blk_far ?_ NB174_190.out _; refine blk_far ?_ NB174_190.out _; refine blk_far ?_ NB174_190.out _; refine blk_far ?_ NB174_190.out _; refine blk_far ?_ NB174_190.out _; refine blk_far ?_ NB174_190.out _; refine blk_far ?_ NB174_190.out _; refine blk_far ?_ NB174_190.out _; refine blk_far ?_ NB174_190.out _; (with_reducible repeat (first | refine blk_drewN ?_ _ | refine blk_drew ?_ | refine blk_alloc ?_ _)); exact BK174.out⟩
              have n4_ : Aside0 (((((((((((((w47.setCell ⟨gb190, 0, none⟩ (.int .i64 t179)).setCell ⟨gb190, 1, none⟩ (.int .i64 t180)).setCell ⟨gb190, 2, none⟩ (.int .u64 t181)).setCell ⟨gb190, 3, none⟩ (.int .u64 t182)).setCell ⟨gb190, 4, none⟩ (.bool t183)).setCell ⟨gb190, 5, none⟩ (.bool t184)).setCell ⟨gb190, 6, none⟩ (.bool t185)).setCell ⟨gb190, 7, none⟩ (.bool t186)).setCell ⟨gb190, 8, none⟩ (.bool t187)).setCell ⟨gb190, 9, none⟩ (.bool t188)).setCell ⟨gb190, 10, none⟩ (.bool t189)).setCell ⟨gb178, 2, none⟩ (.int .u64 t181)).heap[gb178]? = some (.cells #[.int .i64 t175, .bool t176, .int .u64 t181] 49 (0, 0))) := ⟨by (with_reducible repeat (first | refine blk_drewN ?_ _ | refine blk_drew ?_ | refine blk_alloc ?_ _)); refine blk_put (cs := #[.int .i64 t175, .bool t176, .int .u64 t177]) ?_ 2 _ rfl; refine blk_far ?_ NB178_190.out _; refine blk_far ?_ NB178_190.out _; refine blk_far ?_ NB178_190.out _; refine blk_far ?_ NB178_190.out _; refine blk_far ?_ NB178_190.out _; refine blk_far ?_ NB178_190.out _; refine blk_far ?_ NB178_190.out _; refine blk_far ?_ NB178_190.out _; refine blk_far ?_ NB178_190.out _; refine blk_far ?_ NB178_190.out _; refine blk_far ?_ NB178_190.out _; (with_reducible repeat (first | refine blk_drewN ?_ _ | refine blk_drew ?_ | refine blk_alloc ?_ _)); exact BK178.out⟩
              have n5_ : Aside0 (((((((((((((w47.setCell ⟨gb190, 0, none⟩ (.int .i64 t179)).setCell ⟨gb190, 1, none⟩ (.int .i64 t180)).setCell ⟨gb190, 2, none⟩ (.int .u64 t181)).setCell ⟨gb190, 3, none⟩ (.int .u64 t182)).setCell ⟨gb190, 4, none⟩ (.bool t183)).setCell ⟨gb190, 5, none⟩ (.bool t184)).setCell ⟨gb190, 6, none⟩ (.bool t185)).setCell ⟨gb190, 7, none⟩ (.bool t186)).setCell ⟨gb190, 8, none⟩ (.bool t187)).setCell ⟨gb190, 9, none⟩ (.bool t188)).setCell ⟨gb190, 10, none⟩ (.bool t189)).setCell ⟨gb178, 2, none⟩ (.int .u64 t181)).heap[gb190]? = some (.cells #[.int .i64 t179, .int .i64 t180, .int .u64 t181, .int .u64 t182, .bool t183, .bool t184, .bool t185, .bool t186, .bool t187, .bool t188, .bool t189] 26 (0, 0))) := ⟨by (with_reducible repeat (first | refine blk_drewN ?_ _ | refine blk_drew ?_ | refine blk_alloc ?_ _)); refine blk_far ?_ NB190_178.out _; refine blk_put (cs := #[.int .i64 t179, .int .i64 t180, .int .u64 t181, .int .u64 t182, .bool t183, .bool t184, .bool t185, .bool t186, .bool t187, .bool t188, .bool false]) ?_ 10 _ rfl; refine blk_put (cs := #[.int .i64 t179, .int .i64 t180, .int .u64 t181, .int .u64 t182, .bool t183, .bool t184, .bool t185, .bool t186, .bool t187, .bool false, .bool false]) ?_ 9 _ rfl; refine blk_put (cs := #[.int .i64 t179, .int .i64 t180, .int .u64 t181, .int .u64 t182, .bool t183, .bool t184, .bool t185, .bool t186, .bool false, .bool false, .bool false]) ?_ 8 _ rfl; refine blk_put (cs := #[.int .i64 t179, .int .i64 t180, .int .u64 t181, .int .u64 t182, .bool t183, .bool t184, .bool t185, .bool false, .bool false, .bool false, .bool false]) ?_ 7 _ rfl; refine blk_put (cs := #[.int .i64 t179, .int .i64 t180, .int .u64 t181, .int .u64 t182, .bool t183, .bool t184, .bool false, .bool false, .bool false, .bool false, .bool false]) ?_ 6 _ rfl; refine blk_put (cs := #[.int .i64 t179, .int .i64 t180, .int .u64 t181, .int .u64 t182, .bool t183, .bool false, .bool false, .bool false, .bool false, .bool false, .bool false]) ?_ 5 _ rfl; refine blk_put (cs := #[.int .i64 t179, .int .i64 t180, .int .u64 t181, .int .u64 t182, .bool false, .bool false, .bool false, .bool false, .bool false, .bool false, .bool false]) ?_ 4 _ rfl; refine blk_put (cs := #[.int .i64 t179, .int .i64 t180, .int .u64 t181, .int .u64 0, .bool false, .bool false, .bool false, .bool false, .bool false, .bool false, .bool false]) ?_ 3 _ rfl; refine blk_put (cs := #[.int .i64 t179, .int .i64 t180, .int .u64 0, .int .u64 0, .bool false, .bool false, .bool false, .bool false, .bool false, .bool false, .bool false]) ?_ 2 _ rfl; refine blk_put (cs := #[.int .i64 t179, .int .i64 0, .int .u64 0, .int .u64 0, .bool false, .bool false, .bool false, .bool false, .bool false, .bool false, .bool false]) ?_ 1 _ rfl; refine blk_put (cs := #[.int .i64 0, .int .i64 0, .int .u64 0, .int .u64 0, .bool false, .bool false, .bool false, .bool false, .bool false, .bool false, .bool false]) ?_ 0 _ rfl; (with_reducible repeat (first | refine blk_drewN ?_ _ | refine blk_drew ?_ | refine blk_alloc ?_ _)); exact BK190.out⟩
              have n6_ : Aside0 (Below w.heap.size w ((((((((((((w47.setCell ⟨gb190, 0, none⟩ (.int .i64 t179)).setCell ⟨gb190, 1, none⟩ (.int .i64 t180)).setCell ⟨gb190, 2, none⟩ (.int .u64 t181)).setCell ⟨gb190, 3, none⟩ (.int .u64 t182)).setCell ⟨gb190, 4, none⟩ (.bool t183)).setCell ⟨gb190, 5, none⟩ (.bool t184)).setCell ⟨gb190, 6, none⟩ (.bool t185)).setCell ⟨gb190, 7, none⟩ (.bool t186)).setCell ⟨gb190, 8, none⟩ (.bool t187)).setCell ⟨gb190, 9, none⟩ (.bool t188)).setCell ⟨gb190, 10, none⟩ (.bool t189)).setCell ⟨gb178, 2, none⟩ (.int .u64 t181))) := ⟨by repeat (first | (with_reducible first | exact HB.out | apply below_alloc | apply pw_below_drewN | apply below_drew1 | refine below_set ?_ GE168.out | refine below_set ?_ GE169.out | refine below_set ?_ GE170.out | refine below_set ?_ GE174.out | refine below_set ?_ GE178.out | refine below_set ?_ GE190.out) | exact HB.out)⟩
              (try clear BK168)
              (try clear BK169)
              (try clear BK170)
              (try clear BK174)
              (try clear BK178)
              (try clear BK190)
              (try clear HB)
              generalize ((((((((((((w47.setCell ⟨gb190, 0, none⟩ (.int .i64 t179)).setCell ⟨gb190, 1, none⟩ (.int .i64 t180)).setCell ⟨gb190, 2, none⟩ (.int .u64 t181)).setCell ⟨gb190, 3, none⟩ (.int .u64 t182)).setCell ⟨gb190, 4, none⟩ (.bool t183)).setCell ⟨gb190, 5, none⟩ (.bool t184)).setCell ⟨gb190, 6, none⟩ (.bool t185)).setCell ⟨gb190, 7, none⟩ (.bool t186)).setCell ⟨gb190, 8, none⟩ (.bool t187)).setCell ⟨gb190, 9, none⟩ (.bool t188)).setCell ⟨gb190, 10, none⟩ (.bool t189)).setCell ⟨gb178, 2, none⟩ (.int .u64 t181)) = w55 at n0_ n1_ n2_ n3_ n4_ n5_ n6_ ⊢
              have BK168 := n0_
              have BK169 := n1_
              have BK170 := n2_
              have BK174 := n3_
              have BK178 := n4_
              have BK190 := n5_
              have HB := n6_
              clear n0_ n1_ n2_ n3_ n4_ n5_ n6_
              have n0_ := Aside0.mk (blk_drew BK168.out)
              have n1_ := Aside0.mk (blk_drew BK169.out)
              have n2_ := Aside0.mk (blk_drew BK170.out)
              have n3_ := Aside0.mk (blk_drew BK174.out)
              have n4_ := Aside0.mk (blk_drew BK178.out)
              have n5_ := Aside0.mk (blk_drew BK190.out)
              have n6_ := Aside0.mk (below_drew1 HB.out)
              clear BK168
              clear BK169
              clear BK170
              clear BK174
              clear BK178
              clear BK190
              clear HB
              have BK168 := n0_
              have BK169 := n1_
              have BK170 := n2_
              have BK174 := n3_
              have BK178 := n4_
              have BK190 := n5_
              have HB := n6_
              clear n0_ n1_ n2_ n3_ n4_ n5_ n6_
              refine start_ (n := 58) (S := fun w' => w'.cell? ⟨gb170, 0, none⟩ = some (.int .i64 a3_0) ∧ w'.cell? ⟨gb170, 1, none⟩ = some (.bool a3_1) ∧ w'.cell? ⟨gb170, 2, none⟩ = some (.int .u64 a3_2) ∧ w'.cell? ⟨gb168, 0, none⟩ = some (.bool a0_0) ∧ w'.cell? ⟨gb168, 1, none⟩ = some (.bool a0_1) ∧ w'.cell? ⟨gb168, 2, none⟩ = some (.bool a0_2) ∧ w'.cell? ⟨gb168, 3, none⟩ = some (.bool a0_3) ∧ w'.cell? ⟨gb168, 4, none⟩ = some (.bool a0_4) ∧ w'.cell? ⟨gb168, 5, none⟩ = some (.bool a0_5) ∧ w'.cell? ⟨gb174, 0, none⟩ = some (.int .i64 t171) ∧ w'.cell? ⟨gb174, 1, none⟩ = some (.bool t172) ∧ w'.cell? ⟨gb174, 2, none⟩ = some (.int .u64 t173) ∧ w'.cell? ⟨gb169, 0, none⟩ = some (.int .i64 a1_0) ∧ w'.cell? ⟨gb169, 1, none⟩ = some (.int .i64 a1_1) ∧ w'.cell? ⟨gb169, 2, none⟩ = some (.int .u64 a1_2) ∧ w'.cell? ⟨gb169, 3, none⟩ = some (.int .u64 a1_3) ∧ w'.cell? ⟨gb169, 4, none⟩ = some (.bool a1_4) ∧ w'.cell? ⟨gb169, 5, none⟩ = some (.bool a1_5) ∧ w'.cell? ⟨gb169, 6, none⟩ = some (.bool a1_6) ∧ w'.cell? ⟨gb169, 7, none⟩ = some (.bool a1_7) ∧ w'.cell? ⟨gb169, 8, none⟩ = some (.bool a1_8) ∧ w'.cell? ⟨gb169, 9, none⟩ = some (.bool a1_9) ∧ w'.cell? ⟨gb169, 10, none⟩ = some (.bool a1_10) ∧ w'.cell? ⟨gb190, 0, none⟩ = some (.int .i64 t179) ∧ w'.cell? ⟨gb190, 1, none⟩ = some (.int .i64 t180) ∧ w'.cell? ⟨gb190, 2, none⟩ = some (.int .u64 t181) ∧ w'.cell? ⟨gb190, 3, none⟩ = some (.int .u64 t182) ∧ w'.cell? ⟨gb190, 4, none⟩ = some (.bool t183) ∧ w'.cell? ⟨gb190, 5, none⟩ = some (.bool t184) ∧ w'.cell? ⟨gb190, 6, none⟩ = some (.bool t185) ∧ w'.cell? ⟨gb190, 7, none⟩ = some (.bool t186) ∧ w'.cell? ⟨gb190, 8, none⟩ = some (.bool t187) ∧ w'.cell? ⟨gb190, 9, none⟩ = some (.bool t188) ∧ w'.cell? ⟨gb190, 10, none⟩ = some (.bool t189) ∧ w'.cell? ⟨gb178, 0, none⟩ = some (.int .i64 t175) ∧ w'.cell? ⟨gb178, 1, none⟩ = some (.bool t176) ∧ w'.cell? ⟨gb178, 2, none⟩ = some (.int .u64 t181)) (ds := []) #[false, false, false, false, false, false, false, false, false, false, false, false, false, false, false, false, false, false, false, false, false, false, false, false, false, false, false, false, false, false, false, false, false, false, false, false, false, false, false, false, false, false, false, false, false, false, false, false, false, false, false, false, false, false, false, false, false, false] (by kernel_rfl) rfl rfl (ca3_ BK170.out (ca6_ BK168.out (ca3_ BK174.out (ca11_ BK169.out (ca11_ BK190.out (cz3_ BK178.out)))))) (fun hHeld => ?_); refine with_tabW lookasidelaw09_FaultJudges.tab5 lookasidelaw09_FaultJudges.bits5 (fun HT_ HW_ => ?_)
              generalize w55.drew = w56 at BK168 BK169 BK170 BK174 BK178 BK190 HB hHeld ⊢
              refine pure_ (i := 2) (N := some 23) (v := ?_) (a' := ?_) #[false, false, true, false, false, false, false, false, false, false, false, false, false, false, false, false, false, false, false, false, false, false, false, false, false, false, false, false, false, false, false, false, false, false, false, false, false, false, false, false, false, false, false, false, false, false, false, false, false, false, false, false, false, false, false, false, false, false] rfl rfl (any_of HT_.out (by kernel_rfl)) (fun _ _ _ h => h) (Or.inl ⟨by rfl, ?_⟩) ?_ ?_
              rotate_left
              · intro w'
                go_simp
                with_reducible rfl
              rotate_left
              · simp only [Act.put, List.setIfInBounds_toArray, List.set_cons_zero, List.set_cons_succ, i64_w, i32_w]
                rfl
              refine take_ (i := 0) (N := some 21) (v := ?_) (a' := ?_) #[true, false, true, false, false, false, false, false, false, false, false, false, false, false, false, false, false, false, false, false, false, false, false, false, false, false, false, false, false, false, false, false, false, false, false, false, false, false, false, false, false, false, false, false, false, false, false, false, false, false, false, false, false, false, false, false, false, false] rfl rfl (take_ofW HT_.out HW_.out (by kernel_rfl)) (fun _ _ _ h => h) (Or.inl ⟨by rfl, ?_⟩) hHeld ?_ ?_
              rotate_left
              · rintro w' ⟨s0, s1, s2, s3, s4, s5, s6, s7, s8, s9, s10, s11, s12, s13, s14, s15, s16, s17, s18, s19, s20, s21, s22, s23, s24, s25, s26, s27, s28, s29, s30, s31, s32, s33, s34, s35, s36⟩
                go_simp
                with_reducible rfl
              rotate_left
              · simp only [Act.put, List.setIfInBounds_toArray, List.set_cons_zero, List.set_cons_succ, i64_w, i32_w]
                rfl
              refine take_ (i := 3) (N := some 24) (v := ?_) (a' := ?_) #[true, false, true, true, false, false, false, false, false, false, false, false, false, false, false, false, false, false, false, false, false, false, false, false, false, false, false, false, false, false, false, false, false, false, false, false, false, false, false, false, false, false, false, false, false, false, false, false, false, false, false, false, false, false, false, false, false, false] rfl rfl (take_ofW HT_.out HW_.out (by kernel_rfl)) (fun _ _ _ h => h) (Or.inl ⟨by rfl, ?_⟩) hHeld ?_ ?_
              rotate_left
              · rintro w' ⟨s0, s1, s2, s3, s4, s5, s6, s7, s8, s9, s10, s11, s12, s13, s14, s15, s16, s17, s18, s19, s20, s21, s22, s23, s24, s25, s26, s27, s28, s29, s30, s31, s32, s33, s34, s35, s36⟩
                go_simp
                with_reducible rfl
              rotate_left
              · simp only [Act.put, List.setIfInBounds_toArray, List.set_cons_zero, List.set_cons_succ, i64_w, i32_w]
                rfl
              refine pure_ (i := 4) (N := some 25) (v := ?_) (a' := ?_) #[true, false, true, true, true, false, false, false, false, false, false, false, false, false, false, false, false, false, false, false, false, false, false, false, false, false, false, false, false, false, false, false, false, false, false, false, false, false, false, false, false, false, false, false, false, false, false, false, false, false, false, false, false, false, false, false, false, false] rfl rfl (any_of HT_.out (by kernel_rfl)) (fun _ _ _ h => h) (Or.inl ⟨by rfl, ?_⟩) ?_ ?_
              rotate_left
              · intro w'
                go_simp
                with_reducible rfl
              rotate_left
              · simp only [Act.put, List.setIfInBounds_toArray, List.set_cons_zero, List.set_cons_succ, i64_w, i32_w]
                rfl
              refine one_ (i := 1) (N := some 22) #[true, true, true, true, true, false, false, false, false, false, false, false, false, false, false, false, false, false, false, false, false, false, false, false, false, false, false, false, false, false, false, false, false, false, false, false, false, false, false, false, false, false, false, false, false, false, false, false, false, false, false, false, false, false, false, false, false, false] rfl rfl (one_of HT_.out (by kernel_rfl)) (by decide) (fun K hK => ?_)
              refine goes_ Try.func37 (by kernel_rfl) rfl #[.agg #[.int .i64 a3_0, .bool a3_1, .int .u64 a3_2]] (by rfl) rfl rfl (by (try simp only [List.map_toArray, List.map_cons, List.map_nil]); first | done | rfl | (simp only [List.length_drop, List.length_take]; rfl)) ?_
              with_reducible refine (fault_May.calls a3_0 a3_1 a3_2 t191 _ A8.out).mono ?_
              rintro e w57 ⟨rfl, hb⟩
              refine ⟨_, rfl, ?_⟩
              have n0_ := Aside0.mk (bb_ hb BK168.out)
              have n1_ := Aside0.mk (bb_ hb BK169.out)
              have n2_ := Aside0.mk (bb_ hb BK170.out)
              have n3_ := Aside0.mk (bb_ hb BK174.out)
              have n4_ := Aside0.mk (bb_ hb BK178.out)
              have n5_ := Aside0.mk (bb_ hb BK190.out)
              have n6_ := Aside0.mk (below_step (by repeat (first | (with_reducible first | exact HB.out | apply below_alloc | apply pw_below_drewN | apply below_drew1 | refine below_set ?_ GE168.out | refine below_set ?_ GE169.out | refine below_set ?_ GE170.out | refine below_set ?_ GE174.out | refine below_set ?_ GE178.out | refine below_set ?_ GE190.out) | exact HB.out)) hb)
              clear BK168
              clear BK169
              clear BK170
              clear BK174
              clear BK178
              clear BK190
              clear HB
              have BK168 := n0_
              have BK169 := n1_
              have BK170 := n2_
              have BK174 := n3_
              have BK178 := n4_
              have BK190 := n5_
              have HB := n6_
              clear n0_ n1_ n2_ n3_ n4_ n5_ n6_
              (try clear hb)
              (try clear hb2)
              (try clear hk)
              (try clear hi)
              refine hK.out _ _ (ca3_ BK170.out (ca6_ BK168.out (ca3_ BK174.out (ca11_ BK169.out (ca11_ BK190.out (cz3_ BK178.out)))))) (fun hHeld => ?_)
              clear hK K
              refine norm_ (a' := ?_) ?_ ?_
              rotate_left
              · show Act.put _ (some 22) _ = _
                simp only [Act.put, List.setIfInBounds_toArray, List.set_cons_zero, List.set_cons_succ, i64_w, i32_w]
                rfl
              refine pure_ (i := 5) (N := some 26) (v := ?_) (a' := ?_) #[true, true, true, true, true, true, false, false, false, false, false, false, false, false, false, false, false, false, false, false, false, false, false, false, false, false, false, false, false, false, false, false, false, false, false, false, false, false, false, false, false, false, false, false, false, false, false, false, false, false, false, false, false, false, false, false, false, false] rfl rfl (any_of HT_.out (by kernel_rfl)) (fun _ _ _ h => h) (Or.inl ⟨by rfl, ?_⟩) ?_ ?_
              rotate_left
              · intro w'
                go_simp
                with_reducible rfl
              rotate_left
              · simp only [Act.put, List.setIfInBounds_toArray, List.set_cons_zero, List.set_cons_succ, i64_w, i32_w]
                rfl
              refine pure_ (i := 6) (N := some 27) (v := ?_) (a' := ?_) #[true, true, true, true, true, true, true, false, false, false, false, false, false, false, false, false, false, false, false, false, false, false, false, false, false, false, false, false, false, false, false, false, false, false, false, false, false, false, false, false, false, false, false, false, false, false, false, false, false, false, false, false, false, false, false, false, false, false] rfl rfl (any_of HT_.out (by kernel_rfl)) (fun _ _ _ h => h) (Or.inl ⟨by rfl, ?_⟩) ?_ ?_
              rotate_left
              · intro w'
                go_simp
                with_reducible rfl
              rotate_left
              · simp only [Act.put, List.setIfInBounds_toArray, List.set_cons_zero, List.set_cons_succ, i64_w, i32_w]
                rfl
              refine take_ (i := 7) (N := some 28) (v := ?_) (a' := ?_) #[true, true, true, true, true, true, true, true, false, false, false, false, false, false, false, false, false, false, false, false, false, false, false, false, false, false, false, false, false, false, false, false, false, false, false, false, false, false, false, false, false, false, false, false, false, false, false, false, false, false, false, false, false, false, false, false, false, false] rfl rfl (take_ofW HT_.out HW_.out (by kernel_rfl)) (fun _ _ _ h => h) (Or.inl ⟨by rfl, ?_⟩) hHeld ?_ ?_
              rotate_left
              · rintro w' ⟨s0, s1, s2, s3, s4, s5, s6, s7, s8, s9, s10, s11, s12, s13, s14, s15, s16, s17, s18, s19, s20, s21, s22, s23, s24, s25, s26, s27, s28, s29, s30, s31, s32, s33, s34, s35, s36⟩
                go_simp
                with_reducible rfl
              rotate_left
              · simp only [Act.put, List.setIfInBounds_toArray, List.set_cons_zero, List.set_cons_succ, i64_w, i32_w]
                rfl
              refine pure_ (i := 8) (N := some 29) (v := ?_) (a' := ?_) #[true, true, true, true, true, true, true, true, true, false, false, false, false, false, false, false, false, false, false, false, false, false, false, false, false, false, false, false, false, false, false, false, false, false, false, false, false, false, false, false, false, false, false, false, false, false, false, false, false, false, false, false, false, false, false, false, false, false] rfl rfl (any_of HT_.out (by kernel_rfl)) (fun _ _ _ h => h) (Or.inl ⟨by rfl, ?_⟩) ?_ ?_
              rotate_left
              · intro w'
                go_simp
                with_reducible rfl
              rotate_left
              · simp only [Act.put, List.setIfInBounds_toArray, List.set_cons_zero, List.set_cons_succ, i64_w, i32_w]
                rfl
              refine pure_ (i := 9) (N := some 30) (v := ?_) (a' := ?_) #[true, true, true, true, true, true, true, true, true, true, false, false, false, false, false, false, false, false, false, false, false, false, false, false, false, false, false, false, false, false, false, false, false, false, false, false, false, false, false, false, false, false, false, false, false, false, false, false, false, false, false, false, false, false, false, false, false, false] rfl rfl (any_of HT_.out (by kernel_rfl)) (fun _ _ _ h => h) (Or.inl ⟨by rfl, ?_⟩) ?_ ?_
              rotate_left
              · intro w'
                go_simp
                with_reducible rfl
              rotate_left
              · simp only [Act.put, List.setIfInBounds_toArray, List.set_cons_zero, List.set_cons_succ, i64_w, i32_w]
                rfl
              refine pure_ (i := 10) (N := some 31) (v := ?_) (a' := ?_) #[true, true, true, true, true, true, true, true, true, true, true, false, false, false, false, false, false, false, false, false, false, false, false, false, false, false, false, false, false, false, false, false, false, false, false, false, false, false, false, false, false, false, false, false, false, false, false, false, false, false, false, false, false, false, false, false, false, false] rfl rfl (any_of HT_.out (by kernel_rfl)) (fun _ _ _ h => h) (Or.inl ⟨by rfl, ?_⟩) ?_ ?_
              rotate_left
              · intro w'
                go_simp
                with_reducible rfl
              rotate_left
              · simp only [Act.put, List.setIfInBounds_toArray, List.set_cons_zero, List.set_cons_succ, i64_w, i32_w]
                rfl
              refine pure_ (i := 11) (N := some 32) (v := ?_) (a' := ?_) #[true, true, true, true, true, true, true, true, true, true, true, true, false, false, false, false, false, false, false, false, false, false, false, false, false, false, false, false, false, false, false, false, false, false, false, false, false, false, false, false, false, false, false, false, false, false, false, false, false, false, false, false, false, false, false, false, false, false] rfl rfl (any_of HT_.out (by kernel_rfl)) (fun _ _ _ h => h) (Or.inl ⟨by rfl, ?_⟩) ?_ ?_
              rotate_left
              · intro w'
                go_simp
                with_reducible rfl
              rotate_left
              · simp only [Act.put, List.setIfInBounds_toArray, List.set_cons_zero, List.set_cons_succ, i64_w, i32_w]
                rfl
              refine take_ (i := 12) (N := some 33) (v := ?_) (a' := ?_) #[true, true, true, true, true, true, true, true, true, true, true, true, true, false, false, false, false, false, false, false, false, false, false, false, false, false, false, false, false, false, false, false, false, false, false, false, false, false, false, false, false, false, false, false, false, false, false, false, false, false, false, false, false, false, false, false, false, false] rfl rfl (take_ofW HT_.out HW_.out (by kernel_rfl)) (fun _ _ _ h => h) (Or.inl ⟨by rfl, ?_⟩) hHeld ?_ ?_
              rotate_left
              · rintro w' ⟨s0, s1, s2, s3, s4, s5, s6, s7, s8, s9, s10, s11, s12, s13, s14, s15, s16, s17, s18, s19, s20, s21, s22, s23, s24, s25, s26, s27, s28, s29, s30, s31, s32, s33, s34, s35, s36⟩
                go_simp
                with_reducible rfl
              rotate_left
              · simp only [Act.put, List.setIfInBounds_toArray, List.set_cons_zero, List.set_cons_succ, i64_w, i32_w]
                rfl
              refine take_ (i := 13) (N := some 34) (v := ?_) (a' := ?_) #[true, true, true, true, true, true, true, true, true, true, true, true, true, true, false, false, false, false, false, false, false, false, false, false, false, false, false, false, false, false, false, false, false, false, false, false, false, false, false, false, false, false, false, false, false, false, false, false, false, false, false, false, false, false, false, false, false, false] rfl rfl (take_ofW HT_.out HW_.out (by kernel_rfl)) (fun _ _ _ h => h) (Or.inl ⟨by rfl, ?_⟩) hHeld ?_ ?_
              rotate_left
              · rintro w' ⟨s0, s1, s2, s3, s4, s5, s6, s7, s8, s9, s10, s11, s12, s13, s14, s15, s16, s17, s18, s19, s20, s21, s22, s23, s24, s25, s26, s27, s28, s29, s30, s31, s32, s33, s34, s35, s36⟩
                go_simp
                with_reducible rfl
              rotate_left
              · simp only [Act.put, List.setIfInBounds_toArray, List.set_cons_zero, List.set_cons_succ, i64_w, i32_w]
                rfl
              refine take_ (i := 15) (N := some 36) (v := ?_) (a' := ?_) #[true, true, true, true, true, true, true, true, true, true, true, true, true, true, false, true, false, false, false, false, false, false, false, false, false, false, false, false, false, false, false, false, false, false, false, false, false, false, false, false, false, false, false, false, false, false, false, false, false, false, false, false, false, false, false, false, false, false] rfl rfl (take_ofW HT_.out HW_.out (by kernel_rfl)) (fun _ _ _ h => h) (Or.inl ⟨by rfl, ?_⟩) hHeld ?_ ?_
              rotate_left
              · rintro w' ⟨s0, s1, s2, s3, s4, s5, s6, s7, s8, s9, s10, s11, s12, s13, s14, s15, s16, s17, s18, s19, s20, s21, s22, s23, s24, s25, s26, s27, s28, s29, s30, s31, s32, s33, s34, s35, s36⟩
                go_simp
                with_reducible rfl
              rotate_left
              · simp only [Act.put, List.setIfInBounds_toArray, List.set_cons_zero, List.set_cons_succ, i64_w, i32_w]
                rfl
              refine take_ (i := 16) (N := some 37) (v := ?_) (a' := ?_) #[true, true, true, true, true, true, true, true, true, true, true, true, true, true, false, true, true, false, false, false, false, false, false, false, false, false, false, false, false, false, false, false, false, false, false, false, false, false, false, false, false, false, false, false, false, false, false, false, false, false, false, false, false, false, false, false, false, false] rfl rfl (take_ofW HT_.out HW_.out (by kernel_rfl)) (fun _ _ _ h => h) (Or.inl ⟨by rfl, ?_⟩) hHeld ?_ ?_
              rotate_left
              · rintro w' ⟨s0, s1, s2, s3, s4, s5, s6, s7, s8, s9, s10, s11, s12, s13, s14, s15, s16, s17, s18, s19, s20, s21, s22, s23, s24, s25, s26, s27, s28, s29, s30, s31, s32, s33, s34, s35, s36⟩
                go_simp
                with_reducible rfl
              rotate_left
              · simp only [Act.put, List.setIfInBounds_toArray, List.set_cons_zero, List.set_cons_succ, i64_w, i32_w]
                rfl
              refine one_ (i := 14) (N := some 35) #[true, true, true, true, true, true, true, true, true, true, true, true, true, true, true, true, true, false, false, false, false, false, false, false, false, false, false, false, false, false, false, false, false, false, false, false, false, false, false, false, false, false, false, false, false, false, false, false, false, false, false, false, false, false, false, false, false, false] rfl rfl (one_of HT_.out (by kernel_rfl)) (by decide) (fun K hK => ?_)
              refine goes_ Try.func38 (by kernel_rfl) rfl #[.agg #[.bool a0_0, .bool a0_1, .bool a0_2, .bool a0_3, .bool a0_4, .bool a0_5], .agg #[.int .i64 t171, .bool t172, .int .u64 t173]] (by rfl) rfl rfl (by (try simp only [List.map_toArray, List.map_cons, List.map_nil]); first | done | rfl | (simp only [List.length_drop, List.length_take]; rfl)) ?_
              with_reducible refine (fault_Judge.calls k a0_0 a0_1 a0_2 a0_3 a0_4 a0_5 t171 t172 t173 t192 _ A11.out).mono ?_
              rintro e w58 ⟨rfl, hb⟩
              refine ⟨_, rfl, ?_⟩
              have n0_ := Aside0.mk (bb_ hb BK168.out)
              have n1_ := Aside0.mk (bb_ hb BK169.out)
              have n2_ := Aside0.mk (bb_ hb BK170.out)
              have n3_ := Aside0.mk (bb_ hb BK174.out)
              have n4_ := Aside0.mk (bb_ hb BK178.out)
              have n5_ := Aside0.mk (bb_ hb BK190.out)
              have n6_ := Aside0.mk (below_step (by repeat (first | (with_reducible first | exact HB.out | apply below_alloc | apply pw_below_drewN | apply below_drew1 | refine below_set ?_ GE168.out | refine below_set ?_ GE169.out | refine below_set ?_ GE170.out | refine below_set ?_ GE174.out | refine below_set ?_ GE178.out | refine below_set ?_ GE190.out) | exact HB.out)) hb)
              clear BK168
              clear BK169
              clear BK170
              clear BK174
              clear BK178
              clear BK190
              clear HB
              have BK168 := n0_
              have BK169 := n1_
              have BK170 := n2_
              have BK174 := n3_
              have BK178 := n4_
              have BK190 := n5_
              have HB := n6_
              clear n0_ n1_ n2_ n3_ n4_ n5_ n6_
              (try clear hb)
              (try clear hb2)
              (try clear hk)
              (try clear hi)
              refine hK.out _ _ (ca3_ BK170.out (ca6_ BK168.out (ca3_ BK174.out (ca11_ BK169.out (ca11_ BK190.out (cz3_ BK178.out)))))) (fun hHeld => ?_)
              clear hK K
              refine norm_ (a' := ?_) ?_ ?_
              rotate_left
              · show Act.put _ (some 35) _ = _
                simp only [Act.put, List.setIfInBounds_toArray, List.set_cons_zero, List.set_cons_succ, i64_w, i32_w]
                rfl
              refine one_ (i := 17) (N := some 38) #[true, true, true, true, true, true, true, true, true, true, true, true, true, true, true, true, true, true, false, false, false, false, false, false, false, false, false, false, false, false, false, false, false, false, false, false, false, false, false, false, false, false, false, false, false, false, false, false, false, false, false, false, false, false, false, false, false, false] rfl rfl (one_of HT_.out (by kernel_rfl)) (by decide) (fun K hK => ?_)
              refine goes_ Try.func39 (by kernel_rfl) rfl #[.agg #[.bool a0_0, .bool a0_1, .bool a0_2, .bool a0_3, .bool a0_4, .bool a0_5], .agg #[.int .i64 t171, .bool t172, .int .u64 t173]] (by rfl) rfl rfl (by (try simp only [List.map_toArray, List.map_cons, List.map_nil]); first | done | rfl | (simp only [List.length_drop, List.length_take]; rfl)) ?_
              with_reducible refine (lookasideref09_Judge.calls k a0_0 a0_1 a0_2 a0_3 a0_4 a0_5 t171 t172 t173 t193 _ A12.out).mono ?_
              rintro e w59 ⟨rfl, hb⟩
              refine ⟨_, rfl, ?_⟩
              have n0_ := Aside0.mk (bb_ hb BK168.out)
              have n1_ := Aside0.mk (bb_ hb BK169.out)
              have n2_ := Aside0.mk (bb_ hb BK170.out)
              have n3_ := Aside0.mk (bb_ hb BK174.out)
              have n4_ := Aside0.mk (bb_ hb BK178.out)
              have n5_ := Aside0.mk (bb_ hb BK190.out)
              have n6_ := Aside0.mk (below_step (by repeat (first | (with_reducible first | exact HB.out | apply below_alloc | apply pw_below_drewN | apply below_drew1 | refine below_set ?_ GE168.out | refine below_set ?_ GE169.out | refine below_set ?_ GE170.out | refine below_set ?_ GE174.out | refine below_set ?_ GE178.out | refine below_set ?_ GE190.out) | exact HB.out)) hb)
              clear BK168
              clear BK169
              clear BK170
              clear BK174
              clear BK178
              clear BK190
              clear HB
              have BK168 := n0_
              have BK169 := n1_
              have BK170 := n2_
              have BK174 := n3_
              have BK178 := n4_
              have BK190 := n5_
              have HB := n6_
              clear n0_ n1_ n2_ n3_ n4_ n5_ n6_
              (try clear hb)
              (try clear hb2)
              (try clear hk)
              (try clear hi)
              refine hK.out _ _ (ca3_ BK170.out (ca6_ BK168.out (ca3_ BK174.out (ca11_ BK169.out (ca11_ BK190.out (cz3_ BK178.out)))))) (fun hHeld => ?_)
              clear hK K
              refine norm_ (a' := ?_) ?_ ?_
              rotate_left
              · show Act.put _ (some 38) _ = _
                simp only [Act.put, List.setIfInBounds_toArray, List.set_cons_zero, List.set_cons_succ, i64_w, i32_w]
                rfl
              refine pure_ (i := 18) (N := some 39) (v := ?_) (a' := ?_) #[true, true, true, true, true, true, true, true, true, true, true, true, true, true, true, true, true, true, true, false, false, false, false, false, false, false, false, false, false, false, false, false, false, false, false, false, false, false, false, false, false, false, false, false, false, false, false, false, false, false, false, false, false, false, false, false, false, false] rfl rfl (any_of HT_.out (by kernel_rfl)) (fun _ _ _ h => h) (Or.inl ⟨by rfl, ?_⟩) ?_ ?_
              rotate_left
              · intro w'
                go_simp
                with_reducible rfl
              rotate_left
              · simp only [Act.put, List.setIfInBounds_toArray, List.set_cons_zero, List.set_cons_succ, i64_w, i32_w]
                rfl
              refine pure_ (i := 19) (N := some 40) (v := ?_) (a' := ?_) #[true, true, true, true, true, true, true, true, true, true, true, true, true, true, true, true, true, true, true, true, false, false, false, false, false, false, false, false, false, false, false, false, false, false, false, false, false, false, false, false, false, false, false, false, false, false, false, false, false, false, false, false, false, false, false, false, false, false] rfl rfl (any_of HT_.out (by kernel_rfl)) (fun _ _ _ h => h) (Or.inl ⟨by rfl, ?_⟩) ?_ ?_
              rotate_left
              · intro w'
                go_simp
                with_reducible rfl
              rotate_left
              · simp only [Act.put, List.setIfInBounds_toArray, List.set_cons_zero, List.set_cons_succ, i64_w, i32_w]
                rfl
              refine pure_ (i := 20) (N := some 41) (v := ?_) (a' := ?_) #[true, true, true, true, true, true, true, true, true, true, true, true, true, true, true, true, true, true, true, true, true, false, false, false, false, false, false, false, false, false, false, false, false, false, false, false, false, false, false, false, false, false, false, false, false, false, false, false, false, false, false, false, false, false, false, false, false, false] rfl rfl (any_of HT_.out (by kernel_rfl)) (fun _ _ _ h => h) (Or.inl ⟨by rfl, ?_⟩) ?_ ?_
              rotate_left
              · intro w'
                go_simp
                with_reducible rfl
              rotate_left
              · simp only [Act.put, List.setIfInBounds_toArray, List.set_cons_zero, List.set_cons_succ, i64_w, i32_w]
                rfl
              refine pure_ (i := 22) (N := some 43) (v := ?_) (a' := ?_) #[true, true, true, true, true, true, true, true, true, true, true, true, true, true, true, true, true, true, true, true, true, false, true, false, false, false, false, false, false, false, false, false, false, false, false, false, false, false, false, false, false, false, false, false, false, false, false, false, false, false, false, false, false, false, false, false, false, false] rfl rfl (any_of HT_.out (by kernel_rfl)) (fun _ _ _ h => h) (Or.inl ⟨by rfl, ?_⟩) ?_ ?_
              rotate_left
              · intro w'
                go_simp
                with_reducible rfl
              rotate_left
              · simp only [Act.put, List.setIfInBounds_toArray, List.set_cons_zero, List.set_cons_succ, i64_w, i32_w]
                rfl
              refine pure_ (i := 26) (N := some 47) (v := ?_) (a' := ?_) #[true, true, true, true, true, true, true, true, true, true, true, true, true, true, true, true, true, true, true, true, true, false, true, false, false, false, true, false, false, false, false, false, false, false, false, false, false, false, false, false, false, false, false, false, false, false, false, false, false, false, false, false, false, false, false, false, false, false] rfl rfl (any_of HT_.out (by kernel_rfl)) (fun _ _ _ h => h) (Or.inl ⟨by rfl, ?_⟩) ?_ ?_
              rotate_left
              · intro w'
                go_simp
                with_reducible rfl
              rotate_left
              · simp only [Act.put, List.setIfInBounds_toArray, List.set_cons_zero, List.set_cons_succ, i64_w, i32_w]
                rfl
              refine take_ (i := 21) (N := some 42) (v := ?_) (a' := ?_) #[true, true, true, true, true, true, true, true, true, true, true, true, true, true, true, true, true, true, true, true, true, true, true, false, false, false, true, false, false, false, false, false, false, false, false, false, false, false, false, false, false, false, false, false, false, false, false, false, false, false, false, false, false, false, false, false, false, false] rfl rfl (take_ofW HT_.out HW_.out (by kernel_rfl)) (fun _ _ _ h => h) (Or.inl ⟨by rfl, ?_⟩) hHeld ?_ ?_
              rotate_left
              · rintro w' ⟨s0, s1, s2, s3, s4, s5, s6, s7, s8, s9, s10, s11, s12, s13, s14, s15, s16, s17, s18, s19, s20, s21, s22, s23, s24, s25, s26, s27, s28, s29, s30, s31, s32, s33, s34, s35, s36⟩
                go_simp
                with_reducible rfl
              rotate_left
              · simp only [Act.put, List.setIfInBounds_toArray, List.set_cons_zero, List.set_cons_succ, i64_w, i32_w]
                rfl
              refine take_ (i := 23) (N := some 44) (v := ?_) (a' := ?_) #[true, true, true, true, true, true, true, true, true, true, true, true, true, true, true, true, true, true, true, true, true, true, true, true, false, false, true, false, false, false, false, false, false, false, false, false, false, false, false, false, false, false, false, false, false, false, false, false, false, false, false, false, false, false, false, false, false, false] rfl rfl (take_ofW HT_.out HW_.out (by kernel_rfl)) (fun _ _ _ h => h) (Or.inl ⟨by rfl, ?_⟩) hHeld ?_ ?_
              rotate_left
              · rintro w' ⟨s0, s1, s2, s3, s4, s5, s6, s7, s8, s9, s10, s11, s12, s13, s14, s15, s16, s17, s18, s19, s20, s21, s22, s23, s24, s25, s26, s27, s28, s29, s30, s31, s32, s33, s34, s35, s36⟩
                go_simp
                with_reducible rfl
              rotate_left
              · simp only [Act.put, List.setIfInBounds_toArray, List.set_cons_zero, List.set_cons_succ, i64_w, i32_w]
                rfl
              refine take_ (i := 25) (N := some 46) (v := ?_) (a' := ?_) #[true, true, true, true, true, true, true, true, true, true, true, true, true, true, true, true, true, true, true, true, true, true, true, true, false, true, true, false, false, false, false, false, false, false, false, false, false, false, false, false, false, false, false, false, false, false, false, false, false, false, false, false, false, false, false, false, false, false] rfl rfl (take_ofW HT_.out HW_.out (by kernel_rfl)) (fun _ _ _ h => h) (Or.inl ⟨by rfl, ?_⟩) hHeld ?_ ?_
              rotate_left
              · rintro w' ⟨s0, s1, s2, s3, s4, s5, s6, s7, s8, s9, s10, s11, s12, s13, s14, s15, s16, s17, s18, s19, s20, s21, s22, s23, s24, s25, s26, s27, s28, s29, s30, s31, s32, s33, s34, s35, s36⟩
                go_simp
                with_reducible rfl
              rotate_left
              · simp only [Act.put, List.setIfInBounds_toArray, List.set_cons_zero, List.set_cons_succ, i64_w, i32_w]
                rfl
              refine take_ (i := 27) (N := some 48) (v := ?_) (a' := ?_) #[true, true, true, true, true, true, true, true, true, true, true, true, true, true, true, true, true, true, true, true, true, true, true, true, false, true, true, true, false, false, false, false, false, false, false, false, false, false, false, false, false, false, false, false, false, false, false, false, false, false, false, false, false, false, false, false, false, false] rfl rfl (take_ofW HT_.out HW_.out (by kernel_rfl)) (fun _ _ _ h => h) (Or.inl ⟨by rfl, ?_⟩) hHeld ?_ ?_
              rotate_left
              · rintro w' ⟨s0, s1, s2, s3, s4, s5, s6, s7, s8, s9, s10, s11, s12, s13, s14, s15, s16, s17, s18, s19, s20, s21, s22, s23, s24, s25, s26, s27, s28, s29, s30, s31, s32, s33, s34, s35, s36⟩
                go_simp
                with_reducible rfl
              rotate_left
              · simp only [Act.put, List.setIfInBounds_toArray, List.set_cons_zero, List.set_cons_succ, i64_w, i32_w]
                rfl
              refine one_ (i := 24) (N := some 45) #[true, true, true, true, true, true, true, true, true, true, true, true, true, true, true, true, true, true, true, true, true, true, true, true, true, true, true, true, false, false, false, false, false, false, false, false, false, false, false, false, false, false, false, false, false, false, false, false, false, false, false, false, false, false, false, false, false, false] rfl rfl (one_of HT_.out (by kernel_rfl)) (by decide) (fun K hK => ?_)
              refine goes_ Try.func40 (by kernel_rfl) rfl #[.agg #[.int .i64 a1_0, .int .i64 a1_1, .int .u64 a1_2, .int .u64 a1_3, .bool a1_4, .bool a1_5, .bool a1_6, .bool a1_7, .bool a1_8, .bool a1_9, .bool a1_10], .int .i64 a2, .agg #[.int .i64 t171, .bool t172, .int .u64 t173]] (by rfl) rfl rfl (by (try simp only [List.map_toArray, List.map_cons, List.map_nil]); first | done | rfl | (simp only [List.length_drop, List.length_take]; rfl)) ?_
              with_reducible refine (fault_Of.calls k a1_0 a1_1 a1_2 a1_3 a1_4 a1_5 a1_6 a1_7 a1_8 a1_9 a1_10 a2 t171 t172 t173 t194 _ A14.out).mono ?_
              rintro e w60 ⟨rfl, hb⟩
              refine ⟨_, rfl, ?_⟩
              have n0_ := Aside0.mk (bb_ hb BK168.out)
              have n1_ := Aside0.mk (bb_ hb BK169.out)
              have n2_ := Aside0.mk (bb_ hb BK170.out)
              have n3_ := Aside0.mk (bb_ hb BK174.out)
              have n4_ := Aside0.mk (bb_ hb BK178.out)
              have n5_ := Aside0.mk (bb_ hb BK190.out)
              have n6_ := Aside0.mk (below_step (by repeat (first | (with_reducible first | exact HB.out | apply below_alloc | apply pw_below_drewN | apply below_drew1 | refine below_set ?_ GE168.out | refine below_set ?_ GE169.out | refine below_set ?_ GE170.out | refine below_set ?_ GE174.out | refine below_set ?_ GE178.out | refine below_set ?_ GE190.out) | exact HB.out)) hb)
              clear BK168
              clear BK169
              clear BK170
              clear BK174
              clear BK178
              clear BK190
              clear HB
              have BK168 := n0_
              have BK169 := n1_
              have BK170 := n2_
              have BK174 := n3_
              have BK178 := n4_
              have BK190 := n5_
              have HB := n6_
              clear n0_ n1_ n2_ n3_ n4_ n5_ n6_
              (try clear hb)
              (try clear hb2)
              (try clear hk)
              (try clear hi)
              refine hK.out _ _ (ca3_ BK170.out (ca6_ BK168.out (ca3_ BK174.out (ca11_ BK169.out (ca11_ BK190.out (cz3_ BK178.out)))))) (fun hHeld => ?_)
              clear hK K
              refine norm_ (a' := ?_) ?_ ?_
              rotate_left
              · show Act.put _ (some 45) _ = _
                simp only [Act.put, List.setIfInBounds_toArray, List.set_cons_zero, List.set_cons_succ, i64_w, i32_w]
                rfl
              refine one_ (i := 28) (N := some 49) #[true, true, true, true, true, true, true, true, true, true, true, true, true, true, true, true, true, true, true, true, true, true, true, true, true, true, true, true, true, false, false, false, false, false, false, false, false, false, false, false, false, false, false, false, false, false, false, false, false, false, false, false, false, false, false, false, false, false] rfl rfl (one_of HT_.out (by kernel_rfl)) (by decide) (fun K hK => ?_)
              refine goes_ Try.func41 (by kernel_rfl) rfl #[.agg #[.int .i64 a1_0, .int .i64 a1_1, .int .u64 a1_2, .int .u64 a1_3, .bool a1_4, .bool a1_5, .bool a1_6, .bool a1_7, .bool a1_8, .bool a1_9, .bool a1_10], .int .i64 a2, .agg #[.int .i64 t171, .bool t172, .int .u64 t173]] (by rfl) rfl rfl (by (try simp only [List.map_toArray, List.map_cons, List.map_nil]); first | done | rfl | (simp only [List.length_drop, List.length_take]; rfl)) ?_
              with_reducible refine (lookasideref09_Of.calls k a1_0 a1_1 a1_2 a1_3 a1_4 a1_5 a1_6 a1_7 a1_8 a1_9 a1_10 a2 t171 t172 t173 t195 _ A15.out).mono ?_
              rintro e w61 ⟨rfl, hb⟩
              refine ⟨_, rfl, ?_⟩
              have n0_ := Aside0.mk (bb_ hb BK168.out)
              have n1_ := Aside0.mk (bb_ hb BK169.out)
              have n2_ := Aside0.mk (bb_ hb BK170.out)
              have n3_ := Aside0.mk (bb_ hb BK174.out)
              have n4_ := Aside0.mk (bb_ hb BK178.out)
              have n5_ := Aside0.mk (bb_ hb BK190.out)
              have n6_ := Aside0.mk (below_step (by repeat (first | (with_reducible first | exact HB.out | apply below_alloc | apply pw_below_drewN | apply below_drew1 | refine below_set ?_ GE168.out | refine below_set ?_ GE169.out | refine below_set ?_ GE170.out | refine below_set ?_ GE174.out | refine below_set ?_ GE178.out | refine below_set ?_ GE190.out) | exact HB.out)) hb)
              clear BK168
              clear BK169
              clear BK170
              clear BK174
              clear BK178
              clear BK190
              clear HB
              have BK168 := n0_
              have BK169 := n1_
              have BK170 := n2_
              have BK174 := n3_
              have BK178 := n4_
              have BK190 := n5_
              have HB := n6_
              clear n0_ n1_ n2_ n3_ n4_ n5_ n6_
              (try clear hb)
              (try clear hb2)
              (try clear hk)
              (try clear hi)
              refine hK.out _ _ (ca3_ BK170.out (ca6_ BK168.out (ca3_ BK174.out (ca11_ BK169.out (ca11_ BK190.out (cz3_ BK178.out)))))) (fun hHeld => ?_)
              clear hK K
              refine norm_ (a' := ?_) ?_ ?_
              rotate_left
              · show Act.put _ (some 49) _ = _
                simp only [Act.put, List.setIfInBounds_toArray, List.set_cons_zero, List.set_cons_succ, i64_w, i32_w]
                rfl
              refine pure_ (i := 29) (N := some 50) (v := ?_) (a' := ?_) #[true, true, true, true, true, true, true, true, true, true, true, true, true, true, true, true, true, true, true, true, true, true, true, true, true, true, true, true, true, true, false, false, false, false, false, false, false, false, false, false, false, false, false, false, false, false, false, false, false, false, false, false, false, false, false, false, false, false] rfl rfl (any_of HT_.out (by kernel_rfl)) (fun _ _ _ h => h) (Or.inl ⟨by rfl, ?_⟩) ?_ ?_
              rotate_left
              · intro w'
                go_simp
                with_reducible rfl
              rotate_left
              · simp only [Act.put, List.setIfInBounds_toArray, List.set_cons_zero, List.set_cons_succ, i64_w, i32_w]
                rfl
              refine pure_ (i := 30) (N := some 51) (v := ?_) (a' := ?_) #[true, true, true, true, true, true, true, true, true, true, true, true, true, true, true, true, true, true, true, true, true, true, true, true, true, true, true, true, true, true, true, false, false, false, false, false, false, false, false, false, false, false, false, false, false, false, false, false, false, false, false, false, false, false, false, false, false, false] rfl rfl (any_of HT_.out (by kernel_rfl)) (fun _ _ _ h => h) (Or.inl ⟨by rfl, ?_⟩) ?_ ?_
              rotate_left
              · intro w'
                go_simp
                with_reducible rfl
              rotate_left
              · simp only [Act.put, List.setIfInBounds_toArray, List.set_cons_zero, List.set_cons_succ, i64_w, i32_w]
                rfl
              refine pure_ (i := 31) (N := some 52) (v := ?_) (a' := ?_) #[true, true, true, true, true, true, true, true, true, true, true, true, true, true, true, true, true, true, true, true, true, true, true, true, true, true, true, true, true, true, true, true, false, false, false, false, false, false, false, false, false, false, false, false, false, false, false, false, false, false, false, false, false, false, false, false, false, false] rfl rfl (any_of HT_.out (by kernel_rfl)) (fun _ _ _ h => h) (Or.inl ⟨by rfl, ?_⟩) ?_ ?_
              rotate_left
              · intro w'
                go_simp
                with_reducible rfl
              rotate_left
              · simp only [Act.put, List.setIfInBounds_toArray, List.set_cons_zero, List.set_cons_succ, i64_w, i32_w]
                rfl
              refine pure_ (i := 33) (N := some 54) (v := ?_) (a' := ?_) #[true, true, true, true, true, true, true, true, true, true, true, true, true, true, true, true, true, true, true, true, true, true, true, true, true, true, true, true, true, true, true, true, false, true, false, false, false, false, false, false, false, false, false, false, false, false, false, false, false, false, false, false, false, false, false, false, false, false] rfl rfl (any_of HT_.out (by kernel_rfl)) (fun _ _ _ h => h) (Or.inl ⟨by rfl, ?_⟩) ?_ ?_
              rotate_left
              · intro w'
                go_simp
                with_reducible rfl
              rotate_left
              · simp only [Act.put, List.setIfInBounds_toArray, List.set_cons_zero, List.set_cons_succ, i64_w, i32_w]
                rfl
              refine pure_ (i := 37) (N := some 58) (v := ?_) (a' := ?_) #[true, true, true, true, true, true, true, true, true, true, true, true, true, true, true, true, true, true, true, true, true, true, true, true, true, true, true, true, true, true, true, true, false, true, false, false, false, true, false, false, false, false, false, false, false, false, false, false, false, false, false, false, false, false, false, false, false, false] rfl rfl (any_of HT_.out (by kernel_rfl)) (fun _ _ _ h => h) (Or.inl ⟨by rfl, ?_⟩) ?_ ?_
              rotate_left
              · intro w'
                go_simp
                with_reducible rfl
              rotate_left
              · simp only [Act.put, List.setIfInBounds_toArray, List.set_cons_zero, List.set_cons_succ, i64_w, i32_w]
                rfl
              refine take_ (i := 32) (N := some 53) (v := ?_) (a' := ?_) #[true, true, true, true, true, true, true, true, true, true, true, true, true, true, true, true, true, true, true, true, true, true, true, true, true, true, true, true, true, true, true, true, true, true, false, false, false, true, false, false, false, false, false, false, false, false, false, false, false, false, false, false, false, false, false, false, false, false] rfl rfl (take_ofW HT_.out HW_.out (by kernel_rfl)) (fun _ _ _ h => h) (Or.inl ⟨by rfl, ?_⟩) hHeld ?_ ?_
              rotate_left
              · rintro w' ⟨s0, s1, s2, s3, s4, s5, s6, s7, s8, s9, s10, s11, s12, s13, s14, s15, s16, s17, s18, s19, s20, s21, s22, s23, s24, s25, s26, s27, s28, s29, s30, s31, s32, s33, s34, s35, s36⟩
                go_simp
                with_reducible rfl
              rotate_left
              · simp only [Act.put, List.setIfInBounds_toArray, List.set_cons_zero, List.set_cons_succ, i64_w, i32_w]
                rfl
              refine take_ (i := 34) (N := some 55) (v := ?_) (a' := ?_) #[true, true, true, true, true, true, true, true, true, true, true, true, true, true, true, true, true, true, true, true, true, true, true, true, true, true, true, true, true, true, true, true, true, true, true, false, false, true, false, false, false, false, false, false, false, false, false, false, false, false, false, false, false, false, false, false, false, false] rfl rfl (take_ofW HT_.out HW_.out (by kernel_rfl)) (fun _ _ _ h => h) (Or.inl ⟨by rfl, ?_⟩) hHeld ?_ ?_
              rotate_left
              · rintro w' ⟨s0, s1, s2, s3, s4, s5, s6, s7, s8, s9, s10, s11, s12, s13, s14, s15, s16, s17, s18, s19, s20, s21, s22, s23, s24, s25, s26, s27, s28, s29, s30, s31, s32, s33, s34, s35, s36⟩
                go_simp
                with_reducible rfl
              rotate_left
              · simp only [Act.put, List.setIfInBounds_toArray, List.set_cons_zero, List.set_cons_succ, i64_w, i32_w]
                rfl
              refine take_ (i := 36) (N := some 57) (v := ?_) (a' := ?_) #[true, true, true, true, true, true, true, true, true, true, true, true, true, true, true, true, true, true, true, true, true, true, true, true, true, true, true, true, true, true, true, true, true, true, true, false, true, true, false, false, false, false, false, false, false, false, false, false, false, false, false, false, false, false, false, false, false, false] rfl rfl (take_ofW HT_.out HW_.out (by kernel_rfl)) (fun _ _ _ h => h) (Or.inl ⟨by rfl, ?_⟩) hHeld ?_ ?_
              rotate_left
              · rintro w' ⟨s0, s1, s2, s3, s4, s5, s6, s7, s8, s9, s10, s11, s12, s13, s14, s15, s16, s17, s18, s19, s20, s21, s22, s23, s24, s25, s26, s27, s28, s29, s30, s31, s32, s33, s34, s35, s36⟩
                go_simp
                with_reducible rfl
              rotate_left
              · simp only [Act.put, List.setIfInBounds_toArray, List.set_cons_zero, List.set_cons_succ, i64_w, i32_w]
                rfl
              refine take_ (i := 38) (N := some 59) (v := ?_) (a' := ?_) #[true, true, true, true, true, true, true, true, true, true, true, true, true, true, true, true, true, true, true, true, true, true, true, true, true, true, true, true, true, true, true, true, true, true, true, false, true, true, true, false, false, false, false, false, false, false, false, false, false, false, false, false, false, false, false, false, false, false] rfl rfl (take_ofW HT_.out HW_.out (by kernel_rfl)) (fun _ _ _ h => h) (Or.inl ⟨by rfl, ?_⟩) hHeld ?_ ?_
              rotate_left
              · rintro w' ⟨s0, s1, s2, s3, s4, s5, s6, s7, s8, s9, s10, s11, s12, s13, s14, s15, s16, s17, s18, s19, s20, s21, s22, s23, s24, s25, s26, s27, s28, s29, s30, s31, s32, s33, s34, s35, s36⟩
                go_simp
                with_reducible rfl
              rotate_left
              · simp only [Act.put, List.setIfInBounds_toArray, List.set_cons_zero, List.set_cons_succ, i64_w, i32_w]
                rfl
              refine one_ (i := 35) (N := some 56) #[true, true, true, true, true, true, true, true, true, true, true, true, true, true, true, true, true, true, true, true, true, true, true, true, true, true, true, true, true, true, true, true, true, true, true, true, true, true, true, false, false, false, false, false, false, false, false, false, false, false, false, false, false, false, false, false, false, false] rfl rfl (one_of HT_.out (by kernel_rfl)) (by decide) (fun K hK => ?_)
              refine goes_ Try.func40 (by kernel_rfl) rfl #[.agg #[.int .i64 t179, .int .i64 t180, .int .u64 t181, .int .u64 t182, .bool t183, .bool t184, .bool t185, .bool t186, .bool t187, .bool t188, .bool t189], .int .i64 a2, .agg #[.int .i64 t171, .bool t172, .int .u64 t173]] (by rfl) rfl rfl (by (try simp only [List.map_toArray, List.map_cons, List.map_nil]); first | done | rfl | (simp only [List.length_drop, List.length_take]; rfl)) ?_
              with_reducible refine (fault_Of.calls k t179 t180 t181 t182 t183 t184 t185 t186 t187 t188 t189 a2 t171 t172 t173 t196 _ A17.out).mono ?_
              rintro e w62 ⟨rfl, hb⟩
              refine ⟨_, rfl, ?_⟩
              have n0_ := Aside0.mk (bb_ hb BK168.out)
              have n1_ := Aside0.mk (bb_ hb BK169.out)
              have n2_ := Aside0.mk (bb_ hb BK170.out)
              have n3_ := Aside0.mk (bb_ hb BK174.out)
              have n4_ := Aside0.mk (bb_ hb BK178.out)
              have n5_ := Aside0.mk (bb_ hb BK190.out)
              have n6_ := Aside0.mk (below_step (by repeat (first | (with_reducible first | exact HB.out | apply below_alloc | apply pw_below_drewN | apply below_drew1 | refine below_set ?_ GE168.out | refine below_set ?_ GE169.out | refine below_set ?_ GE170.out | refine below_set ?_ GE174.out | refine below_set ?_ GE178.out | refine below_set ?_ GE190.out) | exact HB.out)) hb)
              clear BK168
              clear BK169
              clear BK170
              clear BK174
              clear BK178
              clear BK190
              clear HB
              have BK168 := n0_
              have BK169 := n1_
              have BK170 := n2_
              have BK174 := n3_
              have BK178 := n4_
              have BK190 := n5_
              have HB := n6_
              clear n0_ n1_ n2_ n3_ n4_ n5_ n6_
              (try clear hb)
              (try clear hb2)
              (try clear hk)
              (try clear hi)
              refine hK.out _ _ (ca3_ BK170.out (ca6_ BK168.out (ca3_ BK174.out (ca11_ BK169.out (ca11_ BK190.out (cz3_ BK178.out)))))) (fun hHeld => ?_)
              clear hK K
              refine norm_ (a' := ?_) ?_ ?_
              rotate_left
              · show Act.put _ (some 56) _ = _
                simp only [Act.put, List.setIfInBounds_toArray, List.set_cons_zero, List.set_cons_succ, i64_w, i32_w]
                rfl
              refine one_ (i := 39) (N := some 60) #[true, true, true, true, true, true, true, true, true, true, true, true, true, true, true, true, true, true, true, true, true, true, true, true, true, true, true, true, true, true, true, true, true, true, true, true, true, true, true, true, false, false, false, false, false, false, false, false, false, false, false, false, false, false, false, false, false, false] rfl rfl (one_of HT_.out (by kernel_rfl)) (by decide) (fun K hK => ?_)
              refine goes_ Try.func41 (by kernel_rfl) rfl #[.agg #[.int .i64 t179, .int .i64 t180, .int .u64 t181, .int .u64 t182, .bool t183, .bool t184, .bool t185, .bool t186, .bool t187, .bool t188, .bool t189], .int .i64 a2, .agg #[.int .i64 t171, .bool t172, .int .u64 t173]] (by rfl) rfl rfl (by (try simp only [List.map_toArray, List.map_cons, List.map_nil]); first | done | rfl | (simp only [List.length_drop, List.length_take]; rfl)) ?_
              with_reducible refine (lookasideref09_Of.calls k t179 t180 t181 t182 t183 t184 t185 t186 t187 t188 t189 a2 t171 t172 t173 t197 _ A18.out).mono ?_
              rintro e w63 ⟨rfl, hb⟩
              refine ⟨_, rfl, ?_⟩
              have n0_ := Aside0.mk (bb_ hb BK168.out)
              have n1_ := Aside0.mk (bb_ hb BK169.out)
              have n2_ := Aside0.mk (bb_ hb BK170.out)
              have n3_ := Aside0.mk (bb_ hb BK174.out)
              have n4_ := Aside0.mk (bb_ hb BK178.out)
              have n5_ := Aside0.mk (bb_ hb BK190.out)
              have n6_ := Aside0.mk (below_step (by repeat (first | (with_reducible first | exact HB.out | apply below_alloc | apply pw_below_drewN | apply below_drew1 | refine below_set ?_ GE168.out | refine below_set ?_ GE169.out | refine below_set ?_ GE170.out | refine below_set ?_ GE174.out | refine below_set ?_ GE178.out | refine below_set ?_ GE190.out) | exact HB.out)) hb)
              clear BK168
              clear BK169
              clear BK170
              clear BK174
              clear BK178
              clear BK190
              clear HB
              have BK168 := n0_
              have BK169 := n1_
              have BK170 := n2_
              have BK174 := n3_
              have BK178 := n4_
              have BK190 := n5_
              have HB := n6_
              clear n0_ n1_ n2_ n3_ n4_ n5_ n6_
              (try clear hb)
              (try clear hb2)
              (try clear hk)
              (try clear hi)
              refine hK.out _ _ (ca3_ BK170.out (ca6_ BK168.out (ca3_ BK174.out (ca11_ BK169.out (ca11_ BK190.out (cz3_ BK178.out)))))) (fun hHeld => ?_)
              clear hK K
              refine norm_ (a' := ?_) ?_ ?_
              rotate_left
              · show Act.put _ (some 60) _ = _
                simp only [Act.put, List.setIfInBounds_toArray, List.set_cons_zero, List.set_cons_succ, i64_w, i32_w]
                rfl
              refine pure_ (i := 40) (N := some 61) (v := ?_) (a' := ?_) #[true, true, true, true, true, true, true, true, true, true, true, true, true, true, true, true, true, true, true, true, true, true, true, true, true, true, true, true, true, true, true, true, true, true, true, true, true, true, true, true, true, false, false, false, false, false, false, false, false, false, false, false, false, false, false, false, false, false] rfl rfl (any_of HT_.out (by kernel_rfl)) (fun _ _ _ h => h) (Or.inl ⟨by rfl, ?_⟩) ?_ ?_
              rotate_left
              · intro w'
                go_simp
                with_reducible rfl
              rotate_left
              · simp only [Act.put, List.setIfInBounds_toArray, List.set_cons_zero, List.set_cons_succ, i64_w, i32_w]
                rfl
              refine pure_ (i := 41) (N := some 62) (v := ?_) (a' := ?_) #[true, true, true, true, true, true, true, true, true, true, true, true, true, true, true, true, true, true, true, true, true, true, true, true, true, true, true, true, true, true, true, true, true, true, true, true, true, true, true, true, true, true, false, false, false, false, false, false, false, false, false, false, false, false, false, false, false, false] rfl rfl (any_of HT_.out (by kernel_rfl)) (fun _ _ _ h => h) (Or.inl ⟨by rfl, ?_⟩) ?_ ?_
              rotate_left
              · intro w'
                go_simp
                with_reducible rfl
              rotate_left
              · simp only [Act.put, List.setIfInBounds_toArray, List.set_cons_zero, List.set_cons_succ, i64_w, i32_w]
                rfl
              refine pure_ (i := 42) (N := some 63) (v := ?_) (a' := ?_) #[true, true, true, true, true, true, true, true, true, true, true, true, true, true, true, true, true, true, true, true, true, true, true, true, true, true, true, true, true, true, true, true, true, true, true, true, true, true, true, true, true, true, true, false, false, false, false, false, false, false, false, false, false, false, false, false, false, false] rfl rfl (any_of HT_.out (by kernel_rfl)) (fun _ _ _ h => h) (Or.inl ⟨by rfl, ?_⟩) ?_ ?_
              rotate_left
              · intro w'
                go_simp
                with_reducible rfl
              rotate_left
              · simp only [Act.put, List.setIfInBounds_toArray, List.set_cons_zero, List.set_cons_succ, i64_w, i32_w]
                rfl
              refine pure_ (i := 44) (N := some 65) (v := ?_) (a' := ?_) #[true, true, true, true, true, true, true, true, true, true, true, true, true, true, true, true, true, true, true, true, true, true, true, true, true, true, true, true, true, true, true, true, true, true, true, true, true, true, true, true, true, true, true, false, true, false, false, false, false, false, false, false, false, false, false, false, false, false] rfl rfl (any_of HT_.out (by kernel_rfl)) (fun _ _ _ h => h) (Or.inl ⟨by rfl, ?_⟩) ?_ ?_
              rotate_left
              · intro w'
                go_simp
                with_reducible rfl
              rotate_left
              · simp only [Act.put, List.setIfInBounds_toArray, List.set_cons_zero, List.set_cons_succ, i64_w, i32_w]
                rfl
              refine pure_ (i := 48) (N := some 69) (v := ?_) (a' := ?_) #[true, true, true, true, true, true, true, true, true, true, true, true, true, true, true, true, true, true, true, true, true, true, true, true, true, true, true, true, true, true, true, true, true, true, true, true, true, true, true, true, true, true, true, false, true, false, false, false, true, false, false, false, false, false, false, false, false, false] rfl rfl (any_of HT_.out (by kernel_rfl)) (fun _ _ _ h => h) (Or.inl ⟨by rfl, ?_⟩) ?_ ?_
              rotate_left
              · intro w'
                go_simp
                with_reducible rfl
              rotate_left
              · simp only [Act.put, List.setIfInBounds_toArray, List.set_cons_zero, List.set_cons_succ, i64_w, i32_w]
                rfl
              refine take_ (i := 43) (N := some 64) (v := ?_) (a' := ?_) #[true, true, true, true, true, true, true, true, true, true, true, true, true, true, true, true, true, true, true, true, true, true, true, true, true, true, true, true, true, true, true, true, true, true, true, true, true, true, true, true, true, true, true, true, true, false, false, false, true, false, false, false, false, false, false, false, false, false] rfl rfl (take_ofW HT_.out HW_.out (by kernel_rfl)) (fun _ _ _ h => h) (Or.inl ⟨by rfl, ?_⟩) hHeld ?_ ?_
              rotate_left
              · rintro w' ⟨s0, s1, s2, s3, s4, s5, s6, s7, s8, s9, s10, s11, s12, s13, s14, s15, s16, s17, s18, s19, s20, s21, s22, s23, s24, s25, s26, s27, s28, s29, s30, s31, s32, s33, s34, s35, s36⟩
                go_simp
                with_reducible rfl
              rotate_left
              · simp only [Act.put, List.setIfInBounds_toArray, List.set_cons_zero, List.set_cons_succ, i64_w, i32_w]
                rfl
              refine take_ (i := 45) (N := some 66) (v := ?_) (a' := ?_) #[true, true, true, true, true, true, true, true, true, true, true, true, true, true, true, true, true, true, true, true, true, true, true, true, true, true, true, true, true, true, true, true, true, true, true, true, true, true, true, true, true, true, true, true, true, true, false, false, true, false, false, false, false, false, false, false, false, false] rfl rfl (take_ofW HT_.out HW_.out (by kernel_rfl)) (fun _ _ _ h => h) (Or.inl ⟨by rfl, ?_⟩) hHeld ?_ ?_
              rotate_left
              · rintro w' ⟨s0, s1, s2, s3, s4, s5, s6, s7, s8, s9, s10, s11, s12, s13, s14, s15, s16, s17, s18, s19, s20, s21, s22, s23, s24, s25, s26, s27, s28, s29, s30, s31, s32, s33, s34, s35, s36⟩
                go_simp
                with_reducible rfl
              rotate_left
              · simp only [Act.put, List.setIfInBounds_toArray, List.set_cons_zero, List.set_cons_succ, i64_w, i32_w]
                rfl
              refine take_ (i := 46) (N := some 67) (v := ?_) (a' := ?_) #[true, true, true, true, true, true, true, true, true, true, true, true, true, true, true, true, true, true, true, true, true, true, true, true, true, true, true, true, true, true, true, true, true, true, true, true, true, true, true, true, true, true, true, true, true, true, true, false, true, false, false, false, false, false, false, false, false, false] rfl rfl (take_ofW HT_.out HW_.out (by kernel_rfl)) (fun _ _ _ h => h) (Or.inl ⟨by rfl, ?_⟩) hHeld ?_ ?_
              rotate_left
              · rintro w' ⟨s0, s1, s2, s3, s4, s5, s6, s7, s8, s9, s10, s11, s12, s13, s14, s15, s16, s17, s18, s19, s20, s21, s22, s23, s24, s25, s26, s27, s28, s29, s30, s31, s32, s33, s34, s35, s36⟩
                go_simp
                with_reducible rfl
              rotate_left
              · simp only [Act.put, List.setIfInBounds_toArray, List.set_cons_zero, List.set_cons_succ, i64_w, i32_w]
                rfl
              refine take_ (i := 49) (N := some 70) (v := ?_) (a' := ?_) #[true, true, true, true, true, true, true, true, true, true, true, true, true, true, true, true, true, true, true, true, true, true, true, true, true, true, true, true, true, true, true, true, true, true, true, true, true, true, true, true, true, true, true, true, true, true, true, false, true, true, false, false, false, false, false, false, false, false] rfl rfl (take_ofW HT_.out HW_.out (by kernel_rfl)) (fun _ _ _ h => h) (Or.inl ⟨by rfl, ?_⟩) hHeld ?_ ?_
              rotate_left
              · rintro w' ⟨s0, s1, s2, s3, s4, s5, s6, s7, s8, s9, s10, s11, s12, s13, s14, s15, s16, s17, s18, s19, s20, s21, s22, s23, s24, s25, s26, s27, s28, s29, s30, s31, s32, s33, s34, s35, s36⟩
                go_simp
                with_reducible rfl
              rotate_left
              · simp only [Act.put, List.setIfInBounds_toArray, List.set_cons_zero, List.set_cons_succ, i64_w, i32_w]
                rfl
              refine take_ (i := 50) (N := some 71) (v := ?_) (a' := ?_) #[true, true, true, true, true, true, true, true, true, true, true, true, true, true, true, true, true, true, true, true, true, true, true, true, true, true, true, true, true, true, true, true, true, true, true, true, true, true, true, true, true, true, true, true, true, true, true, false, true, true, true, false, false, false, false, false, false, false] rfl rfl (take_ofW HT_.out HW_.out (by kernel_rfl)) (fun _ _ _ h => h) (Or.inl ⟨by rfl, ?_⟩) hHeld ?_ ?_
              rotate_left
              · rintro w' ⟨s0, s1, s2, s3, s4, s5, s6, s7, s8, s9, s10, s11, s12, s13, s14, s15, s16, s17, s18, s19, s20, s21, s22, s23, s24, s25, s26, s27, s28, s29, s30, s31, s32, s33, s34, s35, s36⟩
                go_simp
                with_reducible rfl
              rotate_left
              · simp only [Act.put, List.setIfInBounds_toArray, List.set_cons_zero, List.set_cons_succ, i64_w, i32_w]
                rfl
              refine one_ (i := 47) (N := some 68) #[true, true, true, true, true, true, true, true, true, true, true, true, true, true, true, true, true, true, true, true, true, true, true, true, true, true, true, true, true, true, true, true, true, true, true, true, true, true, true, true, true, true, true, true, true, true, true, true, true, true, true, false, false, false, false, false, false, false] rfl rfl (one_of HT_.out (by kernel_rfl)) (by decide) (fun K hK => ?_)
              refine goes_ Try.func40 (by kernel_rfl) rfl #[.agg #[.int .i64 t179, .int .i64 t180, .int .u64 t181, .int .u64 t182, .bool t183, .bool t184, .bool t185, .bool t186, .bool t187, .bool t188, .bool t189], .int .i64 t180, .agg #[.int .i64 t175, .bool t176, .int .u64 t181]] (by rfl) rfl rfl (by (try simp only [List.map_toArray, List.map_cons, List.map_nil]); first | done | rfl | (simp only [List.length_drop, List.length_take]; rfl)) ?_
              with_reducible refine (fault_Of.calls k t179 t180 t181 t182 t183 t184 t185 t186 t187 t188 t189 t180 t175 t176 t181 t198 _ A20.out).mono ?_
              rintro e w64 ⟨rfl, hb⟩
              refine ⟨_, rfl, ?_⟩
              have n0_ := Aside0.mk (bb_ hb BK168.out)
              have n1_ := Aside0.mk (bb_ hb BK169.out)
              have n2_ := Aside0.mk (bb_ hb BK170.out)
              have n3_ := Aside0.mk (bb_ hb BK174.out)
              have n4_ := Aside0.mk (bb_ hb BK178.out)
              have n5_ := Aside0.mk (bb_ hb BK190.out)
              have n6_ := Aside0.mk (below_step (by repeat (first | (with_reducible first | exact HB.out | apply below_alloc | apply pw_below_drewN | apply below_drew1 | refine below_set ?_ GE168.out | refine below_set ?_ GE169.out | refine below_set ?_ GE170.out | refine below_set ?_ GE174.out | refine below_set ?_ GE178.out | refine below_set ?_ GE190.out) | exact HB.out)) hb)
              clear BK168
              clear BK169
              clear BK170
              clear BK174
              clear BK178
              clear BK190
              clear HB
              have BK168 := n0_
              have BK169 := n1_
              have BK170 := n2_
              have BK174 := n3_
              have BK178 := n4_
              have BK190 := n5_
              have HB := n6_
              clear n0_ n1_ n2_ n3_ n4_ n5_ n6_
              (try clear hb)
              (try clear hb2)
              (try clear hk)
              (try clear hi)
              refine hK.out _ _ (ca3_ BK170.out (ca6_ BK168.out (ca3_ BK174.out (ca11_ BK169.out (ca11_ BK190.out (cz3_ BK178.out)))))) (fun hHeld => ?_)
              clear hK K
              refine norm_ (a' := ?_) ?_ ?_
              rotate_left
              · show Act.put _ (some 68) _ = _
                simp only [Act.put, List.setIfInBounds_toArray, List.set_cons_zero, List.set_cons_succ, i64_w, i32_w]
                rfl
              refine one_ (i := 51) (N := some 72) #[true, true, true, true, true, true, true, true, true, true, true, true, true, true, true, true, true, true, true, true, true, true, true, true, true, true, true, true, true, true, true, true, true, true, true, true, true, true, true, true, true, true, true, true, true, true, true, true, true, true, true, true, false, false, false, false, false, false] rfl rfl (one_of HT_.out (by kernel_rfl)) (by decide) (fun K hK => ?_)
              refine goes_ Try.func39 (by kernel_rfl) rfl #[.agg #[.bool t183, .bool t184, .bool t185, .bool t186, .bool t187, .bool t188], .agg #[.int .i64 t175, .bool t176, .int .u64 t181]] (by rfl) rfl rfl (by (try simp only [List.map_toArray, List.map_cons, List.map_nil]); first | done | rfl | (simp only [List.length_drop, List.length_take]; rfl)) ?_
              with_reducible refine (lookasideref09_Judge.calls k t183 t184 t185 t186 t187 t188 t175 t176 t181 t199 _ A21.out).mono ?_
              rintro e w65 ⟨rfl, hb⟩
              refine ⟨_, rfl, ?_⟩
              have n0_ := Aside0.mk (bb_ hb BK168.out)
              have n1_ := Aside0.mk (bb_ hb BK169.out)
              have n2_ := Aside0.mk (bb_ hb BK170.out)
              have n3_ := Aside0.mk (bb_ hb BK174.out)
              have n4_ := Aside0.mk (bb_ hb BK178.out)
              have n5_ := Aside0.mk (bb_ hb BK190.out)
              have n6_ := Aside0.mk (below_step (by repeat (first | (with_reducible first | exact HB.out | apply below_alloc | apply pw_below_drewN | apply below_drew1 | refine below_set ?_ GE168.out | refine below_set ?_ GE169.out | refine below_set ?_ GE170.out | refine below_set ?_ GE174.out | refine below_set ?_ GE178.out | refine below_set ?_ GE190.out) | exact HB.out)) hb)
              clear BK168
              clear BK169
              clear BK170
              clear BK174
              clear BK178
              clear BK190
              clear HB
              have BK168 := n0_
              have BK169 := n1_
              have BK170 := n2_
              have BK174 := n3_
              have BK178 := n4_
              have BK190 := n5_
              have HB := n6_
              clear n0_ n1_ n2_ n3_ n4_ n5_ n6_
              (try clear hb)
              (try clear hb2)
              (try clear hk)
              (try clear hi)
              refine hK.out _ _ (ca3_ BK170.out (ca6_ BK168.out (ca3_ BK174.out (ca11_ BK169.out (ca11_ BK190.out (cz3_ BK178.out)))))) (fun hHeld => ?_)
              clear hK K
              refine norm_ (a' := ?_) ?_ ?_
              rotate_left
              · show Act.put _ (some 72) _ = _
                simp only [Act.put, List.setIfInBounds_toArray, List.set_cons_zero, List.set_cons_succ, i64_w, i32_w]
                rfl
              refine pure_ (i := 52) (N := some 73) (v := ?_) (a' := ?_) #[true, true, true, true, true, true, true, true, true, true, true, true, true, true, true, true, true, true, true, true, true, true, true, true, true, true, true, true, true, true, true, true, true, true, true, true, true, true, true, true, true, true, true, true, true, true, true, true, true, true, true, true, true, false, false, false, false, false] rfl rfl (any_of HT_.out (by kernel_rfl)) (fun _ _ _ h => h) (Or.inl ⟨by rfl, ?_⟩) ?_ ?_
              rotate_left
              · intro w'
                go_simp
                with_reducible rfl
              rotate_left
              · simp only [Act.put, List.setIfInBounds_toArray, List.set_cons_zero, List.set_cons_succ, i64_w, i32_w]
                rfl
              refine pure_ (i := 53) (N := some 74) (v := ?_) (a' := ?_) #[true, true, true, true, true, true, true, true, true, true, true, true, true, true, true, true, true, true, true, true, true, true, true, true, true, true, true, true, true, true, true, true, true, true, true, true, true, true, true, true, true, true, true, true, true, true, true, true, true, true, true, true, true, true, false, false, false, false] rfl rfl (any_of HT_.out (by kernel_rfl)) (fun _ _ _ h => h) (Or.inl ⟨by rfl, ?_⟩) ?_ ?_
              rotate_left
              · intro w'
                go_simp
                with_reducible rfl
              rotate_left
              · simp only [Act.put, List.setIfInBounds_toArray, List.set_cons_zero, List.set_cons_succ, i64_w, i32_w]
                rfl
              refine pure_ (i := 54) (N := some 75) (v := ?_) (a' := ?_) #[true, true, true, true, true, true, true, true, true, true, true, true, true, true, true, true, true, true, true, true, true, true, true, true, true, true, true, true, true, true, true, true, true, true, true, true, true, true, true, true, true, true, true, true, true, true, true, true, true, true, true, true, true, true, true, false, false, false] rfl rfl (any_of HT_.out (by kernel_rfl)) (fun _ _ _ h => h) (Or.inl ⟨by rfl, ?_⟩) ?_ ?_
              rotate_left
              · intro w'
                go_simp
                with_reducible rfl
              rotate_left
              · simp only [Act.put, List.setIfInBounds_toArray, List.set_cons_zero, List.set_cons_succ, i64_w, i32_w]
                rfl
              refine one_ (i := 55) (N := some 76) #[true, true, true, true, true, true, true, true, true, true, true, true, true, true, true, true, true, true, true, true, true, true, true, true, true, true, true, true, true, true, true, true, true, true, true, true, true, true, true, true, true, true, true, true, true, true, true, true, true, true, true, true, true, true, true, true, false, false] rfl rfl (one_of HT_.out (by kernel_rfl)) (by decide) (fun K hK => ?_)
              refine goes_ Try.func42 (by kernel_rfl) rfl #[] (by rfl) rfl rfl (by (try simp only [List.map_toArray, List.map_cons, List.map_nil]); first | done | rfl | (simp only [List.length_drop, List.length_take]; rfl)) ?_
              with_reducible refine (lookasidelaw09_lives.calls k  t200 _ A23.out).mono ?_
              rintro e w66 ⟨rfl, hb⟩
              refine ⟨_, rfl, ?_⟩
              have n0_ := Aside0.mk (bb_ hb BK168.out)
              have n1_ := Aside0.mk (bb_ hb BK169.out)
              have n2_ := Aside0.mk (bb_ hb BK170.out)
              have n3_ := Aside0.mk (bb_ hb BK174.out)
              have n4_ := Aside0.mk (bb_ hb BK178.out)
              have n5_ := Aside0.mk (bb_ hb BK190.out)
              have n6_ := Aside0.mk (below_step (by repeat (first | (with_reducible first | exact HB.out | apply below_alloc | apply pw_below_drewN | apply below_drew1 | refine below_set ?_ GE168.out | refine below_set ?_ GE169.out | refine below_set ?_ GE170.out | refine below_set ?_ GE174.out | refine below_set ?_ GE178.out | refine below_set ?_ GE190.out) | exact HB.out)) hb)
              clear BK168
              clear BK169
              clear BK170
              clear BK174
              clear BK178
              clear BK190
              clear HB
              have BK168 := n0_
              have BK169 := n1_
              have BK170 := n2_
              have BK174 := n3_
              have BK178 := n4_
              have BK190 := n5_
              have HB := n6_
              clear n0_ n1_ n2_ n3_ n4_ n5_ n6_
              (try clear hb)
              (try clear hb2)
              (try clear hk)
              (try clear hi)
              refine hK.out _ _ (ca3_ BK170.out (ca6_ BK168.out (ca3_ BK174.out (ca11_ BK169.out (ca11_ BK190.out (cz3_ BK178.out)))))) (fun hHeld => ?_)
              clear hK K
              refine norm_ (a' := ?_) ?_ ?_
              rotate_left
              · show Act.put _ (some 76) _ = _
                simp only [Act.put, List.setIfInBounds_toArray, List.set_cons_zero, List.set_cons_succ, i64_w, i32_w]
                rfl
              refine pure_ (i := 56) (N := some 77) (v := ?_) (a' := ?_) #[true, true, true, true, true, true, true, true, true, true, true, true, true, true, true, true, true, true, true, true, true, true, true, true, true, true, true, true, true, true, true, true, true, true, true, true, true, true, true, true, true, true, true, true, true, true, true, true, true, true, true, true, true, true, true, true, true, false] rfl rfl (any_of HT_.out (by kernel_rfl)) (fun _ _ _ h => h) (Or.inl ⟨by rfl, ?_⟩) ?_ ?_
              rotate_left
              · intro w'
                go_simp
                with_reducible rfl
              rotate_left
              · simp only [Act.put, List.setIfInBounds_toArray, List.set_cons_zero, List.set_cons_succ, i64_w, i32_w]
                rfl
              refine pure_ (i := 57) (N := some 8) (v := ?_) (a' := ?_) #[true, true, true, true, true, true, true, true, true, true, true, true, true, true, true, true, true, true, true, true, true, true, true, true, true, true, true, true, true, true, true, true, true, true, true, true, true, true, true, true, true, true, true, true, true, true, true, true, true, true, true, true, true, true, true, true, true, true] rfl rfl (any_of HT_.out (by kernel_rfl)) (fun _ _ _ h => h) (Or.inl ⟨by rfl, ?_⟩) ?_ ?_
              rotate_left
              · intro w'
                go_simp
                with_reducible rfl
              rotate_left
              · simp only [Act.put, List.setIfInBounds_toArray, List.set_cons_zero, List.set_cons_succ, i64_w, i32_w]
                rfl
              refine done_ (done_of HT_.out (by kernel_rfl)) ?_
              try go_wp2
              go_ret
              exact ⟨by first | rfl | (simp [errW_none, errW_some] <;> rfl) | (simp [*, errW_none, errW_some] <;> rfl), by repeat (first | (with_reducible first | exact HB.out | apply below_alloc | apply pw_below_drewN | apply below_drew1 | refine below_set ?_ GE168.out | refine below_set ?_ GE169.out | refine below_set ?_ GE170.out | refine below_set ?_ GE174.out | refine below_set ?_ GE178.out | refine below_set ?_ GE190.out) | exact HB.out)⟩
            · rw [if_neg c22] at H
              have c22b0 : (t198 == t199) = false := beq_eq_false_iff_ne.mpr c22
              have c22b1 : (t198 != t199) = true := bne_iff_ne.mpr c22
              exact absurd ((Option.some.inj H).trans hr_.out) (by decide)
          · rw [if_neg c19] at H
            have c19b0 : (t196 == t197) = false := beq_eq_false_iff_ne.mpr c19
            have c19b1 : (t196 != t197) = true := bne_iff_ne.mpr c19
            exact absurd ((Option.some.inj H).trans hr_.out) (by decide)
        · rw [if_neg c16] at H
          have c16b0 : (t194 == t195) = false := beq_eq_false_iff_ne.mpr c16
          have c16b1 : (t194 != t195) = true := bne_iff_ne.mpr c16
          exact absurd ((Option.some.inj H).trans hr_.out) (by decide)
      · rw [if_neg c13] at H
        have c13b0 : (t192 == t193) = false := beq_eq_false_iff_ne.mpr c13
        have c13b1 : (t192 != t193) = true := bne_iff_ne.mpr c13
        exact absurd ((Option.some.inj H).trans hr_.out) (by decide)
    · rw [if_neg c10] at H
      have c10b0 : (t191 == (decide (a3_0 ≤ 3))) = false := by simpa using c10
      (try (have c10b1 : decide (t191 = (decide (a3_0 ≤ 3))) = false := by simpa using c10))
      (try (have c10b2 : (t191 == (decide (a3_0 ≤ 3))) = false := by simpa using c10))
      (try (have c10b3 : ¬ (t191 = (decide (a3_0 ≤ 3))) := by simpa using c10))
      clear c10
      exact absurd ((Option.some.inj H).trans hr_.out) (by decide)
  · rw [if_neg c9] at H
    have c9b0 : decide (0 ≤ a3_0) = false := decide_eq_false c9
    clear c9
    by_cases c67 : (t191 == false) = true
    · rw [if_pos c67] at H
      have c67b0 : (t191 == false) = true := c67
      (try (have c67b1 : decide (t191 = false) = true := by simpa using c67))
      (try (have c67b2 : (t191 == false) = true := by simpa using c67))
      clear c67
      replace H := Option.bind_eq_some_iff.mp H
      obtain ⟨t201, A680, H⟩ := H
      replace H : ((lookasideref09_Judge.f k a0_0 a0_1 a0_2 a0_3 a0_4 a0_5 t171 t172 t173).bind fun t202 => (if t201 = t202 then ((fault_Of.f k a1_0 a1_1 a1_2 a1_3 a1_4 a1_5 a1_6 a1_7 a1_8 a1_9 a1_10 a2 t171 t172 t173).bind fun t203 => ((lookasideref09_Of.f k a1_0 a1_1 a1_2 a1_3 a1_4 a1_5 a1_6 a1_7 a1_8 a1_9 a1_10 a2 t171 t172 t173).bind fun t204 => (if t203 = t204 then ((fault_Of.f k t179 t180 t181 t182 t183 t184 t185 t186 t187 t188 t189 a2 t171 t172 t173).bind fun t205 => ((lookasideref09_Of.f k t179 t180 t181 t182 t183 t184 t185 t186 t187 t188 t189 a2 t171 t172 t173).bind fun t206 => (if t205 = t206 then ((fault_Of.f k t179 t180 t181 t182 t183 t184 t185 t186 t187 t188 t189 t180 t175 t176 t181).bind fun t207 => ((lookasideref09_Judge.f k t183 t184 t185 t186 t187 t188 t175 t176 t181).bind fun t208 => (if t207 = t208 then ((lookasidelaw09_lives.f k).bind fun t209 => (some t209)) else (some false)))) else (some false)))) else (some false)))) else (some false))) = some r := H
      have A68 := Aside0.mk A680
      clear A680
      replace H := Option.bind_eq_some_iff.mp H
      obtain ⟨t202, A690, H⟩ := H
      replace H : (if t201 = t202 then ((fault_Of.f k a1_0 a1_1 a1_2 a1_3 a1_4 a1_5 a1_6 a1_7 a1_8 a1_9 a1_10 a2 t171 t172 t173).bind fun t203 => ((lookasideref09_Of.f k a1_0 a1_1 a1_2 a1_3 a1_4 a1_5 a1_6 a1_7 a1_8 a1_9 a1_10 a2 t171 t172 t173).bind fun t204 => (if t203 = t204 then ((fault_Of.f k t179 t180 t181 t182 t183 t184 t185 t186 t187 t188 t189 a2 t171 t172 t173).bind fun t205 => ((lookasideref09_Of.f k t179 t180 t181 t182 t183 t184 t185 t186 t187 t188 t189 a2 t171 t172 t173).bind fun t206 => (if t205 = t206 then ((fault_Of.f k t179 t180 t181 t182 t183 t184 t185 t186 t187 t188 t189 t180 t175 t176 t181).bind fun t207 => ((lookasideref09_Judge.f k t183 t184 t185 t186 t187 t188 t175 t176 t181).bind fun t208 => (if t207 = t208 then ((lookasidelaw09_lives.f k).bind fun t209 => (some t209)) else (some false)))) else (some false)))) else (some false)))) else (some false)) = some r := H
      have A69 := Aside0.mk A690
      clear A690
      by_cases c70 : t201 = t202
      · rw [if_pos c70] at H
        have c70b0 : (t201 == t202) = true := beq_iff_eq.mpr c70
        have c70b1 : (t201 != t202) = false := bne_eq_false_iff_eq.mpr c70
        clear c70
        replace H := Option.bind_eq_some_iff.mp H
        obtain ⟨t203, A710, H⟩ := H
        replace H : ((lookasideref09_Of.f k a1_0 a1_1 a1_2 a1_3 a1_4 a1_5 a1_6 a1_7 a1_8 a1_9 a1_10 a2 t171 t172 t173).bind fun t204 => (if t203 = t204 then ((fault_Of.f k t179 t180 t181 t182 t183 t184 t185 t186 t187 t188 t189 a2 t171 t172 t173).bind fun t205 => ((lookasideref09_Of.f k t179 t180 t181 t182 t183 t184 t185 t186 t187 t188 t189 a2 t171 t172 t173).bind fun t206 => (if t205 = t206 then ((fault_Of.f k t179 t180 t181 t182 t183 t184 t185 t186 t187 t188 t189 t180 t175 t176 t181).bind fun t207 => ((lookasideref09_Judge.f k t183 t184 t185 t186 t187 t188 t175 t176 t181).bind fun t208 => (if t207 = t208 then ((lookasidelaw09_lives.f k).bind fun t209 => (some t209)) else (some false)))) else (some false)))) else (some false))) = some r := H
        have A71 := Aside0.mk A710
        clear A710
        replace H := Option.bind_eq_some_iff.mp H
        obtain ⟨t204, A720, H⟩ := H
        replace H : (if t203 = t204 then ((fault_Of.f k t179 t180 t181 t182 t183 t184 t185 t186 t187 t188 t189 a2 t171 t172 t173).bind fun t205 => ((lookasideref09_Of.f k t179 t180 t181 t182 t183 t184 t185 t186 t187 t188 t189 a2 t171 t172 t173).bind fun t206 => (if t205 = t206 then ((fault_Of.f k t179 t180 t181 t182 t183 t184 t185 t186 t187 t188 t189 t180 t175 t176 t181).bind fun t207 => ((lookasideref09_Judge.f k t183 t184 t185 t186 t187 t188 t175 t176 t181).bind fun t208 => (if t207 = t208 then ((lookasidelaw09_lives.f k).bind fun t209 => (some t209)) else (some false)))) else (some false)))) else (some false)) = some r := H
        have A72 := Aside0.mk A720
        clear A720
        by_cases c73 : t203 = t204
        · rw [if_pos c73] at H
          have c73b0 : (t203 == t204) = true := beq_iff_eq.mpr c73
          have c73b1 : (t203 != t204) = false := bne_eq_false_iff_eq.mpr c73
          clear c73
          replace H := Option.bind_eq_some_iff.mp H
          obtain ⟨t205, A740, H⟩ := H
          replace H : ((lookasideref09_Of.f k t179 t180 t181 t182 t183 t184 t185 t186 t187 t188 t189 a2 t171 t172 t173).bind fun t206 => (if t205 = t206 then ((fault_Of.f k t179 t180 t181 t182 t183 t184 t185 t186 t187 t188 t189 t180 t175 t176 t181).bind fun t207 => ((lookasideref09_Judge.f k t183 t184 t185 t186 t187 t188 t175 t176 t181).bind fun t208 => (if t207 = t208 then ((lookasidelaw09_lives.f k).bind fun t209 => (some t209)) else (some false)))) else (some false))) = some r := H
          have A74 := Aside0.mk A740
          clear A740
          replace H := Option.bind_eq_some_iff.mp H
          obtain ⟨t206, A750, H⟩ := H
          replace H : (if t205 = t206 then ((fault_Of.f k t179 t180 t181 t182 t183 t184 t185 t186 t187 t188 t189 t180 t175 t176 t181).bind fun t207 => ((lookasideref09_Judge.f k t183 t184 t185 t186 t187 t188 t175 t176 t181).bind fun t208 => (if t207 = t208 then ((lookasidelaw09_lives.f k).bind fun t209 => (some t209)) else (some false)))) else (some false)) = some r := H
          have A75 := Aside0.mk A750
          clear A750
          by_cases c76 : t205 = t206
          · rw [if_pos c76] at H
            have c76b0 : (t205 == t206) = true := beq_iff_eq.mpr c76
            have c76b1 : (t205 != t206) = false := bne_eq_false_iff_eq.mpr c76
            clear c76
            replace H := Option.bind_eq_some_iff.mp H
            obtain ⟨t207, A770, H⟩ := H
            replace H : ((lookasideref09_Judge.f k t183 t184 t185 t186 t187 t188 t175 t176 t181).bind fun t208 => (if t207 = t208 then ((lookasidelaw09_lives.f k).bind fun t209 => (some t209)) else (some false))) = some r := H
            have A77 := Aside0.mk A770
            clear A770
            replace H := Option.bind_eq_some_iff.mp H
            obtain ⟨t208, A780, H⟩ := H
            replace H : (if t207 = t208 then ((lookasidelaw09_lives.f k).bind fun t209 => (some t209)) else (some false)) = some r := H
            have A78 := Aside0.mk A780
            clear A780
            by_cases c79 : t207 = t208
            · rw [if_pos c79] at H
              have c79b0 : (t207 == t208) = true := beq_iff_eq.mpr c79
              have c79b1 : (t207 != t208) = false := bne_eq_false_iff_eq.mpr c79
              clear c79
              replace H := Option.bind_eq_some_iff.mp H
              obtain ⟨t209, A800, H⟩ := H
              replace H : (some t209) = some r := H
              have A80 := Aside0.mk A800
              clear A800
              obtain rfl := Option.some.inj H
              go_enter Try.func11, Try.ntmps11
              try go_wp2_with (first | ((with_reducible refine gate_dst (N := 4) rfl ?_); refine box_event ?hg (N := 4) ?hd (cs := #[.bool a0_0, .bool a0_1, .bool a0_2, .bool a0_3, .bool a0_4, .bool a0_5]) (t := 24) ?hr ?_; (case hd => rfl); (case hg => rfl); (case hr => first | (go_simp; done) | (go_simp; rfl)); intro gb168 hg w81 hbox hb; have n0_ := Aside0.mk (below_step (by repeat (first | (with_reducible first | exact HB.out | apply below_alloc | apply pw_below_drewN | apply below_drew1) | exact HB.out)) hb); have n1_ := Aside0.mk (hbox); have n2_ := Aside0.mk ((by rw [hg]; exact (below_size (by repeat (first | (with_reducible first | exact HB.out | apply below_alloc | apply pw_below_drewN | apply below_drew1) | exact HB.out))) : w.heap.size ≤ gb168)); have n3_ := Aside0.mk ((by rw [hg]; exact (below_size (by repeat (first | (with_reducible first | exact HB.out | apply below_alloc | apply pw_below_drewN | apply below_drew1) | exact HB.out))) : w.heap.size ≤ gb168)); clear HB; have HB := n0_; have BK168 := n1_; have GW168 := n2_; have GE168 := n3_; clear n0_ n1_ n2_ n3_; clear hb hbox hg) | ((with_reducible refine gate_dst (N := 5) rfl ?_); refine box_event ?hg (N := 5) ?hd (cs := #[.int .i64 a1_0, .int .i64 a1_1, .int .u64 a1_2, .int .u64 a1_3, .bool a1_4, .bool a1_5, .bool a1_6, .bool a1_7, .bool a1_8, .bool a1_9, .bool a1_10]) (t := 26) ?hr ?_; (case hd => rfl); (case hg => rfl); (case hr => first | (go_simp; done) | (go_simp; rfl)); intro gb169 hg w82 hbox hb; have n0_ := Aside0.mk (bb_ hb BK168.out); have n1_ := Aside0.mk (below_step (by repeat (first | (with_reducible first | exact HB.out | apply below_alloc | apply pw_below_drewN | apply below_drew1 | refine below_set ?_ GE168.out) | exact HB.out)) hb); have n2_ := Aside0.mk (hbox); have n3_ := Aside0.mk ((by rw [hg]; exact (below_size (by repeat (first | (with_reducible first | exact HB.out | apply below_alloc | apply pw_below_drewN | apply below_drew1 | refine below_set ?_ GE168.out) | exact HB.out))) : w.heap.size ≤ gb169)); have n4_ := Aside0.mk ((by rw [hg]; exact (below_size (by repeat (first | (with_reducible first | exact HB.out | apply below_alloc | apply pw_below_drewN | apply below_drew1 | refine below_set ?_ GE168.out) | exact HB.out))) : w.heap.size ≤ gb169)); have n5_ := Aside0.mk ((by rw [hg]; exact Nat.ne_of_lt (blk_lt BK168.out) : gb168 ≠ gb169)); have n6_ := Aside0.mk ((by rw [hg]; exact Nat.ne_of_gt (blk_lt BK168.out) : gb169 ≠ gb168)); clear BK168; clear HB; have BK168 := n0_; have HB := n1_; have BK169 := n2_; have GW169 := n3_; have GE169 := n4_; have NB168_169 := n5_; have NB169_168 := n6_; clear n0_ n1_ n2_ n3_ n4_ n5_ n6_; clear hb hbox hg) | ((with_reducible refine gate_dst (N := 7) rfl ?_); refine box_event ?hg (N := 7) ?hd (cs := #[.int .i64 a3_0, .bool a3_1, .int .u64 a3_2]) (t := 49) ?hr ?_; (case hd => rfl); (case hg => rfl); (case hr => first | (go_simp; done) | (go_simp; rfl)); intro gb170 hg w83 hbox hb; have n0_ := Aside0.mk (bb_ hb BK168.out); have n1_ := Aside0.mk (bb_ hb BK169.out); have n2_ := Aside0.mk (below_step (by repeat (first | (with_reducible first | exact HB.out | apply below_alloc | apply pw_below_drewN | apply below_drew1 | refine below_set ?_ GE168.out | refine below_set ?_ GE169.out) | exact HB.out)) hb); have n3_ := Aside0.mk (hbox); have n4_ := Aside0.mk ((by rw [hg]; exact (below_size (by repeat (first | (with_reducible first | exact HB.out | apply below_alloc | apply pw_below_drewN | apply below_drew1 | refine below_set ?_ GE168.out | refine below_set ?_ GE169.out) | exact HB.out))) : w.heap.size ≤ gb170)); have n5_ := Aside0.mk ((by rw [hg]; exact (below_size (by repeat (first | (with_reducible first | exact HB.out | apply below_alloc | apply pw_below_drewN | apply below_drew1 | refine below_set ?_ GE168.out | refine below_set ?_ GE169.out) | exact HB.out))) : w.heap.size ≤ gb170)); have n6_ := Aside0.mk ((by rw [hg]; exact Nat.ne_of_lt (blk_lt BK168.out) : gb168 ≠ gb170)); have n7_ := Aside0.mk ((by rw [hg]; exact Nat.ne_of_gt (blk_lt BK168.out) : gb170 ≠ gb168)); have n8_ := Aside0.mk ((by rw [hg]; exact Nat.ne_of_lt (blk_lt BK169.out) : gb169 ≠ gb170)); have n9_ := Aside0.mk ((by rw [hg]; exact Nat.ne_of_gt (blk_lt BK169.out) : gb170 ≠ gb169)); clear BK168; clear BK169; clear HB; have BK168 := n0_; have BK169 := n1_; have HB := n2_; have BK170 := n3_; have GW170 := n4_; have GE170 := n5_; have NB168_170 := n6_; have NB170_168 := n7_; have NB169_170 := n8_; have NB170_169 := n9_; clear n0_ n1_ n2_ n3_ n4_ n5_ n6_ n7_ n8_ n9_; clear hb hbox hg; have hnb84 := NB170_168.out; have hnc84 := NB168_170.out; have hnb85 := NB170_169.out; have hnc85 := NB169_170.out; have hcz86_0 : w83.cell? ⟨gb170, 0, none⟩ = some (.int .i64 a3_0) := (blk_cell BK170.out 0).trans rfl; have hcz86_1 : w83.cell? ⟨gb170, 1, none⟩ = some (.bool a3_1) := (blk_cell BK170.out 1).trans rfl; have hcz86_2 : w83.cell? ⟨gb170, 2, none⟩ = some (.int .u64 a3_2) := (blk_cell BK170.out 2).trans rfl; have hfz86_0 := blk_frozen BK170.out 0; have hfz86_1 := blk_frozen BK170.out 1; have hfz86_2 := blk_frozen BK170.out 2) | ((with_reducible refine gate_callee (f := 36) rfl ?_); refine goesL_ (some 13) rfl rfl Try.func36 (by kernel_rfl) rfl #[.agg #[.int .i64 a3_0, .bool a3_1, .int .u64 a3_2], .bool false] rfl (by (try simp only [List.map_toArray, List.map_cons, List.map_nil]); first | done | rfl | (simp only [List.length_drop, List.length_take]; rfl)) ?_; (with_reducible refine (lookasideref09_Good.calls k a3_0 a3_1 a3_2 false t171 t172 t173 _ A5.out).mono ?_); rintro e w87 ⟨rfl, hb⟩; refine ⟨_, rfl, ?_⟩; have n0_ := Aside0.mk (bb_ hb BK168.out); have n1_ := Aside0.mk (bb_ hb BK169.out); have n2_ := Aside0.mk (bb_ hb BK170.out); have n3_ := Aside0.mk (below_step (by repeat (first | (with_reducible first | exact HB.out | apply below_alloc | apply pw_below_drewN | apply below_drew1 | refine below_set ?_ GE168.out | refine below_set ?_ GE169.out | refine below_set ?_ GE170.out) | exact HB.out)) hb); clear BK168; clear BK169; clear BK170; clear HB; have BK168 := n0_; have BK169 := n1_; have BK170 := n2_; have HB := n3_; clear n0_ n1_ n2_ n3_; (try clear hb); (try clear hb2); (try clear hk); (try clear hi)) | ((with_reducible refine gate_dst (N := 9) rfl ?_); refine box_event ?hg (N := 9) ?hd (cs := #[.int .i64 0, .bool false, .int .u64 0]) (t := 49) ?hr ?_; (case hd => rfl); (case hg => rfl); (case hr => first | (go_simp; done) | (go_simp; rfl)); intro gb174 hg w88 hbox hb; have n0_ := Aside0.mk (bb_ hb BK168.out); have n1_ := Aside0.mk (bb_ hb BK169.out); have n2_ := Aside0.mk (bb_ hb BK170.out); have n3_ := Aside0.mk (below_step (by repeat (first | (with_reducible first | exact HB.out | apply below_alloc | apply pw_below_drewN | apply below_drew1 | refine below_set ?_ GE168.out | refine below_set ?_ GE169.out | refine below_set ?_ GE170.out) | exact HB.out)) hb); have n4_ := Aside0.mk (hbox); have n5_ := Aside0.mk ((by rw [hg]; exact (below_size (by repeat (first | (with_reducible first | exact HB.out | apply below_alloc | apply pw_below_drewN | apply below_drew1 | refine below_set ?_ GE168.out | refine below_set ?_ GE169.out | refine below_set ?_ GE170.out) | exact HB.out))) : w.heap.size ≤ gb174)); have n6_ := Aside0.mk ((by rw [hg]; exact (below_size (by repeat (first | (with_reducible first | exact HB.out | apply below_alloc | apply pw_below_drewN | apply below_drew1 | refine below_set ?_ GE168.out | refine below_set ?_ GE169.out | refine below_set ?_ GE170.out) | exact HB.out))) : w.heap.size ≤ gb174)); have n7_ := Aside0.mk ((by rw [hg]; exact Nat.ne_of_lt (blk_lt BK168.out) : gb168 ≠ gb174)); have n8_ := Aside0.mk ((by rw [hg]; exact Nat.ne_of_gt (blk_lt BK168.out) : gb174 ≠ gb168)); have n9_ := Aside0.mk ((by rw [hg]; exact Nat.ne_of_lt (blk_lt BK169.out) : gb169 ≠ gb174)); have n10_ := Aside0.mk ((by rw [hg]; exact Nat.ne_of_gt (blk_lt BK169.out) : gb174 ≠ gb169)); have n11_ := Aside0.mk ((by rw [hg]; exact Nat.ne_of_lt (blk_lt BK170.out) : gb170 ≠ gb174)); have n12_ := Aside0.mk ((by rw [hg]; exact Nat.ne_of_gt (blk_lt BK170.out) : gb174 ≠ gb170)); clear BK168; clear BK169; clear BK170; clear HB; have BK168 := n0_; have BK169 := n1_; have BK170 := n2_; have HB := n3_; have BK174 := n4_; have GW174 := n5_; have GE174 := n6_; have NB168_174 := n7_; have NB174_168 := n8_; have NB169_174 := n9_; have NB174_169 := n10_; have NB170_174 := n11_; have NB174_170 := n12_; clear n0_ n1_ n2_ n3_ n4_ n5_ n6_ n7_ n8_ n9_ n10_ n11_ n12_; clear hb hbox hg; have hnb89 := NB174_168.out; have hnc89 := NB168_174.out; have hnb90 := NB174_169.out; have hnc90 := NB169_174.out; have hnb91 := NB174_170.out; have hnc91 := NB170_174.out; have hcz92_0 : w88.cell? ⟨gb174, 0, none⟩ = some (.int .i64 0) := (blk_cell BK174.out 0).trans rfl; have hcz92_1 : w88.cell? ⟨gb174, 1, none⟩ = some (.bool false) := (blk_cell BK174.out 1).trans rfl; have hcz92_2 : w88.cell? ⟨gb174, 2, none⟩ = some (.int .u64 0) := (blk_cell BK174.out 2).trans rfl; have hfz92_0 := blk_frozen BK174.out 0; have hfz92_1 := blk_frozen BK174.out 1; have hfz92_2 := blk_frozen BK174.out 2; have hcz93_0 : w88.cell? ⟨gb170, 0, none⟩ = some (.int .i64 a3_0) := (blk_cell BK170.out 0).trans rfl; have hcz93_1 : w88.cell? ⟨gb170, 1, none⟩ = some (.bool a3_1) := (blk_cell BK170.out 1).trans rfl; have hcz93_2 : w88.cell? ⟨gb170, 2, none⟩ = some (.int .u64 a3_2) := (blk_cell BK170.out 2).trans rfl; have hfz93_0 := blk_frozen BK170.out 0; have hfz93_1 := blk_frozen BK170.out 1; have hfz93_2 := blk_frozen BK170.out 2) | ((with_reducible refine gate_callee (f := 36) rfl ?_); refine goesL_ (some 15) rfl rfl Try.func36 (by kernel_rfl) rfl #[.agg #[.int .i64 a3_0, .bool a3_1, .int .u64 a3_2], .bool true] rfl (by (try simp only [List.map_toArray, List.map_cons, List.map_nil]); first | done | rfl | (simp only [List.length_drop, List.length_take]; rfl)) ?_; (with_reducible refine (lookasideref09_Good.calls k a3_0 a3_1 a3_2 true t175 t176 t177 _ A6.out).mono ?_); rintro e w94 ⟨rfl, hb⟩; refine ⟨_, rfl, ?_⟩; have n0_ := Aside0.mk (blk_below (g := gb168) (o := .cells #[.bool a0_0, .bool a0_1, .bool a0_2, .bool a0_3, .bool a0_4, .bool a0_5] 24 (0, 0)) (by (with_reducible repeat (first | refine blk_drewN ?_ _ | refine blk_drew ?_ | refine blk_alloc ?_ _)); refine blk_far ?_ NB168_174.out _; refine blk_far ?_ NB168_174.out _; refine blk_far ?_ NB168_174.out _; (with_reducible repeat (first | refine blk_drewN ?_ _ | refine blk_drew ?_ | refine blk_alloc ?_ _)); exact BK168.out) hb); have n1_ := Aside0.mk (blk_below (g := gb169) (o := .cells #[.int .i64 a1_0, .int .i64 a1_1, .int .u64 a1_2, .int .u64 a1_3, .bool a1_4, .bool a1_5, .bool a1_6, .bool a1_7, .bool a1_8, .bool a1_9, .bool a1_10] 26 (0, 0)) (by (with_reducible repeat (first | refine blk_drewN ?_ _ | refine blk_drew ?_ | refine blk_alloc ?_ _)); refine blk_far ?_ NB169_174.out _; refine blk_far ?_ NB169_174.out _; refine blk_far ?_ NB169_174.out _; (with_reducible repeat (first | refine blk_drewN ?_ _ | refine blk_drew ?_ | refine blk_alloc ?_ _)); exact BK169.out) hb); have n2_ := Aside0.mk (blk_below (g := gb170) (o := .cells #[.int .i64 a3_0, .bool a3_1, .int .u64 a3_2] 49 (0, 0)) (by (with_reducible repeat (first | refine blk_drewN ?_ _ | refine blk_drew ?_ | refine blk_alloc ?_ _)); refine blk_far ?_ NB170_174.out _; refine blk_far ?_ NB170_174.out _; refine blk_far ?_ NB170_174.out _; (with_reducible repeat (first | refine blk_drewN ?_ _ | refine blk_drew ?_ | refine blk_alloc ?_ _)); exact BK170.out) hb); have n3_ := Aside0.mk (blk_below (g := gb174) (o := .cells #[.int .i64 t171, .bool t172, .int .u64 t173] 49 (0, 0)) (by (with_reducible repeat (first | refine blk_drewN ?_ _ | refine blk_drew ?_ | refine blk_alloc ?_ _)); refine blk_put (cs := #[.int .i64 t171, .bool t172, .int .u64 0]) ?_ 2 _ rfl; refine blk_put (cs := #[.int .i64 t171, .bool false, .int .u64 0]) ?_ 1 _ rfl; refine blk_put (cs := #[.int .i64 0, .bool false, .int .u64 0]) ?_ 0 _ rfl; (with_reducible repeat (first | refine blk_drewN ?_ _ | refine blk_drew ?_ | refine blk_alloc ?_ _)); exact BK174.out) hb); have n4_ := Aside0.mk (below_step (by repeat (first | (with_reducible first | exact HB.out | apply below_alloc | apply pw_below_drewN | apply below_drew1 | refine below_set ?_ GE168.out | refine below_set ?_ GE169.out | refine below_set ?_ GE170.out | refine below_set ?_ GE174.out) | exact HB.out)) hb); clear BK168; clear BK169; clear BK170; clear BK174; clear HB; have BK168 := n0_; have BK169 := n1_; have BK170 := n2_; have BK174 := n3_; have HB := n4_; clear n0_ n1_ n2_ n3_ n4_; (try clear hb); (try clear hb2); (try clear hk); (try clear hi)) | ((with_reducible refine gate_dst (N := 10) rfl ?_); refine box_event ?hg (N := 10) ?hd (cs := #[.int .i64 0, .bool false, .int .u64 0]) (t := 49) ?hr ?_; (case hd => rfl); (case hg => rfl); (case hr => first | (go_simp; done) | (go_simp; rfl)); intro gb178 hg w95 hbox hb; have n0_ := Aside0.mk (bb_ hb BK168.out); have n1_ := Aside0.mk (bb_ hb BK169.out); have n2_ := Aside0.mk (bb_ hb BK170.out); have n3_ := Aside0.mk (bb_ hb BK174.out); have n4_ := Aside0.mk (below_step (by repeat (first | (with_reducible first | exact HB.out | apply below_alloc | apply pw_below_drewN | apply below_drew1 | refine below_set ?_ GE168.out | refine below_set ?_ GE169.out | refine below_set ?_ GE170.out | refine below_set ?_ GE174.out) | exact HB.out)) hb); have n5_ := Aside0.mk (hbox); have n6_ := Aside0.mk ((by rw [hg]; exact (below_size (by repeat (first | (with_reducible first | exact HB.out | apply below_alloc | apply pw_below_drewN | apply below_drew1 | refine below_set ?_ GE168.out | refine below_set ?_ GE169.out | refine below_set ?_ GE170.out | refine below_set ?_ GE174.out) | exact HB.out))) : w.heap.size ≤ gb178)); have n7_ := Aside0.mk ((by rw [hg]; exact (below_size (by repeat (first | (with_reducible first | exact HB.out | apply below_alloc | apply pw_below_drewN | apply below_drew1 | refine below_set ?_ GE168.out | refine below_set ?_ GE169.out | refine below_set ?_ GE170.out | refine below_set ?_ GE174.out) | exact HB.out))) : w.heap.size ≤ gb178)); have n8_ := Aside0.mk ((by rw [hg]; exact Nat.ne_of_lt (blk_lt BK168.out) : gb168 ≠ gb178)); have n9_ := Aside0.mk ((by rw [hg]; exact Nat.ne_of_gt (blk_lt BK168.out) : gb178 ≠ gb168)); have n10_ := Aside0.mk ((by rw [hg]; exact Nat.ne_of_lt (blk_lt BK169.out) : gb169 ≠ gb178)); have n11_ := Aside0.mk ((by rw [hg]; exact Nat.ne_of_gt (blk_lt BK169.out) : gb178 ≠ gb169)); have n12_ := Aside0.mk ((by rw [hg]; exact Nat.ne_of_lt (blk_lt BK170.out) : gb170 ≠ gb178)); have n13_ := Aside0.mk ((by rw [hg]; exact Nat.ne_of_gt (blk_lt BK170.out) : gb178 ≠ gb170)); have n14_ := Aside0.mk ((by rw [hg]; exact Nat.ne_of_lt (blk_lt BK174.out) : gb174 ≠ gb178)); have n15_ := Aside0.mk ((by rw [hg]; exact Nat.ne_of_gt (blk_lt BK174.out) : gb178 ≠ gb174)); clear BK168; clear BK169; clear BK170; clear BK174; clear HB; have BK168 := n0_; have BK169 := n1_; have BK170 := n2_; have BK174 := n3_; have HB := n4_; have BK178 := n5_; have GW178 := n6_; have GE178 := n7_; have NB168_178 := n8_; have NB178_168 := n9_; have NB169_178 := n10_; have NB178_169 := n11_; have NB170_178 := n12_; have NB178_170 := n13_; have NB174_178 := n14_; have NB178_174 := n15_; clear n0_ n1_ n2_ n3_ n4_ n5_ n6_ n7_ n8_ n9_ n10_ n11_ n12_ n13_ n14_ n15_; clear hb hbox hg; have hnb96 := NB178_168.out; have hnc96 := NB168_178.out; have hnb97 := NB178_169.out; have hnc97 := NB169_178.out; have hnb98 := NB178_170.out; have hnc98 := NB170_178.out; have hnb99 := NB178_174.out; have hnc99 := NB174_178.out; have hcz100_0 : w95.cell? ⟨gb178, 0, none⟩ = some (.int .i64 0) := (blk_cell BK178.out 0).trans rfl; have hcz100_1 : w95.cell? ⟨gb178, 1, none⟩ = some (.bool false) := (blk_cell BK178.out 1).trans rfl; have hcz100_2 : w95.cell? ⟨gb178, 2, none⟩ = some (.int .u64 0) := (blk_cell BK178.out 2).trans rfl; have hfz100_0 := blk_frozen BK178.out 0; have hfz100_1 := blk_frozen BK178.out 1; have hfz100_2 := blk_frozen BK178.out 2; have hnb101 := NB169_168.out; have hnc101 := NB168_169.out; have hcz102_0 : w95.cell? ⟨gb169, 0, none⟩ = some (.int .i64 a1_0) := (blk_cell BK169.out 0).trans rfl; have hcz102_1 : w95.cell? ⟨gb169, 1, none⟩ = some (.int .i64 a1_1) := (blk_cell BK169.out 1).trans rfl; have hcz102_2 : w95.cell? ⟨gb169, 2, none⟩ = some (.int .u64 a1_2) := (blk_cell BK169.out 2).trans rfl; have hcz102_3 : w95.cell? ⟨gb169, 3, none⟩ = some (.int .u64 a1_3) := (blk_cell BK169.out 3).trans rfl; have hcz102_4 : w95.cell? ⟨gb169, 4, none⟩ = some (.bool a1_4) := (blk_cell BK169.out 4).trans rfl; have hcz102_5 : w95.cell? ⟨gb169, 5, none⟩ = some (.bool a1_5) := (blk_cell BK169.out 5).trans rfl; have hcz102_6 : w95.cell? ⟨gb169, 6, none⟩ = some (.bool a1_6) := (blk_cell BK169.out 6).trans rfl; have hcz102_7 : w95.cell? ⟨gb169, 7, none⟩ = some (.bool a1_7) := (blk_cell BK169.out 7).trans rfl; have hcz102_8 : w95.cell? ⟨gb169, 8, none⟩ = some (.bool a1_8) := (blk_cell BK169.out 8).trans rfl; have hcz102_9 : w95.cell? ⟨gb169, 9, none⟩ = some (.bool a1_9) := (blk_cell BK169.out 9).trans rfl; have hcz102_10 : w95.cell? ⟨gb169, 10, none⟩ = some (.bool a1_10) := (blk_cell BK169.out 10).trans rfl; have hfz102_0 := blk_frozen BK169.out 0; have hfz102_1 := blk_frozen BK169.out 1; have hfz102_2 := blk_frozen BK169.out 2; have hfz102_3 := blk_frozen BK169.out 3; have hfz102_4 := blk_frozen BK169.out 4; have hfz102_5 := blk_frozen BK169.out 5; have hfz102_6 := blk_frozen BK169.out 6; have hfz102_7 := blk_frozen BK169.out 7; have hfz102_8 := blk_frozen BK169.out 8; have hfz102_9 := blk_frozen BK169.out 9; have hfz102_10 := blk_frozen BK169.out 10) | ((with_reducible refine gate_callee (f := 13) rfl ?_); refine goesL_ (some 17) rfl rfl Try.func13 (by kernel_rfl) rfl #[.agg #[.int .i64 a1_0, .int .i64 a1_1, .int .u64 a1_2, .int .u64 a1_3, .bool a1_4, .bool a1_5, .bool a1_6, .bool a1_7, .bool a1_8, .bool a1_9, .bool a1_10]] rfl (by (try simp only [List.map_toArray, List.map_cons, List.map_nil]); first | done | rfl | (simp only [List.length_drop, List.length_take]; rfl)) ?_; (with_reducible refine (lookasideref03_Good.calls k a1_0 a1_1 a1_2 a1_3 a1_4 a1_5 a1_6 a1_7 a1_8 a1_9 a1_10 t179 t180 t181 t182 t183 t184 t185 t186 t187 t188 t189 _ A7.out).mono ?_); rintro e w103 ⟨rfl, hb⟩; refine ⟨_, rfl, ?_⟩; have n0_ := Aside0.mk (blk_below (g := gb168) (o := .cells #[.bool a0_0, .bool a0_1, .bool a0_2, .bool a0_3, .bool a0_4, .bool a0_5] 24 (0, 0)) (by (with_reducible repeat (first | refine blk_drewN ?_ _ | refine blk_drew ?_ | refine blk_alloc ?_ _)); refine blk_far ?_ NB168_178.out _; refine blk_far ?_ NB168_178.out _; refine blk_far ?_ NB168_178.out _; (with_reducible repeat (first | refine blk_drewN ?_ _ | refine blk_drew ?_ | refine blk_alloc ?_ _)); exact BK168.out) hb); have n1_ := Aside0.mk (blk_below (g := gb169) (o := .cells #[.int .i64 a1_0, .int .i64 a1_1, .int .u64 a1_2, .int .u64 a1_3, .bool a1_4, .bool a1_5, .bool a1_6, .bool a1_7, .bool a1_8, .bool a1_9, .bool a1_10] 26 (0, 0)) (by (with_reducible repeat (first | refine blk_drewN ?_ _ | refine blk_drew ?_ | refine blk_alloc ?_ _)); refine blk_far ?_ NB169_178.out _; refine blk_far ?_ NB169_178.out _; refine blk_far ?_ NB169_178.out _; (with_reducible repeat (first | refine blk_drewN ?_ _ | refine blk_drew ?_ | refine blk_alloc ?_ _)); exact BK169.out) hb); have n2_ := Aside0.mk (blk_below (g := gb170) (o := .cells #[.int .i64 a3_0, .bool a3_1, .int .u64 a3_2] 49 (0, 0)) (by (with_reducible repeat (first | refine blk_drewN ?_ _ | refine blk_drew ?_ | refine blk_alloc ?_ _)); refine blk_far ?_ NB170_178.out _; refine blk_far ?_ NB170_178.out _; refine blk_far ?_ NB170_178.out _; (with_reducible repeat (first | refine blk_drewN ?_ _ | refine blk_drew ?_ | refine blk_alloc ?_ _)); exact BK170.out) hb); have n3_ := Aside0.mk (blk_below (g := gb174) (o := .cells #[.int .i64 t171, .bool t172, .int .u64 t173] 49 (0, 0)) (by (with_reducible repeat (first | refine blk_drewN ?_ _ | refine blk_drew ?_ | refine blk_alloc ?_ _)); refine blk_far ?_ NB174_178.out _; refine blk_far ?_ NB174_178.out _; refine blk_far ?_ NB174_178.out _; (with_reducible repeat (first | refine blk_drewN ?_ _ | refine blk_drew ?_ | refine blk_alloc ?_ _)); exact BK174.out) hb); have n4_ := Aside0.mk (blk_below (g := gb178) (o := .cells #[.int .i64 t175, .bool t176, .int .u64 t177] 49 (0, 0)) (by (with_reducible repeat (first | refine blk_drewN ?_ _ | refine blk_drew ?_ | refine blk_alloc ?_ _)); refine blk_put (cs := #[.int .i64 t175, .bool t176, .int .u64 0]) ?_ 2 _ rfl; refine blk_put (cs := #[.int .i64 t175, .bool false, .int .u64 0]) ?_ 1 _ rfl; refine blk_put (cs := #[.int .i64 0, .bool false, .int .u64 0]) ?_ 0 _ rfl; (with_reducible repeat (first | refine blk_drewN ?_ _ | refine blk_drew ?_ | refine blk_alloc ?_ _)); exact BK178.out) hb); have n5_ := Aside0.mk (below_step (by repeat (first | (with_reducible first | exact HB.out | apply below_alloc | apply pw_below_drewN | apply below_drew1 | refine below_set ?_ GE168.out | refine below_set ?_ GE169.out | refine below_set ?_ GE170.out | refine below_set ?_ GE174.out | refine below_set ?_ GE178.out) | exact HB.out)) hb); clear BK168; clear BK169; clear BK170; clear BK174; clear BK178; clear HB; have BK168 := n0_; have BK169 := n1_; have BK170 := n2_; have BK174 := n3_; have BK178 := n4_; have HB := n5_; clear n0_ n1_ n2_ n3_ n4_ n5_; (try clear hb); (try clear hb2); (try clear hk); (try clear hi)) | ((with_reducible refine gate_dst (N := 11) rfl ?_); refine box_event ?hg (N := 11) ?hd (cs := #[.int .i64 0, .int .i64 0, .int .u64 0, .int .u64 0, .bool false, .bool false, .bool false, .bool false, .bool false, .bool false, .bool false]) (t := 26) ?hr ?_; (case hd => rfl); (case hg => rfl); (case hr => first | (go_simp; done) | (go_simp; rfl)); intro gb190 hg w104 hbox hb; have n0_ := Aside0.mk (bb_ hb BK168.out); have n1_ := Aside0.mk (bb_ hb BK169.out); have n2_ := Aside0.mk (bb_ hb BK170.out); have n3_ := Aside0.mk (bb_ hb BK174.out); have n4_ := Aside0.mk (bb_ hb BK178.out); have n5_ := Aside0.mk (below_step (by repeat (first | (with_reducible first | exact HB.out | apply below_alloc | apply pw_below_drewN | apply below_drew1 | refine below_set ?_ GE168.out | refine below_set ?_ GE169.out | refine below_set ?_ GE170.out | refine below_set ?_ GE174.out | refine below_set ?_ GE178.out) | exact HB.out)) hb); have n6_ := Aside0.mk (hbox); have n7_ := Aside0.mk ((by rw [hg]; exact (below_size (by repeat (first | (with_reducible first | exact HB.out | apply below_alloc | apply pw_below_drewN | apply below_drew1 | refine below_set ?_ GE168.out | refine below_set ?_ GE169.out | refine below_set ?_ GE170.out | refine below_set ?_ GE174.out | refine below_set ?_ GE178.out) | exact HB.out))) : w.heap.size ≤ gb190)); have n8_ := Aside0.mk ((by rw [hg]; exact (below_size (by repeat (first | (with_reducible first | exact HB.out | apply below_alloc | apply pw_below_drewN | apply below_drew1 | refine below_set ?_ GE168.out | refine below_set ?_ GE169.out | refine below_set ?_ GE170.out | refine below_set ?_ GE174.out | refine below_set ?_ GE178.out) | exact HB.out))) : w.heap.size ≤ gb190)); have n9_ := Aside0.mk ((by rw [hg]; exact Nat.ne_of_lt (blk_lt BK168.out) : gb168 ≠ gb190)); have n10_ := Aside0.mk ((by rw [hg]; exact Nat.ne_of_gt (blk_lt BK168.out) : gb190 ≠ gb168)); have n11_ := Aside0.mk ((by rw [hg]; exact Nat.ne_of_lt (blk_lt BK169.out) : gb169 ≠ gb190)); have n12_ := Aside0.mk ((by rw [hg]; exact Nat.ne_of_gt (blk_lt BK169.out) : gb190 ≠ gb169)); have n13_ := Aside0.mk ((by rw [hg]; exact Nat.ne_of_lt (blk_lt BK170.out) : gb170 ≠ gb190)); have n14_ := Aside0.mk ((by rw [hg]; exact Nat.ne_of_gt (blk_lt BK170.out) : gb190 ≠ gb170)); have n15_ := Aside0.mk ((by rw [hg]; exact Nat.ne_of_lt (blk_lt BK174.out) : gb174 ≠ gb190)); have n16_ := Aside0.mk ((by rw [hg]; exact Nat.ne_of_gt (blk_lt BK174.out) : gb190 ≠ gb174)); have n17_ := Aside0.mk ((by rw [hg]; exact Nat.ne_of_lt (blk_lt BK178.out) : gb178 ≠ gb190)); have n18_ := Aside0.mk ((by rw [hg]; exact Nat.ne_of_gt (blk_lt BK178.out) : gb190 ≠ gb178)); clear BK168; clear BK169; clear BK170; clear BK174; clear BK178; clear HB; have BK168 := n0_; have BK169 := n1_; have BK170 := n2_; have BK174 := n3_; have BK178 := n4_; have HB := n5_; have BK190 := n6_; have GW190 := n7_; have GE190 := n8_; have NB168_190 := n9_; have NB190_168 := n10_; have NB169_190 := n11_; have NB190_169 := n12_; have NB170_190 := n13_; have NB190_170 := n14_; have NB174_190 := n15_; have NB190_174 := n16_; have NB178_190 := n17_; have NB190_178 := n18_; clear n0_ n1_ n2_ n3_ n4_ n5_ n6_ n7_ n8_ n9_ n10_ n11_ n12_ n13_ n14_ n15_ n16_ n17_ n18_; clear hb hbox hg; have hnb105 := NB190_168.out; have hnc105 := NB168_190.out; have hnb106 := NB190_169.out; have hnc106 := NB169_190.out; have hnb107 := NB190_170.out; have hnc107 := NB170_190.out; have hnb108 := NB190_174.out; have hnc108 := NB174_190.out; have hnb109 := NB190_178.out; have hnc109 := NB178_190.out; have hcz110_0 : w104.cell? ⟨gb190, 0, none⟩ = some (.int .i64 0) := (blk_cell BK190.out 0).trans rfl; have hcz110_1 : w104.cell? ⟨gb190, 1, none⟩ = some (.int .i64 0) := (blk_cell BK190.out 1).trans rfl; have hcz110_2 : w104.cell? ⟨gb190, 2, none⟩ = some (.int .u64 0) := (blk_cell BK190.out 2).trans rfl; have hcz110_3 : w104.cell? ⟨gb190, 3, none⟩ = some (.int .u64 0) := (blk_cell BK190.out 3).trans rfl; have hcz110_4 : w104.cell? ⟨gb190, 4, none⟩ = some (.bool false) := (blk_cell BK190.out 4).trans rfl; have hcz110_5 : w104.cell? ⟨gb190, 5, none⟩ = some (.bool false) := (blk_cell BK190.out 5).trans rfl; have hcz110_6 : w104.cell? ⟨gb190, 6, none⟩ = some (.bool false) := (blk_cell BK190.out 6).trans rfl; have hcz110_7 : w104.cell? ⟨gb190, 7, none⟩ = some (.bool false) := (blk_cell BK190.out 7).trans rfl; have hcz110_8 : w104.cell? ⟨gb190, 8, none⟩ = some (.bool false) := (blk_cell BK190.out 8).trans rfl; have hcz110_9 : w104.cell? ⟨gb190, 9, none⟩ = some (.bool false) := (blk_cell BK190.out 9).trans rfl; have hcz110_10 : w104.cell? ⟨gb190, 10, none⟩ = some (.bool false) := (blk_cell BK190.out 10).trans rfl; have hfz110_0 := blk_frozen BK190.out 0; have hfz110_1 := blk_frozen BK190.out 1; have hfz110_2 := blk_frozen BK190.out 2; have hfz110_3 := blk_frozen BK190.out 3; have hfz110_4 := blk_frozen BK190.out 4; have hfz110_5 := blk_frozen BK190.out 5; have hfz110_6 := blk_frozen BK190.out 6; have hfz110_7 := blk_frozen BK190.out 7; have hfz110_8 := blk_frozen BK190.out 8; have hfz110_9 := blk_frozen BK190.out 9; have hfz110_10 := blk_frozen BK190.out 10; have hcz111_0 : w104.cell? ⟨gb178, 0, none⟩ = some (.int .i64 t175) := (blk_cell BK178.out 0).trans rfl; have hcz111_1 : w104.cell? ⟨gb178, 1, none⟩ = some (.bool t176) := (blk_cell BK178.out 1).trans rfl; have hcz111_2 : w104.cell? ⟨gb178, 2, none⟩ = some (.int .u64 t177) := (blk_cell BK178.out 2).trans rfl; have hfz111_0 := blk_frozen BK178.out 0; have hfz111_1 := blk_frozen BK178.out 1; have hfz111_2 := blk_frozen BK178.out 2))
              have n0_ : Aside0 (((((((((((((w104.setCell ⟨gb190, 0, none⟩ (.int .i64 t179)).setCell ⟨gb190, 1, none⟩ (.int .i64 t180)).setCell ⟨gb190, 2, none⟩ (.int .u64 t181)).setCell ⟨gb190, 3, none⟩ (.int .u64 t182)).setCell ⟨gb190, 4, none⟩ (.bool t183)).setCell ⟨gb190, 5, none⟩ (.bool t184)).setCell ⟨gb190, 6, none⟩ (.bool t185)).setCell ⟨gb190, 7, none⟩ (.bool t186)).setCell ⟨gb190, 8, none⟩ (.bool t187)).setCell ⟨gb190, 9, none⟩ (.bool t188)).setCell ⟨gb190, 10, none⟩ (.bool t189)).setCell ⟨gb178, 2, none⟩ (.int .u64 t181)).heap[gb168]? = some (.cells #[.bool a0_0, .bool a0_1, .bool a0_2, .bool a0_3, .bool a0_4, .bool a0_5] 24 (0, 0))) := ⟨by (with_reducible repeat (first | refine blk_drewN ?_ _ | refine blk_drew ?_ | refine blk_alloc ?_ _)); refine blk_far ?_ NB168_178.out _; refine blk_far ?_ NB168_190.out _; refine blk_far ?_ NB168_190.out _; refine blk_far ?_ NB168_190.out _; refine blk_far ?_ NB168_190.out _; refine blk_far ?_ NB168_190.out _; refine blk_far ?_ NB168_190.out _; refine blk_far ?_ NB168_190.out _; refine blk_far ?_ NB168_190.out _; refine blk_far ?_ NB168_190.out _; refine blk_far ?_ NB168_190.out _; refine blk_far ?_ NB168_190.out _; (with_reducible repeat (first | refine blk_drewN ?_ _ | refine blk_drew ?_ | refine blk_alloc ?_ _)); exact BK168.out⟩
              have n1_ : Aside0 (((((((((((((w104.setCell ⟨gb190, 0, none⟩ (.int .i64 t179)).setCell ⟨gb190, 1, none⟩ (.int .i64 t180)).setCell ⟨gb190, 2, none⟩ (.int .u64 t181)).setCell ⟨gb190, 3, none⟩ (.int .u64 t182)).setCell ⟨gb190, 4, none⟩ (.bool t183)).setCell ⟨gb190, 5, none⟩ (.bool t184)).setCell ⟨gb190, 6, none⟩ (.bool t185)).setCell ⟨gb190, 7, none⟩ (.bool t186)).setCell ⟨gb190, 8, none⟩ (.bool t187)).setCell ⟨gb190, 9, none⟩ (.bool t188)).setCell ⟨gb190, 10, none⟩ (.bool t189)).setCell ⟨gb178, 2, none⟩ (.int .u64 t181)).heap[gb169]? = some (.cells #[.int .i64 a1_0, .int .i64 a1_1, .int .u64 a1_2, .int .u64 a1_3, .bool a1_4, .bool a1_5, .bool a1_6, .bool a1_7, .bool a1_8, .bool a1_9, .bool a1_10] 26 (0, 0))) := ⟨by (with_reducible repeat (first | refine blk_drewN ?_ _ | refine blk_drew ?_ | refine blk_alloc ?_ _)); refine blk_far ?_ NB169_178.out _; refine blk_far ?_ NB169_190.out _; refine blk_far ?_ NB169_190.out _; refine blk_far ?_ NB169_190.out _; refine blk_far ?_ NB169_190.out _; refine blk_far ?_ NB169_190.out _; refine blk_far ?_ NB169_190.out _; refine blk_far ?_ NB169_190.out _; refine blk_far ?_ NB169_190.out _; refine blk_far ?_ NB169_190.out _; refine blk_far ?_ NB169_190.out _; refine blk_far ?_ NB169_190.out _; (with_reducible repeat (first | refine blk_drewN ?_ _ | refine blk_drew ?_ | refine blk_alloc ?_ _)); exact BK169.out⟩
              have n2_ : Aside0 (((((((((((((w104.setCell ⟨gb190, 0, none⟩ (.int .i64 t179)).setCell ⟨gb190, 1, none⟩ (.int .i64 t180)).setCell ⟨gb190, 2, none⟩ (.int .u64 t181)).setCell ⟨gb190, 3, none⟩ (.int .u64 t182)).setCell ⟨gb190, 4, none⟩ (.bool t183)).setCell ⟨gb190, 5, none⟩ (.bool t184)).setCell ⟨gb190, 6, none⟩ (.bool t185)).setCell ⟨gb190, 7, none⟩ (.bool t186)).setCell ⟨gb190, 8, none⟩ (.bool t187)).setCell ⟨gb190, 9, none⟩ (.bool t188)).setCell ⟨gb190, 10, none⟩ (.bool t189)).setCell ⟨gb178, 2, none⟩ (.int .u64 t181)).heap[gb170]? = some (.cells #[.int .i64 a3_0, .bool a3_1, .int .u64 a3_2] 49 (0, 0))) := ⟨by (with_reducible repeat (first | refine blk_drewN ?_ _ | refine blk_drew ?_ | refine blk_alloc ?_ _)); refine blk_far ?_ NB170_178.out _; refine blk_far ?_ NB170_190.out _; refine blk_far ?_ NB170_190.out _; refine blk_far ?_ NB170_190.out _; refine blk_far ?_ NB170_190.out _; refine blk_far ?_ NB170_190.out _; refine blk_far ?_ NB170_190.out _; refine blk_far ?_ NB170_190.out _; refine blk_far ?_ NB170_190.out _; refine blk_far ?_ NB170_190.out _; refine blk_far ?_ NB170_190.out _; refine blk_far ?_ NB170_190.out _; (with_reducible repeat (first | refine blk_drewN ?_ _ | refine blk_drew ?_ | refine blk_alloc ?_ _)); exact BK170.out⟩
              have n3_ : Aside0 (((((((((((((w104.setCell ⟨gb190, 0, none⟩ (.int .i64 t179)).setCell ⟨gb190, 1, none⟩ (.int .i64 t180)).setCell ⟨gb190, 2, none⟩ (.int .u64 t181)).setCell ⟨gb190, 3, none⟩ (.int .u64 t182)).setCell ⟨gb190, 4, none⟩ (.bool t183)).setCell ⟨gb190, 5, none⟩ (.bool t184)).setCell ⟨gb190, 6, none⟩ (.bool t185)).setCell ⟨gb190, 7, none⟩ (.bool t186)).setCell ⟨gb190, 8, none⟩ (.bool t187)).setCell ⟨gb190, 9, none⟩ (.bool t188)).setCell ⟨gb190, 10, none⟩ (.bool t189)).setCell ⟨gb178, 2, none⟩ (.int .u64 t181)).heap[gb174]? = some (.cells #[.int .i64 t171, .bool t172, .int .u64 t173] 49 (0, 0))) := ⟨by (with_reducible repeat (first | refine blk_drewN ?_ _ | refine blk_drew ?_ | refine blk_alloc ?_ _)); refine blk_far ?_ NB174_178.out _; refine blk_far ?_ NB174_190.out _; refine blk_far ?_ NB174_190.out _; refine blk_far ?_ NB174_190.out _; refine blk_far ?_ NB174_190.out _; refine blk_far ?_ NB174_190.out _; refine blk_far ?_ NB174_190.out _; refine blk_far ?_ NB174_190.out _; refine blk_far ?_ NB174_190.out _; refine blk_far ?_ NB174_190.out _; refine blk_far ?_ NB174_190.out _; refine blk_far ?_ NB174_190.out _; (with_reducible repeat (first | refine blk_drewN ?_ _ | refine blk_drew ?_ | refine blk_alloc ?_ _)); exact BK174.out⟩
              have n4_ : Aside0 (((((((((((((w104.setCell ⟨gb190, 0, none⟩ (.int .i64 t179)).setCell ⟨gb190, 1, none⟩ (.int .i64 t180)).setCell ⟨gb190, 2, none⟩ (.int .u64 t181)).setCell ⟨gb190, 3, none⟩ (.int .u64 t182)).setCell ⟨gb190, 4, none⟩ (.bool t183)).setCell ⟨gb190, 5, none⟩ (.bool t184)).setCell ⟨gb190, 6, none⟩ (.bool t185)).setCell ⟨gb190, 7, none⟩ (.bool t186)).setCell ⟨gb190, 8, none⟩ (.bool t187)).setCell ⟨gb190, 9, none⟩ (.bool t188)).setCell ⟨gb190, 10, none⟩ (.bool t189)).setCell ⟨gb178, 2, none⟩ (.int .u64 t181)).heap[gb178]? = some (.cells #[.int .i64 t175, .bool t176, .int .u64 t181] 49 (0, 0))) := ⟨by (with_reducible repeat (first | refine blk_drewN ?_ _ | refine blk_drew ?_ | refine blk_alloc ?_ _)); refine blk_put (cs := #[.int .i64 t175, .bool t176, .int .u64 t177]) ?_ 2 _ rfl; refine blk_far ?_ NB178_190.out _; refine blk_far ?_ NB178_190.out _; refine blk_far ?_ NB178_190.out _; refine blk_far ?_ NB178_190.out _; refine blk_far ?_ NB178_190.out _; refine blk_far ?_ NB178_190.out _; refine blk_far ?_ NB178_190.out _; refine blk_far ?_ NB178_190.out _; refine blk_far ?_ NB178_190.out _; refine blk_far ?_ NB178_190.out _; refine blk_far ?_ NB178_190.out _; (with_reducible repeat (first | refine blk_drewN ?_ _ | refine blk_drew ?_ | refine blk_alloc ?_ _)); exact BK178.out⟩
              have n5_ : Aside0 (((((((((((((w104.setCell ⟨gb190, 0, none⟩ (.int .i64 t179)).setCell ⟨gb190, 1, none⟩ (.int .i64 t180)).setCell ⟨gb190, 2, none⟩ (.int .u64 t181)).setCell ⟨gb190, 3, none⟩ (.int .u64 t182)).setCell ⟨gb190, 4, none⟩ (.bool t183)).setCell ⟨gb190, 5, none⟩ (.bool t184)).setCell ⟨gb190, 6, none⟩ (.bool t185)).setCell ⟨gb190, 7, none⟩ (.bool t186)).setCell ⟨gb190, 8, none⟩ (.bool t187)).setCell ⟨gb190, 9, none⟩ (.bool t188)).setCell ⟨gb190, 10, none⟩ (.bool t189)).setCell ⟨gb178, 2, none⟩ (.int .u64 t181)).heap[gb190]? = some (.cells #[.int .i64 t179, .int .i64 t180, .int .u64 t181, .int .u64 t182, .bool t183, .bool t184, .bool t185, .bool t186, .bool t187, .bool t188, .bool t189] 26 (0, 0))) := ⟨by (with_reducible repeat (first | refine blk_drewN ?_ _ | refine blk_drew ?_ | refine blk_alloc ?_ _)); refine blk_far ?_ NB190_178.out _; refine blk_put (cs := #[.int .i64 t179, .int .i64 t180, .int .u64 t181, .int .u64 t182, .bool t183, .bool t184, .bool t185, .bool t186, .bool t187, .bool t188, .bool false]) ?_ 10 _ rfl; refine blk_put (cs := #[.int .i64 t179, .int .i64 t180, .int .u64 t181, .int .u64 t182, .bool t183, .bool t184, .bool t185, .bool t186, .bool t187, .bool false, .bool false]) ?_ 9 _ rfl; refine blk_put (cs := #[.int .i64 t179, .int .i64 t180, .int .u64 t181, .int .u64 t182, .bool t183, .bool t184, .bool t185, .bool t186, .bool false, .bool false, .bool false]) ?_ 8 _ rfl; refine blk_put (cs := #[.int .i64 t179, .int .i64 t180, .int .u64 t181, .int .u64 t182, .bool t183, .bool t184, .bool t185, .bool false, .bool false, .bool false, .bool false]) ?_ 7 _ rfl; refine blk_put (cs := #[.int .i64 t179, .int .i64 t180, .int .u64 t181, .int .u64 t182, .bool t183, .bool t184, .bool false, .bool false, .bool false, .bool false, .bool false]) ?_ 6 _ rfl; refine blk_put (cs := #[.int .i64 t179, .int .i64 t180, .int .u64 t181, .int .u64 t182, .bool t183, .bool false, .bool false, .bool false, .bool false, .bool false, .bool false]) ?_ 5 _ rfl; refine blk_put (cs := #[.int .i64 t179, .int .i64 t180, .int .u64 t181, .int .u64 t182, .bool false, .bool false, .bool false, .bool false, .bool false, .bool false, .bool false]) ?_ 4 _ rfl; refine blk_put (cs := #[.int .i64 t179, .int .i64 t180, .int .u64 t181, .int .u64 0, .bool false, .bool false, .bool false, .bool false, .bool false, .bool false, .bool false]) ?_ 3 _ rfl; refine blk_put (cs := #[.int .i64 t179, .int .i64 t180, .int .u64 0, .int .u64 0, .bool false, .bool false, .bool false, .bool false, .bool false, .bool false, .bool false]) ?_ 2 _ rfl; refine blk_put (cs := #[.int .i64 t179, .int .i64 0, .int .u64 0, .int .u64 0, .bool false, .bool false, .bool false, .bool false, .bool false, .bool false, .bool false]) ?_ 1 _ rfl; refine blk_put (cs := #[.int .i64 0, .int .i64 0, .int .u64 0, .int .u64 0, .bool false, .bool false, .bool false, .bool false, .bool false, .bool false, .bool false]) ?_ 0 _ rfl; (with_reducible repeat (first | refine blk_drewN ?_ _ | refine blk_drew ?_ | refine blk_alloc ?_ _)); exact BK190.out⟩
              have n6_ : Aside0 (Below w.heap.size w ((((((((((((w104.setCell ⟨gb190, 0, none⟩ (.int .i64 t179)).setCell ⟨gb190, 1, none⟩ (.int .i64 t180)).setCell ⟨gb190, 2, none⟩ (.int .u64 t181)).setCell ⟨gb190, 3, none⟩ (.int .u64 t182)).setCell ⟨gb190, 4, none⟩ (.bool t183)).setCell ⟨gb190, 5, none⟩ (.bool t184)).setCell ⟨gb190, 6, none⟩ (.bool t185)).setCell ⟨gb190, 7, none⟩ (.bool t186)).setCell ⟨gb190, 8, none⟩ (.bool t187)).setCell ⟨gb190, 9, none⟩ (.bool t188)).setCell ⟨gb190, 10, none⟩ (.bool t189)).setCell ⟨gb178, 2, none⟩ (.int .u64 t181))) := ⟨by repeat (first | (with_reducible first | exact HB.out | apply below_alloc | apply pw_below_drewN | apply below_drew1 | refine below_set ?_ GE168.out | refine below_set ?_ GE169.out | refine below_set ?_ GE170.out | refine below_set ?_ GE174.out | refine below_set ?_ GE178.out | refine below_set ?_ GE190.out) | exact HB.out)⟩
              (try clear BK168)
              (try clear BK169)
              (try clear BK170)
              (try clear BK174)
              (try clear BK178)
              (try clear BK190)
              (try clear HB)
              generalize ((((((((((((w104.setCell ⟨gb190, 0, none⟩ (.int .i64 t179)).setCell ⟨gb190, 1, none⟩ (.int .i64 t180)).setCell ⟨gb190, 2, none⟩ (.int .u64 t181)).setCell ⟨gb190, 3, none⟩ (.int .u64 t182)).setCell ⟨gb190, 4, none⟩ (.bool t183)).setCell ⟨gb190, 5, none⟩ (.bool t184)).setCell ⟨gb190, 6, none⟩ (.bool t185)).setCell ⟨gb190, 7, none⟩ (.bool t186)).setCell ⟨gb190, 8, none⟩ (.bool t187)).setCell ⟨gb190, 9, none⟩ (.bool t188)).setCell ⟨gb190, 10, none⟩ (.bool t189)).setCell ⟨gb178, 2, none⟩ (.int .u64 t181)) = w112 at n0_ n1_ n2_ n3_ n4_ n5_ n6_ ⊢
              have BK168 := n0_
              have BK169 := n1_
              have BK170 := n2_
              have BK174 := n3_
              have BK178 := n4_
              have BK190 := n5_
              have HB := n6_
              clear n0_ n1_ n2_ n3_ n4_ n5_ n6_
              have n0_ := Aside0.mk (blk_drew BK168.out)
              have n1_ := Aside0.mk (blk_drew BK169.out)
              have n2_ := Aside0.mk (blk_drew BK170.out)
              have n3_ := Aside0.mk (blk_drew BK174.out)
              have n4_ := Aside0.mk (blk_drew BK178.out)
              have n5_ := Aside0.mk (blk_drew BK190.out)
              have n6_ := Aside0.mk (below_drew1 HB.out)
              clear BK168
              clear BK169
              clear BK170
              clear BK174
              clear BK178
              clear BK190
              clear HB
              have BK168 := n0_
              have BK169 := n1_
              have BK170 := n2_
              have BK174 := n3_
              have BK178 := n4_
              have BK190 := n5_
              have HB := n6_
              clear n0_ n1_ n2_ n3_ n4_ n5_ n6_
              refine start_ (n := 58) (S := fun w' => w'.cell? ⟨gb170, 0, none⟩ = some (.int .i64 a3_0) ∧ w'.cell? ⟨gb170, 1, none⟩ = some (.bool a3_1) ∧ w'.cell? ⟨gb170, 2, none⟩ = some (.int .u64 a3_2) ∧ w'.cell? ⟨gb168, 0, none⟩ = some (.bool a0_0) ∧ w'.cell? ⟨gb168, 1, none⟩ = some (.bool a0_1) ∧ w'.cell? ⟨gb168, 2, none⟩ = some (.bool a0_2) ∧ w'.cell? ⟨gb168, 3, none⟩ = some (.bool a0_3) ∧ w'.cell? ⟨gb168, 4, none⟩ = some (.bool a0_4) ∧ w'.cell? ⟨gb168, 5, none⟩ = some (.bool a0_5) ∧ w'.cell? ⟨gb174, 0, none⟩ = some (.int .i64 t171) ∧ w'.cell? ⟨gb174, 1, none⟩ = some (.bool t172) ∧ w'.cell? ⟨gb174, 2, none⟩ = some (.int .u64 t173) ∧ w'.cell? ⟨gb169, 0, none⟩ = some (.int .i64 a1_0) ∧ w'.cell? ⟨gb169, 1, none⟩ = some (.int .i64 a1_1) ∧ w'.cell? ⟨gb169, 2, none⟩ = some (.int .u64 a1_2) ∧ w'.cell? ⟨gb169, 3, none⟩ = some (.int .u64 a1_3) ∧ w'.cell? ⟨gb169, 4, none⟩ = some (.bool a1_4) ∧ w'.cell? ⟨gb169, 5, none⟩ = some (.bool a1_5) ∧ w'.cell? ⟨gb169, 6, none⟩ = some (.bool a1_6) ∧ w'.cell? ⟨gb169, 7, none⟩ = some (.bool a1_7) ∧ w'.cell? ⟨gb169, 8, none⟩ = some (.bool a1_8) ∧ w'.cell? ⟨gb169, 9, none⟩ = some (.bool a1_9) ∧ w'.cell? ⟨gb169, 10, none⟩ = some (.bool a1_10) ∧ w'.cell? ⟨gb190, 0, none⟩ = some (.int .i64 t179) ∧ w'.cell? ⟨gb190, 1, none⟩ = some (.int .i64 t180) ∧ w'.cell? ⟨gb190, 2, none⟩ = some (.int .u64 t181) ∧ w'.cell? ⟨gb190, 3, none⟩ = some (.int .u64 t182) ∧ w'.cell? ⟨gb190, 4, none⟩ = some (.bool t183) ∧ w'.cell? ⟨gb190, 5, none⟩ = some (.bool t184) ∧ w'.cell? ⟨gb190, 6, none⟩ = some (.bool t185) ∧ w'.cell? ⟨gb190, 7, none⟩ = some (.bool t186) ∧ w'.cell? ⟨gb190, 8, none⟩ = some (.bool t187) ∧ w'.cell? ⟨gb190, 9, none⟩ = some (.bool t188) ∧ w'.cell? ⟨gb190, 10, none⟩ = some (.bool t189) ∧ w'.cell? ⟨gb178, 0, none⟩ = some (.int .i64 t175) ∧ w'.cell? ⟨gb178, 1, none⟩ = some (.bool t176) ∧ w'.cell? ⟨gb178, 2, none⟩ = some (.int .u64 t181)) (ds := []) #[false, false, false, false, false, false, false, false, false, false, false, false, false, false, false, false, false, false, false, false, false, false, false, false, false, false, false, false, false, false, false, false, false, false, false, false, false, false, false, false, false, false, false, false, false, false, false, false, false, false, false, false, false, false, false, false, false, false] (by kernel_rfl) rfl rfl (ca3_ BK170.out (ca6_ BK168.out (ca3_ BK174.out (ca11_ BK169.out (ca11_ BK190.out (cz3_ BK178.out)))))) (fun hHeld => ?_); refine with_tabW lookasidelaw09_FaultJudges.tab5 lookasidelaw09_FaultJudges.bits5 (fun HT_ HW_ => ?_)
              generalize w112.drew = w113 at BK168 BK169 BK170 BK174 BK178 BK190 HB hHeld ⊢
              refine pure_ (i := 2) (N := some 23) (v := ?_) (a' := ?_) #[false, false, true, false, false, false, false, false, false, false, false, false, false, false, false, false, false, false, false, false, false, false, false, false, false, false, false, false, false, false, false, false, false, false, false, false, false, false, false, false, false, false, false, false, false, false, false, false, false, false, false, false, false, false, false, false, false, false] rfl rfl (any_of HT_.out (by kernel_rfl)) (fun _ _ _ h => h) (Or.inl ⟨by rfl, ?_⟩) ?_ ?_
              rotate_left
              · intro w'
                go_simp
                with_reducible rfl
              rotate_left
              · simp only [Act.put, List.setIfInBounds_toArray, List.set_cons_zero, List.set_cons_succ, i64_w, i32_w]
                rfl
              refine take_ (i := 0) (N := some 21) (v := ?_) (a' := ?_) #[true, false, true, false, false, false, false, false, false, false, false, false, false, false, false, false, false, false, false, false, false, false, false, false, false, false, false, false, false, false, false, false, false, false, false, false, false, false, false, false, false, false, false, false, false, false, false, false, false, false, false, false, false, false, false, false, false, false] rfl rfl (take_ofW HT_.out HW_.out (by kernel_rfl)) (fun _ _ _ h => h) (Or.inl ⟨by rfl, ?_⟩) hHeld ?_ ?_
              rotate_left
              · rintro w' ⟨s0, s1, s2, s3, s4, s5, s6, s7, s8, s9, s10, s11, s12, s13, s14, s15, s16, s17, s18, s19, s20, s21, s22, s23, s24, s25, s26, s27, s28, s29, s30, s31, s32, s33, s34, s35, s36⟩
                go_simp
                with_reducible rfl
              rotate_left
              · simp only [Act.put, List.setIfInBounds_toArray, List.set_cons_zero, List.set_cons_succ, i64_w, i32_w]
                rfl
              refine take_ (i := 3) (N := some 24) (v := ?_) (a' := ?_) #[true, false, true, true, false, false, false, false, false, false, false, false, false, false, false, false, false, false, false, false, false, false, false, false, false, false, false, false, false, false, false, false, false, false, false, false, false, false, false, false, false, false, false, false, false, false, false, false, false, false, false, false, false, false, false, false, false, false] rfl rfl (take_ofW HT_.out HW_.out (by kernel_rfl)) (fun _ _ _ h => h) (Or.inl ⟨by rfl, ?_⟩) hHeld ?_ ?_
              rotate_left
              · rintro w' ⟨s0, s1, s2, s3, s4, s5, s6, s7, s8, s9, s10, s11, s12, s13, s14, s15, s16, s17, s18, s19, s20, s21, s22, s23, s24, s25, s26, s27, s28, s29, s30, s31, s32, s33, s34, s35, s36⟩
                go_simp
                with_reducible rfl
              rotate_left
              · simp only [Act.put, List.setIfInBounds_toArray, List.set_cons_zero, List.set_cons_succ, i64_w, i32_w]
                rfl
              refine pure_ (i := 4) (N := some 25) (v := ?_) (a' := ?_) #[true, false, true, true, true, false, false, false, false, false, false, false, false, false, false, false, false, false, false, false, false, false, false, false, false, false, false, false, false, false, false, false, false, false, false, false, false, false, false, false, false, false, false, false, false, false, false, false, false, false, false, false, false, false, false, false, false, false] rfl rfl (any_of HT_.out (by kernel_rfl)) (fun _ _ _ h => h) (Or.inl ⟨by rfl, ?_⟩) ?_ ?_
              rotate_left
              · intro w'
                go_simp
                with_reducible rfl
              rotate_left
              · simp only [Act.put, List.setIfInBounds_toArray, List.set_cons_zero, List.set_cons_succ, i64_w, i32_w]
                rfl
              refine one_ (i := 1) (N := some 22) #[true, true, true, true, true, false, false, false, false, false, false, false, false, false, false, false, false, false, false, false, false, false, false, false, false, false, false, false, false, false, false, false, false, false, false, false, false, false, false, false, false, false, false, false, false, false, false, false, false, false, false, false, false, false, false, false, false, false] rfl rfl (one_of HT_.out (by kernel_rfl)) (by decide) (fun K hK => ?_)
              refine goes_ Try.func37 (by kernel_rfl) rfl #[.agg #[.int .i64 a3_0, .bool a3_1, .int .u64 a3_2]] (by rfl) rfl rfl (by (try simp only [List.map_toArray, List.map_cons, List.map_nil]); first | done | rfl | (simp only [List.length_drop, List.length_take]; rfl)) ?_
              with_reducible refine (fault_May.calls a3_0 a3_1 a3_2 t191 _ A8.out).mono ?_
              rintro e w114 ⟨rfl, hb⟩
              refine ⟨_, rfl, ?_⟩
              have n0_ := Aside0.mk (bb_ hb BK168.out)
              have n1_ := Aside0.mk (bb_ hb BK169.out)
              have n2_ := Aside0.mk (bb_ hb BK170.out)
              have n3_ := Aside0.mk (bb_ hb BK174.out)
              have n4_ := Aside0.mk (bb_ hb BK178.out)
              have n5_ := Aside0.mk (bb_ hb BK190.out)
              have n6_ := Aside0.mk (below_step (by repeat (first | (with_reducible first | exact HB.out | apply below_alloc | apply pw_below_drewN | apply below_drew1 | refine below_set ?_ GE168.out | refine below_set ?_ GE169.out | refine below_set ?_ GE170.out | refine below_set ?_ GE174.out | refine below_set ?_ GE178.out | refine below_set ?_ GE190.out) | exact HB.out)) hb)
              clear BK168
              clear BK169
              clear BK170
              clear BK174
              clear BK178
              clear BK190
              clear HB
              have BK168 := n0_
              have BK169 := n1_
              have BK170 := n2_
              have BK174 := n3_
              have BK178 := n4_
              have BK190 := n5_
              have HB := n6_
              clear n0_ n1_ n2_ n3_ n4_ n5_ n6_
              (try clear hb)
              (try clear hb2)
              (try clear hk)
              (try clear hi)
              refine hK.out _ _ (ca3_ BK170.out (ca6_ BK168.out (ca3_ BK174.out (ca11_ BK169.out (ca11_ BK190.out (cz3_ BK178.out)))))) (fun hHeld => ?_)
              clear hK K
              refine norm_ (a' := ?_) ?_ ?_
              rotate_left
              · show Act.put _ (some 22) _ = _
                simp only [Act.put, List.setIfInBounds_toArray, List.set_cons_zero, List.set_cons_succ, i64_w, i32_w]
                rfl
              refine pure_ (i := 5) (N := some 26) (v := ?_) (a' := ?_) #[true, true, true, true, true, true, false, false, false, false, false, false, false, false, false, false, false, false, false, false, false, false, false, false, false, false, false, false, false, false, false, false, false, false, false, false, false, false, false, false, false, false, false, false, false, false, false, false, false, false, false, false, false, false, false, false, false, false] rfl rfl (any_of HT_.out (by kernel_rfl)) (fun _ _ _ h => h) (Or.inl ⟨by rfl, ?_⟩) ?_ ?_
              rotate_left
              · intro w'
                go_simp
                with_reducible rfl
              rotate_left
              · simp only [Act.put, List.setIfInBounds_toArray, List.set_cons_zero, List.set_cons_succ, i64_w, i32_w]
                rfl
              refine pure_ (i := 6) (N := some 27) (v := undef) (a' := ?_) #[true, true, true, true, true, true, true, false, false, false, false, false, false, false, false, false, false, false, false, false, false, false, false, false, false, false, false, false, false, false, false, false, false, false, false, false, false, false, false, false, false, false, false, false, false, false, false, false, false, false, false, false, false, false, false, false, false, false] rfl rfl (any_of HT_.out (by kernel_rfl)) (fun _ _ _ h => h) (Or.inr ⟨by rfl, rfl⟩) ?_ ?_
              rotate_left
              · simp only [Act.put, List.setIfInBounds_toArray, List.set_cons_zero, List.set_cons_succ, i64_w, i32_w]
                rfl
              refine pure_ (i := 7) (N := some 28) (v := undef) (a' := ?_) #[true, true, true, true, true, true, true, true, false, false, false, false, false, false, false, false, false, false, false, false, false, false, false, false, false, false, false, false, false, false, false, false, false, false, false, false, false, false, false, false, false, false, false, false, false, false, false, false, false, false, false, false, false, false, false, false, false, false] rfl rfl (any_of HT_.out (by kernel_rfl)) (fun _ _ _ h => h) (Or.inr ⟨by rfl, rfl⟩) ?_ ?_
              rotate_left
              · simp only [Act.put, List.setIfInBounds_toArray, List.set_cons_zero, List.set_cons_succ, i64_w, i32_w]
                rfl
              refine pure_ (i := 8) (N := some 29) (v := undef) (a' := ?_) #[true, true, true, true, true, true, true, true, true, false, false, false, false, false, false, false, false, false, false, false, false, false, false, false, false, false, false, false, false, false, false, false, false, false, false, false, false, false, false, false, false, false, false, false, false, false, false, false, false, false, false, false, false, false, false, false, false, false] rfl rfl (any_of HT_.out (by kernel_rfl)) (fun _ _ _ h => h) (Or.inr ⟨by rfl, rfl⟩) ?_ ?_
              rotate_left
              · simp only [Act.put, List.setIfInBounds_toArray, List.set_cons_zero, List.set_cons_succ, i64_w, i32_w]
                rfl
              refine pure_ (i := 9) (N := some 30) (v := ?_) (a' := ?_) #[true, true, true, true, true, true, true, true, true, true, false, false, false, false, false, false, false, false, false, false, false, false, false, false, false, false, false, false, false, false, false, false, false, false, false, false, false, false, false, false, false, false, false, false, false, false, false, false, false, false, false, false, false, false, false, false, false, false] rfl rfl (any_of HT_.out (by kernel_rfl)) (fun _ _ _ h => h) (Or.inl ⟨by rfl, ?_⟩) ?_ ?_
              rotate_left
              · intro w'
                go_simp
                with_reducible rfl
              rotate_left
              · simp only [Act.put, List.setIfInBounds_toArray, List.set_cons_zero, List.set_cons_succ, i64_w, i32_w]
                rfl
              refine pure_ (i := 10) (N := some 31) (v := ?_) (a' := ?_) #[true, true, true, true, true, true, true, true, true, true, true, false, false, false, false, false, false, false, false, false, false, false, false, false, false, false, false, false, false, false, false, false, false, false, false, false, false, false, false, false, false, false, false, false, false, false, false, false, false, false, false, false, false, false, false, false, false, false] rfl rfl (any_of HT_.out (by kernel_rfl)) (fun _ _ _ h => h) (Or.inl ⟨by rfl, ?_⟩) ?_ ?_
              rotate_left
              · intro w'
                go_simp
                with_reducible rfl
              rotate_left
              · simp only [Act.put, List.setIfInBounds_toArray, List.set_cons_zero, List.set_cons_succ, i64_w, i32_w]
                rfl
              refine pure_ (i := 11) (N := some 32) (v := ?_) (a' := ?_) #[true, true, true, true, true, true, true, true, true, true, true, true, false, false, false, false, false, false, false, false, false, false, false, false, false, false, false, false, false, false, false, false, false, false, false, false, false, false, false, false, false, false, false, false, false, false, false, false, false, false, false, false, false, false, false, false, false, false] rfl rfl (any_of HT_.out (by kernel_rfl)) (fun _ _ _ h => h) (Or.inl ⟨by rfl, ?_⟩) ?_ ?_
              rotate_left
              · intro w'
                go_simp
                with_reducible rfl
              rotate_left
              · simp only [Act.put, List.setIfInBounds_toArray, List.set_cons_zero, List.set_cons_succ, i64_w, i32_w]
                rfl
              refine take_ (i := 12) (N := some 33) (v := ?_) (a' := ?_) #[true, true, true, true, true, true, true, true, true, true, true, true, true, false, false, false, false, false, false, false, false, false, false, false, false, false, false, false, false, false, false, false, false, false, false, false, false, false, false, false, false, false, false, false, false, false, false, false, false, false, false, false, false, false, false, false, false, false] rfl rfl (take_ofW HT_.out HW_.out (by kernel_rfl)) (fun _ _ _ h => h) (Or.inl ⟨by rfl, ?_⟩) hHeld ?_ ?_
              rotate_left
              · rintro w' ⟨s0, s1, s2, s3, s4, s5, s6, s7, s8, s9, s10, s11, s12, s13, s14, s15, s16, s17, s18, s19, s20, s21, s22, s23, s24, s25, s26, s27, s28, s29, s30, s31, s32, s33, s34, s35, s36⟩
                go_simp
                with_reducible rfl
              rotate_left
              · simp only [Act.put, List.setIfInBounds_toArray, List.set_cons_zero, List.set_cons_succ, i64_w, i32_w]
                rfl
              refine take_ (i := 13) (N := some 34) (v := ?_) (a' := ?_) #[true, true, true, true, true, true, true, true, true, true, true, true, true, true, false, false, false, false, false, false, false, false, false, false, false, false, false, false, false, false, false, false, false, false, false, false, false, false, false, false, false, false, false, false, false, false, false, false, false, false, false, false, false, false, false, false, false, false] rfl rfl (take_ofW HT_.out HW_.out (by kernel_rfl)) (fun _ _ _ h => h) (Or.inl ⟨by rfl, ?_⟩) hHeld ?_ ?_
              rotate_left
              · rintro w' ⟨s0, s1, s2, s3, s4, s5, s6, s7, s8, s9, s10, s11, s12, s13, s14, s15, s16, s17, s18, s19, s20, s21, s22, s23, s24, s25, s26, s27, s28, s29, s30, s31, s32, s33, s34, s35, s36⟩
                go_simp
                with_reducible rfl
              rotate_left
              · simp only [Act.put, List.setIfInBounds_toArray, List.set_cons_zero, List.set_cons_succ, i64_w, i32_w]
                rfl
              refine take_ (i := 15) (N := some 36) (v := ?_) (a' := ?_) #[true, true, true, true, true, true, true, true, true, true, true, true, true, true, false, true, false, false, false, false, false, false, false, false, false, false, false, false, false, false, false, false, false, false, false, false, false, false, false, false, false, false, false, false, false, false, false, false, false, false, false, false, false, false, false, false, false, false] rfl rfl (take_ofW HT_.out HW_.out (by kernel_rfl)) (fun _ _ _ h => h) (Or.inl ⟨by rfl, ?_⟩) hHeld ?_ ?_
              rotate_left
              · rintro w' ⟨s0, s1, s2, s3, s4, s5, s6, s7, s8, s9, s10, s11, s12, s13, s14, s15, s16, s17, s18, s19, s20, s21, s22, s23, s24, s25, s26, s27, s28, s29, s30, s31, s32, s33, s34, s35, s36⟩
                go_simp
                with_reducible rfl
              rotate_left
              · simp only [Act.put, List.setIfInBounds_toArray, List.set_cons_zero, List.set_cons_succ, i64_w, i32_w]
                rfl
              refine take_ (i := 16) (N := some 37) (v := ?_) (a' := ?_) #[true, true, true, true, true, true, true, true, true, true, true, true, true, true, false, true, true, false, false, false, false, false, false, false, false, false, false, false, false, false, false, false, false, false, false, false, false, false, false, false, false, false, false, false, false, false, false, false, false, false, false, false, false, false, false, false, false, false] rfl rfl (take_ofW HT_.out HW_.out (by kernel_rfl)) (fun _ _ _ h => h) (Or.inl ⟨by rfl, ?_⟩) hHeld ?_ ?_
              rotate_left
              · rintro w' ⟨s0, s1, s2, s3, s4, s5, s6, s7, s8, s9, s10, s11, s12, s13, s14, s15, s16, s17, s18, s19, s20, s21, s22, s23, s24, s25, s26, s27, s28, s29, s30, s31, s32, s33, s34, s35, s36⟩
                go_simp
                with_reducible rfl
              rotate_left
              · simp only [Act.put, List.setIfInBounds_toArray, List.set_cons_zero, List.set_cons_succ, i64_w, i32_w]
                rfl
              refine one_ (i := 14) (N := some 35) #[true, true, true, true, true, true, true, true, true, true, true, true, true, true, true, true, true, false, false, false, false, false, false, false, false, false, false, false, false, false, false, false, false, false, false, false, false, false, false, false, false, false, false, false, false, false, false, false, false, false, false, false, false, false, false, false, false, false] rfl rfl (one_of HT_.out (by kernel_rfl)) (by decide) (fun K hK => ?_)
              refine goes_ Try.func38 (by kernel_rfl) rfl #[.agg #[.bool a0_0, .bool a0_1, .bool a0_2, .bool a0_3, .bool a0_4, .bool a0_5], .agg #[.int .i64 t171, .bool t172, .int .u64 t173]] (by rfl) rfl rfl (by (try simp only [List.map_toArray, List.map_cons, List.map_nil]); first | done | rfl | (simp only [List.length_drop, List.length_take]; rfl)) ?_
              with_reducible refine (fault_Judge.calls k a0_0 a0_1 a0_2 a0_3 a0_4 a0_5 t171 t172 t173 t201 _ A68.out).mono ?_
              rintro e w115 ⟨rfl, hb⟩
              refine ⟨_, rfl, ?_⟩
              have n0_ := Aside0.mk (bb_ hb BK168.out)
              have n1_ := Aside0.mk (bb_ hb BK169.out)
              have n2_ := Aside0.mk (bb_ hb BK170.out)
              have n3_ := Aside0.mk (bb_ hb BK174.out)
              have n4_ := Aside0.mk (bb_ hb BK178.out)
              have n5_ := Aside0.mk (bb_ hb BK190.out)
              have n6_ := Aside0.mk (below_step (by repeat (first | (with_reducible first | exact HB.out | apply below_alloc | apply pw_below_drewN | apply below_drew1 | refine below_set ?_ GE168.out | refine below_set ?_ GE169.out | refine below_set ?_ GE170.out | refine below_set ?_ GE174.out | refine below_set ?_ GE178.out | refine below_set ?_ GE190.out) | exact HB.out)) hb)
              clear BK168
              clear BK169
              clear BK170
              clear BK174
              clear BK178
              clear BK190
              clear HB
              have BK168 := n0_
              have BK169 := n1_
              have BK170 := n2_
              have BK174 := n3_
              have BK178 := n4_
              have BK190 := n5_
              have HB := n6_
              clear n0_ n1_ n2_ n3_ n4_ n5_ n6_
              (try clear hb)
              (try clear hb2)
              (try clear hk)
              (try clear hi)
              refine hK.out _ _ (ca3_ BK170.out (ca6_ BK168.out (ca3_ BK174.out (ca11_ BK169.out (ca11_ BK190.out (cz3_ BK178.out)))))) (fun hHeld => ?_)
              clear hK K
              refine norm_ (a' := ?_) ?_ ?_
              rotate_left
              · show Act.put _ (some 35) _ = _
                simp only [Act.put, List.setIfInBounds_toArray, List.set_cons_zero, List.set_cons_succ, i64_w, i32_w]
                rfl
              refine one_ (i := 17) (N := some 38) #[true, true, true, true, true, true, true, true, true, true, true, true, true, true, true, true, true, true, false, false, false, false, false, false, false, false, false, false, false, false, false, false, false, false, false, false, false, false, false, false, false, false, false, false, false, false, false, false, false, false, false, false, false, false, false, false, false, false] rfl rfl (one_of HT_.out (by kernel_rfl)) (by decide) (fun K hK => ?_)
              refine goes_ Try.func39 (by kernel_rfl) rfl #[.agg #[.bool a0_0, .bool a0_1, .bool a0_2, .bool a0_3, .bool a0_4, .bool a0_5], .agg #[.int .i64 t171, .bool t172, .int .u64 t173]] (by rfl) rfl rfl (by (try simp only [List.map_toArray, List.map_cons, List.map_nil]); first | done | rfl | (simp only [List.length_drop, List.length_take]; rfl)) ?_
              with_reducible refine (lookasideref09_Judge.calls k a0_0 a0_1 a0_2 a0_3 a0_4 a0_5 t171 t172 t173 t202 _ A69.out).mono ?_
              rintro e w116 ⟨rfl, hb⟩
              refine ⟨_, rfl, ?_⟩
              have n0_ := Aside0.mk (bb_ hb BK168.out)
              have n1_ := Aside0.mk (bb_ hb BK169.out)
              have n2_ := Aside0.mk (bb_ hb BK170.out)
              have n3_ := Aside0.mk (bb_ hb BK174.out)
              have n4_ := Aside0.mk (bb_ hb BK178.out)
              have n5_ := Aside0.mk (bb_ hb BK190.out)
              have n6_ := Aside0.mk (below_step (by repeat (first | (with_reducible first | exact HB.out | apply below_alloc | apply pw_below_drewN | apply below_drew1 | refine below_set ?_ GE168.out | refine below_set ?_ GE169.out | refine below_set ?_ GE170.out | refine below_set ?_ GE174.out | refine below_set ?_ GE178.out | refine below_set ?_ GE190.out) | exact HB.out)) hb)
              clear BK168
              clear BK169
              clear BK170
              clear BK174
              clear BK178
              clear BK190
              clear HB
              have BK168 := n0_
              have BK169 := n1_
              have BK170 := n2_
              have BK174 := n3_
              have BK178 := n4_
              have BK190 := n5_
              have HB := n6_
              clear n0_ n1_ n2_ n3_ n4_ n5_ n6_
              (try clear hb)
              (try clear hb2)
              (try clear hk)
              (try clear hi)
              refine hK.out _ _ (ca3_ BK170.out (ca6_ BK168.out (ca3_ BK174.out (ca11_ BK169.out (ca11_ BK190.out (cz3_ BK178.out)))))) (fun hHeld => ?_)
              clear hK K
              refine norm_ (a' := ?_) ?_ ?_
              rotate_left
              · show Act.put _ (some 38) _ = _
                simp only [Act.put, List.setIfInBounds_toArray, List.set_cons_zero, List.set_cons_succ, i64_w, i32_w]
                rfl
              refine pure_ (i := 18) (N := some 39) (v := ?_) (a' := ?_) #[true, true, true, true, true, true, true, true, true, true, true, true, true, true, true, true, true, true, true, false, false, false, false, false, false, false, false, false, false, false, false, false, false, false, false, false, false, false, false, false, false, false, false, false, false, false, false, false, false, false, false, false, false, false, false, false, false, false] rfl rfl (any_of HT_.out (by kernel_rfl)) (fun _ _ _ h => h) (Or.inl ⟨by rfl, ?_⟩) ?_ ?_
              rotate_left
              · intro w'
                go_simp
                with_reducible rfl
              rotate_left
              · simp only [Act.put, List.setIfInBounds_toArray, List.set_cons_zero, List.set_cons_succ, i64_w, i32_w]
                rfl
              refine pure_ (i := 19) (N := some 40) (v := ?_) (a' := ?_) #[true, true, true, true, true, true, true, true, true, true, true, true, true, true, true, true, true, true, true, true, false, false, false, false, false, false, false, false, false, false, false, false, false, false, false, false, false, false, false, false, false, false, false, false, false, false, false, false, false, false, false, false, false, false, false, false, false, false] rfl rfl (any_of HT_.out (by kernel_rfl)) (fun _ _ _ h => h) (Or.inl ⟨by rfl, ?_⟩) ?_ ?_
              rotate_left
              · intro w'
                go_simp
                with_reducible rfl
              rotate_left
              · simp only [Act.put, List.setIfInBounds_toArray, List.set_cons_zero, List.set_cons_succ, i64_w, i32_w]
                rfl
              refine pure_ (i := 20) (N := some 41) (v := ?_) (a' := ?_) #[true, true, true, true, true, true, true, true, true, true, true, true, true, true, true, true, true, true, true, true, true, false, false, false, false, false, false, false, false, false, false, false, false, false, false, false, false, false, false, false, false, false, false, false, false, false, false, false, false, false, false, false, false, false, false, false, false, false] rfl rfl (any_of HT_.out (by kernel_rfl)) (fun _ _ _ h => h) (Or.inl ⟨by rfl, ?_⟩) ?_ ?_
              rotate_left
              · intro w'
                go_simp
                with_reducible rfl
              rotate_left
              · simp only [Act.put, List.setIfInBounds_toArray, List.set_cons_zero, List.set_cons_succ, i64_w, i32_w]
                rfl
              refine pure_ (i := 22) (N := some 43) (v := ?_) (a' := ?_) #[true, true, true, true, true, true, true, true, true, true, true, true, true, true, true, true, true, true, true, true, true, false, true, false, false, false, false, false, false, false, false, false, false, false, false, false, false, false, false, false, false, false, false, false, false, false, false, false, false, false, false, false, false, false, false, false, false, false] rfl rfl (any_of HT_.out (by kernel_rfl)) (fun _ _ _ h => h) (Or.inl ⟨by rfl, ?_⟩) ?_ ?_
              rotate_left
              · intro w'
                go_simp
                with_reducible rfl
              rotate_left
              · simp only [Act.put, List.setIfInBounds_toArray, List.set_cons_zero, List.set_cons_succ, i64_w, i32_w]
                rfl
              refine pure_ (i := 26) (N := some 47) (v := ?_) (a' := ?_) #[true, true, true, true, true, true, true, true, true, true, true, true, true, true, true, true, true, true, true, true, true, false, true, false, false, false, true, false, false, false, false, false, false, false, false, false, false, false, false, false, false, false, false, false, false, false, false, false, false, false, false, false, false, false, false, false, false, false] rfl rfl (any_of HT_.out (by kernel_rfl)) (fun _ _ _ h => h) (Or.inl ⟨by rfl, ?_⟩) ?_ ?_
              rotate_left
              · intro w'
                go_simp
                with_reducible rfl
              rotate_left
              · simp only [Act.put, List.setIfInBounds_toArray, List.set_cons_zero, List.set_cons_succ, i64_w, i32_w]
                rfl
              refine take_ (i := 21) (N := some 42) (v := ?_) (a' := ?_) #[true, true, true, true, true, true, true, true, true, true, true, true, true, true, true, true, true, true, true, true, true, true, true, false, false, false, true, false, false, false, false, false, false, false, false, false, false, false, false, false, false, false, false, false, false, false, false, false, false, false, false, false, false, false, false, false, false, false] rfl rfl (take_ofW HT_.out HW_.out (by kernel_rfl)) (fun _ _ _ h => h) (Or.inl ⟨by rfl, ?_⟩) hHeld ?_ ?_
              rotate_left
              · rintro w' ⟨s0, s1, s2, s3, s4, s5, s6, s7, s8, s9, s10, s11, s12, s13, s14, s15, s16, s17, s18, s19, s20, s21, s22, s23, s24, s25, s26, s27, s28, s29, s30, s31, s32, s33, s34, s35, s36⟩
                go_simp
                with_reducible rfl
              rotate_left
              · simp only [Act.put, List.setIfInBounds_toArray, List.set_cons_zero, List.set_cons_succ, i64_w, i32_w]
                rfl
              refine take_ (i := 23) (N := some 44) (v := ?_) (a' := ?_) #[true, true, true, true, true, true, true, true, true, true, true, true, true, true, true, true, true, true, true, true, true, true, true, true, false, false, true, false, false, false, false, false, false, false, false, false, false, false, false, false, false, false, false, false, false, false, false, false, false, false, false, false, false, false, false, false, false, false] rfl rfl (take_ofW HT_.out HW_.out (by kernel_rfl)) (fun _ _ _ h => h) (Or.inl ⟨by rfl, ?_⟩) hHeld ?_ ?_
              rotate_left
              · rintro w' ⟨s0, s1, s2, s3, s4, s5, s6, s7, s8, s9, s10, s11, s12, s13, s14, s15, s16, s17, s18, s19, s20, s21, s22, s23, s24, s25, s26, s27, s28, s29, s30, s31, s32, s33, s34, s35, s36⟩
                go_simp
                with_reducible rfl
              rotate_left
              · simp only [Act.put, List.setIfInBounds_toArray, List.set_cons_zero, List.set_cons_succ, i64_w, i32_w]
                rfl
              refine take_ (i := 25) (N := some 46) (v := ?_) (a' := ?_) #[true, true, true, true, true, true, true, true, true, true, true, true, true, true, true, true, true, true, true, true, true, true, true, true, false, true, true, false, false, false, false, false, false, false, false, false, false, false, false, false, false, false, false, false, false, false, false, false, false, false, false, false, false, false, false, false, false, false] rfl rfl (take_ofW HT_.out HW_.out (by kernel_rfl)) (fun _ _ _ h => h) (Or.inl ⟨by rfl, ?_⟩) hHeld ?_ ?_
              rotate_left
              · rintro w' ⟨s0, s1, s2, s3, s4, s5, s6, s7, s8, s9, s10, s11, s12, s13, s14, s15, s16, s17, s18, s19, s20, s21, s22, s23, s24, s25, s26, s27, s28, s29, s30, s31, s32, s33, s34, s35, s36⟩
                go_simp
                with_reducible rfl
              rotate_left
              · simp only [Act.put, List.setIfInBounds_toArray, List.set_cons_zero, List.set_cons_succ, i64_w, i32_w]
                rfl
              refine take_ (i := 27) (N := some 48) (v := ?_) (a' := ?_) #[true, true, true, true, true, true, true, true, true, true, true, true, true, true, true, true, true, true, true, true, true, true, true, true, false, true, true, true, false, false, false, false, false, false, false, false, false, false, false, false, false, false, false, false, false, false, false, false, false, false, false, false, false, false, false, false, false, false] rfl rfl (take_ofW HT_.out HW_.out (by kernel_rfl)) (fun _ _ _ h => h) (Or.inl ⟨by rfl, ?_⟩) hHeld ?_ ?_
              rotate_left
              · rintro w' ⟨s0, s1, s2, s3, s4, s5, s6, s7, s8, s9, s10, s11, s12, s13, s14, s15, s16, s17, s18, s19, s20, s21, s22, s23, s24, s25, s26, s27, s28, s29, s30, s31, s32, s33, s34, s35, s36⟩
                go_simp
                with_reducible rfl
              rotate_left
              · simp only [Act.put, List.setIfInBounds_toArray, List.set_cons_zero, List.set_cons_succ, i64_w, i32_w]
                rfl
              refine one_ (i := 24) (N := some 45) #[true, true, true, true, true, true, true, true, true, true, true, true, true, true, true, true, true, true, true, true, true, true, true, true, true, true, true, true, false, false, false, false, false, false, false, false, false, false, false, false, false, false, false, false, false, false, false, false, false, false, false, false, false, false, false, false, false, false] rfl rfl (one_of HT_.out (by kernel_rfl)) (by decide) (fun K hK => ?_)
              refine goes_ Try.func40 (by kernel_rfl) rfl #[.agg #[.int .i64 a1_0, .int .i64 a1_1, .int .u64 a1_2, .int .u64 a1_3, .bool a1_4, .bool a1_5, .bool a1_6, .bool a1_7, .bool a1_8, .bool a1_9, .bool a1_10], .int .i64 a2, .agg #[.int .i64 t171, .bool t172, .int .u64 t173]] (by rfl) rfl rfl (by (try simp only [List.map_toArray, List.map_cons, List.map_nil]); first | done | rfl | (simp only [List.length_drop, List.length_take]; rfl)) ?_
              with_reducible refine (fault_Of.calls k a1_0 a1_1 a1_2 a1_3 a1_4 a1_5 a1_6 a1_7 a1_8 a1_9 a1_10 a2 t171 t172 t173 t203 _ A71.out).mono ?_
              rintro e w117 ⟨rfl, hb⟩
              refine ⟨_, rfl, ?_⟩
              have n0_ := Aside0.mk (bb_ hb BK168.out)
              have n1_ := Aside0.mk (bb_ hb BK169.out)
              have n2_ := Aside0.mk (bb_ hb BK170.out)
              have n3_ := Aside0.mk (bb_ hb BK174.out)
              have n4_ := Aside0.mk (bb_ hb BK178.out)
              have n5_ := Aside0.mk (bb_ hb BK190.out)
              have n6_ := Aside0.mk (below_step (by repeat (first | (with_reducible first | exact HB.out | apply below_alloc | apply pw_below_drewN | apply below_drew1 | refine below_set ?_ GE168.out | refine below_set ?_ GE169.out | refine below_set ?_ GE170.out | refine below_set ?_ GE174.out | refine below_set ?_ GE178.out | refine below_set ?_ GE190.out) | exact HB.out)) hb)
              clear BK168
              clear BK169
              clear BK170
              clear BK174
              clear BK178
              clear BK190
              clear HB
              have BK168 := n0_
              have BK169 := n1_
              have BK170 := n2_
              have BK174 := n3_
              have BK178 := n4_
              have BK190 := n5_
              have HB := n6_
              clear n0_ n1_ n2_ n3_ n4_ n5_ n6_
              (try clear hb)
              (try clear hb2)
              (try clear hk)
              (try clear hi)
              refine hK.out _ _ (ca3_ BK170.out (ca6_ BK168.out (ca3_ BK174.out (ca11_ BK169.out (ca11_ BK190.out (cz3_ BK178.out)))))) (fun hHeld => ?_)
              clear hK K
              refine norm_ (a' := ?_) ?_ ?_
              rotate_left
              · show Act.put _ (some 45) _ = _
                simp only [Act.put, List.setIfInBounds_toArray, List.set_cons_zero, List.set_cons_succ, i64_w, i32_w]
                rfl
              refine one_ (i := 28) (N := some 49) #[true, true, true, true, true, true, true, true, true, true, true, true, true, true, true, true, true, true, true, true, true, true, true, true, true, true, true, true, true, false, false, false, false, false, false, false, false, false, false, false, false, false, false, false, false, false, false, false, false, false, false, false, false, false, false, false, false, false] rfl rfl (one_of HT_.out (by kernel_rfl)) (by decide) (fun K hK => ?_)
              refine goes_ Try.func41 (by kernel_rfl) rfl #[.agg #[.int .i64 a1_0, .int .i64 a1_1, .int .u64 a1_2, .int .u64 a1_3, .bool a1_4, .bool a1_5, .bool a1_6, .bool a1_7, .bool a1_8, .bool a1_9, .bool a1_10], .int .i64 a2, .agg #[.int .i64 t171, .bool t172, .int .u64 t173]] (by rfl) rfl rfl (by (try simp only [List.map_toArray, List.map_cons, List.map_nil]); first | done | rfl | (simp only [List.length_drop, List.length_take]; rfl)) ?_
              with_reducible refine (lookasideref09_Of.calls k a1_0 a1_1 a1_2 a1_3 a1_4 a1_5 a1_6 a1_7 a1_8 a1_9 a1_10 a2 t171 t172 t173 t204 _ A72.out).mono ?_
              rintro e w118 ⟨rfl, hb⟩
              refine ⟨_, rfl, ?_⟩
              have n0_ := Aside0.mk (bb_ hb BK168.out)
              have n1_ := Aside0.mk (bb_ hb BK169.out)
              have n2_ := Aside0.mk (bb_ hb BK170.out)
              have n3_ := Aside0.mk (bb_ hb BK174.out)
              have n4_ := Aside0.mk (bb_ hb BK178.out)
              have n5_ := Aside0.mk (bb_ hb BK190.out)
              have n6_ := Aside0.mk (below_step (by repeat (first | (with_reducible first | exact HB.out | apply below_alloc | apply pw_below_drewN | apply below_drew1 | refine below_set ?_ GE168.out | refine below_set ?_ GE169.out | refine below_set ?_ GE170.out | refine below_set ?_ GE174.out | refine below_set ?_ GE178.out | refine below_set ?_ GE190.out) | exact HB.out)) hb)
              clear BK168
              clear BK169
              clear BK170
              clear BK174
              clear BK178
              clear BK190
              clear HB
              have BK168 := n0_
              have BK169 := n1_
              have BK170 := n2_
              have BK174 := n3_
              have BK178 := n4_
              have BK190 := n5_
              have HB := n6_
              clear n0_ n1_ n2_ n3_ n4_ n5_ n6_
              (try clear hb)
              (try clear hb2)
              (try clear hk)
              (try clear hi)
              refine hK.out _ _ (ca3_ BK170.out (ca6_ BK168.out (ca3_ BK174.out (ca11_ BK169.out (ca11_ BK190.out (cz3_ BK178.out)))))) (fun hHeld => ?_)
              clear hK K
              refine norm_ (a' := ?_) ?_ ?_
              rotate_left
              · show Act.put _ (some 49) _ = _
                simp only [Act.put, List.setIfInBounds_toArray, List.set_cons_zero, List.set_cons_succ, i64_w, i32_w]
                rfl
              refine pure_ (i := 29) (N := some 50) (v := ?_) (a' := ?_) #[true, true, true, true, true, true, true, true, true, true, true, true, true, true, true, true, true, true, true, true, true, true, true, true, true, true, true, true, true, true, false, false, false, false, false, false, false, false, false, false, false, false, false, false, false, false, false, false, false, false, false, false, false, false, false, false, false, false] rfl rfl (any_of HT_.out (by kernel_rfl)) (fun _ _ _ h => h) (Or.inl ⟨by rfl, ?_⟩) ?_ ?_
              rotate_left
              · intro w'
                go_simp
                with_reducible rfl
              rotate_left
              · simp only [Act.put, List.setIfInBounds_toArray, List.set_cons_zero, List.set_cons_succ, i64_w, i32_w]
                rfl
              refine pure_ (i := 30) (N := some 51) (v := ?_) (a' := ?_) #[true, true, true, true, true, true, true, true, true, true, true, true, true, true, true, true, true, true, true, true, true, true, true, true, true, true, true, true, true, true, true, false, false, false, false, false, false, false, false, false, false, false, false, false, false, false, false, false, false, false, false, false, false, false, false, false, false, false] rfl rfl (any_of HT_.out (by kernel_rfl)) (fun _ _ _ h => h) (Or.inl ⟨by rfl, ?_⟩) ?_ ?_
              rotate_left
              · intro w'
                go_simp
                with_reducible rfl
              rotate_left
              · simp only [Act.put, List.setIfInBounds_toArray, List.set_cons_zero, List.set_cons_succ, i64_w, i32_w]
                rfl
              refine pure_ (i := 31) (N := some 52) (v := ?_) (a' := ?_) #[true, true, true, true, true, true, true, true, true, true, true, true, true, true, true, true, true, true, true, true, true, true, true, true, true, true, true, true, true, true, true, true, false, false, false, false, false, false, false, false, false, false, false, false, false, false, false, false, false, false, false, false, false, false, false, false, false, false] rfl rfl (any_of HT_.out (by kernel_rfl)) (fun _ _ _ h => h) (Or.inl ⟨by rfl, ?_⟩) ?_ ?_
              rotate_left
              · intro w'
                go_simp
                with_reducible rfl
              rotate_left
              · simp only [Act.put, List.setIfInBounds_toArray, List.set_cons_zero, List.set_cons_succ, i64_w, i32_w]
                rfl
              refine pure_ (i := 33) (N := some 54) (v := ?_) (a' := ?_) #[true, true, true, true, true, true, true, true, true, true, true, true, true, true, true, true, true, true, true, true, true, true, true, true, true, true, true, true, true, true, true, true, false, true, false, false, false, false, false, false, false, false, false, false, false, false, false, false, false, false, false, false, false, false, false, false, false, false] rfl rfl (any_of HT_.out (by kernel_rfl)) (fun _ _ _ h => h) (Or.inl ⟨by rfl, ?_⟩) ?_ ?_
              rotate_left
              · intro w'
                go_simp
                with_reducible rfl
              rotate_left
              · simp only [Act.put, List.setIfInBounds_toArray, List.set_cons_zero, List.set_cons_succ, i64_w, i32_w]
                rfl
              refine pure_ (i := 37) (N := some 58) (v := ?_) (a' := ?_) #[true, true, true, true, true, true, true, true, true, true, true, true, true, true, true, true, true, true, true, true, true, true, true, true, true, true, true, true, true, true, true, true, false, true, false, false, false, true, false, false, false, false, false, false, false, false, false, false, false, false, false, false, false, false, false, false, false, false] rfl rfl (any_of HT_.out (by kernel_rfl)) (fun _ _ _ h => h) (Or.inl ⟨by rfl, ?_⟩) ?_ ?_
              rotate_left
              · intro w'
                go_simp
                with_reducible rfl
              rotate_left
              · simp only [Act.put, List.setIfInBounds_toArray, List.set_cons_zero, List.set_cons_succ, i64_w, i32_w]
                rfl
              refine take_ (i := 32) (N := some 53) (v := ?_) (a' := ?_) #[true, true, true, true, true, true, true, true, true, true, true, true, true, true, true, true, true, true, true, true, true, true, true, true, true, true, true, true, true, true, true, true, true, true, false, false, false, true, false, false, false, false, false, false, false, false, false, false, false, false, false, false, false, false, false, false, false, false] rfl rfl (take_ofW HT_.out HW_.out (by kernel_rfl)) (fun _ _ _ h => h) (Or.inl ⟨by rfl, ?_⟩) hHeld ?_ ?_
              rotate_left
              · rintro w' ⟨s0, s1, s2, s3, s4, s5, s6, s7, s8, s9, s10, s11, s12, s13, s14, s15, s16, s17, s18, s19, s20, s21, s22, s23, s24, s25, s26, s27, s28, s29, s30, s31, s32, s33, s34, s35, s36⟩
                go_simp
                with_reducible rfl
              rotate_left
              · simp only [Act.put, List.setIfInBounds_toArray, List.set_cons_zero, List.set_cons_succ, i64_w, i32_w]
                rfl
              refine take_ (i := 34) (N := some 55) (v := ?_) (a' := ?_) #[true, true, true, true, true, true, true, true, true, true, true, true, true, true, true, true, true, true, true, true, true, true, true, true, true, true, true, true, true, true, true, true, true, true, true, false, false, true, false, false, false, false, false, false, false, false, false, false, false, false, false, false, false, false, false, false, false, false] rfl rfl (take_ofW HT_.out HW_.out (by kernel_rfl)) (fun _ _ _ h => h) (Or.inl ⟨by rfl, ?_⟩) hHeld ?_ ?_
              rotate_left
              · rintro w' ⟨s0, s1, s2, s3, s4, s5, s6, s7, s8, s9, s10, s11, s12, s13, s14, s15, s16, s17, s18, s19, s20, s21, s22, s23, s24, s25, s26, s27, s28, s29, s30, s31, s32, s33, s34, s35, s36⟩
                go_simp
                with_reducible rfl
              rotate_left
              · simp only [Act.put, List.setIfInBounds_toArray, List.set_cons_zero, List.set_cons_succ, i64_w, i32_w]
                rfl
              refine take_ (i := 36) (N := some 57) (v := ?_) (a' := ?_) #[true, true, true, true, true, true, true, true, true, true, true, true, true, true, true, true, true, true, true, true, true, true, true, true, true, true, true, true, true, true, true, true, true, true, true, false, true, true, false, false, false, false, false, false, false, false, false, false, false, false, false, false, false, false, false, false, false, false] rfl rfl (take_ofW HT_.out HW_.out (by kernel_rfl)) (fun _ _ _ h => h) (Or.inl ⟨by rfl, ?_⟩) hHeld ?_ ?_
              rotate_left
              · rintro w' ⟨s0, s1, s2, s3, s4, s5, s6, s7, s8, s9, s10, s11, s12, s13, s14, s15, s16, s17, s18, s19, s20, s21, s22, s23, s24, s25, s26, s27, s28, s29, s30, s31, s32, s33, s34, s35, s36⟩
                go_simp
                with_reducible rfl
              rotate_left
              · simp only [Act.put, List.setIfInBounds_toArray, List.set_cons_zero, List.set_cons_succ, i64_w, i32_w]
                rfl
              refine take_ (i := 38) (N := some 59) (v := ?_) (a' := ?_) #[true, true, true, true, true, true, true, true, true, true, true, true, true, true, true, true, true, true, true, true, true, true, true, true, true, true, true, true, true, true, true, true, true, true, true, false, true, true, true, false, false, false, false, false, false, false, false, false, false, false, false, false, false, false, false, false, false, false] rfl rfl (take_ofW HT_.out HW_.out (by kernel_rfl)) (fun _ _ _ h => h) (Or.inl ⟨by rfl, ?_⟩) hHeld ?_ ?_
              rotate_left
              · rintro w' ⟨s0, s1, s2, s3, s4, s5, s6, s7, s8, s9, s10, s11, s12, s13, s14, s15, s16, s17, s18, s19, s20, s21, s22, s23, s24, s25, s26, s27, s28, s29, s30, s31, s32, s33, s34, s35, s36⟩
                go_simp
                with_reducible rfl
              rotate_left
              · simp only [Act.put, List.setIfInBounds_toArray, List.set_cons_zero, List.set_cons_succ, i64_w, i32_w]
                rfl
              refine one_ (i := 35) (N := some 56) #[true, true, true, true, true, true, true, true, true, true, true, true, true, true, true, true, true, true, true, true, true, true, true, true, true, true, true, true, true, true, true, true, true, true, true, true, true, true, true, false, false, false, false, false, false, false, false, false, false, false, false, false, false, false, false, false, false, false] rfl rfl (one_of HT_.out (by kernel_rfl)) (by decide) (fun K hK => ?_)
              refine goes_ Try.func40 (by kernel_rfl) rfl #[.agg #[.int .i64 t179, .int .i64 t180, .int .u64 t181, .int .u64 t182, .bool t183, .bool t184, .bool t185, .bool t186, .bool t187, .bool t188, .bool t189], .int .i64 a2, .agg #[.int .i64 t171, .bool t172, .int .u64 t173]] (by rfl) rfl rfl (by (try simp only [List.map_toArray, List.map_cons, List.map_nil]); first | done | rfl | (simp only [List.length_drop, List.length_take]; rfl)) ?_
              with_reducible refine (fault_Of.calls k t179 t180 t181 t182 t183 t184 t185 t186 t187 t188 t189 a2 t171 t172 t173 t205 _ A74.out).mono ?_
              rintro e w119 ⟨rfl, hb⟩
              refine ⟨_, rfl, ?_⟩
              have n0_ := Aside0.mk (bb_ hb BK168.out)
              have n1_ := Aside0.mk (bb_ hb BK169.out)
              have n2_ := Aside0.mk (bb_ hb BK170.out)
              have n3_ := Aside0.mk (bb_ hb BK174.out)
              have n4_ := Aside0.mk (bb_ hb BK178.out)
              have n5_ := Aside0.mk (bb_ hb BK190.out)
              have n6_ := Aside0.mk (below_step (by repeat (first | (with_reducible first | exact HB.out | apply below_alloc | apply pw_below_drewN | apply below_drew1 | refine below_set ?_ GE168.out | refine below_set ?_ GE169.out | refine below_set ?_ GE170.out | refine below_set ?_ GE174.out | refine below_set ?_ GE178.out | refine below_set ?_ GE190.out) | exact HB.out)) hb)
              clear BK168
              clear BK169
              clear BK170
              clear BK174
              clear BK178
              clear BK190
              clear HB
              have BK168 := n0_
              have BK169 := n1_
              have BK170 := n2_
              have BK174 := n3_
              have BK178 := n4_
              have BK190 := n5_
              have HB := n6_
              clear n0_ n1_ n2_ n3_ n4_ n5_ n6_
              (try clear hb)
              (try clear hb2)
              (try clear hk)
              (try clear hi)
              refine hK.out _ _ (ca3_ BK170.out (ca6_ BK168.out (ca3_ BK174.out (ca11_ BK169.out (ca11_ BK190.out (cz3_ BK178.out)))))) (fun hHeld => ?_)
              clear hK K
              refine norm_ (a' := ?_) ?_ ?_
              rotate_left
              · show Act.put _ (some 56) _ = _
                simp only [Act.put, List.setIfInBounds_toArray, List.set_cons_zero, List.set_cons_succ, i64_w, i32_w]
                rfl
              refine one_ (i := 39) (N := some 60) #[true, true, true, true, true, true, true, true, true, true, true, true, true, true, true, true, true, true, true, true, true, true, true, true, true, true, true, true, true, true, true, true, true, true, true, true, true, true, true, true, false, false, false, false, false, false, false, false, false, false, false, false, false, false, false, false, false, false] rfl rfl (one_of HT_.out (by kernel_rfl)) (by decide) (fun K hK => ?_)
              refine goes_ Try.func41 (by kernel_rfl) rfl #[.agg #[.int .i64 t179, .int .i64 t180, .int .u64 t181, .int .u64 t182, .bool t183, .bool t184, .bool t185, .bool t186, .bool t187, .bool t188, .bool t189], .int .i64 a2, .agg #[.int .i64 t171, .bool t172, .int .u64 t173]] (by rfl) rfl rfl (by (try simp only [List.map_toArray, List.map_cons, List.map_nil]); first | done | rfl | (simp only [List.length_drop, List.length_take]; rfl)) ?_
              with_reducible refine (lookasideref09_Of.calls k t179 t180 t181 t182 t183 t184 t185 t186 t187 t188 t189 a2 t171 t172 t173 t206 _ A75.out).mono ?_
              rintro e w120 ⟨rfl, hb⟩
              refine ⟨_, rfl, ?_⟩
              have n0_ := Aside0.mk (bb_ hb BK168.out)
              have n1_ := Aside0.mk (bb_ hb BK169.out)
              have n2_ := Aside0.mk (bb_ hb BK170.out)
              have n3_ := Aside0.mk (bb_ hb BK174.out)
              have n4_ := Aside0.mk (bb_ hb BK178.out)
              have n5_ := Aside0.mk (bb_ hb BK190.out)
              have n6_ := Aside0.mk (below_step (by repeat (first | (with_reducible first | exact HB.out | apply below_alloc | apply pw_below_drewN | apply below_drew1 | refine below_set ?_ GE168.out | refine below_set ?_ GE169.out | refine below_set ?_ GE170.out | refine below_set ?_ GE174.out | refine below_set ?_ GE178.out | refine below_set ?_ GE190.out) | exact HB.out)) hb)
              clear BK168
              clear BK169
              clear BK170
              clear BK174
              clear BK178
              clear BK190
              clear HB
              have BK168 := n0_
              have BK169 := n1_
              have BK170 := n2_
              have BK174 := n3_
              have BK178 := n4_
              have BK190 := n5_
              have HB := n6_
              clear n0_ n1_ n2_ n3_ n4_ n5_ n6_
              (try clear hb)
              (try clear hb2)
              (try clear hk)
              (try clear hi)
              refine hK.out _ _ (ca3_ BK170.out (ca6_ BK168.out (ca3_ BK174.out (ca11_ BK169.out (ca11_ BK190.out (cz3_ BK178.out)))))) (fun hHeld => ?_)
              clear hK K
              refine norm_ (a' := ?_) ?_ ?_
              rotate_left
              · show Act.put _ (some 60) _ = _
                simp only [Act.put, List.setIfInBounds_toArray, List.set_cons_zero, List.set_cons_succ, i64_w, i32_w]
                rfl
              refine pure_ (i := 40) (N := some 61) (v := ?_) (a' := ?_) #[true, true, true, true, true, true, true, true, true, true, true, true, true, true, true, true, true, true, true, true, true, true, true, true, true, true, true, true, true, true, true, true, true, true, true, true, true, true, true, true, true, false, false, false, false, false, false, false, false, false, false, false, false, false, false, false, false, false] rfl rfl (any_of HT_.out (by kernel_rfl)) (fun _ _ _ h => h) (Or.inl ⟨by rfl, ?_⟩) ?_ ?_
              rotate_left
              · intro w'
                go_simp
                with_reducible rfl
              rotate_left
              · simp only [Act.put, List.setIfInBounds_toArray, List.set_cons_zero, List.set_cons_succ, i64_w, i32_w]
                rfl
              refine pure_ (i := 41) (N := some 62) (v := ?_) (a' := ?_) #[true, true, true, true, true, true, true, true, true, true, true, true, true, true, true, true, true, true, true, true, true, true, true, true, true, true, true, true, true, true, true, true, true, true, true, true, true, true, true, true, true, true, false, false, false, false, false, false, false, false, false, false, false, false, false, false, false, false] rfl rfl (any_of HT_.out (by kernel_rfl)) (fun _ _ _ h => h) (Or.inl ⟨by rfl, ?_⟩) ?_ ?_
              rotate_left
              · intro w'
                go_simp
                with_reducible rfl
              rotate_left
              · simp only [Act.put, List.setIfInBounds_toArray, List.set_cons_zero, List.set_cons_succ, i64_w, i32_w]
                rfl
              refine pure_ (i := 42) (N := some 63) (v := ?_) (a' := ?_) #[true, true, true, true, true, true, true, true, true, true, true, true, true, true, true, true, true, true, true, true, true, true, true, true, true, true, true, true, true, true, true, true, true, true, true, true, true, true, true, true, true, true, true, false, false, false, false, false, false, false, false, false, false, false, false, false, false, false] rfl rfl (any_of HT_.out (by kernel_rfl)) (fun _ _ _ h => h) (Or.inl ⟨by rfl, ?_⟩) ?_ ?_
              rotate_left
              · intro w'
                go_simp
                with_reducible rfl
              rotate_left
              · simp only [Act.put, List.setIfInBounds_toArray, List.set_cons_zero, List.set_cons_succ, i64_w, i32_w]
                rfl
              refine pure_ (i := 44) (N := some 65) (v := ?_) (a' := ?_) #[true, true, true, true, true, true, true, true, true, true, true, true, true, true, true, true, true, true, true, true, true, true, true, true, true, true, true, true, true, true, true, true, true, true, true, true, true, true, true, true, true, true, true, false, true, false, false, false, false, false, false, false, false, false, false, false, false, false] rfl rfl (any_of HT_.out (by kernel_rfl)) (fun _ _ _ h => h) (Or.inl ⟨by rfl, ?_⟩) ?_ ?_
              rotate_left
              · intro w'
                go_simp
                with_reducible rfl
              rotate_left
              · simp only [Act.put, List.setIfInBounds_toArray, List.set_cons_zero, List.set_cons_succ, i64_w, i32_w]
                rfl
              refine pure_ (i := 48) (N := some 69) (v := ?_) (a' := ?_) #[true, true, true, true, true, true, true, true, true, true, true, true, true, true, true, true, true, true, true, true, true, true, true, true, true, true, true, true, true, true, true, true, true, true, true, true, true, true, true, true, true, true, true, false, true, false, false, false, true, false, false, false, false, false, false, false, false, false] rfl rfl (any_of HT_.out (by kernel_rfl)) (fun _ _ _ h => h) (Or.inl ⟨by rfl, ?_⟩) ?_ ?_
              rotate_left
              · intro w'
                go_simp
                with_reducible rfl
              rotate_left
              · simp only [Act.put, List.setIfInBounds_toArray, List.set_cons_zero, List.set_cons_succ, i64_w, i32_w]
                rfl
              refine take_ (i := 43) (N := some 64) (v := ?_) (a' := ?_) #[true, true, true, true, true, true, true, true, true, true, true, true, true, true, true, true, true, true, true, true, true, true, true, true, true, true, true, true, true, true, true, true, true, true, true, true, true, true, true, true, true, true, true, true, true, false, false, false, true, false, false, false, false, false, false, false, false, false] rfl rfl (take_ofW HT_.out HW_.out (by kernel_rfl)) (fun _ _ _ h => h) (Or.inl ⟨by rfl, ?_⟩) hHeld ?_ ?_
              rotate_left
              · rintro w' ⟨s0, s1, s2, s3, s4, s5, s6, s7, s8, s9, s10, s11, s12, s13, s14, s15, s16, s17, s18, s19, s20, s21, s22, s23, s24, s25, s26, s27, s28, s29, s30, s31, s32, s33, s34, s35, s36⟩
                go_simp
                with_reducible rfl
              rotate_left
              · simp only [Act.put, List.setIfInBounds_toArray, List.set_cons_zero, List.set_cons_succ, i64_w, i32_w]
                rfl
              refine take_ (i := 45) (N := some 66) (v := ?_) (a' := ?_) #[true, true, true, true, true, true, true, true, true, true, true, true, true, true, true, true, true, true, true, true, true, true, true, true, true, true, true, true, true, true, true, true, true, true, true, true, true, true, true, true, true, true, true, true, true, true, false, false, true, false, false, false, false, false, false, false, false, false] rfl rfl (take_ofW HT_.out HW_.out (by kernel_rfl)) (fun _ _ _ h => h) (Or.inl ⟨by rfl, ?_⟩) hHeld ?_ ?_
              rotate_left
              · rintro w' ⟨s0, s1, s2, s3, s4, s5, s6, s7, s8, s9, s10, s11, s12, s13, s14, s15, s16, s17, s18, s19, s20, s21, s22, s23, s24, s25, s26, s27, s28, s29, s30, s31, s32, s33, s34, s35, s36⟩
                go_simp
                with_reducible rfl
              rotate_left
              · simp only [Act.put, List.setIfInBounds_toArray, List.set_cons_zero, List.set_cons_succ, i64_w, i32_w]
                rfl
              refine take_ (i := 46) (N := some 67) (v := ?_) (a' := ?_) #[true, true, true, true, true, true, true, true, true, true, true, true, true, true, true, true, true, true, true, true, true, true, true, true, true, true, true, true, true, true, true, true, true, true, true, true, true, true, true, true, true, true, true, true, true, true, true, false, true, false, false, false, false, false, false, false, false, false] rfl rfl (take_ofW HT_.out HW_.out (by kernel_rfl)) (fun _ _ _ h => h) (Or.inl ⟨by rfl, ?_⟩) hHeld ?_ ?_
              rotate_left
              · rintro w' ⟨s0, s1, s2, s3, s4, s5, s6, s7, s8, s9, s10, s11, s12, s13, s14, s15, s16, s17, s18, s19, s20, s21, s22, s23, s24, s25, s26, s27, s28, s29, s30, s31, s32, s33, s34, s35, s36⟩
                go_simp
                with_reducible rfl
              rotate_left
              · simp only [Act.put, List.setIfInBounds_toArray, List.set_cons_zero, List.set_cons_succ, i64_w, i32_w]
                rfl
              refine take_ (i := 49) (N := some 70) (v := ?_) (a' := ?_) #[true, true, true, true, true, true, true, true, true, true, true, true, true, true, true, true, true, true, true, true, true, true, true, true, true, true, true, true, true, true, true, true, true, true, true, true, true, true, true, true, true, true, true, true, true, true, true, false, true, true, false, false, false, false, false, false, false, false] rfl rfl (take_ofW HT_.out HW_.out (by kernel_rfl)) (fun _ _ _ h => h) (Or.inl ⟨by rfl, ?_⟩) hHeld ?_ ?_
              rotate_left
              · rintro w' ⟨s0, s1, s2, s3, s4, s5, s6, s7, s8, s9, s10, s11, s12, s13, s14, s15, s16, s17, s18, s19, s20, s21, s22, s23, s24, s25, s26, s27, s28, s29, s30, s31, s32, s33, s34, s35, s36⟩
                go_simp
                with_reducible rfl
              rotate_left
              · simp only [Act.put, List.setIfInBounds_toArray, List.set_cons_zero, List.set_cons_succ, i64_w, i32_w]
                rfl
              refine take_ (i := 50) (N := some 71) (v := ?_) (a' := ?_) #[true, true, true, true, true, true, true, true, true, true, true, true, true, true, true, true, true, true, true, true, true, true, true, true, true, true, true, true, true, true, true, true, true, true, true, true, true, true, true, true, true, true, true, true, true, true, true, false, true, true, true, false, false, false, false, false, false, false] rfl rfl (take_ofW HT_.out HW_.out (by kernel_rfl)) (fun _ _ _ h => h) (Or.inl ⟨by rfl, ?_⟩) hHeld ?_ ?_
              rotate_left
              · rintro w' ⟨s0, s1, s2, s3, s4, s5, s6, s7, s8, s9, s10, s11, s12, s13, s14, s15, s16, s17, s18, s19, s20, s21, s22, s23, s24, s25, s26, s27, s28, s29, s30, s31, s32, s33, s34, s35, s36⟩
                go_simp
                with_reducible rfl
              rotate_left
              · simp only [Act.put, List.setIfInBounds_toArray, List.set_cons_zero, List.set_cons_succ, i64_w, i32_w]
                rfl
              refine one_ (i := 47) (N := some 68) #[true, true, true, true, true, true, true, true, true, true, true, true, true, true, true, true, true, true, true, true, true, true, true, true, true, true, true, true, true, true, true, true, true, true, true, true, true, true, true, true, true, true, true, true, true, true, true, true, true, true, true, false, false, false, false, false, false, false] rfl rfl (one_of HT_.out (by kernel_rfl)) (by decide) (fun K hK => ?_)
              refine goes_ Try.func40 (by kernel_rfl) rfl #[.agg #[.int .i64 t179, .int .i64 t180, .int .u64 t181, .int .u64 t182, .bool t183, .bool t184, .bool t185, .bool t186, .bool t187, .bool t188, .bool t189], .int .i64 t180, .agg #[.int .i64 t175, .bool t176, .int .u64 t181]] (by rfl) rfl rfl (by (try simp only [List.map_toArray, List.map_cons, List.map_nil]); first | done | rfl | (simp only [List.length_drop, List.length_take]; rfl)) ?_
              with_reducible refine (fault_Of.calls k t179 t180 t181 t182 t183 t184 t185 t186 t187 t188 t189 t180 t175 t176 t181 t207 _ A77.out).mono ?_
              rintro e w121 ⟨rfl, hb⟩
              refine ⟨_, rfl, ?_⟩
              have n0_ := Aside0.mk (bb_ hb BK168.out)
              have n1_ := Aside0.mk (bb_ hb BK169.out)
              have n2_ := Aside0.mk (bb_ hb BK170.out)
              have n3_ := Aside0.mk (bb_ hb BK174.out)
              have n4_ := Aside0.mk (bb_ hb BK178.out)
              have n5_ := Aside0.mk (bb_ hb BK190.out)
              have n6_ := Aside0.mk (below_step (by repeat (first | (with_reducible first | exact HB.out | apply below_alloc | apply pw_below_drewN | apply below_drew1 | refine below_set ?_ GE168.out | refine below_set ?_ GE169.out | refine below_set ?_ GE170.out | refine below_set ?_ GE174.out | refine below_set ?_ GE178.out | refine below_set ?_ GE190.out) | exact HB.out)) hb)
              clear BK168
              clear BK169
              clear BK170
              clear BK174
              clear BK178
              clear BK190
              clear HB
              have BK168 := n0_
              have BK169 := n1_
              have BK170 := n2_
              have BK174 := n3_
              have BK178 := n4_
              have BK190 := n5_
              have HB := n6_
              clear n0_ n1_ n2_ n3_ n4_ n5_ n6_
              (try clear hb)
              (try clear hb2)
              (try clear hk)
              (try clear hi)
              refine hK.out _ _ (ca3_ BK170.out (ca6_ BK168.out (ca3_ BK174.out (ca11_ BK169.out (ca11_ BK190.out (cz3_ BK178.out)))))) (fun hHeld => ?_)
              clear hK K
              refine norm_ (a' := ?_) ?_ ?_
              rotate_left
              · show Act.put _ (some 68) _ = _
                simp only [Act.put, List.setIfInBounds_toArray, List.set_cons_zero, List.set_cons_succ, i64_w, i32_w]
                rfl
              refine one_ (i := 51) (N := some 72) #[true, true, true, true, true, true, true, true, true, true, true, true, true, true, true, true, true, true, true, true, true, true, true, true, true, true, true, true, true, true, true, true, true, true, true, true, true, true, true, true, true, true, true, true, true, true, true, true, true, true, true, true, false, false, false, false, false, false] rfl rfl (one_of HT_.out (by kernel_rfl)) (by decide) (fun K hK => ?_)
              refine goes_ Try.func39 (by kernel_rfl) rfl #[.agg #[.bool t183, .bool t184, .bool t185, .bool t186, .bool t187, .bool t188], .agg #[.int .i64 t175, .bool t176, .int .u64 t181]] (by rfl) rfl rfl (by (try simp only [List.map_toArray, List.map_cons, List.map_nil]); first | done | rfl | (simp only [List.length_drop, List.length_take]; rfl)) ?_
              with_reducible refine (lookasideref09_Judge.calls k t183 t184 t185 t186 t187 t188 t175 t176 t181 t208 _ A78.out).mono ?_
              rintro e w122 ⟨rfl, hb⟩
              refine ⟨_, rfl, ?_⟩
              have n0_ := Aside0.mk (bb_ hb BK168.out)
              have n1_ := Aside0.mk (bb_ hb BK169.out)
              have n2_ := Aside0.mk (bb_ hb BK170.out)
              have n3_ := Aside0.mk (bb_ hb BK174.out)
              have n4_ := Aside0.mk (bb_ hb BK178.out)
              have n5_ := Aside0.mk (bb_ hb BK190.out)
              have n6_ := Aside0.mk (below_step (by repeat (first | (with_reducible first | exact HB.out | apply below_alloc | apply pw_below_drewN | apply below_drew1 | refine below_set ?_ GE168.out | refine below_set ?_ GE169.out | refine below_set ?_ GE170.out | refine below_set ?_ GE174.out | refine below_set ?_ GE178.out | refine below_set ?_ GE190.out) | exact HB.out)) hb)
              clear BK168
              clear BK169
              clear BK170
              clear BK174
              clear BK178
              clear BK190
              clear HB
              have BK168 := n0_
              have BK169 := n1_
              have BK170 := n2_
              have BK174 := n3_
              have BK178 := n4_
              have BK190 := n5_
              have HB := n6_
              clear n0_ n1_ n2_ n3_ n4_ n5_ n6_
              (try clear hb)
              (try clear hb2)
              (try clear hk)
              (try clear hi)
              refine hK.out _ _ (ca3_ BK170.out (ca6_ BK168.out (ca3_ BK174.out (ca11_ BK169.out (ca11_ BK190.out (cz3_ BK178.out)))))) (fun hHeld => ?_)
              clear hK K
              refine norm_ (a' := ?_) ?_ ?_
              rotate_left
              · show Act.put _ (some 72) _ = _
                simp only [Act.put, List.setIfInBounds_toArray, List.set_cons_zero, List.set_cons_succ, i64_w, i32_w]
                rfl
              refine pure_ (i := 52) (N := some 73) (v := ?_) (a' := ?_) #[true, true, true, true, true, true, true, true, true, true, true, true, true, true, true, true, true, true, true, true, true, true, true, true, true, true, true, true, true, true, true, true, true, true, true, true, true, true, true, true, true, true, true, true, true, true, true, true, true, true, true, true, true, false, false, false, false, false] rfl rfl (any_of HT_.out (by kernel_rfl)) (fun _ _ _ h => h) (Or.inl ⟨by rfl, ?_⟩) ?_ ?_
              rotate_left
              · intro w'
                go_simp
                with_reducible rfl
              rotate_left
              · simp only [Act.put, List.setIfInBounds_toArray, List.set_cons_zero, List.set_cons_succ, i64_w, i32_w]
                rfl
              refine pure_ (i := 53) (N := some 74) (v := ?_) (a' := ?_) #[true, true, true, true, true, true, true, true, true, true, true, true, true, true, true, true, true, true, true, true, true, true, true, true, true, true, true, true, true, true, true, true, true, true, true, true, true, true, true, true, true, true, true, true, true, true, true, true, true, true, true, true, true, true, false, false, false, false] rfl rfl (any_of HT_.out (by kernel_rfl)) (fun _ _ _ h => h) (Or.inl ⟨by rfl, ?_⟩) ?_ ?_
              rotate_left
              · intro w'
                go_simp
                with_reducible rfl
              rotate_left
              · simp only [Act.put, List.setIfInBounds_toArray, List.set_cons_zero, List.set_cons_succ, i64_w, i32_w]
                rfl
              refine pure_ (i := 54) (N := some 75) (v := ?_) (a' := ?_) #[true, true, true, true, true, true, true, true, true, true, true, true, true, true, true, true, true, true, true, true, true, true, true, true, true, true, true, true, true, true, true, true, true, true, true, true, true, true, true, true, true, true, true, true, true, true, true, true, true, true, true, true, true, true, true, false, false, false] rfl rfl (any_of HT_.out (by kernel_rfl)) (fun _ _ _ h => h) (Or.inl ⟨by rfl, ?_⟩) ?_ ?_
              rotate_left
              · intro w'
                go_simp
                with_reducible rfl
              rotate_left
              · simp only [Act.put, List.setIfInBounds_toArray, List.set_cons_zero, List.set_cons_succ, i64_w, i32_w]
                rfl
              refine one_ (i := 55) (N := some 76) #[true, true, true, true, true, true, true, true, true, true, true, true, true, true, true, true, true, true, true, true, true, true, true, true, true, true, true, true, true, true, true, true, true, true, true, true, true, true, true, true, true, true, true, true, true, true, true, true, true, true, true, true, true, true, true, true, false, false] rfl rfl (one_of HT_.out (by kernel_rfl)) (by decide) (fun K hK => ?_)
              refine goes_ Try.func42 (by kernel_rfl) rfl #[] (by rfl) rfl rfl (by (try simp only [List.map_toArray, List.map_cons, List.map_nil]); first | done | rfl | (simp only [List.length_drop, List.length_take]; rfl)) ?_
              with_reducible refine (lookasidelaw09_lives.calls k  t209 _ A80.out).mono ?_
              rintro e w123 ⟨rfl, hb⟩
              refine ⟨_, rfl, ?_⟩
              have n0_ := Aside0.mk (bb_ hb BK168.out)
              have n1_ := Aside0.mk (bb_ hb BK169.out)
              have n2_ := Aside0.mk (bb_ hb BK170.out)
              have n3_ := Aside0.mk (bb_ hb BK174.out)
              have n4_ := Aside0.mk (bb_ hb BK178.out)
              have n5_ := Aside0.mk (bb_ hb BK190.out)
              have n6_ := Aside0.mk (below_step (by repeat (first | (with_reducible first | exact HB.out | apply below_alloc | apply pw_below_drewN | apply below_drew1 | refine below_set ?_ GE168.out | refine below_set ?_ GE169.out | refine below_set ?_ GE170.out | refine below_set ?_ GE174.out | refine below_set ?_ GE178.out | refine below_set ?_ GE190.out) | exact HB.out)) hb)
              clear BK168
              clear BK169
              clear BK170
              clear BK174
              clear BK178
              clear BK190
              clear HB
              have BK168 := n0_
              have BK169 := n1_
              have BK170 := n2_
              have BK174 := n3_
              have BK178 := n4_
              have BK190 := n5_
              have HB := n6_
              clear n0_ n1_ n2_ n3_ n4_ n5_ n6_
              (try clear hb)
              (try clear hb2)
              (try clear hk)
              (try clear hi)
              refine hK.out _ _ (ca3_ BK170.out (ca6_ BK168.out (ca3_ BK174.out (ca11_ BK169.out (ca11_ BK190.out (cz3_ BK178.out)))))) (fun hHeld => ?_)
              clear hK K
              refine norm_ (a' := ?_) ?_ ?_
              rotate_left
              · show Act.put _ (some 76) _ = _
                simp only [Act.put, List.setIfInBounds_toArray, List.set_cons_zero, List.set_cons_succ, i64_w, i32_w]
                rfl
              refine pure_ (i := 56) (N := some 77) (v := ?_) (a' := ?_) #[true, true, true, true, true, true, true, true, true, true, true, true, true, true, true, true, true, true, true, true, true, true, true, true, true, true, true, true, true, true, true, true, true, true, true, true, true, true, true, true, true, true, true, true, true, true, true, true, true, true, true, true, true, true, true, true, true, false] rfl rfl (any_of HT_.out (by kernel_rfl)) (fun _ _ _ h => h) (Or.inl ⟨by rfl, ?_⟩) ?_ ?_
              rotate_left
              · intro w'
                go_simp
                with_reducible rfl
              rotate_left
              · simp only [Act.put, List.setIfInBounds_toArray, List.set_cons_zero, List.set_cons_succ, i64_w, i32_w]
                rfl
              refine pure_ (i := 57) (N := some 8) (v := ?_) (a' := ?_) #[true, true, true, true, true, true, true, true, true, true, true, true, true, true, true, true, true, true, true, true, true, true, true, true, true, true, true, true, true, true, true, true, true, true, true, true, true, true, true, true, true, true, true, true, true, true, true, true, true, true, true, true, true, true, true, true, true, true] rfl rfl (any_of HT_.out (by kernel_rfl)) (fun _ _ _ h => h) (Or.inl ⟨by rfl, ?_⟩) ?_ ?_
              rotate_left
              · intro w'
                go_simp
                with_reducible rfl
              rotate_left
              · simp only [Act.put, List.setIfInBounds_toArray, List.set_cons_zero, List.set_cons_succ, i64_w, i32_w]
                rfl
              refine done_ (done_of HT_.out (by kernel_rfl)) ?_
              try go_wp2
              go_ret
              exact ⟨by first | rfl | (simp [errW_none, errW_some] <;> rfl) | (simp [*, errW_none, errW_some] <;> rfl), by repeat (first | (with_reducible first | exact HB.out | apply below_alloc | apply pw_below_drewN | apply below_drew1 | refine below_set ?_ GE168.out | refine below_set ?_ GE169.out | refine below_set ?_ GE170.out | refine below_set ?_ GE174.out | refine below_set ?_ GE178.out | refine below_set ?_ GE190.out) | exact HB.out)⟩
            · rw [if_neg c79] at H
              have c79b0 : (t207 == t208) = false := beq_eq_false_iff_ne.mpr c79
              have c79b1 : (t207 != t208) = true := bne_iff_ne.mpr c79
              exact absurd ((Option.some.inj H).trans hr_.out) (by decide)
          · rw [if_neg c76] at H
            have c76b0 : (t205 == t206) = false := beq_eq_false_iff_ne.mpr c76
            have c76b1 : (t205 != t206) = true := bne_iff_ne.mpr c76
            exact absurd ((Option.some.inj H).trans hr_.out) (by decide)
        · rw [if_neg c73] at H
          have c73b0 : (t203 == t204) = false := beq_eq_false_iff_ne.mpr c73
          have c73b1 : (t203 != t204) = true := bne_iff_ne.mpr c73
          exact absurd ((Option.some.inj H).trans hr_.out) (by decide)
      · rw [if_neg c70] at H
        have c70b0 : (t201 == t202) = false := beq_eq_false_iff_ne.mpr c70
        have c70b1 : (t201 != t202) = true := bne_iff_ne.mpr c70
        exact absurd ((Option.some.inj H).trans hr_.out) (by decide)
    · rw [if_neg c67] at H
      have c67b0 : (t191 == false) = false := by simpa using c67
      (try (have c67b1 : decide (t191 = false) = false := by simpa using c67))
      (try (have c67b2 : (t191 == false) = false := by simpa using c67))
      (try (have c67b3 : ¬ (t191 = false) := by simpa using c67))
      clear c67
      exact absurd ((Option.some.inj H).trans hr_.out) (by decide)

/-- THE ONE PURE STATEMENT of lookasidelaw09_FaultJudges: yours. -/
def lookasidelaw09_FaultJudges.Pure : Prop := ∀ (a0_0 : Bool) (a0_1 : Bool) (a0_2 : Bool) (a0_3 : Bool) (a0_4 : Bool) (a0_5 : Bool) (a1_0 : Int) (a1_1 : Int) (a1_2 : Int) (a1_3 : Int) (a1_4 : Bool) (a1_5 : Bool) (a1_6 : Bool) (a1_7 : Bool) (a1_8 : Bool) (a1_9 : Bool) (a1_10 : Bool) (a2 : Int) (a3_0 : Int) (a3_1 : Bool) (a3_2 : Int), (Lit.int .i64 a1_0).wf = true → (Lit.int .i64 a1_1).wf = true → (Lit.int .u64 a1_2).wf = true → (Lit.int .u64 a1_3).wf = true → (Lit.int .i64 a2).wf = true → (Lit.int .i64 a3_0).wf = true → (Lit.int .u64 a3_2).wf = true → ∃ k, lookasidelaw09_FaultJudges.f k a0_0 a0_1 a0_2 a0_3 a0_4 a0_5 a1_0 a1_1 a1_2 a1_3 a1_4 a1_5 a1_6 a1_7 a1_8 a1_9 a1_10 a2 a3_0 a3_1 a3_2 = some true
theorem lookasidelaw09_FaultJudges.walk (P : lookasidelaw09_FaultJudges.Pure) (a0_0 : Bool) (a0_1 : Bool) (a0_2 : Bool) (a0_3 : Bool) (a0_4 : Bool) (a0_5 : Bool) (a1_0 : Int) (a1_1 : Int) (a1_2 : Int) (a1_3 : Int) (a1_4 : Bool) (a1_5 : Bool) (a1_6 : Bool) (a1_7 : Bool) (a1_8 : Bool) (a1_9 : Bool) (a1_10 : Bool) (a2 : Int) (a3_0 : Int) (a3_1 : Bool) (a3_2 : Int) (w : World)  (w1_0 : (Lit.int .i64 a1_0).wf = true) (w1_1 : (Lit.int .i64 a1_1).wf = true) (w1_2 : (Lit.int .u64 a1_2).wf = true) (w1_3 : (Lit.int .u64 a1_3).wf = true) (w2 : (Lit.int .i64 a2).wf = true) (w3_0 : (Lit.int .i64 a3_0).wf = true) (w3_2 : (Lit.int .u64 a3_2).wf = true) :
    Calls Try.prog 11 #[.agg #[.bool a0_0, .bool a0_1, .bool a0_2, .bool a0_3, .bool a0_4, .bool a0_5], .agg #[.int .i64 a1_0, .int .i64 a1_1, .int .u64 a1_2, .int .u64 a1_3, .bool a1_4, .bool a1_5, .bool a1_6, .bool a1_7, .bool a1_8, .bool a1_9, .bool a1_10], .int .i64 a2, .agg #[.int .i64 a3_0, .bool a3_1, .int .u64 a3_2]] w fun e w' => e = .returned (.bool true) ∧ Below w.heap.size w w' := by
  obtain ⟨k, h⟩ := P a0_0 a0_1 a0_2 a0_3 a0_4 a0_5 a1_0 a1_1 a1_2 a1_3 a1_4 a1_5 a1_6 a1_7 a1_8 a1_9 a1_10 a2 a3_0 a3_1 a3_2 w1_0 w1_1 w1_2 w1_3 w2 w3_0 w3_2
  refine (lookasidelaw09_FaultJudges.calls k a0_0 a0_1 a0_2 a0_3 a0_4 a0_5 a1_0 a1_1 a1_2 a1_3 a1_4 a1_5 a1_6 a1_7 a1_8 a1_9 a1_10 a2 a3_0 a3_1 a3_2 true w h rfl).mono ?_
  rintro e w' ⟨rfl, hd⟩
  exact ⟨rfl, hd⟩

end Go.Proofs.Ytecbngibhobgbaa.QFaultJudges
