-- Printed by a program of this session (wip/print/myprint.py) out of the translation; Lean checks it.
import Derived.Test.YtecbngibhobgbaaQTteRoundx0
import Derived.Test.YtecbngibhobgbaaQTteRoundx1
import Derived.Test.YtecbngibhobgbaaQTteRoundx3
import Derived.Test.YtecbngibhobgbaaQTteRoundx4
import Derived.Test.YtecbngibhobgbaaQTteRoundx5
import Derived.Test.YtecbngibhobgbaaQTteRoundx6
import Derived.Test.YtecbngibhobgbaaQTteRoundx7
import Derived.Test.YtecbngibhobgbaaQTteRoundx9
namespace Go.Proofs.Ytecbngibhobgbaa.QTteRound
open Go.RowKit Go.Proofs.YtecbngibhobgbaaW.PrintWords Go.Proofs.YtecbngibhobgbaaW.PrintLast Go.Proofs.YtecbngibhobgbaaW.PrintMore
attribute [local go_sem] max2_int min2_int max_two min_two max_three min_three max_four min_four   -- for this text's walks alone
set_option linter.unusedVariables false
set_option linter.unusedSimpArgs false
theorem bb10_ {w2 w' : World} {g : Nat} {o : Obj} (hb : Below w2.heap.size w2 w') (h : w2.heap[g]? = some o) : w'.heap[g]? = some o := blk_below h hb
theorem cz11_10 {W : World} {g : Nat} {t : TypeId} {a0 a1 a2 a3 a4 a5 a6 a7 a8 a9 a10 : Value} (h : W.heap[g]? = some (.cells #[a0, a1, a2, a3, a4, a5, a6, a7, a8, a9, a10] t (0, 0))) : W.cell? ⟨g, 0, none⟩ = some a0 ∧ W.cell? ⟨g, 1, none⟩ = some a1 ∧ W.cell? ⟨g, 2, none⟩ = some a2 ∧ W.cell? ⟨g, 3, none⟩ = some a3 ∧ W.cell? ⟨g, 4, none⟩ = some a4 ∧ W.cell? ⟨g, 5, none⟩ = some a5 ∧ W.cell? ⟨g, 6, none⟩ = some a6 ∧ W.cell? ⟨g, 7, none⟩ = some a7 ∧ W.cell? ⟨g, 8, none⟩ = some a8 ∧ W.cell? ⟨g, 9, none⟩ = some a9 ∧ W.cell? ⟨g, 10, none⟩ = some a10 := ⟨(blk_cell h 0).trans rfl, (blk_cell h 1).trans rfl, (blk_cell h 2).trans rfl, (blk_cell h 3).trans rfl, (blk_cell h 4).trans rfl, (blk_cell h 5).trans rfl, (blk_cell h 6).trans rfl, (blk_cell h 7).trans rfl, (blk_cell h 8).trans rfl, (blk_cell h 9).trans rfl, (blk_cell h 10).trans rfl⟩

attribute [local go_sem high] eqA26
/-! ### lookasidelaw03_TteRound: function 9 -/
def lookasidelaw03_TteRound.j0 : Nat → Int → Bool → Int → Int → Int → Int → Bool → Bool → Bool → Bool → Bool → Bool → Bool → Option (Bool)
  | 0, _, _, _, _, _, _, _, _, _, _, _, _, _ => none
  | k + 1, x2, x39, x183000, x183001, x183002, x183003, x183004, x183005, x183006, x183007, x183008, x183009, x183010 => if x39 = true then (some false) else ((tte_Tag.f x183000 x183001 x183002 x183003 x183004 x183005 x183006 x183007 x183008 x183009 x183010).bind fun t199 => ((tte_Data.f x183000 x183001 x183002 x183003 x183004 x183005 x183006 x183007 x183008 x183009 x183010).bind fun t200 => ((tte_Read.f k t199 t200 x2).bind fun bt201 => ((lookasideref03_Tag.f k x183000 x183001 x183002 x183003 x183004 x183005 x183006 x183007 x183008 x183009 x183010).bind fun t214 => ((lookasideref03_Data.f k x183000 x183001 x183002 x183003 x183004 x183005 x183006 x183007 x183008 x183009 x183010).bind fun t215 => ((lookasideref03_Read.f k t214 t215 x2).bind fun bt216 => (if (bt201.1 == bt216.1 && (bt201.2.1 == bt216.2.1 && (bt201.2.2.1 == bt216.2.2.1 && (bt201.2.2.2.1 == bt216.2.2.2.1 && ((bt201.2.2.2.2.1 == bt216.2.2.2.2.1 && (bt201.2.2.2.2.2.1 == bt216.2.2.2.2.2.1 && (bt201.2.2.2.2.2.2.1 == bt216.2.2.2.2.2.2.1 && (bt201.2.2.2.2.2.2.2.1 == bt216.2.2.2.2.2.2.2.1 && (bt201.2.2.2.2.2.2.2.2.1 == bt216.2.2.2.2.2.2.2.2.1 && (bt201.2.2.2.2.2.2.2.2.2.1 == bt216.2.2.2.2.2.2.2.2.2.1)))))) && (bt201.2.2.2.2.2.2.2.2.2.2.1 == bt216.2.2.2.2.2.2.2.2.2.2.1)))))) = true then (if bt201.2.2.2.2.2.2.2.2.2.2.2 = bt216.2.2.2.2.2.2.2.2.2.2.2 then ((lookasidelaw03_lives.f k).bind fun t229 => (some t229)) else (some false)) else (some false))))))))
def lookasidelaw03_TteRound.f (k : Nat) (a0_0 : Int) (a0_1 : Int) (a0_2 : Int) (a0_3 : Int) (a0_4 : Bool) (a0_5 : Bool) (a0_6 : Bool) (a0_7 : Bool) (a0_8 : Bool) (a0_9 : Bool) (a0_10 : Bool) (a1 : Int) (a2 : Int) : Option (Bool) := (lookasideref03_Good.f k a0_0 a0_1 a0_2 a0_3 a0_4 a0_5 a0_6 a0_7 a0_8 a0_9 a0_10).bind fun bt171 => ((lookasideref02_Offset.f a1 bt171.1).bind fun t183 => ((tte_Tag.f bt171.1 bt171.2.1 bt171.2.2.1 bt171.2.2.2.1 bt171.2.2.2.2.1 bt171.2.2.2.2.2.1 bt171.2.2.2.2.2.2.1 bt171.2.2.2.2.2.2.2.1 bt171.2.2.2.2.2.2.2.2.1 bt171.2.2.2.2.2.2.2.2.2.1 bt171.2.2.2.2.2.2.2.2.2.2).bind fun t184 => ((tte_Data.f bt171.1 bt171.2.1 bt171.2.2.1 bt171.2.2.2.1 bt171.2.2.2.2.1 bt171.2.2.2.2.2.1 bt171.2.2.2.2.2.2.1 bt171.2.2.2.2.2.2.2.1 bt171.2.2.2.2.2.2.2.2.1 bt171.2.2.2.2.2.2.2.2.2.1 bt171.2.2.2.2.2.2.2.2.2.2).bind fun t185 => ((tte_Read.f k t184 t185 (IntKind.u64.wrap (bt171.2.2.1 + t183))).bind fun bt186 => (if (!(bt186.1 == bt171.1) || (!(bt186.2.1 == bt171.2.1) || (!(bt186.2.2.1 == bt171.2.2.1) || (!(bt186.2.2.2.1 == bt171.2.2.2.1) || ((!(bt186.2.2.2.2.1 == bt171.2.2.2.2.1) || (!(bt186.2.2.2.2.2.1 == bt171.2.2.2.2.2.1) || (!(bt186.2.2.2.2.2.2.1 == bt171.2.2.2.2.2.2.1) || (!(bt186.2.2.2.2.2.2.2.1 == bt171.2.2.2.2.2.2.2.1) || (!(bt186.2.2.2.2.2.2.2.2.1 == bt171.2.2.2.2.2.2.2.2.1) || (!(bt186.2.2.2.2.2.2.2.2.2.1 == bt171.2.2.2.2.2.2.2.2.2.1))))))) || (!(bt186.2.2.2.2.2.2.2.2.2.2.1 == bt171.2.2.2.2.2.2.2.2.2.2))))))) = true then (lookasidelaw03_TteRound.j0 k a2 true bt171.1 bt171.2.1 bt171.2.2.1 bt171.2.2.2.1 bt171.2.2.2.2.1 bt171.2.2.2.2.2.1 bt171.2.2.2.2.2.2.1 bt171.2.2.2.2.2.2.2.1 bt171.2.2.2.2.2.2.2.2.1 bt171.2.2.2.2.2.2.2.2.2.1 bt171.2.2.2.2.2.2.2.2.2.2) else (lookasidelaw03_TteRound.j0 k a2 (bt186.2.2.2.2.2.2.2.2.2.2.2 != 0) bt171.1 bt171.2.1 bt171.2.2.1 bt171.2.2.2.1 bt171.2.2.2.2.1 bt171.2.2.2.2.2.1 bt171.2.2.2.2.2.2.1 bt171.2.2.2.2.2.2.2.1 bt171.2.2.2.2.2.2.2.2.1 bt171.2.2.2.2.2.2.2.2.2.1 bt171.2.2.2.2.2.2.2.2.2.2))))))
theorem lookasidelaw03_TteRound.mono_l : ∀ k, (∀ y0 y1 y2 y3 y4 y5 y6 y7 y8 y9 y10 y11 y12, LeO (lookasidelaw03_TteRound.j0 k y0 y1 y2 y3 y4 y5 y6 y7 y8 y9 y10 y11 y12) (lookasidelaw03_TteRound.j0 (k + 1) y0 y1 y2 y3 y4 y5 y6 y7 y8 y9 y10 y11 y12))
  | 0 => fun _ _ _ _ _ _ _ _ _ _ _ _ _ r h => by simp [lookasidelaw03_TteRound.j0] at h
  | k + 1 => by
    have ih0 := lookasidelaw03_TteRound.mono_l k
    · intro y0 y1 y2 y3 y4 y5 y6 y7 y8 y9 y10 y11 y12
      unfold lookasidelaw03_TteRound.j0
      repeat' first
      | (with_reducible exact ih0 _ _ _ _ _ _ _ _ _ _ _ _ _)
      | (with_reducible exact lookasidelaw03_lives.mono _)
      | (with_reducible exact lookasideref03_Data.mono _ _ _ _ _ _ _ _ _ _ _ _)
      | (with_reducible exact lookasideref03_Good.mono _ _ _ _ _ _ _ _ _ _ _ _)
      | (with_reducible exact lookasideref03_Read.mono _ _ _ _)
      | (with_reducible exact lookasideref03_Tag.mono _ _ _ _ _ _ _ _ _ _ _ _)
      | (with_reducible exact tte_Read.mono _ _ _ _)
      | (with_reducible exact LeO.refl _)
      | (with_reducible exact LeO.none _)
      | (with_reducible refine LeO.ite ?_ ?_)
      | (with_reducible refine LeO.bind ?_ (fun _ => ?_))
      | exact ih0 _ _ _ _ _ _ _ _ _ _ _ _ _
      | exact lookasidelaw03_lives.mono _
      | exact lookasideref03_Data.mono _ _ _ _ _ _ _ _ _ _ _ _
      | exact lookasideref03_Good.mono _ _ _ _ _ _ _ _ _ _ _ _
      | exact lookasideref03_Read.mono _ _ _ _
      | exact lookasideref03_Tag.mono _ _ _ _ _ _ _ _ _ _ _ _
      | exact tte_Read.mono _ _ _ _
      | exact LeO.none _
      | refine LeO.ite ?_ ?_
      | refine LeO.bind ?_ (fun _ => ?_)
theorem lookasidelaw03_TteRound.mono : ∀ a0 a1 a2 a3 a4 a5 a6 a7 a8 a9 a10 a11 a12 k, LeO (lookasidelaw03_TteRound.f k a0 a1 a2 a3 a4 a5 a6 a7 a8 a9 a10 a11 a12) (lookasidelaw03_TteRound.f (k + 1) a0 a1 a2 a3 a4 a5 a6 a7 a8 a9 a10 a11 a12) := by
  intro a0 a1 a2 a3 a4 a5 a6 a7 a8 a9 a10 a11 a12 k
  have ih0 := lookasidelaw03_TteRound.mono_l k
  unfold lookasidelaw03_TteRound.f
  repeat' first
      | (with_reducible exact ih0 _ _ _ _ _ _ _ _ _ _ _ _ _)
      | (with_reducible exact lookasidelaw03_lives.mono _)
      | (with_reducible exact lookasideref03_Data.mono _ _ _ _ _ _ _ _ _ _ _ _)
      | (with_reducible exact lookasideref03_Good.mono _ _ _ _ _ _ _ _ _ _ _ _)
      | (with_reducible exact lookasideref03_Read.mono _ _ _ _)
      | (with_reducible exact lookasideref03_Tag.mono _ _ _ _ _ _ _ _ _ _ _ _)
      | (with_reducible exact tte_Read.mono _ _ _ _)
      | (with_reducible exact LeO.refl _)
      | (with_reducible exact LeO.none _)
      | (with_reducible refine LeO.ite ?_ ?_)
      | (with_reducible refine LeO.bind ?_ (fun _ => ?_))
      | exact ih0 _ _ _ _ _ _ _ _ _ _ _ _ _
      | exact lookasidelaw03_lives.mono _
      | exact lookasideref03_Data.mono _ _ _ _ _ _ _ _ _ _ _ _
      | exact lookasideref03_Good.mono _ _ _ _ _ _ _ _ _ _ _ _
      | exact lookasideref03_Read.mono _ _ _ _
      | exact lookasideref03_Tag.mono _ _ _ _ _ _ _ _ _ _ _ _
      | exact tte_Read.mono _ _ _ _
      | exact LeO.none _
      | refine LeO.ite ?_ ?_
      | refine LeO.bind ?_ (fun _ => ?_)
def lookasidelaw03_TteRound.T2 : Bool × List (List Nat × List Nat) := (true, [([], []), ([0], [0]), ([], []), ([], []), ([3], [3]), ([2, 4], [2, 4]), ([1, 5], [1, 5]), ([6, 5, 0, 1, 2, 3, 4, 5, 6], [6])])
def lookasidelaw03_TteRound.B2 : List Nat := [0, 1, 0, 0, 8, 28, 63, 127]
theorem lookasidelaw03_TteRound.tab2 : rtab .any (opsOf Try.f9 2) = lookasidelaw03_TteRound.T2 := by kernel_rfl
theorem lookasidelaw03_TteRound.bits2 : waitsOk lookasidelaw03_TteRound.T2.2 lookasidelaw03_TteRound.B2 = true := by kernel_rfl
def lookasidelaw03_TteRound.T3 : Bool × List (List Nat × List Nat) := (true, [([], []), ([0], [0]), ([], []), ([2, 1], [2]), ([], []), ([1, 3, 4, 3], [1, 3, 4]), ([5], [5]), ([6], [6]), ([6], [6]), ([], []), ([9, 7, 5, 0, 1, 2, 3, 4, 5, 6, 7, 9], [7, 9]), ([8, 10, 0, 1, 2, 3, 4, 5, 6, 7, 8, 9, 10], [8])])
def lookasidelaw03_TteRound.B3 : List Nat := [0, 1, 0, 7, 0, 31, 63, 127, 127, 0, 767, 2047]
theorem lookasidelaw03_TteRound.tab3 : rtab .any (opsOf Try.f9 3) = lookasidelaw03_TteRound.T3 := by kernel_rfl
theorem lookasidelaw03_TteRound.bits3 : waitsOk lookasidelaw03_TteRound.T3.2 lookasidelaw03_TteRound.B3 = true := by kernel_rfl
def lookasidelaw03_TteRound.T6 : Bool × List (List Nat × List Nat) := (true, [([], []), ([0], [0]), ([], []), ([2, 1], [2]), ([], []), ([1, 3, 4, 3], [1, 3, 4]), ([5], [5]), ([6], [6]), ([6], [6]), ([], []), ([9, 7, 5, 0, 1, 2, 3, 4, 5, 6, 7, 9], [7, 9]), ([8, 10, 0, 1, 2, 3, 4, 5, 6, 7, 8, 9, 10], [8])])
def lookasidelaw03_TteRound.B6 : List Nat := [0, 1, 0, 7, 0, 31, 63, 127, 127, 0, 767, 2047]
theorem lookasidelaw03_TteRound.tab6 : rtab .any (opsOf Try.f9 6) = lookasidelaw03_TteRound.T6 := by kernel_rfl
theorem lookasidelaw03_TteRound.bits6 : waitsOk lookasidelaw03_TteRound.T6.2 lookasidelaw03_TteRound.B6 = true := by kernel_rfl
def lookasidelaw03_TteRound.T7 : Bool × List (List Nat × List Nat) := (true, [([], []), ([0], [0]), ([], []), ([2, 1], [2]), ([], []), ([1, 3, 4, 3], [1, 3, 4]), ([5], [5]), ([6], [6]), ([6], [6]), ([], []), ([9, 7, 5, 0, 1, 2, 3, 4, 5, 6, 7, 9], [7, 9]), ([8, 10, 0, 1, 2, 3, 4, 5, 6, 7, 8, 9, 10], [8])])
def lookasidelaw03_TteRound.B7 : List Nat := [0, 1, 0, 7, 0, 31, 63, 127, 127, 0, 767, 2047]
theorem lookasidelaw03_TteRound.tab7 : rtab .any (opsOf Try.f9 7) = lookasidelaw03_TteRound.T7 := by kernel_rfl
theorem lookasidelaw03_TteRound.bits7 : waitsOk lookasidelaw03_TteRound.T7.2 lookasidelaw03_TteRound.B7 = true := by kernel_rfl
set_option maxHeartbeats 8000000 in
set_option maxRecDepth 100000 in
theorem lookasidelaw03_TteRound.calls (k : Nat) (a0_0 : Int) (a0_1 : Int) (a0_2 : Int) (a0_3 : Int) (a0_4 : Bool) (a0_5 : Bool) (a0_6 : Bool) (a0_7 : Bool) (a0_8 : Bool) (a0_9 : Bool) (a0_10 : Bool) (a1 : Int) (a2 : Int) (r : Bool) (w : World) (h : lookasidelaw03_TteRound.f k a0_0 a0_1 a0_2 a0_3 a0_4 a0_5 a0_6 a0_7 a0_8 a0_9 a0_10 a1 a2 = some r) (hr0_ : r = true) :
    Calls Try.prog 9 #[.agg #[.int .i64 a0_0, .int .i64 a0_1, .int .u64 a0_2, .int .u64 a0_3, .bool a0_4, .bool a0_5, .bool a0_6, .bool a0_7, .bool a0_8, .bool a0_9, .bool a0_10], .int .u64 a1, .int .u64 a2] w fun e w' => e = .returned (.bool r) ∧ Below w.heap.size w w' := by
  have hu26 := Try.underlying26
  have HB := Aside0.mk (Below.refl w.heap.size w)
  have H : ((lookasideref03_Good.f k a0_0 a0_1 a0_2 a0_3 a0_4 a0_5 a0_6 a0_7 a0_8 a0_9 a0_10).bind fun bt171 => ((lookasideref02_Offset.f a1 bt171.1).bind fun t183 => ((tte_Tag.f bt171.1 bt171.2.1 bt171.2.2.1 bt171.2.2.2.1 bt171.2.2.2.2.1 bt171.2.2.2.2.2.1 bt171.2.2.2.2.2.2.1 bt171.2.2.2.2.2.2.2.1 bt171.2.2.2.2.2.2.2.2.1 bt171.2.2.2.2.2.2.2.2.2.1 bt171.2.2.2.2.2.2.2.2.2.2).bind fun t184 => ((tte_Data.f bt171.1 bt171.2.1 bt171.2.2.1 bt171.2.2.2.1 bt171.2.2.2.2.1 bt171.2.2.2.2.2.1 bt171.2.2.2.2.2.2.1 bt171.2.2.2.2.2.2.2.1 bt171.2.2.2.2.2.2.2.2.1 bt171.2.2.2.2.2.2.2.2.2.1 bt171.2.2.2.2.2.2.2.2.2.2).bind fun t185 => ((tte_Read.f k t184 t185 (IntKind.u64.wrap (bt171.2.2.1 + t183))).bind fun bt186 => (if (!(bt186.1 == bt171.1) || (!(bt186.2.1 == bt171.2.1) || (!(bt186.2.2.1 == bt171.2.2.1) || (!(bt186.2.2.2.1 == bt171.2.2.2.1) || ((!(bt186.2.2.2.2.1 == bt171.2.2.2.2.1) || (!(bt186.2.2.2.2.2.1 == bt171.2.2.2.2.2.1) || (!(bt186.2.2.2.2.2.2.1 == bt171.2.2.2.2.2.2.1) || (!(bt186.2.2.2.2.2.2.2.1 == bt171.2.2.2.2.2.2.2.1) || (!(bt186.2.2.2.2.2.2.2.2.1 == bt171.2.2.2.2.2.2.2.2.1) || (!(bt186.2.2.2.2.2.2.2.2.2.1 == bt171.2.2.2.2.2.2.2.2.2.1))))))) || (!(bt186.2.2.2.2.2.2.2.2.2.2.1 == bt171.2.2.2.2.2.2.2.2.2.2))))))) = true then (lookasidelaw03_TteRound.j0 k a2 true bt171.1 bt171.2.1 bt171.2.2.1 bt171.2.2.2.1 bt171.2.2.2.2.1 bt171.2.2.2.2.2.1 bt171.2.2.2.2.2.2.1 bt171.2.2.2.2.2.2.2.1 bt171.2.2.2.2.2.2.2.2.1 bt171.2.2.2.2.2.2.2.2.2.1 bt171.2.2.2.2.2.2.2.2.2.2) else (lookasidelaw03_TteRound.j0 k a2 (bt186.2.2.2.2.2.2.2.2.2.2.2 != 0) bt171.1 bt171.2.1 bt171.2.2.1 bt171.2.2.2.1 bt171.2.2.2.2.1 bt171.2.2.2.2.2.1 bt171.2.2.2.2.2.2.1 bt171.2.2.2.2.2.2.2.1 bt171.2.2.2.2.2.2.2.2.1 bt171.2.2.2.2.2.2.2.2.2.1 bt171.2.2.2.2.2.2.2.2.2.2))))))) = some r := h
  clear h
  have hr_ := Aside0.mk hr0_
  clear hr0_
  replace H := Option.bind_eq_some_iff.mp H
  obtain ⟨⟨t171, t172, t173, t174, t175, t176, t177, t178, t179, t180, t181⟩, A40, H⟩ := H
  replace H : ((lookasideref02_Offset.f a1 t171).bind fun t183 => ((tte_Tag.f t171 t172 t173 t174 t175 t176 t177 t178 t179 t180 t181).bind fun t184 => ((tte_Data.f t171 t172 t173 t174 t175 t176 t177 t178 t179 t180 t181).bind fun t185 => ((tte_Read.f k t184 t185 (IntKind.u64.wrap (t173 + t183))).bind fun bt186 => (if (!(bt186.1 == t171) || (!(bt186.2.1 == t172) || (!(bt186.2.2.1 == t173) || (!(bt186.2.2.2.1 == t174) || ((!(bt186.2.2.2.2.1 == t175) || (!(bt186.2.2.2.2.2.1 == t176) || (!(bt186.2.2.2.2.2.2.1 == t177) || (!(bt186.2.2.2.2.2.2.2.1 == t178) || (!(bt186.2.2.2.2.2.2.2.2.1 == t179) || (!(bt186.2.2.2.2.2.2.2.2.2.1 == t180))))))) || (!(bt186.2.2.2.2.2.2.2.2.2.2.1 == t181))))))) = true then (lookasidelaw03_TteRound.j0 k a2 true t171 t172 t173 t174 t175 t176 t177 t178 t179 t180 t181) else (lookasidelaw03_TteRound.j0 k a2 (bt186.2.2.2.2.2.2.2.2.2.2.2 != 0) t171 t172 t173 t174 t175 t176 t177 t178 t179 t180 t181)))))) = some r := H
  have A4 := Aside0.mk A40
  clear A40
  replace H := Option.bind_eq_some_iff.mp H
  obtain ⟨t183, A50, H⟩ := H
  replace H : ((tte_Tag.f t171 t172 t173 t174 t175 t176 t177 t178 t179 t180 t181).bind fun t184 => ((tte_Data.f t171 t172 t173 t174 t175 t176 t177 t178 t179 t180 t181).bind fun t185 => ((tte_Read.f k t184 t185 (IntKind.u64.wrap (t173 + t183))).bind fun bt186 => (if (!(bt186.1 == t171) || (!(bt186.2.1 == t172) || (!(bt186.2.2.1 == t173) || (!(bt186.2.2.2.1 == t174) || ((!(bt186.2.2.2.2.1 == t175) || (!(bt186.2.2.2.2.2.1 == t176) || (!(bt186.2.2.2.2.2.2.1 == t177) || (!(bt186.2.2.2.2.2.2.2.1 == t178) || (!(bt186.2.2.2.2.2.2.2.2.1 == t179) || (!(bt186.2.2.2.2.2.2.2.2.2.1 == t180))))))) || (!(bt186.2.2.2.2.2.2.2.2.2.2.1 == t181))))))) = true then (lookasidelaw03_TteRound.j0 k a2 true t171 t172 t173 t174 t175 t176 t177 t178 t179 t180 t181) else (lookasidelaw03_TteRound.j0 k a2 (bt186.2.2.2.2.2.2.2.2.2.2.2 != 0) t171 t172 t173 t174 t175 t176 t177 t178 t179 t180 t181))))) = some r := H
  have A5 := Aside0.mk A50
  clear A50
  replace H := Option.bind_eq_some_iff.mp H
  obtain ⟨t184, A60, H⟩ := H
  replace H : ((tte_Data.f t171 t172 t173 t174 t175 t176 t177 t178 t179 t180 t181).bind fun t185 => ((tte_Read.f k t184 t185 (IntKind.u64.wrap (t173 + t183))).bind fun bt186 => (if (!(bt186.1 == t171) || (!(bt186.2.1 == t172) || (!(bt186.2.2.1 == t173) || (!(bt186.2.2.2.1 == t174) || ((!(bt186.2.2.2.2.1 == t175) || (!(bt186.2.2.2.2.2.1 == t176) || (!(bt186.2.2.2.2.2.2.1 == t177) || (!(bt186.2.2.2.2.2.2.2.1 == t178) || (!(bt186.2.2.2.2.2.2.2.2.1 == t179) || (!(bt186.2.2.2.2.2.2.2.2.2.1 == t180))))))) || (!(bt186.2.2.2.2.2.2.2.2.2.2.1 == t181))))))) = true then (lookasidelaw03_TteRound.j0 k a2 true t171 t172 t173 t174 t175 t176 t177 t178 t179 t180 t181) else (lookasidelaw03_TteRound.j0 k a2 (bt186.2.2.2.2.2.2.2.2.2.2.2 != 0) t171 t172 t173 t174 t175 t176 t177 t178 t179 t180 t181)))) = some r := H
  have A6 := Aside0.mk A60
  clear A60
  replace H := Option.bind_eq_some_iff.mp H
  obtain ⟨t185, A70, H⟩ := H
  replace H : ((tte_Read.f k t184 t185 (IntKind.u64.wrap (t173 + t183))).bind fun bt186 => (if (!(bt186.1 == t171) || (!(bt186.2.1 == t172) || (!(bt186.2.2.1 == t173) || (!(bt186.2.2.2.1 == t174) || ((!(bt186.2.2.2.2.1 == t175) || (!(bt186.2.2.2.2.2.1 == t176) || (!(bt186.2.2.2.2.2.2.1 == t177) || (!(bt186.2.2.2.2.2.2.2.1 == t178) || (!(bt186.2.2.2.2.2.2.2.2.1 == t179) || (!(bt186.2.2.2.2.2.2.2.2.2.1 == t180))))))) || (!(bt186.2.2.2.2.2.2.2.2.2.2.1 == t181))))))) = true then (lookasidelaw03_TteRound.j0 k a2 true t171 t172 t173 t174 t175 t176 t177 t178 t179 t180 t181) else (lookasidelaw03_TteRound.j0 k a2 (bt186.2.2.2.2.2.2.2.2.2.2.2 != 0) t171 t172 t173 t174 t175 t176 t177 t178 t179 t180 t181))) = some r := H
  have A7 := Aside0.mk A70
  clear A70
  replace H := Option.bind_eq_some_iff.mp H
  obtain ⟨⟨t186, t187, t188, t189, t190, t191, t192, t193, t194, t195, t196, t197⟩, A80, H⟩ := H
  replace H : (if (!(t186 == t171) || (!(t187 == t172) || (!(t188 == t173) || (!(t189 == t174) || ((!(t190 == t175) || (!(t191 == t176) || (!(t192 == t177) || (!(t193 == t178) || (!(t194 == t179) || (!(t195 == t180))))))) || (!(t196 == t181))))))) = true then (lookasidelaw03_TteRound.j0 k a2 true t171 t172 t173 t174 t175 t176 t177 t178 t179 t180 t181) else (lookasidelaw03_TteRound.j0 k a2 (t197 != 0) t171 t172 t173 t174 t175 t176 t177 t178 t179 t180 t181)) = some r := H
  have A8 := Aside0.mk A80
  clear A80
  have HC9 := Aside0.mk H
  clear H
  go_enter Try.func9, Try.ntmps9
  try go_wp2_with (first | ((with_reducible refine gate_dst (N := 3) rfl ?_); refine box_event ?hg (N := 3) ?hd (cs := #[.int .i64 a0_0, .int .i64 a0_1, .int .u64 a0_2, .int .u64 a0_3, .bool a0_4, .bool a0_5, .bool a0_6, .bool a0_7, .bool a0_8, .bool a0_9, .bool a0_10]) (t := 26) ?hr ?_; (case hd => rfl); (case hg => rfl); (case hr => first | (go_simp; done) | (go_simp; rfl)); intro gb170 hg w10 hbox hb; have n0_ := Aside0.mk (below_step (by repeat (first | (with_reducible first | exact HB.out | apply below_alloc | apply pw_below_drewN | apply below_drew1) | exact HB.out)) hb); have n1_ := Aside0.mk (hbox); have n2_ := Aside0.mk ((by rw [hg]; exact (below_size (by repeat (first | (with_reducible first | exact HB.out | apply below_alloc | apply pw_below_drewN | apply below_drew1) | exact HB.out))) : w.heap.size ≤ gb170)); have n3_ := Aside0.mk ((by rw [hg]; exact (below_size (by repeat (first | (with_reducible first | exact HB.out | apply below_alloc | apply pw_below_drewN | apply below_drew1) | exact HB.out))) : w.heap.size ≤ gb170)); clear HB; have HB := n0_; have BK170 := n1_; have GW170 := n2_; have GE170 := n3_; clear n0_ n1_ n2_ n3_; clear hb hbox hg; have hcz11_0 : w10.cell? ⟨gb170, 0, none⟩ = some (.int .i64 a0_0) := (blk_cell BK170.out 0).trans rfl; have hcz11_1 : w10.cell? ⟨gb170, 1, none⟩ = some (.int .i64 a0_1) := (blk_cell BK170.out 1).trans rfl; have hcz11_2 : w10.cell? ⟨gb170, 2, none⟩ = some (.int .u64 a0_2) := (blk_cell BK170.out 2).trans rfl; have hcz11_3 : w10.cell? ⟨gb170, 3, none⟩ = some (.int .u64 a0_3) := (blk_cell BK170.out 3).trans rfl; have hcz11_4 : w10.cell? ⟨gb170, 4, none⟩ = some (.bool a0_4) := (blk_cell BK170.out 4).trans rfl; have hcz11_5 : w10.cell? ⟨gb170, 5, none⟩ = some (.bool a0_5) := (blk_cell BK170.out 5).trans rfl; have hcz11_6 : w10.cell? ⟨gb170, 6, none⟩ = some (.bool a0_6) := (blk_cell BK170.out 6).trans rfl; have hcz11_7 : w10.cell? ⟨gb170, 7, none⟩ = some (.bool a0_7) := (blk_cell BK170.out 7).trans rfl; have hcz11_8 : w10.cell? ⟨gb170, 8, none⟩ = some (.bool a0_8) := (blk_cell BK170.out 8).trans rfl; have hcz11_9 : w10.cell? ⟨gb170, 9, none⟩ = some (.bool a0_9) := (blk_cell BK170.out 9).trans rfl; have hcz11_10 : w10.cell? ⟨gb170, 10, none⟩ = some (.bool a0_10) := (blk_cell BK170.out 10).trans rfl; have hfz11_0 := blk_frozen BK170.out 0; have hfz11_1 := blk_frozen BK170.out 1; have hfz11_2 := blk_frozen BK170.out 2; have hfz11_3 := blk_frozen BK170.out 3; have hfz11_4 := blk_frozen BK170.out 4; have hfz11_5 := blk_frozen BK170.out 5; have hfz11_6 := blk_frozen BK170.out 6; have hfz11_7 := blk_frozen BK170.out 7; have hfz11_8 := blk_frozen BK170.out 8; have hfz11_9 := blk_frozen BK170.out 9; have hfz11_10 := blk_frozen BK170.out 10) | ((with_reducible refine gate_callee (f := 13) rfl ?_); refine goesL_ (some 16) rfl rfl Try.func13 (by kernel_rfl) rfl #[.agg #[.int .i64 a0_0, .int .i64 a0_1, .int .u64 a0_2, .int .u64 a0_3, .bool a0_4, .bool a0_5, .bool a0_6, .bool a0_7, .bool a0_8, .bool a0_9, .bool a0_10]] rfl (by (try simp only [List.map_toArray, List.map_cons, List.map_nil]); first | done | rfl | (simp only [List.length_drop, List.length_take]; rfl)) ?_; (with_reducible refine (lookasideref03_Good.calls k a0_0 a0_1 a0_2 a0_3 a0_4 a0_5 a0_6 a0_7 a0_8 a0_9 a0_10 t171 t172 t173 t174 t175 t176 t177 t178 t179 t180 t181 _ A4.out).mono ?_); rintro e w12 ⟨rfl, hb⟩; refine ⟨_, rfl, ?_⟩; have n0_ := Aside0.mk (bb10_ hb BK170.out); have n1_ := Aside0.mk (below_step (by repeat (first | (with_reducible first | exact HB.out | apply below_alloc | apply pw_below_drewN | apply below_drew1 | refine below_set ?_ GE170.out) | exact HB.out)) hb); clear BK170; clear HB; have BK170 := n0_; have HB := n1_; clear n0_ n1_; (try clear hb); (try clear hb2); (try clear hk); (try clear hi)) | ((with_reducible refine gate_dst (N := 7) rfl ?_); refine box_event ?hg (N := 7) ?hd (cs := #[.int .i64 0, .int .i64 0, .int .u64 0, .int .u64 0, .bool false, .bool false, .bool false, .bool false, .bool false, .bool false, .bool false]) (t := 26) ?hr ?_; (case hd => rfl); (case hg => rfl); (case hr => first | (go_simp; done) | (go_simp; rfl)); intro gb182 hg w13 hbox hb; have n0_ := Aside0.mk (bb10_ hb BK170.out); have n1_ := Aside0.mk (below_step (by repeat (first | (with_reducible first | exact HB.out | apply below_alloc | apply pw_below_drewN | apply below_drew1 | refine below_set ?_ GE170.out) | exact HB.out)) hb); have n2_ := Aside0.mk (hbox); have n3_ := Aside0.mk ((by rw [hg]; exact (below_size (by repeat (first | (with_reducible first | exact HB.out | apply below_alloc | apply pw_below_drewN | apply below_drew1 | refine below_set ?_ GE170.out) | exact HB.out))) : w.heap.size ≤ gb182)); have n4_ := Aside0.mk ((by rw [hg]; exact (below_size (by repeat (first | (with_reducible first | exact HB.out | apply below_alloc | apply pw_below_drewN | apply below_drew1 | refine below_set ?_ GE170.out) | exact HB.out))) : w.heap.size ≤ gb182)); have n5_ := Aside0.mk ((by rw [hg]; exact Nat.ne_of_lt (blk_lt BK170.out) : gb170 ≠ gb182)); have n6_ := Aside0.mk ((by rw [hg]; exact Nat.ne_of_gt (blk_lt BK170.out) : gb182 ≠ gb170)); clear BK170; clear HB; have BK170 := n0_; have HB := n1_; have BK182 := n2_; have GW182 := n3_; have GE182 := n4_; have NB170_182 := n5_; have NB182_170 := n6_; clear n0_ n1_ n2_ n3_ n4_ n5_ n6_; clear hb hbox hg; have hnb14 := NB182_170.out; have hnc14 := NB170_182.out; have hcz15_0 : w13.cell? ⟨gb182, 0, none⟩ = some (.int .i64 0) := (blk_cell BK182.out 0).trans rfl; have hcz15_1 : w13.cell? ⟨gb182, 1, none⟩ = some (.int .i64 0) := (blk_cell BK182.out 1).trans rfl; have hcz15_2 : w13.cell? ⟨gb182, 2, none⟩ = some (.int .u64 0) := (blk_cell BK182.out 2).trans rfl; have hcz15_3 : w13.cell? ⟨gb182, 3, none⟩ = some (.int .u64 0) := (blk_cell BK182.out 3).trans rfl; have hcz15_4 : w13.cell? ⟨gb182, 4, none⟩ = some (.bool false) := (blk_cell BK182.out 4).trans rfl; have hcz15_5 : w13.cell? ⟨gb182, 5, none⟩ = some (.bool false) := (blk_cell BK182.out 5).trans rfl; have hcz15_6 : w13.cell? ⟨gb182, 6, none⟩ = some (.bool false) := (blk_cell BK182.out 6).trans rfl; have hcz15_7 : w13.cell? ⟨gb182, 7, none⟩ = some (.bool false) := (blk_cell BK182.out 7).trans rfl; have hcz15_8 : w13.cell? ⟨gb182, 8, none⟩ = some (.bool false) := (blk_cell BK182.out 8).trans rfl; have hcz15_9 : w13.cell? ⟨gb182, 9, none⟩ = some (.bool false) := (blk_cell BK182.out 9).trans rfl; have hcz15_10 : w13.cell? ⟨gb182, 10, none⟩ = some (.bool false) := (blk_cell BK182.out 10).trans rfl; have hfz15_0 := blk_frozen BK182.out 0; have hfz15_1 := blk_frozen BK182.out 1; have hfz15_2 := blk_frozen BK182.out 2; have hfz15_3 := blk_frozen BK182.out 3; have hfz15_4 := blk_frozen BK182.out 4; have hfz15_5 := blk_frozen BK182.out 5; have hfz15_6 := blk_frozen BK182.out 6; have hfz15_7 := blk_frozen BK182.out 7; have hfz15_8 := blk_frozen BK182.out 8; have hfz15_9 := blk_frozen BK182.out 9; have hfz15_10 := blk_frozen BK182.out 10))
  have n0_ : Aside0 ((((((((((((w13.setCell ⟨gb182, 0, none⟩ (.int .i64 t171)).setCell ⟨gb182, 1, none⟩ (.int .i64 t172)).setCell ⟨gb182, 2, none⟩ (.int .u64 t173)).setCell ⟨gb182, 3, none⟩ (.int .u64 t174)).setCell ⟨gb182, 4, none⟩ (.bool t175)).setCell ⟨gb182, 5, none⟩ (.bool t176)).setCell ⟨gb182, 6, none⟩ (.bool t177)).setCell ⟨gb182, 7, none⟩ (.bool t178)).setCell ⟨gb182, 8, none⟩ (.bool t179)).setCell ⟨gb182, 9, none⟩ (.bool t180)).setCell ⟨gb182, 10, none⟩ (.bool t181)).heap[gb170]? = some (.cells #[.int .i64 a0_0, .int .i64 a0_1, .int .u64 a0_2, .int .u64 a0_3, .bool a0_4, .bool a0_5, .bool a0_6, .bool a0_7, .bool a0_8, .bool a0_9, .bool a0_10] 26 (0, 0))) := ⟨by (with_reducible repeat (first | refine blk_drewN ?_ _ | refine blk_drew ?_ | refine blk_alloc ?_ _)); refine blk_far ?_ NB170_182.out _; refine blk_far ?_ NB170_182.out _; refine blk_far ?_ NB170_182.out _; refine blk_far ?_ NB170_182.out _; refine blk_far ?_ NB170_182.out _; refine blk_far ?_ NB170_182.out _; refine blk_far ?_ NB170_182.out _; refine blk_far ?_ NB170_182.out _; refine blk_far ?_ NB170_182.out _; refine blk_far ?_ NB170_182.out _; refine blk_far ?_ NB170_182.out _; (with_reducible repeat (first | refine blk_drewN ?_ _ | refine blk_drew ?_ | refine blk_alloc ?_ _)); exact BK170.out⟩
  have n1_ : Aside0 ((((((((((((w13.setCell ⟨gb182, 0, none⟩ (.int .i64 t171)).setCell ⟨gb182, 1, none⟩ (.int .i64 t172)).setCell ⟨gb182, 2, none⟩ (.int .u64 t173)).setCell ⟨gb182, 3, none⟩ (.int .u64 t174)).setCell ⟨gb182, 4, none⟩ (.bool t175)).setCell ⟨gb182, 5, none⟩ (.bool t176)).setCell ⟨gb182, 6, none⟩ (.bool t177)).setCell ⟨gb182, 7, none⟩ (.bool t178)).setCell ⟨gb182, 8, none⟩ (.bool t179)).setCell ⟨gb182, 9, none⟩ (.bool t180)).setCell ⟨gb182, 10, none⟩ (.bool t181)).heap[gb182]? = some (.cells #[.int .i64 t171, .int .i64 t172, .int .u64 t173, .int .u64 t174, .bool t175, .bool t176, .bool t177, .bool t178, .bool t179, .bool t180, .bool t181] 26 (0, 0))) := ⟨by (with_reducible repeat (first | refine blk_drewN ?_ _ | refine blk_drew ?_ | refine blk_alloc ?_ _)); refine blk_put (cs := #[.int .i64 t171, .int .i64 t172, .int .u64 t173, .int .u64 t174, .bool t175, .bool t176, .bool t177, .bool t178, .bool t179, .bool t180, .bool false]) ?_ 10 _ rfl; refine blk_put (cs := #[.int .i64 t171, .int .i64 t172, .int .u64 t173, .int .u64 t174, .bool t175, .bool t176, .bool t177, .bool t178, .bool t179, .bool false, .bool false]) ?_ 9 _ rfl; refine blk_put (cs := #[.int .i64 t171, .int .i64 t172, .int .u64 t173, .int .u64 t174, .bool t175, .bool t176, .bool t177, .bool t178, .bool false, .bool false, .bool false]) ?_ 8 _ rfl; refine blk_put (cs := #[.int .i64 t171, .int .i64 t172, .int .u64 t173, .int .u64 t174, .bool t175, .bool t176, .bool t177, .bool false, .bool false, .bool false, .bool false]) ?_ 7 _ rfl; refine blk_put (cs := #[.int .i64 t171, .int .i64 t172, .int .u64 t173, .int .u64 t174, .bool t175, .bool t176, .bool false, .bool false, .bool false, .bool false, .bool false]) ?_ 6 _ rfl; refine blk_put (cs := #[.int .i64 t171, .int .i64 t172, .int .u64 t173, .int .u64 t174, .bool t175, .bool false, .bool false, .bool false, .bool false, .bool false, .bool false]) ?_ 5 _ rfl; refine blk_put (cs := #[.int .i64 t171, .int .i64 t172, .int .u64 t173, .int .u64 t174, .bool false, .bool false, .bool false, .bool false, .bool false, .bool false, .bool false]) ?_ 4 _ rfl; refine blk_put (cs := #[.int .i64 t171, .int .i64 t172, .int .u64 t173, .int .u64 0, .bool false, .bool false, .bool false, .bool false, .bool false, .bool false, .bool false]) ?_ 3 _ rfl; refine blk_put (cs := #[.int .i64 t171, .int .i64 t172, .int .u64 0, .int .u64 0, .bool false, .bool false, .bool false, .bool false, .bool false, .bool false, .bool false]) ?_ 2 _ rfl; refine blk_put (cs := #[.int .i64 t171, .int .i64 0, .int .u64 0, .int .u64 0, .bool false, .bool false, .bool false, .bool false, .bool false, .bool false, .bool false]) ?_ 1 _ rfl; refine blk_put (cs := #[.int .i64 0, .int .i64 0, .int .u64 0, .int .u64 0, .bool false, .bool false, .bool false, .bool false, .bool false, .bool false, .bool false]) ?_ 0 _ rfl; (with_reducible repeat (first | refine blk_drewN ?_ _ | refine blk_drew ?_ | refine blk_alloc ?_ _)); exact BK182.out⟩
  have n2_ : Aside0 (Below w.heap.size w (((((((((((w13.setCell ⟨gb182, 0, none⟩ (.int .i64 t171)).setCell ⟨gb182, 1, none⟩ (.int .i64 t172)).setCell ⟨gb182, 2, none⟩ (.int .u64 t173)).setCell ⟨gb182, 3, none⟩ (.int .u64 t174)).setCell ⟨gb182, 4, none⟩ (.bool t175)).setCell ⟨gb182, 5, none⟩ (.bool t176)).setCell ⟨gb182, 6, none⟩ (.bool t177)).setCell ⟨gb182, 7, none⟩ (.bool t178)).setCell ⟨gb182, 8, none⟩ (.bool t179)).setCell ⟨gb182, 9, none⟩ (.bool t180)).setCell ⟨gb182, 10, none⟩ (.bool t181))) := ⟨by repeat (first | (with_reducible first | exact HB.out | apply below_alloc | apply pw_below_drewN | apply below_drew1 | refine below_set ?_ GE170.out | refine below_set ?_ GE182.out) | exact HB.out)⟩
  (try clear BK170)
  (try clear BK182)
  (try clear HB)
  generalize (((((((((((w13.setCell ⟨gb182, 0, none⟩ (.int .i64 t171)).setCell ⟨gb182, 1, none⟩ (.int .i64 t172)).setCell ⟨gb182, 2, none⟩ (.int .u64 t173)).setCell ⟨gb182, 3, none⟩ (.int .u64 t174)).setCell ⟨gb182, 4, none⟩ (.bool t175)).setCell ⟨gb182, 5, none⟩ (.bool t176)).setCell ⟨gb182, 6, none⟩ (.bool t177)).setCell ⟨gb182, 7, none⟩ (.bool t178)).setCell ⟨gb182, 8, none⟩ (.bool t179)).setCell ⟨gb182, 9, none⟩ (.bool t180)).setCell ⟨gb182, 10, none⟩ (.bool t181)) = w16 at n0_ n1_ n2_ ⊢
  have BK170 := n0_
  have BK182 := n1_
  have HB := n2_
  clear n0_ n1_ n2_
  have n0_ := Aside0.mk (blk_drew BK170.out)
  have n1_ := Aside0.mk (blk_drew BK182.out)
  have n2_ := Aside0.mk (below_drew1 HB.out)
  clear BK170
  clear BK182
  clear HB
  have BK170 := n0_
  have BK182 := n1_
  have HB := n2_
  clear n0_ n1_ n2_
  refine start_ (n := 8) (S := fun w' => w'.cell? ⟨gb182, 0, none⟩ = some (.int .i64 t171) ∧ w'.cell? ⟨gb182, 1, none⟩ = some (.int .i64 t172) ∧ w'.cell? ⟨gb182, 2, none⟩ = some (.int .u64 t173) ∧ w'.cell? ⟨gb182, 3, none⟩ = some (.int .u64 t174) ∧ w'.cell? ⟨gb182, 4, none⟩ = some (.bool t175) ∧ w'.cell? ⟨gb182, 5, none⟩ = some (.bool t176) ∧ w'.cell? ⟨gb182, 6, none⟩ = some (.bool t177) ∧ w'.cell? ⟨gb182, 7, none⟩ = some (.bool t178) ∧ w'.cell? ⟨gb182, 8, none⟩ = some (.bool t179) ∧ w'.cell? ⟨gb182, 9, none⟩ = some (.bool t180) ∧ w'.cell? ⟨gb182, 10, none⟩ = some (.bool t181)) (ds := []) #[false, false, false, false, false, false, false, false] (by kernel_rfl) rfl rfl (cz11_10 BK182.out) (fun hHeld => ?_); refine with_tabW lookasidelaw03_TteRound.tab2 lookasidelaw03_TteRound.bits2 (fun HT_ HW_ => ?_)
  generalize w16.drew = w17 at BK170 BK182 HB hHeld ⊢
  refine pure_ (i := 0) (N := some 17) (v := ?_) (a' := ?_) #[true, false, false, false, false, false, false, false] rfl rfl (any_of HT_.out (by kernel_rfl)) (fun _ _ _ h => h) (Or.inl ⟨by rfl, ?_⟩) ?_ ?_
  rotate_left
  · intro w'
    go_simp
    with_reducible rfl
  rotate_left
  · simp only [Act.put, List.setIfInBounds_toArray, List.set_cons_zero, List.set_cons_succ, i64_w, i32_w]
    rfl
  refine pure_ (i := 2) (N := some 19) (v := ?_) (a' := ?_) #[true, false, true, false, false, false, false, false] rfl rfl (any_of HT_.out (by kernel_rfl)) (fun _ _ _ h => h) (Or.inl ⟨by rfl, ?_⟩) ?_ ?_
  rotate_left
  · intro w'
    go_simp
    with_reducible rfl
  rotate_left
  · simp only [Act.put, List.setIfInBounds_toArray, List.set_cons_zero, List.set_cons_succ, i64_w, i32_w]
    rfl
  refine pure_ (i := 3) (N := some 20) (v := ?_) (a' := ?_) #[true, false, true, true, false, false, false, false] rfl rfl (any_of HT_.out (by kernel_rfl)) (fun _ _ _ h => h) (Or.inl ⟨by rfl, ?_⟩) ?_ ?_
  rotate_left
  · intro w'
    go_simp
    with_reducible rfl
  rotate_left
  · simp only [Act.put, List.setIfInBounds_toArray, List.set_cons_zero, List.set_cons_succ, i64_w, i32_w]
    rfl
  refine take_ (i := 1) (N := some 18) (v := ?_) (a' := ?_) #[true, true, true, true, false, false, false, false] rfl rfl (take_ofW HT_.out HW_.out (by kernel_rfl)) (fun _ _ _ h => h) (Or.inl ⟨by rfl, ?_⟩) hHeld ?_ ?_
  rotate_left
  · rintro w' ⟨s0, s1, s2, s3, s4, s5, s6, s7, s8, s9, s10⟩
    go_simp
    with_reducible rfl
  rotate_left
  · simp only [Act.put, List.setIfInBounds_toArray, List.set_cons_zero, List.set_cons_succ, i64_w, i32_w]
    rfl
  refine take_ (i := 4) (N := some 21) (v := ?_) (a' := ?_) #[true, true, true, true, true, false, false, false] rfl rfl (take_ofW HT_.out HW_.out (by kernel_rfl)) (fun _ _ _ h => h) (Or.inl ⟨by rfl, ?_⟩) hHeld ?_ ?_
  rotate_left
  · rintro w' ⟨s0, s1, s2, s3, s4, s5, s6, s7, s8, s9, s10⟩
    go_simp
    with_reducible rfl
  rotate_left
  · simp only [Act.put, List.setIfInBounds_toArray, List.set_cons_zero, List.set_cons_succ, i64_w, i32_w]
    rfl
  refine one_ (i := 5) (N := some 22) #[true, true, true, true, true, true, false, false] rfl rfl (one_of HT_.out (by kernel_rfl)) (by decide) (fun K hK => ?_)
  refine goes_ Try.func18 (by kernel_rfl) rfl #[.int .u64 a1, .int .i64 t171] (by rfl) rfl rfl (by (try simp only [List.map_toArray, List.map_cons, List.map_nil]); first | done | rfl | (simp only [List.length_drop, List.length_take]; rfl)) ?_
  with_reducible refine (lookasideref02_Offset.calls a1 t171 t183 _ A5.out).mono ?_
  rintro e w' ⟨rfl, ⟨nd, rfl⟩⟩
  refine ⟨_, rfl, ?_⟩
  refine hK.out _ _ (cz11_10 BK182.out) (fun hHeld => ?_)
  clear hK K
  refine norm_ (a' := ?_) ?_ ?_
  rotate_left
  · show Act.put _ (some 22) _ = _
    simp only [Act.put, List.setIfInBounds_toArray, List.set_cons_zero, List.set_cons_succ, i64_w, i32_w]
    rfl
  refine pure_ (i := 6) (N := some 23) (v := ?_) (a' := ?_) #[true, true, true, true, true, true, true, false] rfl rfl (any_of HT_.out (by kernel_rfl)) (fun _ _ _ h => h) (Or.inl ⟨by rfl, ?_⟩) ?_ ?_
  rotate_left
  · intro w'
    go_simp
    with_reducible rfl
  rotate_left
  · simp only [Act.put, List.setIfInBounds_toArray, List.set_cons_zero, List.set_cons_succ, i64_w, i32_w]
    rfl
  refine pure_ (i := 7) (N := some 8) (v := ?_) (a' := ?_) #[true, true, true, true, true, true, true, true] rfl rfl (any_of HT_.out (by kernel_rfl)) (fun _ _ _ h => h) (Or.inl ⟨by rfl, ?_⟩) ?_ ?_
  rotate_left
  · intro w'
    go_simp
    with_reducible rfl
  rotate_left
  · simp only [Act.put, List.setIfInBounds_toArray, List.set_cons_zero, List.set_cons_succ, i64_w, i32_w]
    rfl
  refine done_ (done_of HT_.out (by kernel_rfl)) ?_
  try go_wp2
  (try (rw [drewN_self w17]; generalize hq_ : World.drewN w17 _ = w17; have n0_ : Aside0 (w17.heap[gb170]? = some (.cells #[.int .i64 a0_0, .int .i64 a0_1, .int .u64 a0_2, .int .u64 a0_3, .bool a0_4, .bool a0_5, .bool a0_6, .bool a0_7, .bool a0_8, .bool a0_9, .bool a0_10] 26 (0, 0))) := ⟨by rw [← hq_]; exact (by (with_reducible repeat (first | refine blk_drewN ?_ _ | refine blk_drew ?_ | refine blk_alloc ?_ _)); exact BK170.out)⟩; have n1_ : Aside0 (w17.heap[gb182]? = some (.cells #[.int .i64 t171, .int .i64 t172, .int .u64 t173, .int .u64 t174, .bool t175, .bool t176, .bool t177, .bool t178, .bool t179, .bool t180, .bool t181] 26 (0, 0))) := ⟨by rw [← hq_]; exact (by (with_reducible repeat (first | refine blk_drewN ?_ _ | refine blk_drew ?_ | refine blk_alloc ?_ _)); exact BK182.out)⟩; have n2_ : Aside0 (Below w.heap.size w w17) := ⟨by rw [← hq_]; exact (by repeat (first | (with_reducible first | exact HB.out | apply below_alloc | apply pw_below_drewN | apply below_drew1 | refine below_set ?_ GE170.out | refine below_set ?_ GE182.out) | exact HB.out))⟩; clear BK170 BK182 HB hq_; have BK170 := n0_; have BK182 := n1_; have HB := n2_; clear n0_ n1_ n2_))
  have n0_ := Aside0.mk (blk_drew BK170.out)
  have n1_ := Aside0.mk (blk_drew BK182.out)
  have n2_ := Aside0.mk (below_drew1 HB.out)
  clear BK170
  clear BK182
  clear HB
  have BK170 := n0_
  have BK182 := n1_
  have HB := n2_
  clear n0_ n1_ n2_
  refine start_ (n := 12) (S := fun w' => w'.cell? ⟨gb182, 0, none⟩ = some (.int .i64 t171) ∧ w'.cell? ⟨gb182, 1, none⟩ = some (.int .i64 t172) ∧ w'.cell? ⟨gb182, 2, none⟩ = some (.int .u64 t173) ∧ w'.cell? ⟨gb182, 3, none⟩ = some (.int .u64 t174) ∧ w'.cell? ⟨gb182, 4, none⟩ = some (.bool t175) ∧ w'.cell? ⟨gb182, 5, none⟩ = some (.bool t176) ∧ w'.cell? ⟨gb182, 6, none⟩ = some (.bool t177) ∧ w'.cell? ⟨gb182, 7, none⟩ = some (.bool t178) ∧ w'.cell? ⟨gb182, 8, none⟩ = some (.bool t179) ∧ w'.cell? ⟨gb182, 9, none⟩ = some (.bool t180) ∧ w'.cell? ⟨gb182, 10, none⟩ = some (.bool t181)) (ds := []) #[false, false, false, false, false, false, false, false, false, false, false, false] (by kernel_rfl) rfl rfl (cz11_10 BK182.out) (fun hHeld => ?_); refine with_tabW lookasidelaw03_TteRound.tab3 lookasidelaw03_TteRound.bits3 (fun HT_ HW_ => ?_)
  generalize w17.drew = w18 at BK170 BK182 HB hHeld ⊢
  refine pure_ (i := 4) (N := some 29) (v := ?_) (a' := ?_) #[false, false, false, false, true, false, false, false, false, false, false, false] rfl rfl (any_of HT_.out (by kernel_rfl)) (fun _ _ _ h => h) (Or.inl ⟨by rfl, ?_⟩) ?_ ?_
  rotate_left
  · intro w'
    go_simp
    with_reducible rfl
  rotate_left
  · simp only [Act.put, List.setIfInBounds_toArray, List.set_cons_zero, List.set_cons_succ, i64_w, i32_w]
    rfl
  refine take_ (i := 0) (N := some 25) (v := ?_) (a' := ?_) #[true, false, false, false, true, false, false, false, false, false, false, false] rfl rfl (take_ofW HT_.out HW_.out (by kernel_rfl)) (fun _ _ _ h => h) (Or.inl ⟨by rfl, ?_⟩) hHeld ?_ ?_
  rotate_left
  · rintro w' ⟨s0, s1, s2, s3, s4, s5, s6, s7, s8, s9, s10⟩
    go_simp
    with_reducible rfl
  rotate_left
  · simp only [Act.put, List.setIfInBounds_toArray, List.set_cons_zero, List.set_cons_succ, i64_w, i32_w]
    rfl
  refine take_ (i := 2) (N := some 27) (v := ?_) (a' := ?_) #[true, false, true, false, true, false, false, false, false, false, false, false] rfl rfl (take_ofW HT_.out HW_.out (by kernel_rfl)) (fun _ _ _ h => h) (Or.inl ⟨by rfl, ?_⟩) hHeld ?_ ?_
  rotate_left
  · rintro w' ⟨s0, s1, s2, s3, s4, s5, s6, s7, s8, s9, s10⟩
    go_simp
    with_reducible rfl
  rotate_left
  · simp only [Act.put, List.setIfInBounds_toArray, List.set_cons_zero, List.set_cons_succ, i64_w, i32_w]
    rfl
  refine join_ (σ := Nat) 2 #[true, true, true, true, true, true, true, true, true, true, false, false] (fun s_ => [(26, .int .u64 t184), (28, .int .u64 t185), (30, .tuple #[.agg #[.int .i64 t186, .int .i64 t187, .int .u64 t188, .int .u64 t189, .bool t190, .bool t191, .bool t192, .bool t193, .bool t194, .bool t195, .bool t196], .int .i64 t197]), (9, .pointer (some ⟨s_, 0, none⟩)), (24, .tuple #[.agg #[.int .i64 t186, .int .i64 t187, .int .u64 t188, .int .u64 t189, .bool t190, .bool t191, .bool t192, .bool t193, .bool t194, .bool t195, .bool t196], .int .i64 t197]), (31, .agg #[.int .i64 t186, .int .i64 t187, .int .u64 t188, .int .u64 t189, .bool t190, .bool t191, .bool t192, .bool t193, .bool t194, .bool t195, .bool t196]), (32, .int .i64 t197)]) (fun s_ w' => (w'.cell? ⟨gb182, 0, none⟩ = some (.int .i64 t171) ∧ w'.cell? ⟨gb182, 1, none⟩ = some (.int .i64 t172) ∧ w'.cell? ⟨gb182, 2, none⟩ = some (.int .u64 t173) ∧ w'.cell? ⟨gb182, 3, none⟩ = some (.int .u64 t174) ∧ w'.cell? ⟨gb182, 4, none⟩ = some (.bool t175) ∧ w'.cell? ⟨gb182, 5, none⟩ = some (.bool t176) ∧ w'.cell? ⟨gb182, 6, none⟩ = some (.bool t177) ∧ w'.cell? ⟨gb182, 7, none⟩ = some (.bool t178) ∧ w'.cell? ⟨gb182, 8, none⟩ = some (.bool t179) ∧ w'.cell? ⟨gb182, 9, none⟩ = some (.bool t180) ∧ w'.cell? ⟨gb182, 10, none⟩ = some (.bool t181)) ∧ (w'.heap[gb170]? = some (.cells #[.int .i64 a0_0, .int .i64 a0_1, .int .u64 a0_2, .int .u64 a0_3, .bool a0_4, .bool a0_5, .bool a0_6, .bool a0_7, .bool a0_8, .bool a0_9, .bool a0_10] 26 (0, 0))) ∧ (w'.heap[gb182]? = some (.cells #[.int .i64 t171, .int .i64 t172, .int .u64 t173, .int .u64 t174, .bool t175, .bool t176, .bool t177, .bool t178, .bool t179, .bool t180, .bool t181] 26 (0, 0))) ∧ (w'.heap[s_]? = some (.cells #[.int .i64 0, .int .i64 0, .int .u64 0, .int .u64 0, .bool false, .bool false, .bool false, .bool false, .bool false, .bool false, .bool false] 26 (0, 0))) ∧ (w.heap.size ≤ s_) ∧ (w.heap.size ≤ s_) ∧ (gb170 ≠ s_) ∧ (s_ ≠ gb170) ∧ (gb182 ≠ s_) ∧ (s_ ≠ gb182) ∧ (Below w.heap.size w w')) ?_ ?_
  rotate_left
  · intro hCont
    refine two_ (i := 1) (j := 9) (Ni := some 26) (Nj := some 9) #[true, true, true, false, true, false, false, false, false, false, false, false] #[true, false, true, false, true, false, false, false, false, true, false, false] rfl rfl rfl rfl (two_of HT_.out (by kernel_rfl)) (by decide) (by decide) (fun K hK => ?_) (fun K hK => ?_)
    · skip
      refine goes_ Try.func14 (by kernel_rfl) rfl #[.agg #[.int .i64 t171, .int .i64 t172, .int .u64 t173, .int .u64 t174, .bool t175, .bool t176, .bool t177, .bool t178, .bool t179, .bool t180, .bool t181]] (by rfl) rfl rfl (by (try simp only [List.map_toArray, List.map_cons, List.map_nil]); first | done | rfl | (simp only [List.length_drop, List.length_take]; rfl)) ?_
      with_reducible refine (tte_Tag.calls t171 t172 t173 t174 t175 t176 t177 t178 t179 t180 t181 t184 _ A6.out).mono ?_
      rintro e w19 ⟨rfl, hb⟩
      refine ⟨_, rfl, ?_⟩
      have n0_ := Aside0.mk (bb10_ hb BK170.out)
      have n1_ := Aside0.mk (bb10_ hb BK182.out)
      have n2_ := Aside0.mk (below_step (by repeat (first | (with_reducible first | exact HB.out | apply below_alloc | apply pw_below_drewN | apply below_drew1 | refine below_set ?_ GE170.out | refine below_set ?_ GE182.out) | exact HB.out)) hb)
      clear BK170
      clear BK182
      clear HB
      have BK170 := n0_
      have BK182 := n1_
      have HB := n2_
      clear n0_ n1_ n2_
      (try clear hb)
      (try clear hb2)
      (try clear hk)
      (try clear hi)
      refine hK.out _ _ (cz11_10 BK182.out) (fun hHeld => ?_)
      clear hK K
      refine norm_ (a' := ?_) ?_ ?_
      rotate_left
      · show Act.put _ (some 26) _ = _
        simp only [Act.put, List.setIfInBounds_toArray, List.set_cons_zero, List.set_cons_succ, i64_w, i32_w]
        rfl
      refine two_ (i := 3) (j := 9) (Ni := some 28) (Nj := some 9) #[true, true, true, true, true, false, false, false, false, false, false, false] #[true, true, true, false, true, false, false, false, false, true, false, false] rfl rfl rfl rfl (two_of HT_.out (by kernel_rfl)) (by decide) (by decide) (fun K hK => ?_) (fun K hK => ?_)
      · skip
        refine goes_ Try.func15 (by kernel_rfl) rfl #[.agg #[.int .i64 t171, .int .i64 t172, .int .u64 t173, .int .u64 t174, .bool t175, .bool t176, .bool t177, .bool t178, .bool t179, .bool t180, .bool t181]] (by rfl) rfl rfl (by (try simp only [List.map_toArray, List.map_cons, List.map_nil]); first | done | rfl | (simp only [List.length_drop, List.length_take]; rfl)) ?_
        with_reducible refine (tte_Data.calls t171 t172 t173 t174 t175 t176 t177 t178 t179 t180 t181 t185 _ A7.out).mono ?_
        rintro e w20 ⟨rfl, hb⟩
        refine ⟨_, rfl, ?_⟩
        have n0_ := Aside0.mk (bb10_ hb BK170.out)
        have n1_ := Aside0.mk (bb10_ hb BK182.out)
        have n2_ := Aside0.mk (below_step (by repeat (first | (with_reducible first | exact HB.out | apply below_alloc | apply pw_below_drewN | apply below_drew1 | refine below_set ?_ GE170.out | refine below_set ?_ GE182.out) | exact HB.out)) hb)
        clear BK170
        clear BK182
        clear HB
        have BK170 := n0_
        have BK182 := n1_
        have HB := n2_
        clear n0_ n1_ n2_
        (try clear hb)
        (try clear hb2)
        (try clear hk)
        (try clear hi)
        refine hK.out _ _ (cz11_10 BK182.out) (fun hHeld => ?_)
        clear hK K
        refine norm_ (a' := ?_) ?_ ?_
        rotate_left
        · show Act.put _ (some 28) _ = _
          simp only [Act.put, List.setIfInBounds_toArray, List.set_cons_zero, List.set_cons_succ, i64_w, i32_w]
          rfl
        refine two_ (i := 5) (j := 9) (Ni := some 30) (Nj := some 9) #[true, true, true, true, true, true, false, false, false, false, false, false] #[true, true, true, true, true, false, false, false, false, true, false, false] rfl rfl rfl rfl (two_of HT_.out (by kernel_rfl)) (by decide) (by decide) (fun K hK => ?_) (fun K hK => ?_)
        · skip
          refine goes_ Try.func32 (by kernel_rfl) rfl #[.int .u64 t184, .int .u64 t185, .int .u64 (IntKind.u64.wrap (t173 + t183))] (by rfl) rfl rfl (by (try simp only [List.map_toArray, List.map_cons, List.map_nil]); first | done | rfl | (simp only [List.length_drop, List.length_take]; rfl)) ?_
          with_reducible refine (tte_Read.calls k t184 t185 (IntKind.u64.wrap (t173 + t183)) t186 t187 t188 t189 t190 t191 t192 t193 t194 t195 t196 t197 _ A8.out).mono ?_
          rintro e w21 ⟨rfl, hb⟩
          refine ⟨_, rfl, ?_⟩
          have n0_ := Aside0.mk (bb10_ hb BK170.out)
          have n1_ := Aside0.mk (bb10_ hb BK182.out)
          have n2_ := Aside0.mk (below_step (by repeat (first | (with_reducible first | exact HB.out | apply below_alloc | apply pw_below_drewN | apply below_drew1 | refine below_set ?_ GE170.out | refine below_set ?_ GE182.out) | exact HB.out)) hb)
          clear BK170
          clear BK182
          clear HB
          have BK170 := n0_
          have BK182 := n1_
          have HB := n2_
          clear n0_ n1_ n2_
          (try clear hb)
          (try clear hb2)
          (try clear hk)
          (try clear hi)
          refine hK.out _ _ (cz11_10 BK182.out) (fun hHeld => ?_)
          clear hK K
          refine norm_ (a' := ?_) ?_ ?_
          rotate_left
          · show Act.put _ (some 30) _ = _
            simp only [Act.put, List.setIfInBounds_toArray, List.set_cons_zero, List.set_cons_succ, i64_w, i32_w]
            rfl
          refine pure_ (i := 6) (N := some 24) (v := ?_) (a' := ?_) #[true, true, true, true, true, true, true, false, false, false, false, false] rfl rfl (any_of HT_.out (by kernel_rfl)) (fun _ _ _ h => h) (Or.inl ⟨by rfl, ?_⟩) ?_ ?_
          rotate_left
          · intro w'
            go_simp
            with_reducible rfl
          rotate_left
          · simp only [Act.put, List.setIfInBounds_toArray, List.set_cons_zero, List.set_cons_succ, i64_w, i32_w]
            rfl
          refine pure_ (i := 7) (N := some 31) (v := ?_) (a' := ?_) #[true, true, true, true, true, true, true, true, false, false, false, false] rfl rfl (any_of HT_.out (by kernel_rfl)) (fun _ _ _ h => h) (Or.inl ⟨by rfl, ?_⟩) ?_ ?_
          rotate_left
          · intro w'
            go_simp
            with_reducible rfl
          rotate_left
          · simp only [Act.put, List.setIfInBounds_toArray, List.set_cons_zero, List.set_cons_succ, i64_w, i32_w]
            rfl
          refine pure_ (i := 8) (N := some 32) (v := ?_) (a' := ?_) #[true, true, true, true, true, true, true, true, true, false, false, false] rfl rfl (any_of HT_.out (by kernel_rfl)) (fun _ _ _ h => h) (Or.inl ⟨by rfl, ?_⟩) ?_ ?_
          rotate_left
          · intro w'
            go_simp
            with_reducible rfl
          rotate_left
          · simp only [Act.put, List.setIfInBounds_toArray, List.set_cons_zero, List.set_cons_succ, i64_w, i32_w]
            rfl
          refine one_ (i := 9) (N := some 9) #[true, true, true, true, true, true, true, true, true, true, false, false] rfl rfl (one_of HT_.out (by kernel_rfl)) (by decide) (fun K hK => ?_)
          refine box_step ?hg (N := 9) ?hd (cs := #[.int .i64 0, .int .i64 0, .int .u64 0, .int .u64 0, .bool false, .bool false, .bool false, .bool false, .bool false, .bool false, .bool false]) (t := 26) ?hr ?_; (case hd => rfl); (case hg => rfl); (case hr => first | (go_simp; done) | (go_simp; rfl))
          intro gb198 hg w22 hbox hb
          have n0_ := Aside0.mk (bb10_ hb BK170.out)
          have n1_ := Aside0.mk (bb10_ hb BK182.out)
          have n2_ := Aside0.mk (below_step (by repeat (first | (with_reducible first | exact HB.out | apply below_alloc | apply pw_below_drewN | apply below_drew1 | refine below_set ?_ GE170.out | refine below_set ?_ GE182.out) | exact HB.out)) hb)
          have n3_ := Aside0.mk (hbox)
          have n4_ := Aside0.mk ((by rw [hg]; exact (below_size (by repeat (first | (with_reducible first | exact HB.out | apply below_alloc | apply pw_below_drewN | apply below_drew1 | refine below_set ?_ GE170.out | refine below_set ?_ GE182.out) | exact HB.out))) : w.heap.size ≤ gb198))
          have n5_ := Aside0.mk ((by rw [hg]; exact (below_size (by repeat (first | (with_reducible first | exact HB.out | apply below_alloc | apply pw_below_drewN | apply below_drew1 | refine below_set ?_ GE170.out | refine below_set ?_ GE182.out) | exact HB.out))) : w.heap.size ≤ gb198))
          have n6_ := Aside0.mk ((by rw [hg]; exact Nat.ne_of_lt (blk_lt BK170.out) : gb170 ≠ gb198))
          have n7_ := Aside0.mk ((by rw [hg]; exact Nat.ne_of_gt (blk_lt BK170.out) : gb198 ≠ gb170))
          have n8_ := Aside0.mk ((by rw [hg]; exact Nat.ne_of_lt (blk_lt BK182.out) : gb182 ≠ gb198))
          have n9_ := Aside0.mk ((by rw [hg]; exact Nat.ne_of_gt (blk_lt BK182.out) : gb198 ≠ gb182))
          clear BK170
          clear BK182
          clear HB
          have BK170 := n0_
          have BK182 := n1_
          have HB := n2_
          have BK198 := n3_
          have GW198 := n4_
          have GE198 := n5_
          have NB170_198 := n6_
          have NB198_170 := n7_
          have NB182_198 := n8_
          have NB198_182 := n9_
          clear n0_ n1_ n2_ n3_ n4_ n5_ n6_ n7_ n8_ n9_
          clear hb hbox hg
          refine hK.out _ _ (cz11_10 BK182.out) (fun hHeld => ?_)
          clear hK K
          refine norm_ (a' := ?_) ?_ ?_
          rotate_left
          · show Act.put _ (some 9) _ = _
            simp only [Act.put, List.setIfInBounds_toArray, List.set_cons_zero, List.set_cons_succ, i64_w, i32_w]
            rfl
          exact norm_ (by simp only [putAll, Act.put, List.setIfInBounds_toArray, List.set_cons_zero, List.set_cons_succ]) (hCont (gb198) _ ⟨hHeld, (by (with_reducible repeat (first | refine blk_drewN ?_ _ | refine blk_drew ?_ | refine blk_alloc ?_ _)); exact BK170.out), (by (with_reducible repeat (first | refine blk_drewN ?_ _ | refine blk_drew ?_ | refine blk_alloc ?_ _)); exact BK182.out), (by (with_reducible repeat (first | refine blk_drewN ?_ _ | refine blk_drew ?_ | refine blk_alloc ?_ _)); exact BK198.out), GW198.out, GE198.out, NB170_198.out, NB198_170.out, NB182_198.out, NB198_182.out, (by repeat (first | (with_reducible first | exact HB.out | apply below_alloc | apply pw_below_drewN | apply below_drew1 | refine below_set ?_ GE170.out | refine below_set ?_ GE182.out | refine below_set ?_ GE198.out) | exact HB.out))⟩)
        · skip
          refine box_step ?hg (N := 9) ?hd (cs := #[.int .i64 0, .int .i64 0, .int .u64 0, .int .u64 0, .bool false, .bool false, .bool false, .bool false, .bool false, .bool false, .bool false]) (t := 26) ?hr ?_; (case hd => rfl); (case hg => rfl); (case hr => first | (go_simp; done) | (go_simp; rfl))
          intro gb198 hg w21 hbox hb
          have n0_ := Aside0.mk (bb10_ hb BK170.out)
          have n1_ := Aside0.mk (bb10_ hb BK182.out)
          have n2_ := Aside0.mk (below_step (by repeat (first | (with_reducible first | exact HB.out | apply below_alloc | apply pw_below_drewN | apply below_drew1 | refine below_set ?_ GE170.out | refine below_set ?_ GE182.out) | exact HB.out)) hb)
          have n3_ := Aside0.mk (hbox)
          have n4_ := Aside0.mk ((by rw [hg]; exact (below_size (by repeat (first | (with_reducible first | exact HB.out | apply below_alloc | apply pw_below_drewN | apply below_drew1 | refine below_set ?_ GE170.out | refine below_set ?_ GE182.out) | exact HB.out))) : w.heap.size ≤ gb198))
          have n5_ := Aside0.mk ((by rw [hg]; exact (below_size (by repeat (first | (with_reducible first | exact HB.out | apply below_alloc | apply pw_below_drewN | apply below_drew1 | refine below_set ?_ GE170.out | refine below_set ?_ GE182.out) | exact HB.out))) : w.heap.size ≤ gb198))
          have n6_ := Aside0.mk ((by rw [hg]; exact Nat.ne_of_lt (blk_lt BK170.out) : gb170 ≠ gb198))
          have n7_ := Aside0.mk ((by rw [hg]; exact Nat.ne_of_gt (blk_lt BK170.out) : gb198 ≠ gb170))
          have n8_ := Aside0.mk ((by rw [hg]; exact Nat.ne_of_lt (blk_lt BK182.out) : gb182 ≠ gb198))
          have n9_ := Aside0.mk ((by rw [hg]; exact Nat.ne_of_gt (blk_lt BK182.out) : gb198 ≠ gb182))
          clear BK170
          clear BK182
          clear HB
          have BK170 := n0_
          have BK182 := n1_
          have HB := n2_
          have BK198 := n3_
          have GW198 := n4_
          have GE198 := n5_
          have NB170_198 := n6_
          have NB198_170 := n7_
          have NB182_198 := n8_
          have NB198_182 := n9_
          clear n0_ n1_ n2_ n3_ n4_ n5_ n6_ n7_ n8_ n9_
          clear hb hbox hg
          refine hK.out _ _ (cz11_10 BK182.out) (fun hHeld => ?_)
          clear hK K
          refine norm_ (a' := ?_) ?_ ?_
          rotate_left
          · show Act.put _ (some 9) _ = _
            simp only [Act.put, List.setIfInBounds_toArray, List.set_cons_zero, List.set_cons_succ, i64_w, i32_w]
            rfl
          refine one_ (i := 5) (N := some 30) #[true, true, true, true, true, true, false, false, false, true, false, false] rfl rfl (one_of HT_.out (by kernel_rfl)) (by decide) (fun K hK => ?_)
          refine goes_ Try.func32 (by kernel_rfl) rfl #[.int .u64 t184, .int .u64 t185, .int .u64 (IntKind.u64.wrap (t173 + t183))] (by rfl) rfl rfl (by (try simp only [List.map_toArray, List.map_cons, List.map_nil]); first | done | rfl | (simp only [List.length_drop, List.length_take]; rfl)) ?_
          with_reducible refine (tte_Read.calls k t184 t185 (IntKind.u64.wrap (t173 + t183)) t186 t187 t188 t189 t190 t191 t192 t193 t194 t195 t196 t197 _ A8.out).mono ?_
          rintro e w22 ⟨rfl, hb⟩
          refine ⟨_, rfl, ?_⟩
          have n0_ := Aside0.mk (bb10_ hb BK170.out)
          have n1_ := Aside0.mk (bb10_ hb BK182.out)
          have n2_ := Aside0.mk (bb10_ hb BK198.out)
          have n3_ := Aside0.mk (below_step (by repeat (first | (with_reducible first | exact HB.out | apply below_alloc | apply pw_below_drewN | apply below_drew1 | refine below_set ?_ GE170.out | refine below_set ?_ GE182.out | refine below_set ?_ GE198.out) | exact HB.out)) hb)
          clear BK170
          clear BK182
          clear BK198
          clear HB
          have BK170 := n0_
          have BK182 := n1_
          have BK198 := n2_
          have HB := n3_
          clear n0_ n1_ n2_ n3_
          (try clear hb)
          (try clear hb2)
          (try clear hk)
          (try clear hi)
          refine hK.out _ _ (cz11_10 BK182.out) (fun hHeld => ?_)
          clear hK K
          refine norm_ (a' := ?_) ?_ ?_
          rotate_left
          · show Act.put _ (some 30) _ = _
            simp only [Act.put, List.setIfInBounds_toArray, List.set_cons_zero, List.set_cons_succ, i64_w, i32_w]
            rfl
          refine pure_ (i := 6) (N := some 24) (v := ?_) (a' := ?_) #[true, true, true, true, true, true, true, false, false, true, false, false] rfl rfl (any_of HT_.out (by kernel_rfl)) (fun _ _ _ h => h) (Or.inl ⟨by rfl, ?_⟩) ?_ ?_
          rotate_left
          · intro w'
            go_simp
            with_reducible rfl
          rotate_left
          · simp only [Act.put, List.setIfInBounds_toArray, List.set_cons_zero, List.set_cons_succ, i64_w, i32_w]
            rfl
          refine pure_ (i := 7) (N := some 31) (v := ?_) (a' := ?_) #[true, true, true, true, true, true, true, true, false, true, false, false] rfl rfl (any_of HT_.out (by kernel_rfl)) (fun _ _ _ h => h) (Or.inl ⟨by rfl, ?_⟩) ?_ ?_
          rotate_left
          · intro w'
            go_simp
            with_reducible rfl
          rotate_left
          · simp only [Act.put, List.setIfInBounds_toArray, List.set_cons_zero, List.set_cons_succ, i64_w, i32_w]
            rfl
          refine pure_ (i := 8) (N := some 32) (v := ?_) (a' := ?_) #[true, true, true, true, true, true, true, true, true, true, false, false] rfl rfl (any_of HT_.out (by kernel_rfl)) (fun _ _ _ h => h) (Or.inl ⟨by rfl, ?_⟩) ?_ ?_
          rotate_left
          · intro w'
            go_simp
            with_reducible rfl
          rotate_left
          · simp only [Act.put, List.setIfInBounds_toArray, List.set_cons_zero, List.set_cons_succ, i64_w, i32_w]
            rfl
          exact norm_ (by simp only [putAll, Act.put, List.setIfInBounds_toArray, List.set_cons_zero, List.set_cons_succ]) (hCont (gb198) _ ⟨hHeld, (by (with_reducible repeat (first | refine blk_drewN ?_ _ | refine blk_drew ?_ | refine blk_alloc ?_ _)); exact BK170.out), (by (with_reducible repeat (first | refine blk_drewN ?_ _ | refine blk_drew ?_ | refine blk_alloc ?_ _)); exact BK182.out), (by (with_reducible repeat (first | refine blk_drewN ?_ _ | refine blk_drew ?_ | refine blk_alloc ?_ _)); exact BK198.out), GW198.out, GE198.out, NB170_198.out, NB198_170.out, NB182_198.out, NB198_182.out, (by repeat (first | (with_reducible first | exact HB.out | apply below_alloc | apply pw_below_drewN | apply below_drew1 | refine below_set ?_ GE170.out | refine below_set ?_ GE182.out | refine below_set ?_ GE198.out) | exact HB.out))⟩)
      · skip
        refine box_step ?hg (N := 9) ?hd (cs := #[.int .i64 0, .int .i64 0, .int .u64 0, .int .u64 0, .bool false, .bool false, .bool false, .bool false, .bool false, .bool false, .bool false]) (t := 26) ?hr ?_; (case hd => rfl); (case hg => rfl); (case hr => first | (go_simp; done) | (go_simp; rfl))
        intro gb198 hg w20 hbox hb
        have n0_ := Aside0.mk (bb10_ hb BK170.out)
        have n1_ := Aside0.mk (bb10_ hb BK182.out)
        have n2_ := Aside0.mk (below_step (by repeat (first | (with_reducible first | exact HB.out | apply below_alloc | apply pw_below_drewN | apply below_drew1 | refine below_set ?_ GE170.out | refine below_set ?_ GE182.out) | exact HB.out)) hb)
        have n3_ := Aside0.mk (hbox)
        have n4_ := Aside0.mk ((by rw [hg]; exact (below_size (by repeat (first | (with_reducible first | exact HB.out | apply below_alloc | apply pw_below_drewN | apply below_drew1 | refine below_set ?_ GE170.out | refine below_set ?_ GE182.out) | exact HB.out))) : w.heap.size ≤ gb198))
        have n5_ := Aside0.mk ((by rw [hg]; exact (below_size (by repeat (first | (with_reducible first | exact HB.out | apply below_alloc | apply pw_below_drewN | apply below_drew1 | refine below_set ?_ GE170.out | refine below_set ?_ GE182.out) | exact HB.out))) : w.heap.size ≤ gb198))
        have n6_ := Aside0.mk ((by rw [hg]; exact Nat.ne_of_lt (blk_lt BK170.out) : gb170 ≠ gb198))
        have n7_ := Aside0.mk ((by rw [hg]; exact Nat.ne_of_gt (blk_lt BK170.out) : gb198 ≠ gb170))
        have n8_ := Aside0.mk ((by rw [hg]; exact Nat.ne_of_lt (blk_lt BK182.out) : gb182 ≠ gb198))
        have n9_ := Aside0.mk ((by rw [hg]; exact Nat.ne_of_gt (blk_lt BK182.out) : gb198 ≠ gb182))
        clear BK170
        clear BK182
        clear HB
        have BK170 := n0_
        have BK182 := n1_
        have HB := n2_
        have BK198 := n3_
        have GW198 := n4_
        have GE198 := n5_
        have NB170_198 := n6_
        have NB198_170 := n7_
        have NB182_198 := n8_
        have NB198_182 := n9_
        clear n0_ n1_ n2_ n3_ n4_ n5_ n6_ n7_ n8_ n9_
        clear hb hbox hg
        refine hK.out _ _ (cz11_10 BK182.out) (fun hHeld => ?_)
        clear hK K
        refine norm_ (a' := ?_) ?_ ?_
        rotate_left
        · show Act.put _ (some 9) _ = _
          simp only [Act.put, List.setIfInBounds_toArray, List.set_cons_zero, List.set_cons_succ, i64_w, i32_w]
          rfl
        refine one_ (i := 3) (N := some 28) #[true, true, true, true, true, false, false, false, false, true, false, false] rfl rfl (one_of HT_.out (by kernel_rfl)) (by decide) (fun K hK => ?_)
        refine goes_ Try.func15 (by kernel_rfl) rfl #[.agg #[.int .i64 t171, .int .i64 t172, .int .u64 t173, .int .u64 t174, .bool t175, .bool t176, .bool t177, .bool t178, .bool t179, .bool t180, .bool t181]] (by rfl) rfl rfl (by (try simp only [List.map_toArray, List.map_cons, List.map_nil]); first | done | rfl | (simp only [List.length_drop, List.length_take]; rfl)) ?_
        with_reducible refine (tte_Data.calls t171 t172 t173 t174 t175 t176 t177 t178 t179 t180 t181 t185 _ A7.out).mono ?_
        rintro e w21 ⟨rfl, hb⟩
        refine ⟨_, rfl, ?_⟩
        have n0_ := Aside0.mk (bb10_ hb BK170.out)
        have n1_ := Aside0.mk (bb10_ hb BK182.out)
        have n2_ := Aside0.mk (bb10_ hb BK198.out)
        have n3_ := Aside0.mk (below_step (by repeat (first | (with_reducible first | exact HB.out | apply below_alloc | apply pw_below_drewN | apply below_drew1 | refine below_set ?_ GE170.out | refine below_set ?_ GE182.out | refine below_set ?_ GE198.out) | exact HB.out)) hb)
        clear BK170
        clear BK182
        clear BK198
        clear HB
        have BK170 := n0_
        have BK182 := n1_
        have BK198 := n2_
        have HB := n3_
        clear n0_ n1_ n2_ n3_
        (try clear hb)
        (try clear hb2)
        (try clear hk)
        (try clear hi)
        refine hK.out _ _ (cz11_10 BK182.out) (fun hHeld => ?_)
        clear hK K
        refine norm_ (a' := ?_) ?_ ?_
        rotate_left
        · show Act.put _ (some 28) _ = _
          simp only [Act.put, List.setIfInBounds_toArray, List.set_cons_zero, List.set_cons_succ, i64_w, i32_w]
          rfl
        refine one_ (i := 5) (N := some 30) #[true, true, true, true, true, true, false, false, false, true, false, false] rfl rfl (one_of HT_.out (by kernel_rfl)) (by decide) (fun K hK => ?_)
        refine goes_ Try.func32 (by kernel_rfl) rfl #[.int .u64 t184, .int .u64 t185, .int .u64 (IntKind.u64.wrap (t173 + t183))] (by rfl) rfl rfl (by (try simp only [List.map_toArray, List.map_cons, List.map_nil]); first | done | rfl | (simp only [List.length_drop, List.length_take]; rfl)) ?_
        with_reducible refine (tte_Read.calls k t184 t185 (IntKind.u64.wrap (t173 + t183)) t186 t187 t188 t189 t190 t191 t192 t193 t194 t195 t196 t197 _ A8.out).mono ?_
        rintro e w22 ⟨rfl, hb⟩
        refine ⟨_, rfl, ?_⟩
        have n0_ := Aside0.mk (bb10_ hb BK170.out)
        have n1_ := Aside0.mk (bb10_ hb BK182.out)
        have n2_ := Aside0.mk (bb10_ hb BK198.out)
        have n3_ := Aside0.mk (below_step (by repeat (first | (with_reducible first | exact HB.out | apply below_alloc | apply pw_below_drewN | apply below_drew1 | refine below_set ?_ GE170.out | refine below_set ?_ GE182.out | refine below_set ?_ GE198.out) | exact HB.out)) hb)
        clear BK170
        clear BK182
        clear BK198
        clear HB
        have BK170 := n0_
        have BK182 := n1_
        have BK198 := n2_
        have HB := n3_
        clear n0_ n1_ n2_ n3_
        (try clear hb)
        (try clear hb2)
        (try clear hk)
        (try clear hi)
        refine hK.out _ _ (cz11_10 BK182.out) (fun hHeld => ?_)
        clear hK K
        refine norm_ (a' := ?_) ?_ ?_
        rotate_left
        · show Act.put _ (some 30) _ = _
          simp only [Act.put, List.setIfInBounds_toArray, List.set_cons_zero, List.set_cons_succ, i64_w, i32_w]
          rfl
        refine pure_ (i := 6) (N := some 24) (v := ?_) (a' := ?_) #[true, true, true, true, true, true, true, false, false, true, false, false] rfl rfl (any_of HT_.out (by kernel_rfl)) (fun _ _ _ h => h) (Or.inl ⟨by rfl, ?_⟩) ?_ ?_
        rotate_left
        · intro w'
          go_simp
          with_reducible rfl
        rotate_left
        · simp only [Act.put, List.setIfInBounds_toArray, List.set_cons_zero, List.set_cons_succ, i64_w, i32_w]
          rfl
        refine pure_ (i := 7) (N := some 31) (v := ?_) (a' := ?_) #[true, true, true, true, true, true, true, true, false, true, false, false] rfl rfl (any_of HT_.out (by kernel_rfl)) (fun _ _ _ h => h) (Or.inl ⟨by rfl, ?_⟩) ?_ ?_
        rotate_left
        · intro w'
          go_simp
          with_reducible rfl
        rotate_left
        · simp only [Act.put, List.setIfInBounds_toArray, List.set_cons_zero, List.set_cons_succ, i64_w, i32_w]
          rfl
        refine pure_ (i := 8) (N := some 32) (v := ?_) (a' := ?_) #[true, true, true, true, true, true, true, true, true, true, false, false] rfl rfl (any_of HT_.out (by kernel_rfl)) (fun _ _ _ h => h) (Or.inl ⟨by rfl, ?_⟩) ?_ ?_
        rotate_left
        · intro w'
          go_simp
          with_reducible rfl
        rotate_left
        · simp only [Act.put, List.setIfInBounds_toArray, List.set_cons_zero, List.set_cons_succ, i64_w, i32_w]
          rfl
        exact norm_ (by simp only [putAll, Act.put, List.setIfInBounds_toArray, List.set_cons_zero, List.set_cons_succ]) (hCont (gb198) _ ⟨hHeld, (by (with_reducible repeat (first | refine blk_drewN ?_ _ | refine blk_drew ?_ | refine blk_alloc ?_ _)); exact BK170.out), (by (with_reducible repeat (first | refine blk_drewN ?_ _ | refine blk_drew ?_ | refine blk_alloc ?_ _)); exact BK182.out), (by (with_reducible repeat (first | refine blk_drewN ?_ _ | refine blk_drew ?_ | refine blk_alloc ?_ _)); exact BK198.out), GW198.out, GE198.out, NB170_198.out, NB198_170.out, NB182_198.out, NB198_182.out, (by repeat (first | (with_reducible first | exact HB.out | apply below_alloc | apply pw_below_drewN | apply below_drew1 | refine below_set ?_ GE170.out | refine below_set ?_ GE182.out | refine below_set ?_ GE198.out) | exact HB.out))⟩)
    · skip
      refine box_step ?hg (N := 9) ?hd (cs := #[.int .i64 0, .int .i64 0, .int .u64 0, .int .u64 0, .bool false, .bool false, .bool false, .bool false, .bool false, .bool false, .bool false]) (t := 26) ?hr ?_; (case hd => rfl); (case hg => rfl); (case hr => first | (go_simp; done) | (go_simp; rfl))
      intro gb198 hg w19 hbox hb
      have n0_ := Aside0.mk (bb10_ hb BK170.out)
      have n1_ := Aside0.mk (bb10_ hb BK182.out)
      have n2_ := Aside0.mk (below_step (by repeat (first | (with_reducible first | exact HB.out | apply below_alloc | apply pw_below_drewN | apply below_drew1 | refine below_set ?_ GE170.out | refine below_set ?_ GE182.out) | exact HB.out)) hb)
      have n3_ := Aside0.mk (hbox)
      have n4_ := Aside0.mk ((by rw [hg]; exact (below_size (by repeat (first | (with_reducible first | exact HB.out | apply below_alloc | apply pw_below_drewN | apply below_drew1 | refine below_set ?_ GE170.out | refine below_set ?_ GE182.out) | exact HB.out))) : w.heap.size ≤ gb198))
      have n5_ := Aside0.mk ((by rw [hg]; exact (below_size (by repeat (first | (with_reducible first | exact HB.out | apply below_alloc | apply pw_below_drewN | apply below_drew1 | refine below_set ?_ GE170.out | refine below_set ?_ GE182.out) | exact HB.out))) : w.heap.size ≤ gb198))
      have n6_ := Aside0.mk ((by rw [hg]; exact Nat.ne_of_lt (blk_lt BK170.out) : gb170 ≠ gb198))
      have n7_ := Aside0.mk ((by rw [hg]; exact Nat.ne_of_gt (blk_lt BK170.out) : gb198 ≠ gb170))
      have n8_ := Aside0.mk ((by rw [hg]; exact Nat.ne_of_lt (blk_lt BK182.out) : gb182 ≠ gb198))
      have n9_ := Aside0.mk ((by rw [hg]; exact Nat.ne_of_gt (blk_lt BK182.out) : gb198 ≠ gb182))
      clear BK170
      clear BK182
      clear HB
      have BK170 := n0_
      have BK182 := n1_
      have HB := n2_
      have BK198 := n3_
      have GW198 := n4_
      have GE198 := n5_
      have NB170_198 := n6_
      have NB198_170 := n7_
      have NB182_198 := n8_
      have NB198_182 := n9_
      clear n0_ n1_ n2_ n3_ n4_ n5_ n6_ n7_ n8_ n9_
      clear hb hbox hg
      refine hK.out _ _ (cz11_10 BK182.out) (fun hHeld => ?_)
      clear hK K
      refine norm_ (a' := ?_) ?_ ?_
      rotate_left
      · show Act.put _ (some 9) _ = _
        simp only [Act.put, List.setIfInBounds_toArray, List.set_cons_zero, List.set_cons_succ, i64_w, i32_w]
        rfl
      refine one_ (i := 1) (N := some 26) #[true, true, true, false, true, false, false, false, false, true, false, false] rfl rfl (one_of HT_.out (by kernel_rfl)) (by decide) (fun K hK => ?_)
      refine goes_ Try.func14 (by kernel_rfl) rfl #[.agg #[.int .i64 t171, .int .i64 t172, .int .u64 t173, .int .u64 t174, .bool t175, .bool t176, .bool t177, .bool t178, .bool t179, .bool t180, .bool t181]] (by rfl) rfl rfl (by (try simp only [List.map_toArray, List.map_cons, List.map_nil]); first | done | rfl | (simp only [List.length_drop, List.length_take]; rfl)) ?_
      with_reducible refine (tte_Tag.calls t171 t172 t173 t174 t175 t176 t177 t178 t179 t180 t181 t184 _ A6.out).mono ?_
      rintro e w20 ⟨rfl, hb⟩
      refine ⟨_, rfl, ?_⟩
      have n0_ := Aside0.mk (bb10_ hb BK170.out)
      have n1_ := Aside0.mk (bb10_ hb BK182.out)
      have n2_ := Aside0.mk (bb10_ hb BK198.out)
      have n3_ := Aside0.mk (below_step (by repeat (first | (with_reducible first | exact HB.out | apply below_alloc | apply pw_below_drewN | apply below_drew1 | refine below_set ?_ GE170.out | refine below_set ?_ GE182.out | refine below_set ?_ GE198.out) | exact HB.out)) hb)
      clear BK170
      clear BK182
      clear BK198
      clear HB
      have BK170 := n0_
      have BK182 := n1_
      have BK198 := n2_
      have HB := n3_
      clear n0_ n1_ n2_ n3_
      (try clear hb)
      (try clear hb2)
      (try clear hk)
      (try clear hi)
      refine hK.out _ _ (cz11_10 BK182.out) (fun hHeld => ?_)
      clear hK K
      refine norm_ (a' := ?_) ?_ ?_
      rotate_left
      · show Act.put _ (some 26) _ = _
        simp only [Act.put, List.setIfInBounds_toArray, List.set_cons_zero, List.set_cons_succ, i64_w, i32_w]
        rfl
      refine one_ (i := 3) (N := some 28) #[true, true, true, true, true, false, false, false, false, true, false, false] rfl rfl (one_of HT_.out (by kernel_rfl)) (by decide) (fun K hK => ?_)
      refine goes_ Try.func15 (by kernel_rfl) rfl #[.agg #[.int .i64 t171, .int .i64 t172, .int .u64 t173, .int .u64 t174, .bool t175, .bool t176, .bool t177, .bool t178, .bool t179, .bool t180, .bool t181]] (by rfl) rfl rfl (by (try simp only [List.map_toArray, List.map_cons, List.map_nil]); first | done | rfl | (simp only [List.length_drop, List.length_take]; rfl)) ?_
      with_reducible refine (tte_Data.calls t171 t172 t173 t174 t175 t176 t177 t178 t179 t180 t181 t185 _ A7.out).mono ?_
      rintro e w21 ⟨rfl, hb⟩
      refine ⟨_, rfl, ?_⟩
      have n0_ := Aside0.mk (bb10_ hb BK170.out)
      have n1_ := Aside0.mk (bb10_ hb BK182.out)
      have n2_ := Aside0.mk (bb10_ hb BK198.out)
      have n3_ := Aside0.mk (below_step (by repeat (first | (with_reducible first | exact HB.out | apply below_alloc | apply pw_below_drewN | apply below_drew1 | refine below_set ?_ GE170.out | refine below_set ?_ GE182.out | refine below_set ?_ GE198.out) | exact HB.out)) hb)
      clear BK170
      clear BK182
      clear BK198
      clear HB
      have BK170 := n0_
      have BK182 := n1_
      have BK198 := n2_
      have HB := n3_
      clear n0_ n1_ n2_ n3_
      (try clear hb)
      (try clear hb2)
      (try clear hk)
      (try clear hi)
      refine hK.out _ _ (cz11_10 BK182.out) (fun hHeld => ?_)
      clear hK K
      refine norm_ (a' := ?_) ?_ ?_
      rotate_left
      · show Act.put _ (some 28) _ = _
        simp only [Act.put, List.setIfInBounds_toArray, List.set_cons_zero, List.set_cons_succ, i64_w, i32_w]
        rfl
      refine one_ (i := 5) (N := some 30) #[true, true, true, true, true, true, false, false, false, true, false, false] rfl rfl (one_of HT_.out (by kernel_rfl)) (by decide) (fun K hK => ?_)
      refine goes_ Try.func32 (by kernel_rfl) rfl #[.int .u64 t184, .int .u64 t185, .int .u64 (IntKind.u64.wrap (t173 + t183))] (by rfl) rfl rfl (by (try simp only [List.map_toArray, List.map_cons, List.map_nil]); first | done | rfl | (simp only [List.length_drop, List.length_take]; rfl)) ?_
      with_reducible refine (tte_Read.calls k t184 t185 (IntKind.u64.wrap (t173 + t183)) t186 t187 t188 t189 t190 t191 t192 t193 t194 t195 t196 t197 _ A8.out).mono ?_
      rintro e w22 ⟨rfl, hb⟩
      refine ⟨_, rfl, ?_⟩
      have n0_ := Aside0.mk (bb10_ hb BK170.out)
      have n1_ := Aside0.mk (bb10_ hb BK182.out)
      have n2_ := Aside0.mk (bb10_ hb BK198.out)
      have n3_ := Aside0.mk (below_step (by repeat (first | (with_reducible first | exact HB.out | apply below_alloc | apply pw_below_drewN | apply below_drew1 | refine below_set ?_ GE170.out | refine below_set ?_ GE182.out | refine below_set ?_ GE198.out) | exact HB.out)) hb)
      clear BK170
      clear BK182
      clear BK198
      clear HB
      have BK170 := n0_
      have BK182 := n1_
      have BK198 := n2_
      have HB := n3_
      clear n0_ n1_ n2_ n3_
      (try clear hb)
      (try clear hb2)
      (try clear hk)
      (try clear hi)
      refine hK.out _ _ (cz11_10 BK182.out) (fun hHeld => ?_)
      clear hK K
      refine norm_ (a' := ?_) ?_ ?_
      rotate_left
      · show Act.put _ (some 30) _ = _
        simp only [Act.put, List.setIfInBounds_toArray, List.set_cons_zero, List.set_cons_succ, i64_w, i32_w]
        rfl
      refine pure_ (i := 6) (N := some 24) (v := ?_) (a' := ?_) #[true, true, true, true, true, true, true, false, false, true, false, false] rfl rfl (any_of HT_.out (by kernel_rfl)) (fun _ _ _ h => h) (Or.inl ⟨by rfl, ?_⟩) ?_ ?_
      rotate_left
      · intro w'
        go_simp
        with_reducible rfl
      rotate_left
      · simp only [Act.put, List.setIfInBounds_toArray, List.set_cons_zero, List.set_cons_succ, i64_w, i32_w]
        rfl
      refine pure_ (i := 7) (N := some 31) (v := ?_) (a' := ?_) #[true, true, true, true, true, true, true, true, false, true, false, false] rfl rfl (any_of HT_.out (by kernel_rfl)) (fun _ _ _ h => h) (Or.inl ⟨by rfl, ?_⟩) ?_ ?_
      rotate_left
      · intro w'
        go_simp
        with_reducible rfl
      rotate_left
      · simp only [Act.put, List.setIfInBounds_toArray, List.set_cons_zero, List.set_cons_succ, i64_w, i32_w]
        rfl
      refine pure_ (i := 8) (N := some 32) (v := ?_) (a' := ?_) #[true, true, true, true, true, true, true, true, true, true, false, false] rfl rfl (any_of HT_.out (by kernel_rfl)) (fun _ _ _ h => h) (Or.inl ⟨by rfl, ?_⟩) ?_ ?_
      rotate_left
      · intro w'
        go_simp
        with_reducible rfl
      rotate_left
      · simp only [Act.put, List.setIfInBounds_toArray, List.set_cons_zero, List.set_cons_succ, i64_w, i32_w]
        rfl
      exact norm_ (by simp only [putAll, Act.put, List.setIfInBounds_toArray, List.set_cons_zero, List.set_cons_succ]) (hCont (gb198) _ ⟨hHeld, (by (with_reducible repeat (first | refine blk_drewN ?_ _ | refine blk_drew ?_ | refine blk_alloc ?_ _)); exact BK170.out), (by (with_reducible repeat (first | refine blk_drewN ?_ _ | refine blk_drew ?_ | refine blk_alloc ?_ _)); exact BK182.out), (by (with_reducible repeat (first | refine blk_drewN ?_ _ | refine blk_drew ?_ | refine blk_alloc ?_ _)); exact BK198.out), GW198.out, GE198.out, NB170_198.out, NB198_170.out, NB182_198.out, NB198_182.out, (by repeat (first | (with_reducible first | exact HB.out | apply below_alloc | apply pw_below_drewN | apply below_drew1 | refine below_set ?_ GE170.out | refine below_set ?_ GE182.out | refine below_set ?_ GE198.out) | exact HB.out))⟩)
  rintro gb198 w23 ⟨hS_, h0_, h1_, h2_, h3_, h4_, h5_, h6_, h7_, h8_, h9_⟩
  have n0_ : Aside0 (w23.heap[gb170]? = some (.cells #[.int .i64 a0_0, .int .i64 a0_1, .int .u64 a0_2, .int .u64 a0_3, .bool a0_4, .bool a0_5, .bool a0_6, .bool a0_7, .bool a0_8, .bool a0_9, .bool a0_10] 26 (0, 0))) := ⟨h0_⟩
  have n1_ : Aside0 (w23.heap[gb182]? = some (.cells #[.int .i64 t171, .int .i64 t172, .int .u64 t173, .int .u64 t174, .bool t175, .bool t176, .bool t177, .bool t178, .bool t179, .bool t180, .bool t181] 26 (0, 0))) := ⟨h1_⟩
  have n2_ : Aside0 (w23.heap[gb198]? = some (.cells #[.int .i64 0, .int .i64 0, .int .u64 0, .int .u64 0, .bool false, .bool false, .bool false, .bool false, .bool false, .bool false, .bool false] 26 (0, 0))) := ⟨h2_⟩
  have n3_ : Aside0 (w.heap.size ≤ gb198) := ⟨h3_⟩
  have n4_ : Aside0 (w.heap.size ≤ gb198) := ⟨h4_⟩
  have n5_ : Aside0 (gb170 ≠ gb198) := ⟨h5_⟩
  have n6_ : Aside0 (gb198 ≠ gb170) := ⟨h6_⟩
  have n7_ : Aside0 (gb182 ≠ gb198) := ⟨h7_⟩
  have n8_ : Aside0 (gb198 ≠ gb182) := ⟨h8_⟩
  have n9_ : Aside0 (Below w.heap.size w w23) := ⟨h9_⟩
  clear BK170
  clear BK182
  clear HB
  clear h0_ h1_ h2_ h3_ h4_ h5_ h6_ h7_ h8_ h9_
  have BK170 := n0_
  have BK182 := n1_
  have BK198 := n2_
  have GW198 := n3_
  have GE198 := n4_
  have NB170_198 := n5_
  have NB198_170 := n6_
  have NB182_198 := n7_
  have NB198_182 := n8_
  have HB := n9_
  clear n0_ n1_ n2_ n3_ n4_ n5_ n6_ n7_ n8_ n9_
  have hHeld : w23.cell? ⟨gb182, 0, none⟩ = some (.int .i64 t171) ∧ w23.cell? ⟨gb182, 1, none⟩ = some (.int .i64 t172) ∧ w23.cell? ⟨gb182, 2, none⟩ = some (.int .u64 t173) ∧ w23.cell? ⟨gb182, 3, none⟩ = some (.int .u64 t174) ∧ w23.cell? ⟨gb182, 4, none⟩ = some (.bool t175) ∧ w23.cell? ⟨gb182, 5, none⟩ = some (.bool t176) ∧ w23.cell? ⟨gb182, 6, none⟩ = some (.bool t177) ∧ w23.cell? ⟨gb182, 7, none⟩ = some (.bool t178) ∧ w23.cell? ⟨gb182, 8, none⟩ = some (.bool t179) ∧ w23.cell? ⟨gb182, 9, none⟩ = some (.bool t180) ∧ w23.cell? ⟨gb182, 10, none⟩ = some (.bool t181) := hS_
  refine norm_ (a' := ?_) ?_ ?_
  rotate_left
  · simp only [putAll, Act.put, List.setIfInBounds_toArray, List.set_cons_zero, List.set_cons_succ]
    rfl
  refine one_ (i := 10) (N := none) #[true, true, true, true, true, true, true, true, true, true, true, false] rfl rfl (one_of HT_.out (by kernel_rfl)) (by decide) (fun K hK => ?_)
  have hs24 : w23.cell? ⟨gb198, 0, none⟩ = some (.int .i64 0) := (blk_cell BK198.out 0).trans rfl
  have hfs24 := blk_frozen BK198.out 0
  have hns24_0 := NB170_198.out
  have hns24_1 := NB182_198.out
  have hms24_0 := NB198_170.out
  have hms24_1 := NB198_182.out
  have hs25 : w23.cell? ⟨gb198, 1, none⟩ = some (.int .i64 0) := (blk_cell BK198.out 1).trans rfl
  have hfs25 := blk_frozen BK198.out 1
  have hns25_0 := NB170_198.out
  have hns25_1 := NB182_198.out
  have hms25_0 := NB198_170.out
  have hms25_1 := NB198_182.out
  have hs26 : w23.cell? ⟨gb198, 2, none⟩ = some (.int .u64 0) := (blk_cell BK198.out 2).trans rfl
  have hfs26 := blk_frozen BK198.out 2
  have hns26_0 := NB170_198.out
  have hns26_1 := NB182_198.out
  have hms26_0 := NB198_170.out
  have hms26_1 := NB198_182.out
  have hs27 : w23.cell? ⟨gb198, 3, none⟩ = some (.int .u64 0) := (blk_cell BK198.out 3).trans rfl
  have hfs27 := blk_frozen BK198.out 3
  have hns27_0 := NB170_198.out
  have hns27_1 := NB182_198.out
  have hms27_0 := NB198_170.out
  have hms27_1 := NB198_182.out
  have hs28 : w23.cell? ⟨gb198, 4, none⟩ = some (.bool false) := (blk_cell BK198.out 4).trans rfl
  have hfs28 := blk_frozen BK198.out 4
  have hns28_0 := NB170_198.out
  have hns28_1 := NB182_198.out
  have hms28_0 := NB198_170.out
  have hms28_1 := NB198_182.out
  have hs29 : w23.cell? ⟨gb198, 5, none⟩ = some (.bool false) := (blk_cell BK198.out 5).trans rfl
  have hfs29 := blk_frozen BK198.out 5
  have hns29_0 := NB170_198.out
  have hns29_1 := NB182_198.out
  have hms29_0 := NB198_170.out
  have hms29_1 := NB198_182.out
  have hs30 : w23.cell? ⟨gb198, 6, none⟩ = some (.bool false) := (blk_cell BK198.out 6).trans rfl
  have hfs30 := blk_frozen BK198.out 6
  have hns30_0 := NB170_198.out
  have hns30_1 := NB182_198.out
  have hms30_0 := NB198_170.out
  have hms30_1 := NB198_182.out
  have hs31 : w23.cell? ⟨gb198, 7, none⟩ = some (.bool false) := (blk_cell BK198.out 7).trans rfl
  have hfs31 := blk_frozen BK198.out 7
  have hns31_0 := NB170_198.out
  have hns31_1 := NB182_198.out
  have hms31_0 := NB198_170.out
  have hms31_1 := NB198_182.out
  have hs32 : w23.cell? ⟨gb198, 8, none⟩ = some (.bool false) := (blk_cell BK198.out 8).trans rfl
  have hfs32 := blk_frozen BK198.out 8
  have hns32_0 := NB170_198.out
  have hns32_1 := NB182_198.out
  have hms32_0 := NB198_170.out
  have hms32_1 := NB198_182.out
  have hs33 : w23.cell? ⟨gb198, 9, none⟩ = some (.bool false) := (blk_cell BK198.out 9).trans rfl
  have hfs33 := blk_frozen BK198.out 9
  have hns33_0 := NB170_198.out
  have hns33_1 := NB182_198.out
  have hms33_0 := NB198_170.out
  have hms33_1 := NB198_182.out
  have hs34 : w23.cell? ⟨gb198, 10, none⟩ = some (.bool false) := (blk_cell BK198.out 10).trans rfl
  have hfs34 := blk_frozen BK198.out 10
  have hns34_0 := NB170_198.out
  have hns34_1 := NB182_198.out
  have hms34_0 := NB198_170.out
  have hms34_1 := NB198_182.out
  refine skip_ (w1 := ?_) (by rfl) rfl ?_ ?_
  rotate_left
  · go_simp
    rfl
  refine hK.out _ _ ⟨((cell_far (p := ⟨gb198, _, none⟩) NB182_198.out _).trans (((cell_far (p := ⟨gb198, _, none⟩) NB182_198.out _).trans (((cell_far (p := ⟨gb198, _, none⟩) NB182_198.out _).trans (((cell_far (p := ⟨gb198, _, none⟩) NB182_198.out _).trans (((cell_far (p := ⟨gb198, _, none⟩) NB182_198.out _).trans (((cell_far (p := ⟨gb198, _, none⟩) NB182_198.out _).trans (((cell_far (p := ⟨gb198, _, none⟩) NB182_198.out _).trans (((cell_far (p := ⟨gb198, _, none⟩) NB182_198.out _).trans (((cell_far (p := ⟨gb198, _, none⟩) NB182_198.out _).trans (((cell_far (p := ⟨gb198, _, none⟩) NB182_198.out _).trans (((cell_far (p := ⟨gb198, _, none⟩) NB182_198.out _).trans (hHeld.1)))))))))))))))))))))), ((cell_far (p := ⟨gb198, _, none⟩) NB182_198.out _).trans (((cell_far (p := ⟨gb198, _, none⟩) NB182_198.out _).trans (((cell_far (p := ⟨gb198, _, none⟩) NB182_198.out _).trans (((cell_far (p := ⟨gb198, _, none⟩) NB182_198.out _).trans (((cell_far (p := ⟨gb198, _, none⟩) NB182_198.out _).trans (((cell_far (p := ⟨gb198, _, none⟩) NB182_198.out _).trans (((cell_far (p := ⟨gb198, _, none⟩) NB182_198.out _).trans (((cell_far (p := ⟨gb198, _, none⟩) NB182_198.out _).trans (((cell_far (p := ⟨gb198, _, none⟩) NB182_198.out _).trans (((cell_far (p := ⟨gb198, _, none⟩) NB182_198.out _).trans (((cell_far (p := ⟨gb198, _, none⟩) NB182_198.out _).trans (hHeld.2.1)))))))))))))))))))))), ((cell_far (p := ⟨gb198, _, none⟩) NB182_198.out _).trans (((cell_far (p := ⟨gb198, _, none⟩) NB182_198.out _).trans (((cell_far (p := ⟨gb198, _, none⟩) NB182_198.out _).trans (((cell_far (p := ⟨gb198, _, none⟩) NB182_198.out _).trans (((cell_far (p := ⟨gb198, _, none⟩) NB182_198.out _).trans (((cell_far (p := ⟨gb198, _, none⟩) NB182_198.out _).trans (((cell_far (p := ⟨gb198, _, none⟩) NB182_198.out _).trans (((cell_far (p := ⟨gb198, _, none⟩) NB182_198.out _).trans (((cell_far (p := ⟨gb198, _, none⟩) NB182_198.out _).trans (((cell_far (p := ⟨gb198, _, none⟩) NB182_198.out _).trans (((cell_far (p := ⟨gb198, _, none⟩) NB182_198.out _).trans (hHeld.2.2.1)))))))))))))))))))))), ((cell_far (p := ⟨gb198, _, none⟩) NB182_198.out _).trans (((cell_far (p := ⟨gb198, _, none⟩) NB182_198.out _).trans (((cell_far (p := ⟨gb198, _, none⟩) NB182_198.out _).trans (((cell_far (p := ⟨gb198, _, none⟩) NB182_198.out _).trans (((cell_far (p := ⟨gb198, _, none⟩) NB182_198.out _).trans (((cell_far (p := ⟨gb198, _, none⟩) NB182_198.out _).trans (((cell_far (p := ⟨gb198, _, none⟩) NB182_198.out _).trans (((cell_far (p := ⟨gb198, _, none⟩) NB182_198.out _).trans (((cell_far (p := ⟨gb198, _, none⟩) NB182_198.out _).trans (((cell_far (p := ⟨gb198, _, none⟩) NB182_198.out _).trans (((cell_far (p := ⟨gb198, _, none⟩) NB182_198.out _).trans (hHeld.2.2.2.1)))))))))))))))))))))), ((cell_far (p := ⟨gb198, _, none⟩) NB182_198.out _).trans (((cell_far (p := ⟨gb198, _, none⟩) NB182_198.out _).trans (((cell_far (p := ⟨gb198, _, none⟩) NB182_198.out _).trans (((cell_far (p := ⟨gb198, _, none⟩) NB182_198.out _).trans (((cell_far (p := ⟨gb198, _, none⟩) NB182_198.out _).trans (((cell_far (p := ⟨gb198, _, none⟩) NB182_198.out _).trans (((cell_far (p := ⟨gb198, _, none⟩) NB182_198.out _).trans (((cell_far (p := ⟨gb198, _, none⟩) NB182_198.out _).trans (((cell_far (p := ⟨gb198, _, none⟩) NB182_198.out _).trans (((cell_far (p := ⟨gb198, _, none⟩) NB182_198.out _).trans (((cell_far (p := ⟨gb198, _, none⟩) NB182_198.out _).trans (hHeld.2.2.2.2.1)))))))))))))))))))))), ((cell_far (p := ⟨gb198, _, none⟩) NB182_198.out _).trans (((cell_far (p := ⟨gb198, _, none⟩) NB182_198.out _).trans (((cell_far (p := ⟨gb198, _, none⟩) NB182_198.out _).trans (((cell_far (p := ⟨gb198, _, none⟩) NB182_198.out _).trans (((cell_far (p := ⟨gb198, _, none⟩) NB182_198.out _).trans (((cell_far (p := ⟨gb198, _, none⟩) NB182_198.out _).trans (((cell_far (p := ⟨gb198, _, none⟩) NB182_198.out _).trans (((cell_far (p := ⟨gb198, _, none⟩) NB182_198.out _).trans (((cell_far (p := ⟨gb198, _, none⟩) NB182_198.out _).trans (((cell_far (p := ⟨gb198, _, none⟩) NB182_198.out _).trans (((cell_far (p := ⟨gb198, _, none⟩) NB182_198.out _).trans (hHeld.2.2.2.2.2.1)))))))))))))))))))))), ((cell_far (p := ⟨gb198, _, none⟩) NB182_198.out _).trans (((cell_far (p := ⟨gb198, _, none⟩) NB182_198.out _).trans (((cell_far (p := ⟨gb198, _, none⟩) NB182_198.out _).trans (((cell_far (p := ⟨gb198, _, none⟩) NB182_198.out _).trans (((cell_far (p := ⟨gb198, _, none⟩) NB182_198.out _).trans (((cell_far (p := ⟨gb198, _, none⟩) NB182_198.out _).trans (((cell_far (p := ⟨gb198, _, none⟩) NB182_198.out _).trans (((cell_far (p := ⟨gb198, _, none⟩) NB182_198.out _).trans (((cell_far (p := ⟨gb198, _, none⟩) NB182_198.out _).trans (((cell_far (p := ⟨gb198, _, none⟩) NB182_198.out _).trans (((cell_far (p := ⟨gb198, _, none⟩) NB182_198.out _).trans (hHeld.2.2.2.2.2.2.1)))))))))))))))))))))), ((cell_far (p := ⟨gb198, _, none⟩) NB182_198.out _).trans (((cell_far (p := ⟨gb198, _, none⟩) NB182_198.out _).trans (((cell_far (p := ⟨gb198, _, none⟩) NB182_198.out _).trans (((cell_far (p := ⟨gb198, _, none⟩) NB182_198.out _).trans (((cell_far (p := ⟨gb198, _, none⟩) NB182_198.out _).trans (((cell_far (p := ⟨gb198, _, none⟩) NB182_198.out _).trans (((cell_far (p := ⟨gb198, _, none⟩) NB182_198.out _).trans (((cell_far (p := ⟨gb198, _, none⟩) NB182_198.out _).trans (((cell_far (p := ⟨gb198, _, none⟩) NB182_198.out _).trans (((cell_far (p := ⟨gb198, _, none⟩) NB182_198.out _).trans (((cell_far (p := ⟨gb198, _, none⟩) NB182_198.out _).trans (hHeld.2.2.2.2.2.2.2.1)))))))))))))))))))))), ((cell_far (p := ⟨gb198, _, none⟩) NB182_198.out _).trans (((cell_far (p := ⟨gb198, _, none⟩) NB182_198.out _).trans (((cell_far (p := ⟨gb198, _, none⟩) NB182_198.out _).trans (((cell_far (p := ⟨gb198, _, none⟩) NB182_198.out _).trans (((cell_far (p := ⟨gb198, _, none⟩) NB182_198.out _).trans (((cell_far (p := ⟨gb198, _, none⟩) NB182_198.out _).trans (((cell_far (p := ⟨gb198, _, none⟩) NB182_198.out _).trans (((cell_far (p := ⟨gb198, _, none⟩) NB182_198.out _).trans (((cell_far (p := ⟨gb198, _, none⟩) NB182_198.out _).trans (((cell_far (p := ⟨gb198, _, none⟩) NB182_198.out _).trans (((cell_far (p := ⟨gb198, _, none⟩) NB182_198.out _).trans (hHeld.2.2.2.2.2.2.2.2.1)))))))))))))))))))))), ((cell_far (p := ⟨gb198, _, none⟩) NB182_198.out _).trans (((cell_far (p := ⟨gb198, _, none⟩) NB182_198.out _).trans (((cell_far (p := ⟨gb198, _, none⟩) NB182_198.out _).trans (((cell_far (p := ⟨gb198, _, none⟩) NB182_198.out _).trans (((cell_far (p := ⟨gb198, _, none⟩) NB182_198.out _).trans (((cell_far (p := ⟨gb198, _, none⟩) NB182_198.out _).trans (((cell_far (p := ⟨gb198, _, none⟩) NB182_198.out _).trans (((cell_far (p := ⟨gb198, _, none⟩) NB182_198.out _).trans (((cell_far (p := ⟨gb198, _, none⟩) NB182_198.out _).trans (((cell_far (p := ⟨gb198, _, none⟩) NB182_198.out _).trans (((cell_far (p := ⟨gb198, _, none⟩) NB182_198.out _).trans (hHeld.2.2.2.2.2.2.2.2.2.1)))))))))))))))))))))), ((cell_far (p := ⟨gb198, _, none⟩) NB182_198.out _).trans (((cell_far (p := ⟨gb198, _, none⟩) NB182_198.out _).trans (((cell_far (p := ⟨gb198, _, none⟩) NB182_198.out _).trans (((cell_far (p := ⟨gb198, _, none⟩) NB182_198.out _).trans (((cell_far (p := ⟨gb198, _, none⟩) NB182_198.out _).trans (((cell_far (p := ⟨gb198, _, none⟩) NB182_198.out _).trans (((cell_far (p := ⟨gb198, _, none⟩) NB182_198.out _).trans (((cell_far (p := ⟨gb198, _, none⟩) NB182_198.out _).trans (((cell_far (p := ⟨gb198, _, none⟩) NB182_198.out _).trans (((cell_far (p := ⟨gb198, _, none⟩) NB182_198.out _).trans (((cell_far (p := ⟨gb198, _, none⟩) NB182_198.out _).trans (hHeld.2.2.2.2.2.2.2.2.2.2))))))))))))))))))))))⟩ (fun hHeld => ?_)
  clear hK K
  refine pure_ (i := 11) (N := some 10) (v := ?_) (a' := ?_) #[true, true, true, true, true, true, true, true, true, true, true, true] rfl rfl (any_of HT_.out (by kernel_rfl)) (fun _ _ _ h => h) (Or.inl ⟨by rfl, ?_⟩) ?_ ?_
  rotate_left
  · intro w'
    go_simp
    with_reducible rfl
  rotate_left
  · simp only [Act.put, List.setIfInBounds_toArray, List.set_cons_zero, List.set_cons_succ, i64_w, i32_w]
    rfl
  refine done_ (done_of HT_.out (by kernel_rfl)) ?_
  go_upto_region 4 with (fail)
  go_cut [39] (fun v39 wc => ∃ (kq : Nat) (x39_8 : Bool), v39 = .bool x39_8 ∧ Aside0 (lookasidelaw03_TteRound.j0 kq a2 x39_8 t171 t172 t173 t174 t175 t176 t177 t178 t179 t180 t181 = some r) ∧ Aside0 (kq ≤ k) ∧ Aside0 (wc.heap[gb170]? = some (.cells #[.int .i64 a0_0, .int .i64 a0_1, .int .u64 a0_2, .int .u64 a0_3, .bool a0_4, .bool a0_5, .bool a0_6, .bool a0_7, .bool a0_8, .bool a0_9, .bool a0_10] 26 (0, 0))) ∧ Aside0 (wc.heap[gb182]? = some (.cells #[.int .i64 t171, .int .i64 t172, .int .u64 t173, .int .u64 t174, .bool t175, .bool t176, .bool t177, .bool t178, .bool t179, .bool t180, .bool t181] 26 (0, 0))) ∧ Aside0 (wc.heap[gb198]? = some (.cells #[.int .i64 t186, .int .i64 t187, .int .u64 t188, .int .u64 t189, .bool t190, .bool t191, .bool t192, .bool t193, .bool t194, .bool t195, .bool t196] 26 (0, 0))) ∧ Aside0 (Below w.heap.size w wc))
  case first =>
    have H := HC9.out
    clear HC9
    by_cases c35 : (!(t186 == t171) || (!(t187 == t172) || (!(t188 == t173) || (!(t189 == t174) || ((!(t190 == t175) || (!(t191 == t176) || (!(t192 == t177) || (!(t193 == t178) || (!(t194 == t179) || (!(t195 == t180))))))) || (!(t196 == t181))))))) = true
    · rw [if_pos c35] at H
      have c35b0 : (!(t186 == t171) || (!(t187 == t172) || (!(t188 == t173) || (!(t189 == t174) || ((!(t190 == t175) || (!(t191 == t176) || (!(t192 == t177) || (!(t193 == t178) || (!(t194 == t179) || (!(t195 == t180))))))) || (!(t196 == t181))))))) = true := c35
      clear c35
      (first | rw [c35b0] | (simp only [i64_w, i32_w]; rw [c35b0]) | skip)
      have H' := Aside0.mk H
      clear H
      have hnb36 := NB198_170.out
      have hnc36 := NB170_198.out
      have hnb37 := NB198_182.out
      have hnc37 := NB182_198.out
      have hcz38_0 : w23.cell? ⟨gb198, 0, none⟩ = some (.int .i64 0) := (blk_cell BK198.out 0).trans rfl
      have hcz38_1 : w23.cell? ⟨gb198, 1, none⟩ = some (.int .i64 0) := (blk_cell BK198.out 1).trans rfl
      have hcz38_2 : w23.cell? ⟨gb198, 2, none⟩ = some (.int .u64 0) := (blk_cell BK198.out 2).trans rfl
      have hcz38_3 : w23.cell? ⟨gb198, 3, none⟩ = some (.int .u64 0) := (blk_cell BK198.out 3).trans rfl
      have hcz38_4 : w23.cell? ⟨gb198, 4, none⟩ = some (.bool false) := (blk_cell BK198.out 4).trans rfl
      have hcz38_5 : w23.cell? ⟨gb198, 5, none⟩ = some (.bool false) := (blk_cell BK198.out 5).trans rfl
      have hcz38_6 : w23.cell? ⟨gb198, 6, none⟩ = some (.bool false) := (blk_cell BK198.out 6).trans rfl
      have hcz38_7 : w23.cell? ⟨gb198, 7, none⟩ = some (.bool false) := (blk_cell BK198.out 7).trans rfl
      have hcz38_8 : w23.cell? ⟨gb198, 8, none⟩ = some (.bool false) := (blk_cell BK198.out 8).trans rfl
      have hcz38_9 : w23.cell? ⟨gb198, 9, none⟩ = some (.bool false) := (blk_cell BK198.out 9).trans rfl
      have hcz38_10 : w23.cell? ⟨gb198, 10, none⟩ = some (.bool false) := (blk_cell BK198.out 10).trans rfl
      have hfz38_0 := blk_frozen BK198.out 0
      have hfz38_1 := blk_frozen BK198.out 1
      have hfz38_2 := blk_frozen BK198.out 2
      have hfz38_3 := blk_frozen BK198.out 3
      have hfz38_4 := blk_frozen BK198.out 4
      have hfz38_5 := blk_frozen BK198.out 5
      have hfz38_6 := blk_frozen BK198.out 6
      have hfz38_7 := blk_frozen BK198.out 7
      have hfz38_8 := blk_frozen BK198.out 8
      have hfz38_9 := blk_frozen BK198.out 9
      have hfz38_10 := blk_frozen BK198.out 10
      have hnb39 := NB182_170.out
      have hnc39 := NB170_182.out
      have hcz40_0 : w23.cell? ⟨gb182, 0, none⟩ = some (.int .i64 t171) := (blk_cell BK182.out 0).trans rfl
      have hcz40_1 : w23.cell? ⟨gb182, 1, none⟩ = some (.int .i64 t172) := (blk_cell BK182.out 1).trans rfl
      have hcz40_2 : w23.cell? ⟨gb182, 2, none⟩ = some (.int .u64 t173) := (blk_cell BK182.out 2).trans rfl
      have hcz40_3 : w23.cell? ⟨gb182, 3, none⟩ = some (.int .u64 t174) := (blk_cell BK182.out 3).trans rfl
      have hcz40_4 : w23.cell? ⟨gb182, 4, none⟩ = some (.bool t175) := (blk_cell BK182.out 4).trans rfl
      have hcz40_5 : w23.cell? ⟨gb182, 5, none⟩ = some (.bool t176) := (blk_cell BK182.out 5).trans rfl
      have hcz40_6 : w23.cell? ⟨gb182, 6, none⟩ = some (.bool t177) := (blk_cell BK182.out 6).trans rfl
      have hcz40_7 : w23.cell? ⟨gb182, 7, none⟩ = some (.bool t178) := (blk_cell BK182.out 7).trans rfl
      have hcz40_8 : w23.cell? ⟨gb182, 8, none⟩ = some (.bool t179) := (blk_cell BK182.out 8).trans rfl
      have hcz40_9 : w23.cell? ⟨gb182, 9, none⟩ = some (.bool t180) := (blk_cell BK182.out 9).trans rfl
      have hcz40_10 : w23.cell? ⟨gb182, 10, none⟩ = some (.bool t181) := (blk_cell BK182.out 10).trans rfl
      have hfz40_0 := blk_frozen BK182.out 0
      have hfz40_1 := blk_frozen BK182.out 1
      have hfz40_2 := blk_frozen BK182.out 2
      have hfz40_3 := blk_frozen BK182.out 3
      have hfz40_4 := blk_frozen BK182.out 4
      have hfz40_5 := blk_frozen BK182.out 5
      have hfz40_6 := blk_frozen BK182.out 6
      have hfz40_7 := blk_frozen BK182.out 7
      have hfz40_8 := blk_frozen BK182.out 8
      have hfz40_9 := blk_frozen BK182.out 9
      have hfz40_10 := blk_frozen BK182.out 10
      go_wp2
      go_meet
      case rel => exact ⟨_, (true), (by first | rfl | (simp; done) | (simp [*]; done)), H', ⟨by first | omega | exact Nat.le_refl _⟩, ⟨by (with_reducible repeat (first | refine blk_drewN ?_ _ | refine blk_drew ?_ | refine blk_alloc ?_ _)); refine blk_far ?_ NB170_198.out _; refine blk_far ?_ NB170_198.out _; refine blk_far ?_ NB170_198.out _; refine blk_far ?_ NB170_198.out _; refine blk_far ?_ NB170_198.out _; refine blk_far ?_ NB170_198.out _; refine blk_far ?_ NB170_198.out _; refine blk_far ?_ NB170_198.out _; refine blk_far ?_ NB170_198.out _; refine blk_far ?_ NB170_198.out _; refine blk_far ?_ NB170_198.out _; (with_reducible repeat (first | refine blk_drewN ?_ _ | refine blk_drew ?_ | refine blk_alloc ?_ _)); exact BK170.out⟩, ⟨by (with_reducible repeat (first | refine blk_drewN ?_ _ | refine blk_drew ?_ | refine blk_alloc ?_ _)); refine blk_far ?_ NB182_198.out _; refine blk_far ?_ NB182_198.out _; refine blk_far ?_ NB182_198.out _; refine blk_far ?_ NB182_198.out _; refine blk_far ?_ NB182_198.out _; refine blk_far ?_ NB182_198.out _; refine blk_far ?_ NB182_198.out _; refine blk_far ?_ NB182_198.out _; refine blk_far ?_ NB182_198.out _; refine blk_far ?_ NB182_198.out _; refine blk_far ?_ NB182_198.out _; (with_reducible repeat (first | refine blk_drewN ?_ _ | refine blk_drew ?_ | refine blk_alloc ?_ _)); exact BK182.out⟩, ⟨by (with_reducible repeat (first | refine blk_drewN ?_ _ | refine blk_drew ?_ | refine blk_alloc ?_ _)); refine blk_put (cs := #[.int .i64 t186, .int .i64 t187, .int .u64 t188, .int .u64 t189, .bool t190, .bool t191, .bool t192, .bool t193, .bool t194, .bool t195, .bool false]) ?_ 10 _ rfl; refine blk_put (cs := #[.int .i64 t186, .int .i64 t187, .int .u64 t188, .int .u64 t189, .bool t190, .bool t191, .bool t192, .bool t193, .bool t194, .bool false, .bool false]) ?_ 9 _ rfl; refine blk_put (cs := #[.int .i64 t186, .int .i64 t187, .int .u64 t188, .int .u64 t189, .bool t190, .bool t191, .bool t192, .bool t193, .bool false, .bool false, .bool false]) ?_ 8 _ rfl; refine blk_put (cs := #[.int .i64 t186, .int .i64 t187, .int .u64 t188, .int .u64 t189, .bool t190, .bool t191, .bool t192, .bool false, .bool false, .bool false, .bool false]) ?_ 7 _ rfl; refine blk_put (cs := #[.int .i64 t186, .int .i64 t187, .int .u64 t188, .int .u64 t189, .bool t190, .bool t191, .bool false, .bool false, .bool false, .bool false, .bool false]) ?_ 6 _ rfl; refine blk_put (cs := #[.int .i64 t186, .int .i64 t187, .int .u64 t188, .int .u64 t189, .bool t190, .bool false, .bool false, .bool false, .bool false, .bool false, .bool false]) ?_ 5 _ rfl; refine blk_put (cs := #[.int .i64 t186, .int .i64 t187, .int .u64 t188, .int .u64 t189, .bool false, .bool false, .bool false, .bool false, .bool false, .bool false, .bool false]) ?_ 4 _ rfl; refine blk_put (cs := #[.int .i64 t186, .int .i64 t187, .int .u64 t188, .int .u64 0, .bool false, .bool false, .bool false, .bool false, .bool false, .bool false, .bool false]) ?_ 3 _ rfl; refine blk_put (cs := #[.int .i64 t186, .int .i64 t187, .int .u64 0, .int .u64 0, .bool false, .bool false, .bool false, .bool false, .bool false, .bool false, .bool false]) ?_ 2 _ rfl; refine blk_put (cs := #[.int .i64 t186, .int .i64 0, .int .u64 0, .int .u64 0, .bool false, .bool false, .bool false, .bool false, .bool false, .bool false, .bool false]) ?_ 1 _ rfl; refine blk_put (cs := #[.int .i64 0, .int .i64 0, .int .u64 0, .int .u64 0, .bool false, .bool false, .bool false, .bool false, .bool false, .bool false, .bool false]) ?_ 0 _ rfl; (with_reducible repeat (first | refine blk_drewN ?_ _ | refine blk_drew ?_ | refine blk_alloc ?_ _)); exact BK198.out⟩, ⟨by repeat (first | (with_reducible first | exact HB.out | apply below_alloc | apply pw_below_drewN | apply below_drew1 | refine below_set ?_ GE170.out | refine below_set ?_ GE182.out | refine below_set ?_ GE198.out) | exact HB.out)⟩⟩
    · rw [if_neg c35] at H
      have c35b0 : (!(t186 == t171) || (!(t187 == t172) || (!(t188 == t173) || (!(t189 == t174) || ((!(t190 == t175) || (!(t191 == t176) || (!(t192 == t177) || (!(t193 == t178) || (!(t194 == t179) || (!(t195 == t180))))))) || (!(t196 == t181))))))) = false := by simpa using c35
      clear c35
      (first | rw [c35b0] | (simp only [i64_w, i32_w]; rw [c35b0]) | skip)
      have H' := Aside0.mk H
      clear H
      have hnb41 := NB198_170.out
      have hnc41 := NB170_198.out
      have hnb42 := NB198_182.out
      have hnc42 := NB182_198.out
      have hcz43_0 : w23.cell? ⟨gb198, 0, none⟩ = some (.int .i64 0) := (blk_cell BK198.out 0).trans rfl
      have hcz43_1 : w23.cell? ⟨gb198, 1, none⟩ = some (.int .i64 0) := (blk_cell BK198.out 1).trans rfl
      have hcz43_2 : w23.cell? ⟨gb198, 2, none⟩ = some (.int .u64 0) := (blk_cell BK198.out 2).trans rfl
      have hcz43_3 : w23.cell? ⟨gb198, 3, none⟩ = some (.int .u64 0) := (blk_cell BK198.out 3).trans rfl
      have hcz43_4 : w23.cell? ⟨gb198, 4, none⟩ = some (.bool false) := (blk_cell BK198.out 4).trans rfl
      have hcz43_5 : w23.cell? ⟨gb198, 5, none⟩ = some (.bool false) := (blk_cell BK198.out 5).trans rfl
      have hcz43_6 : w23.cell? ⟨gb198, 6, none⟩ = some (.bool false) := (blk_cell BK198.out 6).trans rfl
      have hcz43_7 : w23.cell? ⟨gb198, 7, none⟩ = some (.bool false) := (blk_cell BK198.out 7).trans rfl
      have hcz43_8 : w23.cell? ⟨gb198, 8, none⟩ = some (.bool false) := (blk_cell BK198.out 8).trans rfl
      have hcz43_9 : w23.cell? ⟨gb198, 9, none⟩ = some (.bool false) := (blk_cell BK198.out 9).trans rfl
      have hcz43_10 : w23.cell? ⟨gb198, 10, none⟩ = some (.bool false) := (blk_cell BK198.out 10).trans rfl
      have hfz43_0 := blk_frozen BK198.out 0
      have hfz43_1 := blk_frozen BK198.out 1
      have hfz43_2 := blk_frozen BK198.out 2
      have hfz43_3 := blk_frozen BK198.out 3
      have hfz43_4 := blk_frozen BK198.out 4
      have hfz43_5 := blk_frozen BK198.out 5
      have hfz43_6 := blk_frozen BK198.out 6
      have hfz43_7 := blk_frozen BK198.out 7
      have hfz43_8 := blk_frozen BK198.out 8
      have hfz43_9 := blk_frozen BK198.out 9
      have hfz43_10 := blk_frozen BK198.out 10
      have hnb44 := NB182_170.out
      have hnc44 := NB170_182.out
      have hcz45_0 : w23.cell? ⟨gb182, 0, none⟩ = some (.int .i64 t171) := (blk_cell BK182.out 0).trans rfl
      have hcz45_1 : w23.cell? ⟨gb182, 1, none⟩ = some (.int .i64 t172) := (blk_cell BK182.out 1).trans rfl
      have hcz45_2 : w23.cell? ⟨gb182, 2, none⟩ = some (.int .u64 t173) := (blk_cell BK182.out 2).trans rfl
      have hcz45_3 : w23.cell? ⟨gb182, 3, none⟩ = some (.int .u64 t174) := (blk_cell BK182.out 3).trans rfl
      have hcz45_4 : w23.cell? ⟨gb182, 4, none⟩ = some (.bool t175) := (blk_cell BK182.out 4).trans rfl
      have hcz45_5 : w23.cell? ⟨gb182, 5, none⟩ = some (.bool t176) := (blk_cell BK182.out 5).trans rfl
      have hcz45_6 : w23.cell? ⟨gb182, 6, none⟩ = some (.bool t177) := (blk_cell BK182.out 6).trans rfl
      have hcz45_7 : w23.cell? ⟨gb182, 7, none⟩ = some (.bool t178) := (blk_cell BK182.out 7).trans rfl
      have hcz45_8 : w23.cell? ⟨gb182, 8, none⟩ = some (.bool t179) := (blk_cell BK182.out 8).trans rfl
      have hcz45_9 : w23.cell? ⟨gb182, 9, none⟩ = some (.bool t180) := (blk_cell BK182.out 9).trans rfl
      have hcz45_10 : w23.cell? ⟨gb182, 10, none⟩ = some (.bool t181) := (blk_cell BK182.out 10).trans rfl
      have hfz45_0 := blk_frozen BK182.out 0
      have hfz45_1 := blk_frozen BK182.out 1
      have hfz45_2 := blk_frozen BK182.out 2
      have hfz45_3 := blk_frozen BK182.out 3
      have hfz45_4 := blk_frozen BK182.out 4
      have hfz45_5 := blk_frozen BK182.out 5
      have hfz45_6 := blk_frozen BK182.out 6
      have hfz45_7 := blk_frozen BK182.out 7
      have hfz45_8 := blk_frozen BK182.out 8
      have hfz45_9 := blk_frozen BK182.out 9
      have hfz45_10 := blk_frozen BK182.out 10
      go_wp2
      go_meet
      case rel => exact ⟨_, ((t197 != 0)), (by first | rfl | (simp; done) | (simp [*]; done)), H', ⟨by first | omega | exact Nat.le_refl _⟩, ⟨by (with_reducible repeat (first | refine blk_drewN ?_ _ | refine blk_drew ?_ | refine blk_alloc ?_ _)); refine blk_far ?_ NB170_198.out _; refine blk_far ?_ NB170_198.out _; refine blk_far ?_ NB170_198.out _; refine blk_far ?_ NB170_198.out _; refine blk_far ?_ NB170_198.out _; refine blk_far ?_ NB170_198.out _; refine blk_far ?_ NB170_198.out _; refine blk_far ?_ NB170_198.out _; refine blk_far ?_ NB170_198.out _; refine blk_far ?_ NB170_198.out _; refine blk_far ?_ NB170_198.out _; (with_reducible repeat (first | refine blk_drewN ?_ _ | refine blk_drew ?_ | refine blk_alloc ?_ _)); exact BK170.out⟩, ⟨by (with_reducible repeat (first | refine blk_drewN ?_ _ | refine blk_drew ?_ | refine blk_alloc ?_ _)); refine blk_far ?_ NB182_198.out _; refine blk_far ?_ NB182_198.out _; refine blk_far ?_ NB182_198.out _; refine blk_far ?_ NB182_198.out _; refine blk_far ?_ NB182_198.out _; refine blk_far ?_ NB182_198.out _; refine blk_far ?_ NB182_198.out _; refine blk_far ?_ NB182_198.out _; refine blk_far ?_ NB182_198.out _; refine blk_far ?_ NB182_198.out _; refine blk_far ?_ NB182_198.out _; (with_reducible repeat (first | refine blk_drewN ?_ _ | refine blk_drew ?_ | refine blk_alloc ?_ _)); exact BK182.out⟩, ⟨by (with_reducible repeat (first | refine blk_drewN ?_ _ | refine blk_drew ?_ | refine blk_alloc ?_ _)); refine blk_put (cs := #[.int .i64 t186, .int .i64 t187, .int .u64 t188, .int .u64 t189, .bool t190, .bool t191, .bool t192, .bool t193, .bool t194, .bool t195, .bool false]) ?_ 10 _ rfl; refine blk_put (cs := #[.int .i64 t186, .int .i64 t187, .int .u64 t188, .int .u64 t189, .bool t190, .bool t191, .bool t192, .bool t193, .bool t194, .bool false, .bool false]) ?_ 9 _ rfl; refine blk_put (cs := #[.int .i64 t186, .int .i64 t187, .int .u64 t188, .int .u64 t189, .bool t190, .bool t191, .bool t192, .bool t193, .bool false, .bool false, .bool false]) ?_ 8 _ rfl; refine blk_put (cs := #[.int .i64 t186, .int .i64 t187, .int .u64 t188, .int .u64 t189, .bool t190, .bool t191, .bool t192, .bool false, .bool false, .bool false, .bool false]) ?_ 7 _ rfl; refine blk_put (cs := #[.int .i64 t186, .int .i64 t187, .int .u64 t188, .int .u64 t189, .bool t190, .bool t191, .bool false, .bool false, .bool false, .bool false, .bool false]) ?_ 6 _ rfl; refine blk_put (cs := #[.int .i64 t186, .int .i64 t187, .int .u64 t188, .int .u64 t189, .bool t190, .bool false, .bool false, .bool false, .bool false, .bool false, .bool false]) ?_ 5 _ rfl; refine blk_put (cs := #[.int .i64 t186, .int .i64 t187, .int .u64 t188, .int .u64 t189, .bool false, .bool false, .bool false, .bool false, .bool false, .bool false, .bool false]) ?_ 4 _ rfl; refine blk_put (cs := #[.int .i64 t186, .int .i64 t187, .int .u64 t188, .int .u64 0, .bool false, .bool false, .bool false, .bool false, .bool false, .bool false, .bool false]) ?_ 3 _ rfl; refine blk_put (cs := #[.int .i64 t186, .int .i64 t187, .int .u64 0, .int .u64 0, .bool false, .bool false, .bool false, .bool false, .bool false, .bool false, .bool false]) ?_ 2 _ rfl; refine blk_put (cs := #[.int .i64 t186, .int .i64 0, .int .u64 0, .int .u64 0, .bool false, .bool false, .bool false, .bool false, .bool false, .bool false, .bool false]) ?_ 1 _ rfl; refine blk_put (cs := #[.int .i64 0, .int .i64 0, .int .u64 0, .int .u64 0, .bool false, .bool false, .bool false, .bool false, .bool false, .bool false, .bool false]) ?_ 0 _ rfl; (with_reducible repeat (first | refine blk_drewN ?_ _ | refine blk_drew ?_ | refine blk_alloc ?_ _)); exact BK198.out⟩, ⟨by repeat (first | (with_reducible first | exact HB.out | apply below_alloc | apply pw_below_drewN | apply below_drew1 | refine below_set ?_ GE170.out | refine below_set ?_ GE182.out | refine below_set ?_ GE198.out) | exact HB.out)⟩⟩
  case rest =>
    clear HC9
    try clear c1
    try clear p2
    try clear c3
    try clear c4
    try clear c14
    try clear c15
    try clear c32
    try clear c35
    try clear c35b0
    try clear c36
    try clear c37
    try clear c39
    try clear c41
    try clear c42
    try clear c44
    try clear hcz38_0
    try clear hcz38_1
    try clear hcz38_10
    try clear hcz38_2
    try clear hcz38_3
    try clear hcz38_4
    try clear hcz38_5
    try clear hcz38_6
    try clear hcz38_7
    try clear hcz38_8
    try clear hcz38_9
    try clear hcz40_0
    try clear hcz40_1
    try clear hcz40_10
    try clear hcz40_2
    try clear hcz40_3
    try clear hcz40_4
    try clear hcz40_5
    try clear hcz40_6
    try clear hcz40_7
    try clear hcz40_8
    try clear hcz40_9
    try clear hcz43_0
    try clear hcz43_1
    try clear hcz43_10
    try clear hcz43_2
    try clear hcz43_3
    try clear hcz43_4
    try clear hcz43_5
    try clear hcz43_6
    try clear hcz43_7
    try clear hcz43_8
    try clear hcz43_9
    try clear hcz45_0
    try clear hcz45_1
    try clear hcz45_10
    try clear hcz45_2
    try clear hcz45_3
    try clear hcz45_4
    try clear hcz45_5
    try clear hcz45_6
    try clear hcz45_7
    try clear hcz45_8
    try clear hcz45_9
    try clear hfz38_0
    try clear hfz38_1
    try clear hfz38_10
    try clear hfz38_2
    try clear hfz38_3
    try clear hfz38_4
    try clear hfz38_5
    try clear hfz38_6
    try clear hfz38_7
    try clear hfz38_8
    try clear hfz38_9
    try clear hfz40_0
    try clear hfz40_1
    try clear hfz40_10
    try clear hfz40_2
    try clear hfz40_3
    try clear hfz40_4
    try clear hfz40_5
    try clear hfz40_6
    try clear hfz40_7
    try clear hfz40_8
    try clear hfz40_9
    try clear hfz43_0
    try clear hfz43_1
    try clear hfz43_10
    try clear hfz43_2
    try clear hfz43_3
    try clear hfz43_4
    try clear hfz43_5
    try clear hfz43_6
    try clear hfz43_7
    try clear hfz43_8
    try clear hfz43_9
    try clear hfz45_0
    try clear hfz45_1
    try clear hfz45_10
    try clear hfz45_2
    try clear hfz45_3
    try clear hfz45_4
    try clear hfz45_5
    try clear hfz45_6
    try clear hfz45_7
    try clear hfz45_8
    try clear hfz45_9
    obtain ⟨kq, x39_8, rfl, HA, HJ8, BK170, BK182, BK198, HB⟩ := hcut
    cases kq with
    | zero => exact absurd HA.out (by simp [lookasidelaw03_TteRound.j0])
    | succ kj8 =>
      have H := HA.out
      clear HA
      simp only [lookasidelaw03_TteRound.j0] at H
      by_cases c46 : x39_8 = true
      · subst c46
        have H1 : (some false) = some r := by rw [if_pos rfl] at H; exact H
        clear H
        have H := H1
        clear H1
        exact absurd ((Option.some.inj H).trans hr_.out) (by decide)
      · replace c46 := Bool.eq_false_iff.mpr c46
        subst c46
        have H1 : ((tte_Tag.f t171 t172 t173 t174 t175 t176 t177 t178 t179 t180 t181).bind fun t199 => ((tte_Data.f t171 t172 t173 t174 t175 t176 t177 t178 t179 t180 t181).bind fun t200 => ((tte_Read.f kj8 t199 t200 a2).bind fun bt201 => ((lookasideref03_Tag.f kj8 t171 t172 t173 t174 t175 t176 t177 t178 t179 t180 t181).bind fun t214 => ((lookasideref03_Data.f kj8 t171 t172 t173 t174 t175 t176 t177 t178 t179 t180 t181).bind fun t215 => ((lookasideref03_Read.f kj8 t214 t215 a2).bind fun bt216 => (if (bt201.1 == bt216.1 && (bt201.2.1 == bt216.2.1 && (bt201.2.2.1 == bt216.2.2.1 && (bt201.2.2.2.1 == bt216.2.2.2.1 && ((bt201.2.2.2.2.1 == bt216.2.2.2.2.1 && (bt201.2.2.2.2.2.1 == bt216.2.2.2.2.2.1 && (bt201.2.2.2.2.2.2.1 == bt216.2.2.2.2.2.2.1 && (bt201.2.2.2.2.2.2.2.1 == bt216.2.2.2.2.2.2.2.1 && (bt201.2.2.2.2.2.2.2.2.1 == bt216.2.2.2.2.2.2.2.2.1 && (bt201.2.2.2.2.2.2.2.2.2.1 == bt216.2.2.2.2.2.2.2.2.2.1)))))) && (bt201.2.2.2.2.2.2.2.2.2.2.1 == bt216.2.2.2.2.2.2.2.2.2.2.1)))))) = true then (if bt201.2.2.2.2.2.2.2.2.2.2.2 = bt216.2.2.2.2.2.2.2.2.2.2.2 then ((lookasidelaw03_lives.f kj8).bind fun t229 => (some t229)) else (some false)) else (some false)))))))) = some r := by rw [if_neg (show ¬ (false = true) by decide)] at H; exact H
        clear H
        have H := H1
        clear H1
        replace H := Option.bind_eq_some_iff.mp H
        obtain ⟨t199, A470, H⟩ := H
        replace H : ((tte_Data.f t171 t172 t173 t174 t175 t176 t177 t178 t179 t180 t181).bind fun t200 => ((tte_Read.f kj8 t199 t200 a2).bind fun bt201 => ((lookasideref03_Tag.f kj8 t171 t172 t173 t174 t175 t176 t177 t178 t179 t180 t181).bind fun t214 => ((lookasideref03_Data.f kj8 t171 t172 t173 t174 t175 t176 t177 t178 t179 t180 t181).bind fun t215 => ((lookasideref03_Read.f kj8 t214 t215 a2).bind fun bt216 => (if (bt201.1 == bt216.1 && (bt201.2.1 == bt216.2.1 && (bt201.2.2.1 == bt216.2.2.1 && (bt201.2.2.2.1 == bt216.2.2.2.1 && ((bt201.2.2.2.2.1 == bt216.2.2.2.2.1 && (bt201.2.2.2.2.2.1 == bt216.2.2.2.2.2.1 && (bt201.2.2.2.2.2.2.1 == bt216.2.2.2.2.2.2.1 && (bt201.2.2.2.2.2.2.2.1 == bt216.2.2.2.2.2.2.2.1 && (bt201.2.2.2.2.2.2.2.2.1 == bt216.2.2.2.2.2.2.2.2.1 && (bt201.2.2.2.2.2.2.2.2.2.1 == bt216.2.2.2.2.2.2.2.2.2.1)))))) && (bt201.2.2.2.2.2.2.2.2.2.2.1 == bt216.2.2.2.2.2.2.2.2.2.2.1)))))) = true then (if bt201.2.2.2.2.2.2.2.2.2.2.2 = bt216.2.2.2.2.2.2.2.2.2.2.2 then ((lookasidelaw03_lives.f kj8).bind fun t229 => (some t229)) else (some false)) else (some false))))))) = some r := H
        have A47 := Aside0.mk A470
        clear A470
        replace H := Option.bind_eq_some_iff.mp H
        obtain ⟨t200, A480, H⟩ := H
        replace H : ((tte_Read.f kj8 t199 t200 a2).bind fun bt201 => ((lookasideref03_Tag.f kj8 t171 t172 t173 t174 t175 t176 t177 t178 t179 t180 t181).bind fun t214 => ((lookasideref03_Data.f kj8 t171 t172 t173 t174 t175 t176 t177 t178 t179 t180 t181).bind fun t215 => ((lookasideref03_Read.f kj8 t214 t215 a2).bind fun bt216 => (if (bt201.1 == bt216.1 && (bt201.2.1 == bt216.2.1 && (bt201.2.2.1 == bt216.2.2.1 && (bt201.2.2.2.1 == bt216.2.2.2.1 && ((bt201.2.2.2.2.1 == bt216.2.2.2.2.1 && (bt201.2.2.2.2.2.1 == bt216.2.2.2.2.2.1 && (bt201.2.2.2.2.2.2.1 == bt216.2.2.2.2.2.2.1 && (bt201.2.2.2.2.2.2.2.1 == bt216.2.2.2.2.2.2.2.1 && (bt201.2.2.2.2.2.2.2.2.1 == bt216.2.2.2.2.2.2.2.2.1 && (bt201.2.2.2.2.2.2.2.2.2.1 == bt216.2.2.2.2.2.2.2.2.2.1)))))) && (bt201.2.2.2.2.2.2.2.2.2.2.1 == bt216.2.2.2.2.2.2.2.2.2.2.1)))))) = true then (if bt201.2.2.2.2.2.2.2.2.2.2.2 = bt216.2.2.2.2.2.2.2.2.2.2.2 then ((lookasidelaw03_lives.f kj8).bind fun t229 => (some t229)) else (some false)) else (some false)))))) = some r := H
        have A48 := Aside0.mk A480
        clear A480
        replace H := Option.bind_eq_some_iff.mp H
        obtain ⟨⟨t201, t202, t203, t204, t205, t206, t207, t208, t209, t210, t211, t212⟩, A490, H⟩ := H
        replace H : ((lookasideref03_Tag.f kj8 t171 t172 t173 t174 t175 t176 t177 t178 t179 t180 t181).bind fun t214 => ((lookasideref03_Data.f kj8 t171 t172 t173 t174 t175 t176 t177 t178 t179 t180 t181).bind fun t215 => ((lookasideref03_Read.f kj8 t214 t215 a2).bind fun bt216 => (if (t201 == bt216.1 && (t202 == bt216.2.1 && (t203 == bt216.2.2.1 && (t204 == bt216.2.2.2.1 && ((t205 == bt216.2.2.2.2.1 && (t206 == bt216.2.2.2.2.2.1 && (t207 == bt216.2.2.2.2.2.2.1 && (t208 == bt216.2.2.2.2.2.2.2.1 && (t209 == bt216.2.2.2.2.2.2.2.2.1 && (t210 == bt216.2.2.2.2.2.2.2.2.2.1)))))) && (t211 == bt216.2.2.2.2.2.2.2.2.2.2.1)))))) = true then (if t212 = bt216.2.2.2.2.2.2.2.2.2.2.2 then ((lookasidelaw03_lives.f kj8).bind fun t229 => (some t229)) else (some false)) else (some false))))) = some r := H
        have A49 := Aside0.mk A490
        clear A490
        replace H := Option.bind_eq_some_iff.mp H
        obtain ⟨t214, A500, H⟩ := H
        replace H : ((lookasideref03_Data.f kj8 t171 t172 t173 t174 t175 t176 t177 t178 t179 t180 t181).bind fun t215 => ((lookasideref03_Read.f kj8 t214 t215 a2).bind fun bt216 => (if (t201 == bt216.1 && (t202 == bt216.2.1 && (t203 == bt216.2.2.1 && (t204 == bt216.2.2.2.1 && ((t205 == bt216.2.2.2.2.1 && (t206 == bt216.2.2.2.2.2.1 && (t207 == bt216.2.2.2.2.2.2.1 && (t208 == bt216.2.2.2.2.2.2.2.1 && (t209 == bt216.2.2.2.2.2.2.2.2.1 && (t210 == bt216.2.2.2.2.2.2.2.2.2.1)))))) && (t211 == bt216.2.2.2.2.2.2.2.2.2.2.1)))))) = true then (if t212 = bt216.2.2.2.2.2.2.2.2.2.2.2 then ((lookasidelaw03_lives.f kj8).bind fun t229 => (some t229)) else (some false)) else (some false)))) = some r := H
        have A50 := Aside0.mk A500
        clear A500
        replace H := Option.bind_eq_some_iff.mp H
        obtain ⟨t215, A510, H⟩ := H
        replace H : ((lookasideref03_Read.f kj8 t214 t215 a2).bind fun bt216 => (if (t201 == bt216.1 && (t202 == bt216.2.1 && (t203 == bt216.2.2.1 && (t204 == bt216.2.2.2.1 && ((t205 == bt216.2.2.2.2.1 && (t206 == bt216.2.2.2.2.2.1 && (t207 == bt216.2.2.2.2.2.2.1 && (t208 == bt216.2.2.2.2.2.2.2.1 && (t209 == bt216.2.2.2.2.2.2.2.2.1 && (t210 == bt216.2.2.2.2.2.2.2.2.2.1)))))) && (t211 == bt216.2.2.2.2.2.2.2.2.2.2.1)))))) = true then (if t212 = bt216.2.2.2.2.2.2.2.2.2.2.2 then ((lookasidelaw03_lives.f kj8).bind fun t229 => (some t229)) else (some false)) else (some false))) = some r := H
        have A51 := Aside0.mk A510
        clear A510
        replace H := Option.bind_eq_some_iff.mp H
        obtain ⟨⟨t216, t217, t218, t219, t220, t221, t222, t223, t224, t225, t226, t227⟩, A520, H⟩ := H
        replace H : (if (t201 == t216 && (t202 == t217 && (t203 == t218 && (t204 == t219 && ((t205 == t220 && (t206 == t221 && (t207 == t222 && (t208 == t223 && (t209 == t224 && (t210 == t225)))))) && (t211 == t226)))))) = true then (if t212 = t227 then ((lookasidelaw03_lives.f kj8).bind fun t229 => (some t229)) else (some false)) else (some false)) = some r := H
        have A52 := Aside0.mk A520
        clear A520
        by_cases c53 : (t201 == t216 && (t202 == t217 && (t203 == t218 && (t204 == t219 && ((t205 == t220 && (t206 == t221 && (t207 == t222 && (t208 == t223 && (t209 == t224 && (t210 == t225)))))) && (t211 == t226)))))) = true
        · rw [if_pos c53] at H
          have c53b0 : (t201 == t216 && (t202 == t217 && (t203 == t218 && (t204 == t219 && ((t205 == t220 && (t206 == t221 && (t207 == t222 && (t208 == t223 && (t209 == t224 && (t210 == t225)))))) && (t211 == t226)))))) = true := c53
          (try (have c53b1 : decide (t201 = t216 && (t202 == t217 && (t203 == t218 && (t204 == t219 && ((t205 == t220 && (t206 == t221 && (t207 == t222 && (t208 == t223 && (t209 == t224 && (t210 == t225)))))) && (t211 == t226)))))) = true := by simpa using c53))
          (try (have c53b2 : (t201 == t216 && (t202 == t217 && (t203 == t218 && (t204 == t219 && ((t205 == t220 && (t206 == t221 && (t207 == t222 && (t208 == t223 && (t209 == t224 && (t210 == t225)))))) && (t211 == t226)))))) = true := by simpa using c53))
          clear c53
          by_cases c54 : t212 = t227
          · rw [if_pos c54] at H
            have c54b0 : (t212 == t227) = true := beq_iff_eq.mpr c54
            have c54b1 : (t212 != t227) = false := bne_eq_false_iff_eq.mpr c54
            clear c54
            replace H := Option.bind_eq_some_iff.mp H
            obtain ⟨t229, A550, H⟩ := H
            replace H : (some t229) = some r := H
            have A55 := Aside0.mk A550
            clear A550
            obtain rfl := Option.some.inj H
            try go_wp2
            have n0_ := Aside0.mk (blk_drew BK170.out)
            have n1_ := Aside0.mk (blk_drew BK182.out)
            have n2_ := Aside0.mk (blk_drew BK198.out)
            have n3_ := Aside0.mk (below_drew1 HB.out)
            clear BK170
            clear BK182
            clear BK198
            clear HB
            have BK170 := n0_
            have BK182 := n1_
            have BK198 := n2_
            have HB := n3_
            clear n0_ n1_ n2_ n3_
            refine start_ (n := 12) (S := fun w' => w'.cell? ⟨gb182, 0, none⟩ = some (.int .i64 t171) ∧ w'.cell? ⟨gb182, 1, none⟩ = some (.int .i64 t172) ∧ w'.cell? ⟨gb182, 2, none⟩ = some (.int .u64 t173) ∧ w'.cell? ⟨gb182, 3, none⟩ = some (.int .u64 t174) ∧ w'.cell? ⟨gb182, 4, none⟩ = some (.bool t175) ∧ w'.cell? ⟨gb182, 5, none⟩ = some (.bool t176) ∧ w'.cell? ⟨gb182, 6, none⟩ = some (.bool t177) ∧ w'.cell? ⟨gb182, 7, none⟩ = some (.bool t178) ∧ w'.cell? ⟨gb182, 8, none⟩ = some (.bool t179) ∧ w'.cell? ⟨gb182, 9, none⟩ = some (.bool t180) ∧ w'.cell? ⟨gb182, 10, none⟩ = some (.bool t181)) (ds := []) #[false, false, false, false, false, false, false, false, false, false, false, false] (by kernel_rfl) rfl rfl (cz11_10 BK182.out) (fun hHeld => ?_); refine with_tabW lookasidelaw03_TteRound.tab6 lookasidelaw03_TteRound.bits6 (fun HT_ HW_ => ?_)
            generalize wc.drew = w56 at BK170 BK182 BK198 HB hHeld ⊢
            refine pure_ (i := 4) (N := some 45) (v := ?_) (a' := ?_) #[false, false, false, false, true, false, false, false, false, false, false, false] rfl rfl (any_of HT_.out (by kernel_rfl)) (fun _ _ _ h => h) (Or.inl ⟨by rfl, ?_⟩) ?_ ?_
            rotate_left
            · intro w'
              go_simp
              with_reducible rfl
            rotate_left
            · simp only [Act.put, List.setIfInBounds_toArray, List.set_cons_zero, List.set_cons_succ, i64_w, i32_w]
              rfl
            refine take_ (i := 0) (N := some 41) (v := ?_) (a' := ?_) #[true, false, false, false, true, false, false, false, false, false, false, false] rfl rfl (take_ofW HT_.out HW_.out (by kernel_rfl)) (fun _ _ _ h => h) (Or.inl ⟨by rfl, ?_⟩) hHeld ?_ ?_
            rotate_left
            · rintro w' ⟨s0, s1, s2, s3, s4, s5, s6, s7, s8, s9, s10⟩
              go_simp
              with_reducible rfl
            rotate_left
            · simp only [Act.put, List.setIfInBounds_toArray, List.set_cons_zero, List.set_cons_succ, i64_w, i32_w]
              rfl
            refine take_ (i := 2) (N := some 43) (v := ?_) (a' := ?_) #[true, false, true, false, true, false, false, false, false, false, false, false] rfl rfl (take_ofW HT_.out HW_.out (by kernel_rfl)) (fun _ _ _ h => h) (Or.inl ⟨by rfl, ?_⟩) hHeld ?_ ?_
            rotate_left
            · rintro w' ⟨s0, s1, s2, s3, s4, s5, s6, s7, s8, s9, s10⟩
              go_simp
              with_reducible rfl
            rotate_left
            · simp only [Act.put, List.setIfInBounds_toArray, List.set_cons_zero, List.set_cons_succ, i64_w, i32_w]
              rfl
            refine join_ (σ := Nat) 2 #[true, true, true, true, true, true, true, true, true, true, false, false] (fun s_ => [(42, .int .u64 t199), (44, .int .u64 t200), (46, .tuple #[.agg #[.int .i64 t201, .int .i64 t202, .int .u64 t203, .int .u64 t204, .bool t205, .bool t206, .bool t207, .bool t208, .bool t209, .bool t210, .bool t211], .int .i64 t212]), (11, .pointer (some ⟨s_, 0, none⟩)), (40, .tuple #[.agg #[.int .i64 t201, .int .i64 t202, .int .u64 t203, .int .u64 t204, .bool t205, .bool t206, .bool t207, .bool t208, .bool t209, .bool t210, .bool t211], .int .i64 t212]), (47, .agg #[.int .i64 t201, .int .i64 t202, .int .u64 t203, .int .u64 t204, .bool t205, .bool t206, .bool t207, .bool t208, .bool t209, .bool t210, .bool t211]), (48, .int .i64 t212)]) (fun s_ w' => (w'.cell? ⟨gb182, 0, none⟩ = some (.int .i64 t171) ∧ w'.cell? ⟨gb182, 1, none⟩ = some (.int .i64 t172) ∧ w'.cell? ⟨gb182, 2, none⟩ = some (.int .u64 t173) ∧ w'.cell? ⟨gb182, 3, none⟩ = some (.int .u64 t174) ∧ w'.cell? ⟨gb182, 4, none⟩ = some (.bool t175) ∧ w'.cell? ⟨gb182, 5, none⟩ = some (.bool t176) ∧ w'.cell? ⟨gb182, 6, none⟩ = some (.bool t177) ∧ w'.cell? ⟨gb182, 7, none⟩ = some (.bool t178) ∧ w'.cell? ⟨gb182, 8, none⟩ = some (.bool t179) ∧ w'.cell? ⟨gb182, 9, none⟩ = some (.bool t180) ∧ w'.cell? ⟨gb182, 10, none⟩ = some (.bool t181)) ∧ (w'.heap[gb170]? = some (.cells #[.int .i64 a0_0, .int .i64 a0_1, .int .u64 a0_2, .int .u64 a0_3, .bool a0_4, .bool a0_5, .bool a0_6, .bool a0_7, .bool a0_8, .bool a0_9, .bool a0_10] 26 (0, 0))) ∧ (w'.heap[gb182]? = some (.cells #[.int .i64 t171, .int .i64 t172, .int .u64 t173, .int .u64 t174, .bool t175, .bool t176, .bool t177, .bool t178, .bool t179, .bool t180, .bool t181] 26 (0, 0))) ∧ (w'.heap[gb198]? = some (.cells #[.int .i64 t186, .int .i64 t187, .int .u64 t188, .int .u64 t189, .bool t190, .bool t191, .bool t192, .bool t193, .bool t194, .bool t195, .bool t196] 26 (0, 0))) ∧ (w'.heap[s_]? = some (.cells #[.int .i64 0, .int .i64 0, .int .u64 0, .int .u64 0, .bool false, .bool false, .bool false, .bool false, .bool false, .bool false, .bool false] 26 (0, 0))) ∧ (w.heap.size ≤ s_) ∧ (w.heap.size ≤ s_) ∧ (gb170 ≠ s_) ∧ (s_ ≠ gb170) ∧ (gb182 ≠ s_) ∧ (s_ ≠ gb182) ∧ (gb198 ≠ s_) ∧ (s_ ≠ gb198) ∧ (Below w.heap.size w w')) ?_ ?_
            rotate_left
            · intro hCont
              refine two_ (i := 1) (j := 9) (Ni := some 42) (Nj := some 11) #[true, true, true, false, true, false, false, false, false, false, false, false] #[true, false, true, false, true, false, false, false, false, true, false, false] rfl rfl rfl rfl (two_of HT_.out (by kernel_rfl)) (by decide) (by decide) (fun K hK => ?_) (fun K hK => ?_)
              · skip
                refine goes_ Try.func14 (by kernel_rfl) rfl #[.agg #[.int .i64 t171, .int .i64 t172, .int .u64 t173, .int .u64 t174, .bool t175, .bool t176, .bool t177, .bool t178, .bool t179, .bool t180, .bool t181]] (by rfl) rfl rfl (by (try simp only [List.map_toArray, List.map_cons, List.map_nil]); first | done | rfl | (simp only [List.length_drop, List.length_take]; rfl)) ?_
                with_reducible refine (tte_Tag.calls t171 t172 t173 t174 t175 t176 t177 t178 t179 t180 t181 t199 _ A47.out).mono ?_
                rintro e w57 ⟨rfl, hb⟩
                refine ⟨_, rfl, ?_⟩
                have n0_ := Aside0.mk (bb10_ hb BK170.out)
                have n1_ := Aside0.mk (bb10_ hb BK182.out)
                have n2_ := Aside0.mk (bb10_ hb BK198.out)
                have n3_ := Aside0.mk (below_step (by repeat (first | (with_reducible first | exact HB.out | apply below_alloc | apply pw_below_drewN | apply below_drew1 | refine below_set ?_ GE170.out | refine below_set ?_ GE182.out | refine below_set ?_ GE198.out) | exact HB.out)) hb)
                clear BK170
                clear BK182
                clear BK198
                clear HB
                have BK170 := n0_
                have BK182 := n1_
                have BK198 := n2_
                have HB := n3_
                clear n0_ n1_ n2_ n3_
                (try clear hb)
                (try clear hb2)
                (try clear hk)
                (try clear hi)
                refine hK.out _ _ (cz11_10 BK182.out) (fun hHeld => ?_)
                clear hK K
                refine norm_ (a' := ?_) ?_ ?_
                rotate_left
                · show Act.put _ (some 42) _ = _
                  simp only [Act.put, List.setIfInBounds_toArray, List.set_cons_zero, List.set_cons_succ, i64_w, i32_w]
                  rfl
                refine two_ (i := 3) (j := 9) (Ni := some 44) (Nj := some 11) #[true, true, true, true, true, false, false, false, false, false, false, false] #[true, true, true, false, true, false, false, false, false, true, false, false] rfl rfl rfl rfl (two_of HT_.out (by kernel_rfl)) (by decide) (by decide) (fun K hK => ?_) (fun K hK => ?_)
                · skip
                  refine goes_ Try.func15 (by kernel_rfl) rfl #[.agg #[.int .i64 t171, .int .i64 t172, .int .u64 t173, .int .u64 t174, .bool t175, .bool t176, .bool t177, .bool t178, .bool t179, .bool t180, .bool t181]] (by rfl) rfl rfl (by (try simp only [List.map_toArray, List.map_cons, List.map_nil]); first | done | rfl | (simp only [List.length_drop, List.length_take]; rfl)) ?_
                  with_reducible refine (tte_Data.calls t171 t172 t173 t174 t175 t176 t177 t178 t179 t180 t181 t200 _ A48.out).mono ?_
                  rintro e w58 ⟨rfl, hb⟩
                  refine ⟨_, rfl, ?_⟩
                  have n0_ := Aside0.mk (bb10_ hb BK170.out)
                  have n1_ := Aside0.mk (bb10_ hb BK182.out)
                  have n2_ := Aside0.mk (bb10_ hb BK198.out)
                  have n3_ := Aside0.mk (below_step (by repeat (first | (with_reducible first | exact HB.out | apply below_alloc | apply pw_below_drewN | apply below_drew1 | refine below_set ?_ GE170.out | refine below_set ?_ GE182.out | refine below_set ?_ GE198.out) | exact HB.out)) hb)
                  clear BK170
                  clear BK182
                  clear BK198
                  clear HB
                  have BK170 := n0_
                  have BK182 := n1_
                  have BK198 := n2_
                  have HB := n3_
                  clear n0_ n1_ n2_ n3_
                  (try clear hb)
                  (try clear hb2)
                  (try clear hk)
                  (try clear hi)
                  refine hK.out _ _ (cz11_10 BK182.out) (fun hHeld => ?_)
                  clear hK K
                  refine norm_ (a' := ?_) ?_ ?_
                  rotate_left
                  · show Act.put _ (some 44) _ = _
                    simp only [Act.put, List.setIfInBounds_toArray, List.set_cons_zero, List.set_cons_succ, i64_w, i32_w]
                    rfl
                  refine two_ (i := 5) (j := 9) (Ni := some 46) (Nj := some 11) #[true, true, true, true, true, true, false, false, false, false, false, false] #[true, true, true, true, true, false, false, false, false, true, false, false] rfl rfl rfl rfl (two_of HT_.out (by kernel_rfl)) (by decide) (by decide) (fun K hK => ?_) (fun K hK => ?_)
                  · skip
                    refine goes_ Try.func32 (by kernel_rfl) rfl #[.int .u64 t199, .int .u64 t200, .int .u64 a2] (by rfl) rfl rfl (by (try simp only [List.map_toArray, List.map_cons, List.map_nil]); first | done | rfl | (simp only [List.length_drop, List.length_take]; rfl)) ?_
                    with_reducible refine (tte_Read.calls kj8 t199 t200 a2 t201 t202 t203 t204 t205 t206 t207 t208 t209 t210 t211 t212 _ A49.out).mono ?_
                    rintro e w59 ⟨rfl, hb⟩
                    refine ⟨_, rfl, ?_⟩
                    have n0_ := Aside0.mk (bb10_ hb BK170.out)
                    have n1_ := Aside0.mk (bb10_ hb BK182.out)
                    have n2_ := Aside0.mk (bb10_ hb BK198.out)
                    have n3_ := Aside0.mk (below_step (by repeat (first | (with_reducible first | exact HB.out | apply below_alloc | apply pw_below_drewN | apply below_drew1 | refine below_set ?_ GE170.out | refine below_set ?_ GE182.out | refine below_set ?_ GE198.out) | exact HB.out)) hb)
                    clear BK170
                    clear BK182
                    clear BK198
                    clear HB
                    have BK170 := n0_
                    have BK182 := n1_
                    have BK198 := n2_
                    have HB := n3_
                    clear n0_ n1_ n2_ n3_
                    (try clear hb)
                    (try clear hb2)
                    (try clear hk)
                    (try clear hi)
                    refine hK.out _ _ (cz11_10 BK182.out) (fun hHeld => ?_)
                    clear hK K
                    refine norm_ (a' := ?_) ?_ ?_
                    rotate_left
                    · show Act.put _ (some 46) _ = _
                      simp only [Act.put, List.setIfInBounds_toArray, List.set_cons_zero, List.set_cons_succ, i64_w, i32_w]
                      rfl
                    refine pure_ (i := 6) (N := some 40) (v := ?_) (a' := ?_) #[true, true, true, true, true, true, true, false, false, false, false, false] rfl rfl (any_of HT_.out (by kernel_rfl)) (fun _ _ _ h => h) (Or.inl ⟨by rfl, ?_⟩) ?_ ?_
                    rotate_left
                    · intro w'
                      go_simp
                      with_reducible rfl
                    rotate_left
                    · simp only [Act.put, List.setIfInBounds_toArray, List.set_cons_zero, List.set_cons_succ, i64_w, i32_w]
                      rfl
                    refine pure_ (i := 7) (N := some 47) (v := ?_) (a' := ?_) #[true, true, true, true, true, true, true, true, false, false, false, false] rfl rfl (any_of HT_.out (by kernel_rfl)) (fun _ _ _ h => h) (Or.inl ⟨by rfl, ?_⟩) ?_ ?_
                    rotate_left
                    · intro w'
                      go_simp
                      with_reducible rfl
                    rotate_left
                    · simp only [Act.put, List.setIfInBounds_toArray, List.set_cons_zero, List.set_cons_succ, i64_w, i32_w]
                      rfl
                    refine pure_ (i := 8) (N := some 48) (v := ?_) (a' := ?_) #[true, true, true, true, true, true, true, true, true, false, false, false] rfl rfl (any_of HT_.out (by kernel_rfl)) (fun _ _ _ h => h) (Or.inl ⟨by rfl, ?_⟩) ?_ ?_
                    rotate_left
                    · intro w'
                      go_simp
                      with_reducible rfl
                    rotate_left
                    · simp only [Act.put, List.setIfInBounds_toArray, List.set_cons_zero, List.set_cons_succ, i64_w, i32_w]
                      rfl
                    refine one_ (i := 9) (N := some 11) #[true, true, true, true, true, true, true, true, true, true, false, false] rfl rfl (one_of HT_.out (by kernel_rfl)) (by decide) (fun K hK => ?_)
                    refine box_step ?hg (N := 11) ?hd (cs := #[.int .i64 0, .int .i64 0, .int .u64 0, .int .u64 0, .bool false, .bool false, .bool false, .bool false, .bool false, .bool false, .bool false]) (t := 26) ?hr ?_; (case hd => rfl); (case hg => rfl); (case hr => first | (go_simp; done) | (go_simp; rfl))
                    intro gb213 hg w60 hbox hb
                    have n0_ := Aside0.mk (bb10_ hb BK170.out)
                    have n1_ := Aside0.mk (bb10_ hb BK182.out)
                    have n2_ := Aside0.mk (bb10_ hb BK198.out)
                    have n3_ := Aside0.mk (below_step (by repeat (first | (with_reducible first | exact HB.out | apply below_alloc | apply pw_below_drewN | apply below_drew1 | refine below_set ?_ GE170.out | refine below_set ?_ GE182.out | refine below_set ?_ GE198.out) | exact HB.out)) hb)
                    have n4_ := Aside0.mk (hbox)
                    have n5_ := Aside0.mk ((by rw [hg]; exact (below_size (by repeat (first | (with_reducible first | exact HB.out | apply below_alloc | apply pw_below_drewN | apply below_drew1 | refine below_set ?_ GE170.out | refine below_set ?_ GE182.out | refine below_set ?_ GE198.out) | exact HB.out))) : w.heap.size ≤ gb213))
                    have n6_ := Aside0.mk ((by rw [hg]; exact (below_size (by repeat (first | (with_reducible first | exact HB.out | apply below_alloc | apply pw_below_drewN | apply below_drew1 | refine below_set ?_ GE170.out | refine below_set ?_ GE182.out | refine below_set ?_ GE198.out) | exact HB.out))) : w.heap.size ≤ gb213))
                    have n7_ := Aside0.mk ((by rw [hg]; exact Nat.ne_of_lt (blk_lt BK170.out) : gb170 ≠ gb213))
                    have n8_ := Aside0.mk ((by rw [hg]; exact Nat.ne_of_gt (blk_lt BK170.out) : gb213 ≠ gb170))
                    have n9_ := Aside0.mk ((by rw [hg]; exact Nat.ne_of_lt (blk_lt BK182.out) : gb182 ≠ gb213))
                    have n10_ := Aside0.mk ((by rw [hg]; exact Nat.ne_of_gt (blk_lt BK182.out) : gb213 ≠ gb182))
                    have n11_ := Aside0.mk ((by rw [hg]; exact Nat.ne_of_lt (blk_lt BK198.out) : gb198 ≠ gb213))
                    have n12_ := Aside0.mk ((by rw [hg]; exact Nat.ne_of_gt (blk_lt BK198.out) : gb213 ≠ gb198))
                    clear BK170
                    clear BK182
                    clear BK198
                    clear HB
                    have BK170 := n0_
                    have BK182 := n1_
                    have BK198 := n2_
                    have HB := n3_
                    have BK213 := n4_
                    have GW213 := n5_
                    have GE213 := n6_
                    have NB170_213 := n7_
                    have NB213_170 := n8_
                    have NB182_213 := n9_
                    have NB213_182 := n10_
                    have NB198_213 := n11_
                    have NB213_198 := n12_
                    clear n0_ n1_ n2_ n3_ n4_ n5_ n6_ n7_ n8_ n9_ n10_ n11_ n12_
                    clear hb hbox hg
                    refine hK.out _ _ (cz11_10 BK182.out) (fun hHeld => ?_)
                    clear hK K
                    refine norm_ (a' := ?_) ?_ ?_
                    rotate_left
                    · show Act.put _ (some 11) _ = _
                      simp only [Act.put, List.setIfInBounds_toArray, List.set_cons_zero, List.set_cons_succ, i64_w, i32_w]
                      rfl
                    exact norm_ (by simp only [putAll, Act.put, List.setIfInBounds_toArray, List.set_cons_zero, List.set_cons_succ]) (hCont (gb213) _ ⟨hHeld, (by (with_reducible repeat (first | refine blk_drewN ?_ _ | refine blk_drew ?_ | refine blk_alloc ?_ _)); exact BK170.out), (by (with_reducible repeat (first | refine blk_drewN ?_ _ | refine blk_drew ?_ | refine blk_alloc ?_ _)); exact BK182.out), (by (with_reducible repeat (first | refine blk_drewN ?_ _ | refine blk_drew ?_ | refine blk_alloc ?_ _)); exact BK198.out), (by (with_reducible repeat (first | refine blk_drewN ?_ _ | refine blk_drew ?_ | refine blk_alloc ?_ _)); exact BK213.out), GW213.out, GE213.out, NB170_213.out, NB213_170.out, NB182_213.out, NB213_182.out, NB198_213.out, NB213_198.out, (by repeat (first | (with_reducible first | exact HB.out | apply below_alloc | apply pw_below_drewN | apply below_drew1 | refine below_set ?_ GE170.out | refine below_set ?_ GE182.out | refine below_set ?_ GE198.out | refine below_set ?_ GE213.out) | exact HB.out))⟩)
                  · skip
                    refine box_step ?hg (N := 11) ?hd (cs := #[.int .i64 0, .int .i64 0, .int .u64 0, .int .u64 0, .bool false, .bool false, .bool false, .bool false, .bool false, .bool false, .bool false]) (t := 26) ?hr ?_; (case hd => rfl); (case hg => rfl); (case hr => first | (go_simp; done) | (go_simp; rfl))
                    intro gb213 hg w59 hbox hb
                    have n0_ := Aside0.mk (bb10_ hb BK170.out)
                    have n1_ := Aside0.mk (bb10_ hb BK182.out)
                    have n2_ := Aside0.mk (bb10_ hb BK198.out)
                    have n3_ := Aside0.mk (below_step (by repeat (first | (with_reducible first | exact HB.out | apply below_alloc | apply pw_below_drewN | apply below_drew1 | refine below_set ?_ GE170.out | refine below_set ?_ GE182.out | refine below_set ?_ GE198.out) | exact HB.out)) hb)
                    have n4_ := Aside0.mk (hbox)
                    have n5_ := Aside0.mk ((by rw [hg]; exact (below_size (by repeat (first | (with_reducible first | exact HB.out | apply below_alloc | apply pw_below_drewN | apply below_drew1 | refine below_set ?_ GE170.out | refine below_set ?_ GE182.out | refine below_set ?_ GE198.out) | exact HB.out))) : w.heap.size ≤ gb213))
                    have n6_ := Aside0.mk ((by rw [hg]; exact (below_size (by repeat (first | (with_reducible first | exact HB.out | apply below_alloc | apply pw_below_drewN | apply below_drew1 | refine below_set ?_ GE170.out | refine below_set ?_ GE182.out | refine below_set ?_ GE198.out) | exact HB.out))) : w.heap.size ≤ gb213))
                    have n7_ := Aside0.mk ((by rw [hg]; exact Nat.ne_of_lt (blk_lt BK170.out) : gb170 ≠ gb213))
                    have n8_ := Aside0.mk ((by rw [hg]; exact Nat.ne_of_gt (blk_lt BK170.out) : gb213 ≠ gb170))
                    have n9_ := Aside0.mk ((by rw [hg]; exact Nat.ne_of_lt (blk_lt BK182.out) : gb182 ≠ gb213))
                    have n10_ := Aside0.mk ((by rw [hg]; exact Nat.ne_of_gt (blk_lt BK182.out) : gb213 ≠ gb182))
                    have n11_ := Aside0.mk ((by rw [hg]; exact Nat.ne_of_lt (blk_lt BK198.out) : gb198 ≠ gb213))
                    have n12_ := Aside0.mk ((by rw [hg]; exact Nat.ne_of_gt (blk_lt BK198.out) : gb213 ≠ gb198))
                    clear BK170
                    clear BK182
                    clear BK198
                    clear HB
                    have BK170 := n0_
                    have BK182 := n1_
                    have BK198 := n2_
                    have HB := n3_
                    have BK213 := n4_
                    have GW213 := n5_
                    have GE213 := n6_
                    have NB170_213 := n7_
                    have NB213_170 := n8_
                    have NB182_213 := n9_
                    have NB213_182 := n10_
                    have NB198_213 := n11_
                    have NB213_198 := n12_
                    clear n0_ n1_ n2_ n3_ n4_ n5_ n6_ n7_ n8_ n9_ n10_ n11_ n12_
                    clear hb hbox hg
                    refine hK.out _ _ (cz11_10 BK182.out) (fun hHeld => ?_)
                    clear hK K
                    refine norm_ (a' := ?_) ?_ ?_
                    rotate_left
                    · show Act.put _ (some 11) _ = _
                      simp only [Act.put, List.setIfInBounds_toArray, List.set_cons_zero, List.set_cons_succ, i64_w, i32_w]
                      rfl
                    refine one_ (i := 5) (N := some 46) #[true, true, true, true, true, true, false, false, false, true, false, false] rfl rfl (one_of HT_.out (by kernel_rfl)) (by decide) (fun K hK => ?_)
                    refine goes_ Try.func32 (by kernel_rfl) rfl #[.int .u64 t199, .int .u64 t200, .int .u64 a2] (by rfl) rfl rfl (by (try simp only [List.map_toArray, List.map_cons, List.map_nil]); first | done | rfl | (simp only [List.length_drop, List.length_take]; rfl)) ?_
                    with_reducible refine (tte_Read.calls kj8 t199 t200 a2 t201 t202 t203 t204 t205 t206 t207 t208 t209 t210 t211 t212 _ A49.out).mono ?_
                    rintro e w60 ⟨rfl, hb⟩
                    refine ⟨_, rfl, ?_⟩
                    have n0_ := Aside0.mk (bb10_ hb BK170.out)
                    have n1_ := Aside0.mk (bb10_ hb BK182.out)
                    have n2_ := Aside0.mk (bb10_ hb BK198.out)
                    have n3_ := Aside0.mk (bb10_ hb BK213.out)
                    have n4_ := Aside0.mk (below_step (by repeat (first | (with_reducible first | exact HB.out | apply below_alloc | apply pw_below_drewN | apply below_drew1 | refine below_set ?_ GE170.out | refine below_set ?_ GE182.out | refine below_set ?_ GE198.out | refine below_set ?_ GE213.out) | exact HB.out)) hb)
                    clear BK170
                    clear BK182
                    clear BK198
                    clear BK213
                    clear HB
                    have BK170 := n0_
                    have BK182 := n1_
                    have BK198 := n2_
                    have BK213 := n3_
                    have HB := n4_
                    clear n0_ n1_ n2_ n3_ n4_
                    (try clear hb)
                    (try clear hb2)
                    (try clear hk)
                    (try clear hi)
                    refine hK.out _ _ (cz11_10 BK182.out) (fun hHeld => ?_)
                    clear hK K
                    refine norm_ (a' := ?_) ?_ ?_
                    rotate_left
                    · show Act.put _ (some 46) _ = _
                      simp only [Act.put, List.setIfInBounds_toArray, List.set_cons_zero, List.set_cons_succ, i64_w, i32_w]
                      rfl
                    refine pure_ (i := 6) (N := some 40) (v := ?_) (a' := ?_) #[true, true, true, true, true, true, true, false, false, true, false, false] rfl rfl (any_of HT_.out (by kernel_rfl)) (fun _ _ _ h => h) (Or.inl ⟨by rfl, ?_⟩) ?_ ?_
                    rotate_left
                    · intro w'
                      go_simp
                      with_reducible rfl
                    rotate_left
                    · simp only [Act.put, List.setIfInBounds_toArray, List.set_cons_zero, List.set_cons_succ, i64_w, i32_w]
                      rfl
                    refine pure_ (i := 7) (N := some 47) (v := ?_) (a' := ?_) #[true, true, true, true, true, true, true, true, false, true, false, false] rfl rfl (any_of HT_.out (by kernel_rfl)) (fun _ _ _ h => h) (Or.inl ⟨by rfl, ?_⟩) ?_ ?_
                    rotate_left
                    · intro w'
                      go_simp
                      with_reducible rfl
                    rotate_left
                    · simp only [Act.put, List.setIfInBounds_toArray, List.set_cons_zero, List.set_cons_succ, i64_w, i32_w]
                      rfl
                    refine pure_ (i := 8) (N := some 48) (v := ?_) (a' := ?_) #[true, true, true, true, true, true, true, true, true, true, false, false] rfl rfl (any_of HT_.out (by kernel_rfl)) (fun _ _ _ h => h) (Or.inl ⟨by rfl, ?_⟩) ?_ ?_
                    rotate_left
                    · intro w'
                      go_simp
                      with_reducible rfl
                    rotate_left
                    · simp only [Act.put, List.setIfInBounds_toArray, List.set_cons_zero, List.set_cons_succ, i64_w, i32_w]
                      rfl
                    exact norm_ (by simp only [putAll, Act.put, List.setIfInBounds_toArray, List.set_cons_zero, List.set_cons_succ]) (hCont (gb213) _ ⟨hHeld, (by (with_reducible repeat (first | refine blk_drewN ?_ _ | refine blk_drew ?_ | refine blk_alloc ?_ _)); exact BK170.out), (by (with_reducible repeat (first | refine blk_drewN ?_ _ | refine blk_drew ?_ | refine blk_alloc ?_ _)); exact BK182.out), (by (with_reducible repeat (first | refine blk_drewN ?_ _ | refine blk_drew ?_ | refine blk_alloc ?_ _)); exact BK198.out), (by (with_reducible repeat (first | refine blk_drewN ?_ _ | refine blk_drew ?_ | refine blk_alloc ?_ _)); exact BK213.out), GW213.out, GE213.out, NB170_213.out, NB213_170.out, NB182_213.out, NB213_182.out, NB198_213.out, NB213_198.out, (by repeat (first | (with_reducible first | exact HB.out | apply below_alloc | apply pw_below_drewN | apply below_drew1 | refine below_set ?_ GE170.out | refine below_set ?_ GE182.out | refine below_set ?_ GE198.out | refine below_set ?_ GE213.out) | exact HB.out))⟩)
                · skip
                  refine box_step ?hg (N := 11) ?hd (cs := #[.int .i64 0, .int .i64 0, .int .u64 0, .int .u64 0, .bool false, .bool false, .bool false, .bool false, .bool false, .bool false, .bool false]) (t := 26) ?hr ?_; (case hd => rfl); (case hg => rfl); (case hr => first | (go_simp; done) | (go_simp; rfl))
                  intro gb213 hg w58 hbox hb
                  have n0_ := Aside0.mk (bb10_ hb BK170.out)
                  have n1_ := Aside0.mk (bb10_ hb BK182.out)
                  have n2_ := Aside0.mk (bb10_ hb BK198.out)
                  have n3_ := Aside0.mk (below_step (by repeat (first | (with_reducible first | exact HB.out | apply below_alloc | apply pw_below_drewN | apply below_drew1 | refine below_set ?_ GE170.out | refine below_set ?_ GE182.out | refine below_set ?_ GE198.out) | exact HB.out)) hb)
                  have n4_ := Aside0.mk (hbox)
                  have n5_ := Aside0.mk ((by rw [hg]; exact (below_size (by repeat (first | (with_reducible first | exact HB.out | apply below_alloc | apply pw_below_drewN | apply below_drew1 | refine below_set ?_ GE170.out | refine below_set ?_ GE182.out | refine below_set ?_ GE198.out) | exact HB.out))) : w.heap.size ≤ gb213))
                  have n6_ := Aside0.mk ((by rw [hg]; exact (below_size (by repeat (first | (with_reducible first | exact HB.out | apply below_alloc | apply pw_below_drewN | apply below_drew1 | refine below_set ?_ GE170.out | refine below_set ?_ GE182.out | refine below_set ?_ GE198.out) | exact HB.out))) : w.heap.size ≤ gb213))
                  have n7_ := Aside0.mk ((by rw [hg]; exact Nat.ne_of_lt (blk_lt BK170.out) : gb170 ≠ gb213))
                  have n8_ := Aside0.mk ((by rw [hg]; exact Nat.ne_of_gt (blk_lt BK170.out) : gb213 ≠ gb170))
                  have n9_ := Aside0.mk ((by rw [hg]; exact Nat.ne_of_lt (blk_lt BK182.out) : gb182 ≠ gb213))
                  have n10_ := Aside0.mk ((by rw [hg]; exact Nat.ne_of_gt (blk_lt BK182.out) : gb213 ≠ gb182))
                  have n11_ := Aside0.mk ((by rw [hg]; exact Nat.ne_of_lt (blk_lt BK198.out) : gb198 ≠ gb213))
                  have n12_ := Aside0.mk ((by rw [hg]; exact Nat.ne_of_gt (blk_lt BK198.out) : gb213 ≠ gb198))
                  clear BK170
                  clear BK182
                  clear BK198
                  clear HB
                  have BK170 := n0_
                  have BK182 := n1_
                  have BK198 := n2_
                  have HB := n3_
                  have BK213 := n4_
                  have GW213 := n5_
                  have GE213 := n6_
                  have NB170_213 := n7_
                  have NB213_170 := n8_
                  have NB182_213 := n9_
                  have NB213_182 := n10_
                  have NB198_213 := n11_
                  have NB213_198 := n12_
                  clear n0_ n1_ n2_ n3_ n4_ n5_ n6_ n7_ n8_ n9_ n10_ n11_ n12_
                  clear hb hbox hg
                  refine hK.out _ _ (cz11_10 BK182.out) (fun hHeld => ?_)
                  clear hK K
                  refine norm_ (a' := ?_) ?_ ?_
                  rotate_left
                  · show Act.put _ (some 11) _ = _
                    simp only [Act.put, List.setIfInBounds_toArray, List.set_cons_zero, List.set_cons_succ, i64_w, i32_w]
                    rfl
                  refine one_ (i := 3) (N := some 44) #[true, true, true, true, true, false, false, false, false, true, false, false] rfl rfl (one_of HT_.out (by kernel_rfl)) (by decide) (fun K hK => ?_)
                  refine goes_ Try.func15 (by kernel_rfl) rfl #[.agg #[.int .i64 t171, .int .i64 t172, .int .u64 t173, .int .u64 t174, .bool t175, .bool t176, .bool t177, .bool t178, .bool t179, .bool t180, .bool t181]] (by rfl) rfl rfl (by (try simp only [List.map_toArray, List.map_cons, List.map_nil]); first | done | rfl | (simp only [List.length_drop, List.length_take]; rfl)) ?_
                  with_reducible refine (tte_Data.calls t171 t172 t173 t174 t175 t176 t177 t178 t179 t180 t181 t200 _ A48.out).mono ?_
                  rintro e w59 ⟨rfl, hb⟩
                  refine ⟨_, rfl, ?_⟩
                  have n0_ := Aside0.mk (bb10_ hb BK170.out)
                  have n1_ := Aside0.mk (bb10_ hb BK182.out)
                  have n2_ := Aside0.mk (bb10_ hb BK198.out)
                  have n3_ := Aside0.mk (bb10_ hb BK213.out)
                  have n4_ := Aside0.mk (below_step (by repeat (first | (with_reducible first | exact HB.out | apply below_alloc | apply pw_below_drewN | apply below_drew1 | refine below_set ?_ GE170.out | refine below_set ?_ GE182.out | refine below_set ?_ GE198.out | refine below_set ?_ GE213.out) | exact HB.out)) hb)
                  clear BK170
                  clear BK182
                  clear BK198
                  clear BK213
                  clear HB
                  have BK170 := n0_
                  have BK182 := n1_
                  have BK198 := n2_
                  have BK213 := n3_
                  have HB := n4_
                  clear n0_ n1_ n2_ n3_ n4_
                  (try clear hb)
                  (try clear hb2)
                  (try clear hk)
                  (try clear hi)
                  refine hK.out _ _ (cz11_10 BK182.out) (fun hHeld => ?_)
                  clear hK K
                  refine norm_ (a' := ?_) ?_ ?_
                  rotate_left
                  · show Act.put _ (some 44) _ = _
                    simp only [Act.put, List.setIfInBounds_toArray, List.set_cons_zero, List.set_cons_succ, i64_w, i32_w]
                    rfl
                  refine one_ (i := 5) (N := some 46) #[true, true, true, true, true, true, false, false, false, true, false, false] rfl rfl (one_of HT_.out (by kernel_rfl)) (by decide) (fun K hK => ?_)
                  refine goes_ Try.func32 (by kernel_rfl) rfl #[.int .u64 t199, .int .u64 t200, .int .u64 a2] (by rfl) rfl rfl (by (try simp only [List.map_toArray, List.map_cons, List.map_nil]); first | done | rfl | (simp only [List.length_drop, List.length_take]; rfl)) ?_
                  with_reducible refine (tte_Read.calls kj8 t199 t200 a2 t201 t202 t203 t204 t205 t206 t207 t208 t209 t210 t211 t212 _ A49.out).mono ?_
                  rintro e w60 ⟨rfl, hb⟩
                  refine ⟨_, rfl, ?_⟩
                  have n0_ := Aside0.mk (bb10_ hb BK170.out)
                  have n1_ := Aside0.mk (bb10_ hb BK182.out)
                  have n2_ := Aside0.mk (bb10_ hb BK198.out)
                  have n3_ := Aside0.mk (bb10_ hb BK213.out)
                  have n4_ := Aside0.mk (below_step (by repeat (first | (with_reducible first | exact HB.out | apply below_alloc | apply pw_below_drewN | apply below_drew1 | refine below_set ?_ GE170.out | refine below_set ?_ GE182.out | refine below_set ?_ GE198.out | refine below_set ?_ GE213.out) | exact HB.out)) hb)
                  clear BK170
                  clear BK182
                  clear BK198
                  clear BK213
                  clear HB
                  have BK170 := n0_
                  have BK182 := n1_
                  have BK198 := n2_
                  have BK213 := n3_
                  have HB := n4_
                  clear n0_ n1_ n2_ n3_ n4_
                  (try clear hb)
                  (try clear hb2)
                  (try clear hk)
                  (try clear hi)
                  refine hK.out _ _ (cz11_10 BK182.out) (fun hHeld => ?_)
                  clear hK K
                  refine norm_ (a' := ?_) ?_ ?_
                  rotate_left
                  · show Act.put _ (some 46) _ = _
                    simp only [Act.put, List.setIfInBounds_toArray, List.set_cons_zero, List.set_cons_succ, i64_w, i32_w]
                    rfl
                  refine pure_ (i := 6) (N := some 40) (v := ?_) (a' := ?_) #[true, true, true, true, true, true, true, false, false, true, false, false] rfl rfl (any_of HT_.out (by kernel_rfl)) (fun _ _ _ h => h) (Or.inl ⟨by rfl, ?_⟩) ?_ ?_
                  rotate_left
                  · intro w'
                    go_simp
                    with_reducible rfl
                  rotate_left
                  · simp only [Act.put, List.setIfInBounds_toArray, List.set_cons_zero, List.set_cons_succ, i64_w, i32_w]
                    rfl
                  refine pure_ (i := 7) (N := some 47) (v := ?_) (a' := ?_) #[true, true, true, true, true, true, true, true, false, true, false, false] rfl rfl (any_of HT_.out (by kernel_rfl)) (fun _ _ _ h => h) (Or.inl ⟨by rfl, ?_⟩) ?_ ?_
                  rotate_left
                  · intro w'
                    go_simp
                    with_reducible rfl
                  rotate_left
                  · simp only [Act.put, List.setIfInBounds_toArray, List.set_cons_zero, List.set_cons_succ, i64_w, i32_w]
                    rfl
                  refine pure_ (i := 8) (N := some 48) (v := ?_) (a' := ?_) #[true, true, true, true, true, true, true, true, true, true, false, false] rfl rfl (any_of HT_.out (by kernel_rfl)) (fun _ _ _ h => h) (Or.inl ⟨by rfl, ?_⟩) ?_ ?_
                  rotate_left
                  · intro w'
                    go_simp
                    with_reducible rfl
                  rotate_left
                  · simp only [Act.put, List.setIfInBounds_toArray, List.set_cons_zero, List.set_cons_succ, i64_w, i32_w]
                    rfl
                  exact norm_ (by simp only [putAll, Act.put, List.setIfInBounds_toArray, List.set_cons_zero, List.set_cons_succ]) (hCont (gb213) _ ⟨hHeld, (by (with_reducible repeat (first | refine blk_drewN ?_ _ | refine blk_drew ?_ | refine blk_alloc ?_ _)); exact BK170.out), (by (with_reducible repeat (first | refine blk_drewN ?_ _ | refine blk_drew ?_ | refine blk_alloc ?_ _)); exact BK182.out), (by (with_reducible repeat (first | refine blk_drewN ?_ _ | refine blk_drew ?_ | refine blk_alloc ?_ _)); exact BK198.out), (by (with_reducible repeat (first | refine blk_drewN ?_ _ | refine blk_drew ?_ | refine blk_alloc ?_ _)); exact BK213.out), GW213.out, GE213.out, NB170_213.out, NB213_170.out, NB182_213.out, NB213_182.out, NB198_213.out, NB213_198.out, (by repeat (first | (with_reducible first | exact HB.out | apply below_alloc | apply pw_below_drewN | apply below_drew1 | refine below_set ?_ GE170.out | refine below_set ?_ GE182.out | refine below_set ?_ GE198.out | refine below_set ?_ GE213.out) | exact HB.out))⟩)
              · skip
                refine box_step ?hg (N := 11) ?hd (cs := #[.int .i64 0, .int .i64 0, .int .u64 0, .int .u64 0, .bool false, .bool false, .bool false, .bool false, .bool false, .bool false, .bool false]) (t := 26) ?hr ?_; (case hd => rfl); (case hg => rfl); (case hr => first | (go_simp; done) | (go_simp; rfl))
                intro gb213 hg w57 hbox hb
                have n0_ := Aside0.mk (bb10_ hb BK170.out)
                have n1_ := Aside0.mk (bb10_ hb BK182.out)
                have n2_ := Aside0.mk (bb10_ hb BK198.out)
                have n3_ := Aside0.mk (below_step (by repeat (first | (with_reducible first | exact HB.out | apply below_alloc | apply pw_below_drewN | apply below_drew1 | refine below_set ?_ GE170.out | refine below_set ?_ GE182.out | refine below_set ?_ GE198.out) | exact HB.out)) hb)
                have n4_ := Aside0.mk (hbox)
                have n5_ := Aside0.mk ((by rw [hg]; exact (below_size (by repeat (first | (with_reducible first | exact HB.out | apply below_alloc | apply pw_below_drewN | apply below_drew1 | refine below_set ?_ GE170.out | refine below_set ?_ GE182.out | refine below_set ?_ GE198.out) | exact HB.out))) : w.heap.size ≤ gb213))
                have n6_ := Aside0.mk ((by rw [hg]; exact (below_size (by repeat (first | (with_reducible first | exact HB.out | apply below_alloc | apply pw_below_drewN | apply below_drew1 | refine below_set ?_ GE170.out | refine below_set ?_ GE182.out | refine below_set ?_ GE198.out) | exact HB.out))) : w.heap.size ≤ gb213))
                have n7_ := Aside0.mk ((by rw [hg]; exact Nat.ne_of_lt (blk_lt BK170.out) : gb170 ≠ gb213))
                have n8_ := Aside0.mk ((by rw [hg]; exact Nat.ne_of_gt (blk_lt BK170.out) : gb213 ≠ gb170))
                have n9_ := Aside0.mk ((by rw [hg]; exact Nat.ne_of_lt (blk_lt BK182.out) : gb182 ≠ gb213))
                have n10_ := Aside0.mk ((by rw [hg]; exact Nat.ne_of_gt (blk_lt BK182.out) : gb213 ≠ gb182))
                have n11_ := Aside0.mk ((by rw [hg]; exact Nat.ne_of_lt (blk_lt BK198.out) : gb198 ≠ gb213))
                have n12_ := Aside0.mk ((by rw [hg]; exact Nat.ne_of_gt (blk_lt BK198.out) : gb213 ≠ gb198))
                clear BK170
                clear BK182
                clear BK198
                clear HB
                have BK170 := n0_
                have BK182 := n1_
                have BK198 := n2_
                have HB := n3_
                have BK213 := n4_
                have GW213 := n5_
                have GE213 := n6_
                have NB170_213 := n7_
                have NB213_170 := n8_
                have NB182_213 := n9_
                have NB213_182 := n10_
                have NB198_213 := n11_
                have NB213_198 := n12_
                clear n0_ n1_ n2_ n3_ n4_ n5_ n6_ n7_ n8_ n9_ n10_ n11_ n12_
                clear hb hbox hg
                refine hK.out _ _ (cz11_10 BK182.out) (fun hHeld => ?_)
                clear hK K
                refine norm_ (a' := ?_) ?_ ?_
                rotate_left
                · show Act.put _ (some 11) _ = _
                  simp only [Act.put, List.setIfInBounds_toArray, List.set_cons_zero, List.set_cons_succ, i64_w, i32_w]
                  rfl
                refine one_ (i := 1) (N := some 42) #[true, true, true, false, true, false, false, false, false, true, false, false] rfl rfl (one_of HT_.out (by kernel_rfl)) (by decide) (fun K hK => ?_)
                refine goes_ Try.func14 (by kernel_rfl) rfl #[.agg #[.int .i64 t171, .int .i64 t172, .int .u64 t173, .int .u64 t174, .bool t175, .bool t176, .bool t177, .bool t178, .bool t179, .bool t180, .bool t181]] (by rfl) rfl rfl (by (try simp only [List.map_toArray, List.map_cons, List.map_nil]); first | done | rfl | (simp only [List.length_drop, List.length_take]; rfl)) ?_
                with_reducible refine (tte_Tag.calls t171 t172 t173 t174 t175 t176 t177 t178 t179 t180 t181 t199 _ A47.out).mono ?_
                rintro e w58 ⟨rfl, hb⟩
                refine ⟨_, rfl, ?_⟩
                have n0_ := Aside0.mk (bb10_ hb BK170.out)
                have n1_ := Aside0.mk (bb10_ hb BK182.out)
                have n2_ := Aside0.mk (bb10_ hb BK198.out)
                have n3_ := Aside0.mk (bb10_ hb BK213.out)
                have n4_ := Aside0.mk (below_step (by repeat (first | (with_reducible first | exact HB.out | apply below_alloc | apply pw_below_drewN | apply below_drew1 | refine below_set ?_ GE170.out | refine below_set ?_ GE182.out | refine below_set ?_ GE198.out | refine below_set ?_ GE213.out) | exact HB.out)) hb)
                clear BK170
                clear BK182
                clear BK198
                clear BK213
                clear HB
                have BK170 := n0_
                have BK182 := n1_
                have BK198 := n2_
                have BK213 := n3_
                have HB := n4_
                clear n0_ n1_ n2_ n3_ n4_
                (try clear hb)
                (try clear hb2)
                (try clear hk)
                (try clear hi)
                refine hK.out _ _ (cz11_10 BK182.out) (fun hHeld => ?_)
                clear hK K
                refine norm_ (a' := ?_) ?_ ?_
                rotate_left
                · show Act.put _ (some 42) _ = _
                  simp only [Act.put, List.setIfInBounds_toArray, List.set_cons_zero, List.set_cons_succ, i64_w, i32_w]
                  rfl
                refine one_ (i := 3) (N := some 44) #[true, true, true, true, true, false, false, false, false, true, false, false] rfl rfl (one_of HT_.out (by kernel_rfl)) (by decide) (fun K hK => ?_)
                refine goes_ Try.func15 (by kernel_rfl) rfl #[.agg #[.int .i64 t171, .int .i64 t172, .int .u64 t173, .int .u64 t174, .bool t175, .bool t176, .bool t177, .bool t178, .bool t179, .bool t180, .bool t181]] (by rfl) rfl rfl (by (try simp only [List.map_toArray, List.map_cons, List.map_nil]); first | done | rfl | (simp only [List.length_drop, List.length_take]; rfl)) ?_
                with_reducible refine (tte_Data.calls t171 t172 t173 t174 t175 t176 t177 t178 t179 t180 t181 t200 _ A48.out).mono ?_
                rintro e w59 ⟨rfl, hb⟩
                refine ⟨_, rfl, ?_⟩
                have n0_ := Aside0.mk (bb10_ hb BK170.out)
                have n1_ := Aside0.mk (bb10_ hb BK182.out)
                have n2_ := Aside0.mk (bb10_ hb BK198.out)
                have n3_ := Aside0.mk (bb10_ hb BK213.out)
                have n4_ := Aside0.mk (below_step (by repeat (first | (with_reducible first | exact HB.out | apply below_alloc | apply pw_below_drewN | apply below_drew1 | refine below_set ?_ GE170.out | refine below_set ?_ GE182.out | refine below_set ?_ GE198.out | refine below_set ?_ GE213.out) | exact HB.out)) hb)
                clear BK170
                clear BK182
                clear BK198
                clear BK213
                clear HB
                have BK170 := n0_
                have BK182 := n1_
                have BK198 := n2_
                have BK213 := n3_
                have HB := n4_
                clear n0_ n1_ n2_ n3_ n4_
                (try clear hb)
                (try clear hb2)
                (try clear hk)
                (try clear hi)
                refine hK.out _ _ (cz11_10 BK182.out) (fun hHeld => ?_)
                clear hK K
                refine norm_ (a' := ?_) ?_ ?_
                rotate_left
                · show Act.put _ (some 44) _ = _
                  simp only [Act.put, List.setIfInBounds_toArray, List.set_cons_zero, List.set_cons_succ, i64_w, i32_w]
                  rfl
                refine one_ (i := 5) (N := some 46) #[true, true, true, true, true, true, false, false, false, true, false, false] rfl rfl (one_of HT_.out (by kernel_rfl)) (by decide) (fun K hK => ?_)
                refine goes_ Try.func32 (by kernel_rfl) rfl #[.int .u64 t199, .int .u64 t200, .int .u64 a2] (by rfl) rfl rfl (by (try simp only [List.map_toArray, List.map_cons, List.map_nil]); first | done | rfl | (simp only [List.length_drop, List.length_take]; rfl)) ?_
                with_reducible refine (tte_Read.calls kj8 t199 t200 a2 t201 t202 t203 t204 t205 t206 t207 t208 t209 t210 t211 t212 _ A49.out).mono ?_
                rintro e w60 ⟨rfl, hb⟩
                refine ⟨_, rfl, ?_⟩
                have n0_ := Aside0.mk (bb10_ hb BK170.out)
                have n1_ := Aside0.mk (bb10_ hb BK182.out)
                have n2_ := Aside0.mk (bb10_ hb BK198.out)
                have n3_ := Aside0.mk (bb10_ hb BK213.out)
                have n4_ := Aside0.mk (below_step (by repeat (first | (with_reducible first | exact HB.out | apply below_alloc | apply pw_below_drewN | apply below_drew1 | refine below_set ?_ GE170.out | refine below_set ?_ GE182.out | refine below_set ?_ GE198.out | refine below_set ?_ GE213.out) | exact HB.out)) hb)
                clear BK170
                clear BK182
                clear BK198
                clear BK213
                clear HB
                have BK170 := n0_
                have BK182 := n1_
                have BK198 := n2_
                have BK213 := n3_
                have HB := n4_
                clear n0_ n1_ n2_ n3_ n4_
                (try clear hb)
                (try clear hb2)
                (try clear hk)
                (try clear hi)
                refine hK.out _ _ (cz11_10 BK182.out) (fun hHeld => ?_)
                clear hK K
                refine norm_ (a' := ?_) ?_ ?_
                rotate_left
                · show Act.put _ (some 46) _ = _
                  simp only [Act.put, List.setIfInBounds_toArray, List.set_cons_zero, List.set_cons_succ, i64_w, i32_w]
                  rfl
                refine pure_ (i := 6) (N := some 40) (v := ?_) (a' := ?_) #[true, true, true, true, true, true, true, false, false, true, false, false] rfl rfl (any_of HT_.out (by kernel_rfl)) (fun _ _ _ h => h) (Or.inl ⟨by rfl, ?_⟩) ?_ ?_
                rotate_left
                · intro w'
                  go_simp
                  with_reducible rfl
                rotate_left
                · simp only [Act.put, List.setIfInBounds_toArray, List.set_cons_zero, List.set_cons_succ, i64_w, i32_w]
                  rfl
                refine pure_ (i := 7) (N := some 47) (v := ?_) (a' := ?_) #[true, true, true, true, true, true, true, true, false, true, false, false] rfl rfl (any_of HT_.out (by kernel_rfl)) (fun _ _ _ h => h) (Or.inl ⟨by rfl, ?_⟩) ?_ ?_
                rotate_left
                · intro w'
                  go_simp
                  with_reducible rfl
                rotate_left
                · simp only [Act.put, List.setIfInBounds_toArray, List.set_cons_zero, List.set_cons_succ, i64_w, i32_w]
                  rfl
                refine pure_ (i := 8) (N := some 48) (v := ?_) (a' := ?_) #[true, true, true, true, true, true, true, true, true, true, false, false] rfl rfl (any_of HT_.out (by kernel_rfl)) (fun _ _ _ h => h) (Or.inl ⟨by rfl, ?_⟩) ?_ ?_
                rotate_left
                · intro w'
                  go_simp
                  with_reducible rfl
                rotate_left
                · simp only [Act.put, List.setIfInBounds_toArray, List.set_cons_zero, List.set_cons_succ, i64_w, i32_w]
                  rfl
                exact norm_ (by simp only [putAll, Act.put, List.setIfInBounds_toArray, List.set_cons_zero, List.set_cons_succ]) (hCont (gb213) _ ⟨hHeld, (by (with_reducible repeat (first | refine blk_drewN ?_ _ | refine blk_drew ?_ | refine blk_alloc ?_ _)); exact BK170.out), (by (with_reducible repeat (first | refine blk_drewN ?_ _ | refine blk_drew ?_ | refine blk_alloc ?_ _)); exact BK182.out), (by (with_reducible repeat (first | refine blk_drewN ?_ _ | refine blk_drew ?_ | refine blk_alloc ?_ _)); exact BK198.out), (by (with_reducible repeat (first | refine blk_drewN ?_ _ | refine blk_drew ?_ | refine blk_alloc ?_ _)); exact BK213.out), GW213.out, GE213.out, NB170_213.out, NB213_170.out, NB182_213.out, NB213_182.out, NB198_213.out, NB213_198.out, (by repeat (first | (with_reducible first | exact HB.out | apply below_alloc | apply pw_below_drewN | apply below_drew1 | refine below_set ?_ GE170.out | refine below_set ?_ GE182.out | refine below_set ?_ GE198.out | refine below_set ?_ GE213.out) | exact HB.out))⟩)
            rintro gb213 w61 ⟨hS_, h0_, h1_, h2_, h3_, h4_, h5_, h6_, h7_, h8_, h9_, h10_, h11_, h12_⟩
            have n0_ : Aside0 (w61.heap[gb170]? = some (.cells #[.int .i64 a0_0, .int .i64 a0_1, .int .u64 a0_2, .int .u64 a0_3, .bool a0_4, .bool a0_5, .bool a0_6, .bool a0_7, .bool a0_8, .bool a0_9, .bool a0_10] 26 (0, 0))) := ⟨h0_⟩
            have n1_ : Aside0 (w61.heap[gb182]? = some (.cells #[.int .i64 t171, .int .i64 t172, .int .u64 t173, .int .u64 t174, .bool t175, .bool t176, .bool t177, .bool t178, .bool t179, .bool t180, .bool t181] 26 (0, 0))) := ⟨h1_⟩
            have n2_ : Aside0 (w61.heap[gb198]? = some (.cells #[.int .i64 t186, .int .i64 t187, .int .u64 t188, .int .u64 t189, .bool t190, .bool t191, .bool t192, .bool t193, .bool t194, .bool t195, .bool t196] 26 (0, 0))) := ⟨h2_⟩
            have n3_ : Aside0 (w61.heap[gb213]? = some (.cells #[.int .i64 0, .int .i64 0, .int .u64 0, .int .u64 0, .bool false, .bool false, .bool false, .bool false, .bool false, .bool false, .bool false] 26 (0, 0))) := ⟨h3_⟩
            have n4_ : Aside0 (w.heap.size ≤ gb213) := ⟨h4_⟩
            have n5_ : Aside0 (w.heap.size ≤ gb213) := ⟨h5_⟩
            have n6_ : Aside0 (gb170 ≠ gb213) := ⟨h6_⟩
            have n7_ : Aside0 (gb213 ≠ gb170) := ⟨h7_⟩
            have n8_ : Aside0 (gb182 ≠ gb213) := ⟨h8_⟩
            have n9_ : Aside0 (gb213 ≠ gb182) := ⟨h9_⟩
            have n10_ : Aside0 (gb198 ≠ gb213) := ⟨h10_⟩
            have n11_ : Aside0 (gb213 ≠ gb198) := ⟨h11_⟩
            have n12_ : Aside0 (Below w.heap.size w w61) := ⟨h12_⟩
            clear BK170
            clear BK182
            clear BK198
            clear HB
            clear h0_ h1_ h2_ h3_ h4_ h5_ h6_ h7_ h8_ h9_ h10_ h11_ h12_
            have BK170 := n0_
            have BK182 := n1_
            have BK198 := n2_
            have BK213 := n3_
            have GW213 := n4_
            have GE213 := n5_
            have NB170_213 := n6_
            have NB213_170 := n7_
            have NB182_213 := n8_
            have NB213_182 := n9_
            have NB198_213 := n10_
            have NB213_198 := n11_
            have HB := n12_
            clear n0_ n1_ n2_ n3_ n4_ n5_ n6_ n7_ n8_ n9_ n10_ n11_ n12_
            have hHeld : w61.cell? ⟨gb182, 0, none⟩ = some (.int .i64 t171) ∧ w61.cell? ⟨gb182, 1, none⟩ = some (.int .i64 t172) ∧ w61.cell? ⟨gb182, 2, none⟩ = some (.int .u64 t173) ∧ w61.cell? ⟨gb182, 3, none⟩ = some (.int .u64 t174) ∧ w61.cell? ⟨gb182, 4, none⟩ = some (.bool t175) ∧ w61.cell? ⟨gb182, 5, none⟩ = some (.bool t176) ∧ w61.cell? ⟨gb182, 6, none⟩ = some (.bool t177) ∧ w61.cell? ⟨gb182, 7, none⟩ = some (.bool t178) ∧ w61.cell? ⟨gb182, 8, none⟩ = some (.bool t179) ∧ w61.cell? ⟨gb182, 9, none⟩ = some (.bool t180) ∧ w61.cell? ⟨gb182, 10, none⟩ = some (.bool t181) := hS_
            refine norm_ (a' := ?_) ?_ ?_
            rotate_left
            · simp only [putAll, Act.put, List.setIfInBounds_toArray, List.set_cons_zero, List.set_cons_succ]
              rfl
            refine one_ (i := 10) (N := none) #[true, true, true, true, true, true, true, true, true, true, true, false] rfl rfl (one_of HT_.out (by kernel_rfl)) (by decide) (fun K hK => ?_)
            have hs62 : w61.cell? ⟨gb213, 0, none⟩ = some (.int .i64 0) := (blk_cell BK213.out 0).trans rfl
            have hfs62 := blk_frozen BK213.out 0
            have hns62_0 := NB170_213.out
            have hns62_1 := NB182_213.out
            have hns62_2 := NB198_213.out
            have hms62_0 := NB213_170.out
            have hms62_1 := NB213_182.out
            have hms62_2 := NB213_198.out
            have hs63 : w61.cell? ⟨gb213, 1, none⟩ = some (.int .i64 0) := (blk_cell BK213.out 1).trans rfl
            have hfs63 := blk_frozen BK213.out 1
            have hns63_0 := NB170_213.out
            have hns63_1 := NB182_213.out
            have hns63_2 := NB198_213.out
            have hms63_0 := NB213_170.out
            have hms63_1 := NB213_182.out
            have hms63_2 := NB213_198.out
            have hs64 : w61.cell? ⟨gb213, 2, none⟩ = some (.int .u64 0) := (blk_cell BK213.out 2).trans rfl
            have hfs64 := blk_frozen BK213.out 2
            have hns64_0 := NB170_213.out
            have hns64_1 := NB182_213.out
            have hns64_2 := NB198_213.out
            have hms64_0 := NB213_170.out
            have hms64_1 := NB213_182.out
            have hms64_2 := NB213_198.out
            have hs65 : w61.cell? ⟨gb213, 3, none⟩ = some (.int .u64 0) := (blk_cell BK213.out 3).trans rfl
            have hfs65 := blk_frozen BK213.out 3
            have hns65_0 := NB170_213.out
            have hns65_1 := NB182_213.out
            have hns65_2 := NB198_213.out
            have hms65_0 := NB213_170.out
            have hms65_1 := NB213_182.out
            have hms65_2 := NB213_198.out
            have hs66 : w61.cell? ⟨gb213, 4, none⟩ = some (.bool false) := (blk_cell BK213.out 4).trans rfl
            have hfs66 := blk_frozen BK213.out 4
            have hns66_0 := NB170_213.out
            have hns66_1 := NB182_213.out
            have hns66_2 := NB198_213.out
            have hms66_0 := NB213_170.out
            have hms66_1 := NB213_182.out
            have hms66_2 := NB213_198.out
            have hs67 : w61.cell? ⟨gb213, 5, none⟩ = some (.bool false) := (blk_cell BK213.out 5).trans rfl
            have hfs67 := blk_frozen BK213.out 5
            have hns67_0 := NB170_213.out
            have hns67_1 := NB182_213.out
            have hns67_2 := NB198_213.out
            have hms67_0 := NB213_170.out
            have hms67_1 := NB213_182.out
            have hms67_2 := NB213_198.out
            have hs68 : w61.cell? ⟨gb213, 6, none⟩ = some (.bool false) := (blk_cell BK213.out 6).trans rfl
            have hfs68 := blk_frozen BK213.out 6
            have hns68_0 := NB170_213.out
            have hns68_1 := NB182_213.out
            have hns68_2 := NB198_213.out
            have hms68_0 := NB213_170.out
            have hms68_1 := NB213_182.out
            have hms68_2 := NB213_198.out
            have hs69 : w61.cell? ⟨gb213, 7, none⟩ = some (.bool false) := (blk_cell BK213.out 7).trans rfl
            have hfs69 := blk_frozen BK213.out 7
            have hns69_0 := NB170_213.out
            have hns69_1 := NB182_213.out
            have hns69_2 := NB198_213.out
            have hms69_0 := NB213_170.out
            have hms69_1 := NB213_182.out
            have hms69_2 := NB213_198.out
            have hs70 : w61.cell? ⟨gb213, 8, none⟩ = some (.bool false) := (blk_cell BK213.out 8).trans rfl
            have hfs70 := blk_frozen BK213.out 8
            have hns70_0 := NB170_213.out
            have hns70_1 := NB182_213.out
            have hns70_2 := NB198_213.out
            have hms70_0 := NB213_170.out
            have hms70_1 := NB213_182.out
            have hms70_2 := NB213_198.out
            have hs71 : w61.cell? ⟨gb213, 9, none⟩ = some (.bool false) := (blk_cell BK213.out 9).trans rfl
            have hfs71 := blk_frozen BK213.out 9
            have hns71_0 := NB170_213.out
            have hns71_1 := NB182_213.out
            have hns71_2 := NB198_213.out
            have hms71_0 := NB213_170.out
            have hms71_1 := NB213_182.out
            have hms71_2 := NB213_198.out
            have hs72 : w61.cell? ⟨gb213, 10, none⟩ = some (.bool false) := (blk_cell BK213.out 10).trans rfl
            have hfs72 := blk_frozen BK213.out 10
            have hns72_0 := NB170_213.out
            have hns72_1 := NB182_213.out
            have hns72_2 := NB198_213.out
            have hms72_0 := NB213_170.out
            have hms72_1 := NB213_182.out
            have hms72_2 := NB213_198.out
            refine skip_ (w1 := ?_) (by rfl) rfl ?_ ?_
            rotate_left
            · go_simp
              rfl
            refine hK.out _ _ ⟨((cell_far (p := ⟨gb213, _, none⟩) NB182_213.out _).trans (((cell_far (p := ⟨gb213, _, none⟩) NB182_213.out _).trans (((cell_far (p := ⟨gb213, _, none⟩) NB182_213.out _).trans (((cell_far (p := ⟨gb213, _, none⟩) NB182_213.out _).trans (((cell_far (p := ⟨gb213, _, none⟩) NB182_213.out _).trans (((cell_far (p := ⟨gb213, _, none⟩) NB182_213.out _).trans (((cell_far (p := ⟨gb213, _, none⟩) NB182_213.out _).trans (((cell_far (p := ⟨gb213, _, none⟩) NB182_213.out _).trans (((cell_far (p := ⟨gb213, _, none⟩) NB182_213.out _).trans (((cell_far (p := ⟨gb213, _, none⟩) NB182_213.out _).trans (((cell_far (p := ⟨gb213, _, none⟩) NB182_213.out _).trans (hHeld.1)))))))))))))))))))))), ((cell_far (p := ⟨gb213, _, none⟩) NB182_213.out _).trans (((cell_far (p := ⟨gb213, _, none⟩) NB182_213.out _).trans (((cell_far (p := ⟨gb213, _, none⟩) NB182_213.out _).trans (((cell_far (p := ⟨gb213, _, none⟩) NB182_213.out _).trans (((cell_far (p := ⟨gb213, _, none⟩) NB182_213.out _).trans (((cell_far (p := ⟨gb213, _, none⟩) NB182_213.out _).trans (((cell_far (p := ⟨gb213, _, none⟩) NB182_213.out _).trans (((cell_far (p := ⟨gb213, _, none⟩) NB182_213.out _).trans (((cell_far (p := ⟨gb213, _, none⟩) NB182_213.out _).trans (((cell_far (p := ⟨gb213, _, none⟩) NB182_213.out _).trans (((cell_far (p := ⟨gb213, _, none⟩) NB182_213.out _).trans (hHeld.2.1)))))))))))))))))))))), ((cell_far (p := ⟨gb213, _, none⟩) NB182_213.out _).trans (((cell_far (p := ⟨gb213, _, none⟩) NB182_213.out _).trans (((cell_far (p := ⟨gb213, _, none⟩) NB182_213.out _).trans (((cell_far (p := ⟨gb213, _, none⟩) NB182_213.out _).trans (((cell_far (p := ⟨gb213, _, none⟩) NB182_213.out _).trans (((cell_far (p := ⟨gb213, _, none⟩) NB182_213.out _).trans (((cell_far (p := ⟨gb213, _, none⟩) NB182_213.out _).trans (((cell_far (p := ⟨gb213, _, none⟩) NB182_213.out _).trans (((cell_far (p := ⟨gb213, _, none⟩) NB182_213.out _).trans (((cell_far (p := ⟨gb213, _, none⟩) NB182_213.out _).trans (((cell_far (p := ⟨gb213, _, none⟩) NB182_213.out _).trans (hHeld.2.2.1)))))))))))))))))))))), ((cell_far (p := ⟨gb213, _, none⟩) NB182_213.out _).trans (((cell_far (p := ⟨gb213, _, none⟩) NB182_213.out _).trans (((cell_far (p := ⟨gb213, _, none⟩) NB182_213.out _).trans (((cell_far (p := ⟨gb213, _, none⟩) NB182_213.out _).trans (((cell_far (p := ⟨gb213, _, none⟩) NB182_213.out _).trans (((cell_far (p := ⟨gb213, _, none⟩) NB182_213.out _).trans (((cell_far (p := ⟨gb213, _, none⟩) NB182_213.out _).trans (((cell_far (p := ⟨gb213, _, none⟩) NB182_213.out _).trans (((cell_far (p := ⟨gb213, _, none⟩) NB182_213.out _).trans (((cell_far (p := ⟨gb213, _, none⟩) NB182_213.out _).trans (((cell_far (p := ⟨gb213, _, none⟩) NB182_213.out _).trans (hHeld.2.2.2.1)))))))))))))))))))))), ((cell_far (p := ⟨gb213, _, none⟩) NB182_213.out _).trans (((cell_far (p := ⟨gb213, _, none⟩) NB182_213.out _).trans (((cell_far (p := ⟨gb213, _, none⟩) NB182_213.out _).trans (((cell_far (p := ⟨gb213, _, none⟩) NB182_213.out _).trans (((cell_far (p := ⟨gb213, _, none⟩) NB182_213.out _).trans (((cell_far (p := ⟨gb213, _, none⟩) NB182_213.out _).trans (((cell_far (p := ⟨gb213, _, none⟩) NB182_213.out _).trans (((cell_far (p := ⟨gb213, _, none⟩) NB182_213.out _).trans (((cell_far (p := ⟨gb213, _, none⟩) NB182_213.out _).trans (((cell_far (p := ⟨gb213, _, none⟩) NB182_213.out _).trans (((cell_far (p := ⟨gb213, _, none⟩) NB182_213.out _).trans (hHeld.2.2.2.2.1)))))))))))))))))))))), ((cell_far (p := ⟨gb213, _, none⟩) NB182_213.out _).trans (((cell_far (p := ⟨gb213, _, none⟩) NB182_213.out _).trans (((cell_far (p := ⟨gb213, _, none⟩) NB182_213.out _).trans (((cell_far (p := ⟨gb213, _, none⟩) NB182_213.out _).trans (((cell_far (p := ⟨gb213, _, none⟩) NB182_213.out _).trans (((cell_far (p := ⟨gb213, _, none⟩) NB182_213.out _).trans (((cell_far (p := ⟨gb213, _, none⟩) NB182_213.out _).trans (((cell_far (p := ⟨gb213, _, none⟩) NB182_213.out _).trans (((cell_far (p := ⟨gb213, _, none⟩) NB182_213.out _).trans (((cell_far (p := ⟨gb213, _, none⟩) NB182_213.out _).trans (((cell_far (p := ⟨gb213, _, none⟩) NB182_213.out _).trans (hHeld.2.2.2.2.2.1)))))))))))))))))))))), ((cell_far (p := ⟨gb213, _, none⟩) NB182_213.out _).trans (((cell_far (p := ⟨gb213, _, none⟩) NB182_213.out _).trans (((cell_far (p := ⟨gb213, _, none⟩) NB182_213.out _).trans (((cell_far (p := ⟨gb213, _, none⟩) NB182_213.out _).trans (((cell_far (p := ⟨gb213, _, none⟩) NB182_213.out _).trans (((cell_far (p := ⟨gb213, _, none⟩) NB182_213.out _).trans (((cell_far (p := ⟨gb213, _, none⟩) NB182_213.out _).trans (((cell_far (p := ⟨gb213, _, none⟩) NB182_213.out _).trans (((cell_far (p := ⟨gb213, _, none⟩) NB182_213.out _).trans (((cell_far (p := ⟨gb213, _, none⟩) NB182_213.out _).trans (((cell_far (p := ⟨gb213, _, none⟩) NB182_213.out _).trans (hHeld.2.2.2.2.2.2.1)))))))))))))))))))))), ((cell_far (p := ⟨gb213, _, none⟩) NB182_213.out _).trans (((cell_far (p := ⟨gb213, _, none⟩) NB182_213.out _).trans (((cell_far (p := ⟨gb213, _, none⟩) NB182_213.out _).trans (((cell_far (p := ⟨gb213, _, none⟩) NB182_213.out _).trans (((cell_far (p := ⟨gb213, _, none⟩) NB182_213.out _).trans (((cell_far (p := ⟨gb213, _, none⟩) NB182_213.out _).trans (((cell_far (p := ⟨gb213, _, none⟩) NB182_213.out _).trans (((cell_far (p := ⟨gb213, _, none⟩) NB182_213.out _).trans (((cell_far (p := ⟨gb213, _, none⟩) NB182_213.out _).trans (((cell_far (p := ⟨gb213, _, none⟩) NB182_213.out _).trans (((cell_far (p := ⟨gb213, _, none⟩) NB182_213.out _).trans (hHeld.2.2.2.2.2.2.2.1)))))))))))))))))))))), ((cell_far (p := ⟨gb213, _, none⟩) NB182_213.out _).trans (((cell_far (p := ⟨gb213, _, none⟩) NB182_213.out _).trans (((cell_far (p := ⟨gb213, _, none⟩) NB182_213.out _).trans (((cell_far (p := ⟨gb213, _, none⟩) NB182_213.out _).trans (((cell_far (p := ⟨gb213, _, none⟩) NB182_213.out _).trans (((cell_far (p := ⟨gb213, _, none⟩) NB182_213.out _).trans (((cell_far (p := ⟨gb213, _, none⟩) NB182_213.out _).trans (((cell_far (p := ⟨gb213, _, none⟩) NB182_213.out _).trans (((cell_far (p := ⟨gb213, _, none⟩) NB182_213.out _).trans (((cell_far (p := ⟨gb213, _, none⟩) NB182_213.out _).trans (((cell_far (p := ⟨gb213, _, none⟩) NB182_213.out _).trans (hHeld.2.2.2.2.2.2.2.2.1)))))))))))))))))))))), ((cell_far (p := ⟨gb213, _, none⟩) NB182_213.out _).trans (((cell_far (p := ⟨gb213, _, none⟩) NB182_213.out _).trans (((cell_far (p := ⟨gb213, _, none⟩) NB182_213.out _).trans (((cell_far (p := ⟨gb213, _, none⟩) NB182_213.out _).trans (((cell_far (p := ⟨gb213, _, none⟩) NB182_213.out _).trans (((cell_far (p := ⟨gb213, _, none⟩) NB182_213.out _).trans (((cell_far (p := ⟨gb213, _, none⟩) NB182_213.out _).trans (((cell_far (p := ⟨gb213, _, none⟩) NB182_213.out _).trans (((cell_far (p := ⟨gb213, _, none⟩) NB182_213.out _).trans (((cell_far (p := ⟨gb213, _, none⟩) NB182_213.out _).trans (((cell_far (p := ⟨gb213, _, none⟩) NB182_213.out _).trans (hHeld.2.2.2.2.2.2.2.2.2.1)))))))))))))))))))))), ((cell_far (p := ⟨gb213, _, none⟩) NB182_213.out _).trans (((cell_far (p := ⟨gb213, _, none⟩) NB182_213.out _).trans (((cell_far (p := ⟨gb213, _, none⟩) NB182_213.out _).trans (((cell_far (p := ⟨gb213, _, none⟩) NB182_213.out _).trans (((cell_far (p := ⟨gb213, _, none⟩) NB182_213.out _).trans (((cell_far (p := ⟨gb213, _, none⟩) NB182_213.out _).trans (((cell_far (p := ⟨gb213, _, none⟩) NB182_213.out _).trans (((cell_far (p := ⟨gb213, _, none⟩) NB182_213.out _).trans (((cell_far (p := ⟨gb213, _, none⟩) NB182_213.out _).trans (((cell_far (p := ⟨gb213, _, none⟩) NB182_213.out _).trans (((cell_far (p := ⟨gb213, _, none⟩) NB182_213.out _).trans (hHeld.2.2.2.2.2.2.2.2.2.2))))))))))))))))))))))⟩ (fun hHeld => ?_)
            clear hK K
            refine pure_ (i := 11) (N := some 12) (v := ?_) (a' := ?_) #[true, true, true, true, true, true, true, true, true, true, true, true] rfl rfl (any_of HT_.out (by kernel_rfl)) (fun _ _ _ h => h) (Or.inl ⟨by rfl, ?_⟩) ?_ ?_
            rotate_left
            · intro w'
              go_simp
              with_reducible rfl
            rotate_left
            · simp only [Act.put, List.setIfInBounds_toArray, List.set_cons_zero, List.set_cons_succ, i64_w, i32_w]
              rfl
            refine done_ (done_of HT_.out (by kernel_rfl)) ?_
            try go_wp2
            have n0_ : Aside0 ((((((((((((w61.setCell ⟨gb213, 0, none⟩ (.int .i64 t201)).setCell ⟨gb213, 1, none⟩ (.int .i64 t202)).setCell ⟨gb213, 2, none⟩ (.int .u64 t203)).setCell ⟨gb213, 3, none⟩ (.int .u64 t204)).setCell ⟨gb213, 4, none⟩ (.bool t205)).setCell ⟨gb213, 5, none⟩ (.bool t206)).setCell ⟨gb213, 6, none⟩ (.bool t207)).setCell ⟨gb213, 7, none⟩ (.bool t208)).setCell ⟨gb213, 8, none⟩ (.bool t209)).setCell ⟨gb213, 9, none⟩ (.bool t210)).setCell ⟨gb213, 10, none⟩ (.bool t211)).heap[gb170]? = some (.cells #[.int .i64 a0_0, .int .i64 a0_1, .int .u64 a0_2, .int .u64 a0_3, .bool a0_4, .bool a0_5, .bool a0_6, .bool a0_7, .bool a0_8, .bool a0_9, .bool a0_10] 26 (0, 0))) := ⟨by (with_reducible repeat (first | refine blk_drewN ?_ _ | refine blk_drew ?_ | refine blk_alloc ?_ _)); refine blk_far ?_ NB170_213.out _; refine blk_far ?_ NB170_213.out _; refine blk_far ?_ NB170_213.out _; refine blk_far ?_ NB170_213.out _; refine blk_far ?_ NB170_213.out _; refine blk_far ?_ NB170_213.out _; refine blk_far ?_ NB170_213.out _; refine blk_far ?_ NB170_213.out _; refine blk_far ?_ NB170_213.out _; refine blk_far ?_ NB170_213.out _; refine blk_far ?_ NB170_213.out _; (with_reducible repeat (first | refine blk_drewN ?_ _ | refine blk_drew ?_ | refine blk_alloc ?_ _)); exact BK170.out⟩
            have n1_ : Aside0 ((((((((((((w61.setCell ⟨gb213, 0, none⟩ (.int .i64 t201)).setCell ⟨gb213, 1, none⟩ (.int .i64 t202)).setCell ⟨gb213, 2, none⟩ (.int .u64 t203)).setCell ⟨gb213, 3, none⟩ (.int .u64 t204)).setCell ⟨gb213, 4, none⟩ (.bool t205)).setCell ⟨gb213, 5, none⟩ (.bool t206)).setCell ⟨gb213, 6, none⟩ (.bool t207)).setCell ⟨gb213, 7, none⟩ (.bool t208)).setCell ⟨gb213, 8, none⟩ (.bool t209)).setCell ⟨gb213, 9, none⟩ (.bool t210)).setCell ⟨gb213, 10, none⟩ (.bool t211)).heap[gb182]? = some (.cells #[.int .i64 t171, .int .i64 t172, .int .u64 t173, .int .u64 t174, .bool t175, .bool t176, .bool t177, .bool t178, .bool t179, .bool t180, .bool t181] 26 (0, 0))) := ⟨by (with_reducible repeat (first | refine blk_drewN ?_ _ | refine blk_drew ?_ | refine blk_alloc ?_ _)); refine blk_far ?_ NB182_213.out _; refine blk_far ?_ NB182_213.out _; refine blk_far ?_ NB182_213.out _; refine blk_far ?_ NB182_213.out _; refine blk_far ?_ NB182_213.out _; refine blk_far ?_ NB182_213.out _; refine blk_far ?_ NB182_213.out _; refine blk_far ?_ NB182_213.out _; refine blk_far ?_ NB182_213.out _; refine blk_far ?_ NB182_213.out _; refine blk_far ?_ NB182_213.out _; (with_reducible repeat (first | refine blk_drewN ?_ _ | refine blk_drew ?_ | refine blk_alloc ?_ _)); exact BK182.out⟩
            have n2_ : Aside0 ((((((((((((w61.setCell ⟨gb213, 0, none⟩ (.int .i64 t201)).setCell ⟨gb213, 1, none⟩ (.int .i64 t202)).setCell ⟨gb213, 2, none⟩ (.int .u64 t203)).setCell ⟨gb213, 3, none⟩ (.int .u64 t204)).setCell ⟨gb213, 4, none⟩ (.bool t205)).setCell ⟨gb213, 5, none⟩ (.bool t206)).setCell ⟨gb213, 6, none⟩ (.bool t207)).setCell ⟨gb213, 7, none⟩ (.bool t208)).setCell ⟨gb213, 8, none⟩ (.bool t209)).setCell ⟨gb213, 9, none⟩ (.bool t210)).setCell ⟨gb213, 10, none⟩ (.bool t211)).heap[gb198]? = some (.cells #[.int .i64 t186, .int .i64 t187, .int .u64 t188, .int .u64 t189, .bool t190, .bool t191, .bool t192, .bool t193, .bool t194, .bool t195, .bool t196] 26 (0, 0))) := ⟨by (with_reducible repeat (first | refine blk_drewN ?_ _ | refine blk_drew ?_ | refine blk_alloc ?_ _)); refine blk_far ?_ NB198_213.out _; refine blk_far ?_ NB198_213.out _; refine blk_far ?_ NB198_213.out _; refine blk_far ?_ NB198_213.out _; refine blk_far ?_ NB198_213.out _; refine blk_far ?_ NB198_213.out _; refine blk_far ?_ NB198_213.out _; refine blk_far ?_ NB198_213.out _; refine blk_far ?_ NB198_213.out _; refine blk_far ?_ NB198_213.out _; refine blk_far ?_ NB198_213.out _; (with_reducible repeat (first | refine blk_drewN ?_ _ | refine blk_drew ?_ | refine blk_alloc ?_ _)); exact BK198.out⟩
            have n3_ : Aside0 ((((((((((((w61.setCell ⟨gb213, 0, none⟩ (.int .i64 t201)).setCell ⟨gb213, 1, none⟩ (.int .i64 t202)).setCell ⟨gb213, 2, none⟩ (.int .u64 t203)).setCell ⟨gb213, 3, none⟩ (.int .u64 t204)).setCell ⟨gb213, 4, none⟩ (.bool t205)).setCell ⟨gb213, 5, none⟩ (.bool t206)).setCell ⟨gb213, 6, none⟩ (.bool t207)).setCell ⟨gb213, 7, none⟩ (.bool t208)).setCell ⟨gb213, 8, none⟩ (.bool t209)).setCell ⟨gb213, 9, none⟩ (.bool t210)).setCell ⟨gb213, 10, none⟩ (.bool t211)).heap[gb213]? = some (.cells #[.int .i64 t201, .int .i64 t202, .int .u64 t203, .int .u64 t204, .bool t205, .bool t206, .bool t207, .bool t208, .bool t209, .bool t210, .bool t211] 26 (0, 0))) := ⟨by (with_reducible repeat (first | refine blk_drewN ?_ _ | refine blk_drew ?_ | refine blk_alloc ?_ _)); refine blk_put (cs := #[.int .i64 t201, .int .i64 t202, .int .u64 t203, .int .u64 t204, .bool t205, .bool t206, .bool t207, .bool t208, .bool t209, .bool t210, .bool false]) ?_ 10 _ rfl; refine blk_put (cs := #[.int .i64 t201, .int .i64 t202, .int .u64 t203, .int .u64 t204, .bool t205, .bool t206, .bool t207, .bool t208, .bool t209, .bool false, .bool false]) ?_ 9 _ rfl; refine blk_put (cs := #[.int .i64 t201, .int .i64 t202, .int .u64 t203, .int .u64 t204, .bool t205, .bool t206, .bool t207, .bool t208, .bool false, .bool false, .bool false]) ?_ 8 _ rfl; refine blk_put (cs := #[.int .i64 t201, .int .i64 t202, .int .u64 t203, .int .u64 t204, .bool t205, .bool t206, .bool t207, .bool false, .bool false, .bool false, .bool false]) ?_ 7 _ rfl; refine blk_put (cs := #[.int .i64 t201, .int .i64 t202, .int .u64 t203, .int .u64 t204, .bool t205, .bool t206, .bool false, .bool false, .bool false, .bool false, .bool false]) ?_ 6 _ rfl; refine blk_put (cs := #[.int .i64 t201, .int .i64 t202, .int .u64 t203, .int .u64 t204, .bool t205, .bool false, .bool false, .bool false, .bool false, .bool false, .bool false]) ?_ 5 _ rfl; refine blk_put (cs := #[.int .i64 t201, .int .i64 t202, .int .u64 t203, .int .u64 t204, .bool false, .bool false, .bool false, .bool false, .bool false, .bool false, .bool false]) ?_ 4 _ rfl; refine blk_put (cs := #[.int .i64 t201, .int .i64 t202, .int .u64 t203, .int .u64 0, .bool false, .bool false, .bool false, .bool false, .bool false, .bool false, .bool false]) ?_ 3 _ rfl; refine blk_put (cs := #[.int .i64 t201, .int .i64 t202, .int .u64 0, .int .u64 0, .bool false, .bool false, .bool false, .bool false, .bool false, .bool false, .bool false]) ?_ 2 _ rfl; refine blk_put (cs := #[.int .i64 t201, .int .i64 0, .int .u64 0, .int .u64 0, .bool false, .bool false, .bool false, .bool false, .bool false, .bool false, .bool false]) ?_ 1 _ rfl; refine blk_put (cs := #[.int .i64 0, .int .i64 0, .int .u64 0, .int .u64 0, .bool false, .bool false, .bool false, .bool false, .bool false, .bool false, .bool false]) ?_ 0 _ rfl; (with_reducible repeat (first | refine blk_drewN ?_ _ | refine blk_drew ?_ | refine blk_alloc ?_ _)); exact BK213.out⟩
            have n4_ : Aside0 (Below w.heap.size w (((((((((((w61.setCell ⟨gb213, 0, none⟩ (.int .i64 t201)).setCell ⟨gb213, 1, none⟩ (.int .i64 t202)).setCell ⟨gb213, 2, none⟩ (.int .u64 t203)).setCell ⟨gb213, 3, none⟩ (.int .u64 t204)).setCell ⟨gb213, 4, none⟩ (.bool t205)).setCell ⟨gb213, 5, none⟩ (.bool t206)).setCell ⟨gb213, 6, none⟩ (.bool t207)).setCell ⟨gb213, 7, none⟩ (.bool t208)).setCell ⟨gb213, 8, none⟩ (.bool t209)).setCell ⟨gb213, 9, none⟩ (.bool t210)).setCell ⟨gb213, 10, none⟩ (.bool t211))) := ⟨by repeat (first | (with_reducible first | exact HB.out | apply below_alloc | apply pw_below_drewN | apply below_drew1 | refine below_set ?_ GE170.out | refine below_set ?_ GE182.out | refine below_set ?_ GE198.out | refine below_set ?_ GE213.out) | exact HB.out)⟩
            (try clear BK170)
            (try clear BK182)
            (try clear BK198)
            (try clear BK213)
            (try clear HB)
            generalize (((((((((((w61.setCell ⟨gb213, 0, none⟩ (.int .i64 t201)).setCell ⟨gb213, 1, none⟩ (.int .i64 t202)).setCell ⟨gb213, 2, none⟩ (.int .u64 t203)).setCell ⟨gb213, 3, none⟩ (.int .u64 t204)).setCell ⟨gb213, 4, none⟩ (.bool t205)).setCell ⟨gb213, 5, none⟩ (.bool t206)).setCell ⟨gb213, 6, none⟩ (.bool t207)).setCell ⟨gb213, 7, none⟩ (.bool t208)).setCell ⟨gb213, 8, none⟩ (.bool t209)).setCell ⟨gb213, 9, none⟩ (.bool t210)).setCell ⟨gb213, 10, none⟩ (.bool t211)) = w73 at n0_ n1_ n2_ n3_ n4_ ⊢
            have BK170 := n0_
            have BK182 := n1_
            have BK198 := n2_
            have BK213 := n3_
            have HB := n4_
            clear n0_ n1_ n2_ n3_ n4_
            have n0_ := Aside0.mk (blk_drew BK170.out)
            have n1_ := Aside0.mk (blk_drew BK182.out)
            have n2_ := Aside0.mk (blk_drew BK198.out)
            have n3_ := Aside0.mk (blk_drew BK213.out)
            have n4_ := Aside0.mk (below_drew1 HB.out)
            clear BK170
            clear BK182
            clear BK198
            clear BK213
            clear HB
            have BK170 := n0_
            have BK182 := n1_
            have BK198 := n2_
            have BK213 := n3_
            have HB := n4_
            clear n0_ n1_ n2_ n3_ n4_
            refine start_ (n := 12) (S := fun w' => w'.cell? ⟨gb182, 0, none⟩ = some (.int .i64 t171) ∧ w'.cell? ⟨gb182, 1, none⟩ = some (.int .i64 t172) ∧ w'.cell? ⟨gb182, 2, none⟩ = some (.int .u64 t173) ∧ w'.cell? ⟨gb182, 3, none⟩ = some (.int .u64 t174) ∧ w'.cell? ⟨gb182, 4, none⟩ = some (.bool t175) ∧ w'.cell? ⟨gb182, 5, none⟩ = some (.bool t176) ∧ w'.cell? ⟨gb182, 6, none⟩ = some (.bool t177) ∧ w'.cell? ⟨gb182, 7, none⟩ = some (.bool t178) ∧ w'.cell? ⟨gb182, 8, none⟩ = some (.bool t179) ∧ w'.cell? ⟨gb182, 9, none⟩ = some (.bool t180) ∧ w'.cell? ⟨gb182, 10, none⟩ = some (.bool t181)) (ds := []) #[false, false, false, false, false, false, false, false, false, false, false, false] (by kernel_rfl) rfl rfl (cz11_10 BK182.out) (fun hHeld => ?_); refine with_tabW lookasidelaw03_TteRound.tab7 lookasidelaw03_TteRound.bits7 (fun HT_ HW_ => ?_)
            generalize w73.drew = w74 at BK170 BK182 BK198 BK213 HB hHeld ⊢
            refine pure_ (i := 4) (N := some 54) (v := ?_) (a' := ?_) #[false, false, false, false, true, false, false, false, false, false, false, false] rfl rfl (any_of HT_.out (by kernel_rfl)) (fun _ _ _ h => h) (Or.inl ⟨by rfl, ?_⟩) ?_ ?_
            rotate_left
            · intro w'
              go_simp
              with_reducible rfl
            rotate_left
            · simp only [Act.put, List.setIfInBounds_toArray, List.set_cons_zero, List.set_cons_succ, i64_w, i32_w]
              rfl
            refine take_ (i := 0) (N := some 50) (v := ?_) (a' := ?_) #[true, false, false, false, true, false, false, false, false, false, false, false] rfl rfl (take_ofW HT_.out HW_.out (by kernel_rfl)) (fun _ _ _ h => h) (Or.inl ⟨by rfl, ?_⟩) hHeld ?_ ?_
            rotate_left
            · rintro w' ⟨s0, s1, s2, s3, s4, s5, s6, s7, s8, s9, s10⟩
              go_simp
              with_reducible rfl
            rotate_left
            · simp only [Act.put, List.setIfInBounds_toArray, List.set_cons_zero, List.set_cons_succ, i64_w, i32_w]
              rfl
            refine take_ (i := 2) (N := some 52) (v := ?_) (a' := ?_) #[true, false, true, false, true, false, false, false, false, false, false, false] rfl rfl (take_ofW HT_.out HW_.out (by kernel_rfl)) (fun _ _ _ h => h) (Or.inl ⟨by rfl, ?_⟩) hHeld ?_ ?_
            rotate_left
            · rintro w' ⟨s0, s1, s2, s3, s4, s5, s6, s7, s8, s9, s10⟩
              go_simp
              with_reducible rfl
            rotate_left
            · simp only [Act.put, List.setIfInBounds_toArray, List.set_cons_zero, List.set_cons_succ, i64_w, i32_w]
              rfl
            refine join_ (σ := Nat) 2 #[true, true, true, true, true, true, true, true, true, true, false, false] (fun s_ => [(51, .int .u64 t214), (53, .int .u64 t215), (55, .tuple #[.agg #[.int .i64 t216, .int .i64 t217, .int .u64 t218, .int .u64 t219, .bool t220, .bool t221, .bool t222, .bool t223, .bool t224, .bool t225, .bool t226], .int .i64 t227]), (13, .pointer (some ⟨s_, 0, none⟩)), (49, .tuple #[.agg #[.int .i64 t216, .int .i64 t217, .int .u64 t218, .int .u64 t219, .bool t220, .bool t221, .bool t222, .bool t223, .bool t224, .bool t225, .bool t226], .int .i64 t227]), (56, .agg #[.int .i64 t216, .int .i64 t217, .int .u64 t218, .int .u64 t219, .bool t220, .bool t221, .bool t222, .bool t223, .bool t224, .bool t225, .bool t226]), (57, .int .i64 t227)]) (fun s_ w' => (w'.cell? ⟨gb182, 0, none⟩ = some (.int .i64 t171) ∧ w'.cell? ⟨gb182, 1, none⟩ = some (.int .i64 t172) ∧ w'.cell? ⟨gb182, 2, none⟩ = some (.int .u64 t173) ∧ w'.cell? ⟨gb182, 3, none⟩ = some (.int .u64 t174) ∧ w'.cell? ⟨gb182, 4, none⟩ = some (.bool t175) ∧ w'.cell? ⟨gb182, 5, none⟩ = some (.bool t176) ∧ w'.cell? ⟨gb182, 6, none⟩ = some (.bool t177) ∧ w'.cell? ⟨gb182, 7, none⟩ = some (.bool t178) ∧ w'.cell? ⟨gb182, 8, none⟩ = some (.bool t179) ∧ w'.cell? ⟨gb182, 9, none⟩ = some (.bool t180) ∧ w'.cell? ⟨gb182, 10, none⟩ = some (.bool t181)) ∧ (w'.heap[gb170]? = some (.cells #[.int .i64 a0_0, .int .i64 a0_1, .int .u64 a0_2, .int .u64 a0_3, .bool a0_4, .bool a0_5, .bool a0_6, .bool a0_7, .bool a0_8, .bool a0_9, .bool a0_10] 26 (0, 0))) ∧ (w'.heap[gb182]? = some (.cells #[.int .i64 t171, .int .i64 t172, .int .u64 t173, .int .u64 t174, .bool t175, .bool t176, .bool t177, .bool t178, .bool t179, .bool t180, .bool t181] 26 (0, 0))) ∧ (w'.heap[gb198]? = some (.cells #[.int .i64 t186, .int .i64 t187, .int .u64 t188, .int .u64 t189, .bool t190, .bool t191, .bool t192, .bool t193, .bool t194, .bool t195, .bool t196] 26 (0, 0))) ∧ (w'.heap[gb213]? = some (.cells #[.int .i64 t201, .int .i64 t202, .int .u64 t203, .int .u64 t204, .bool t205, .bool t206, .bool t207, .bool t208, .bool t209, .bool t210, .bool t211] 26 (0, 0))) ∧ (w'.heap[s_]? = some (.cells #[.int .i64 0, .int .i64 0, .int .u64 0, .int .u64 0, .bool false, .bool false, .bool false, .bool false, .bool false, .bool false, .bool false] 26 (0, 0))) ∧ (w.heap.size ≤ s_) ∧ (w.heap.size ≤ s_) ∧ (gb170 ≠ s_) ∧ (s_ ≠ gb170) ∧ (gb182 ≠ s_) ∧ (s_ ≠ gb182) ∧ (gb198 ≠ s_) ∧ (s_ ≠ gb198) ∧ (gb213 ≠ s_) ∧ (s_ ≠ gb213) ∧ (Below w.heap.size w w')) ?_ ?_
            rotate_left
            · intro hCont
              refine two_ (i := 1) (j := 9) (Ni := some 51) (Nj := some 13) #[true, true, true, false, true, false, false, false, false, false, false, false] #[true, false, true, false, true, false, false, false, false, true, false, false] rfl rfl rfl rfl (two_of HT_.out (by kernel_rfl)) (by decide) (by decide) (fun K hK => ?_) (fun K hK => ?_)
              · skip
                refine goes_ Try.func24 (by kernel_rfl) rfl #[.agg #[.int .i64 t171, .int .i64 t172, .int .u64 t173, .int .u64 t174, .bool t175, .bool t176, .bool t177, .bool t178, .bool t179, .bool t180, .bool t181]] (by rfl) rfl rfl (by (try simp only [List.map_toArray, List.map_cons, List.map_nil]); first | done | rfl | (simp only [List.length_drop, List.length_take]; rfl)) ?_
                with_reducible refine (lookasideref03_Tag.calls kj8 t171 t172 t173 t174 t175 t176 t177 t178 t179 t180 t181 t214 _ A50.out).mono ?_
                rintro e w75 ⟨rfl, hb⟩
                refine ⟨_, rfl, ?_⟩
                have n0_ := Aside0.mk (bb10_ hb BK170.out)
                have n1_ := Aside0.mk (bb10_ hb BK182.out)
                have n2_ := Aside0.mk (bb10_ hb BK198.out)
                have n3_ := Aside0.mk (bb10_ hb BK213.out)
                have n4_ := Aside0.mk (below_step (by repeat (first | (with_reducible first | exact HB.out | apply below_alloc | apply pw_below_drewN | apply below_drew1 | refine below_set ?_ GE170.out | refine below_set ?_ GE182.out | refine below_set ?_ GE198.out | refine below_set ?_ GE213.out) | exact HB.out)) hb)
                clear BK170
                clear BK182
                clear BK198
                clear BK213
                clear HB
                have BK170 := n0_
                have BK182 := n1_
                have BK198 := n2_
                have BK213 := n3_
                have HB := n4_
                clear n0_ n1_ n2_ n3_ n4_
                (try clear hb)
                (try clear hb2)
                (try clear hk)
                (try clear hi)
                refine hK.out _ _ (cz11_10 BK182.out) (fun hHeld => ?_)
                clear hK K
                refine norm_ (a' := ?_) ?_ ?_
                rotate_left
                · show Act.put _ (some 51) _ = _
                  simp only [Act.put, List.setIfInBounds_toArray, List.set_cons_zero, List.set_cons_succ, i64_w, i32_w]
                  rfl
                refine two_ (i := 3) (j := 9) (Ni := some 53) (Nj := some 13) #[true, true, true, true, true, false, false, false, false, false, false, false] #[true, true, true, false, true, false, false, false, false, true, false, false] rfl rfl rfl rfl (two_of HT_.out (by kernel_rfl)) (by decide) (by decide) (fun K hK => ?_) (fun K hK => ?_)
                · skip
                  refine goes_ Try.func25 (by kernel_rfl) rfl #[.agg #[.int .i64 t171, .int .i64 t172, .int .u64 t173, .int .u64 t174, .bool t175, .bool t176, .bool t177, .bool t178, .bool t179, .bool t180, .bool t181]] (by rfl) rfl rfl (by (try simp only [List.map_toArray, List.map_cons, List.map_nil]); first | done | rfl | (simp only [List.length_drop, List.length_take]; rfl)) ?_
                  with_reducible refine (lookasideref03_Data.calls kj8 t171 t172 t173 t174 t175 t176 t177 t178 t179 t180 t181 t215 _ A51.out).mono ?_
                  rintro e w76 ⟨rfl, hb⟩
                  refine ⟨_, rfl, ?_⟩
                  have n0_ := Aside0.mk (bb10_ hb BK170.out)
                  have n1_ := Aside0.mk (bb10_ hb BK182.out)
                  have n2_ := Aside0.mk (bb10_ hb BK198.out)
                  have n3_ := Aside0.mk (bb10_ hb BK213.out)
                  have n4_ := Aside0.mk (below_step (by repeat (first | (with_reducible first | exact HB.out | apply below_alloc | apply pw_below_drewN | apply below_drew1 | refine below_set ?_ GE170.out | refine below_set ?_ GE182.out | refine below_set ?_ GE198.out | refine below_set ?_ GE213.out) | exact HB.out)) hb)
                  clear BK170
                  clear BK182
                  clear BK198
                  clear BK213
                  clear HB
                  have BK170 := n0_
                  have BK182 := n1_
                  have BK198 := n2_
                  have BK213 := n3_
                  have HB := n4_
                  clear n0_ n1_ n2_ n3_ n4_
                  (try clear hb)
                  (try clear hb2)
                  (try clear hk)
                  (try clear hi)
                  refine hK.out _ _ (cz11_10 BK182.out) (fun hHeld => ?_)
                  clear hK K
                  refine norm_ (a' := ?_) ?_ ?_
                  rotate_left
                  · show Act.put _ (some 53) _ = _
                    simp only [Act.put, List.setIfInBounds_toArray, List.set_cons_zero, List.set_cons_succ, i64_w, i32_w]
                    rfl
                  refine two_ (i := 5) (j := 9) (Ni := some 55) (Nj := some 13) #[true, true, true, true, true, true, false, false, false, false, false, false] #[true, true, true, true, true, false, false, false, false, true, false, false] rfl rfl rfl rfl (two_of HT_.out (by kernel_rfl)) (by decide) (by decide) (fun K hK => ?_) (fun K hK => ?_)
                  · skip
                    refine goes_ Try.func33 (by kernel_rfl) rfl #[.int .u64 t214, .int .u64 t215, .int .u64 a2] (by rfl) rfl rfl (by (try simp only [List.map_toArray, List.map_cons, List.map_nil]); first | done | rfl | (simp only [List.length_drop, List.length_take]; rfl)) ?_
                    with_reducible refine (lookasideref03_Read.calls kj8 t214 t215 a2 t216 t217 t218 t219 t220 t221 t222 t223 t224 t225 t226 t227 _ A52.out).mono ?_
                    rintro e w77 ⟨rfl, hb⟩
                    refine ⟨_, rfl, ?_⟩
                    have n0_ := Aside0.mk (bb10_ hb BK170.out)
                    have n1_ := Aside0.mk (bb10_ hb BK182.out)
                    have n2_ := Aside0.mk (bb10_ hb BK198.out)
                    have n3_ := Aside0.mk (bb10_ hb BK213.out)
                    have n4_ := Aside0.mk (below_step (by repeat (first | (with_reducible first | exact HB.out | apply below_alloc | apply pw_below_drewN | apply below_drew1 | refine below_set ?_ GE170.out | refine below_set ?_ GE182.out | refine below_set ?_ GE198.out | refine below_set ?_ GE213.out) | exact HB.out)) hb)
                    clear BK170
                    clear BK182
                    clear BK198
                    clear BK213
                    clear HB
                    have BK170 := n0_
                    have BK182 := n1_
                    have BK198 := n2_
                    have BK213 := n3_
                    have HB := n4_
                    clear n0_ n1_ n2_ n3_ n4_
                    (try clear hb)
                    (try clear hb2)
                    (try clear hk)
                    (try clear hi)
                    refine hK.out _ _ (cz11_10 BK182.out) (fun hHeld => ?_)
                    clear hK K
                    refine norm_ (a' := ?_) ?_ ?_
                    rotate_left
                    · show Act.put _ (some 55) _ = _
                      simp only [Act.put, List.setIfInBounds_toArray, List.set_cons_zero, List.set_cons_succ, i64_w, i32_w]
                      rfl
                    refine pure_ (i := 6) (N := some 49) (v := ?_) (a' := ?_) #[true, true, true, true, true, true, true, false, false, false, false, false] rfl rfl (any_of HT_.out (by kernel_rfl)) (fun _ _ _ h => h) (Or.inl ⟨by rfl, ?_⟩) ?_ ?_
                    rotate_left
                    · intro w'
                      go_simp
                      with_reducible rfl
                    rotate_left
                    · simp only [Act.put, List.setIfInBounds_toArray, List.set_cons_zero, List.set_cons_succ, i64_w, i32_w]
                      rfl
                    refine pure_ (i := 7) (N := some 56) (v := ?_) (a' := ?_) #[true, true, true, true, true, true, true, true, false, false, false, false] rfl rfl (any_of HT_.out (by kernel_rfl)) (fun _ _ _ h => h) (Or.inl ⟨by rfl, ?_⟩) ?_ ?_
                    rotate_left
                    · intro w'
                      go_simp
                      with_reducible rfl
                    rotate_left
                    · simp only [Act.put, List.setIfInBounds_toArray, List.set_cons_zero, List.set_cons_succ, i64_w, i32_w]
                      rfl
                    refine pure_ (i := 8) (N := some 57) (v := ?_) (a' := ?_) #[true, true, true, true, true, true, true, true, true, false, false, false] rfl rfl (any_of HT_.out (by kernel_rfl)) (fun _ _ _ h => h) (Or.inl ⟨by rfl, ?_⟩) ?_ ?_
                    rotate_left
                    · intro w'
                      go_simp
                      with_reducible rfl
                    rotate_left
                    · simp only [Act.put, List.setIfInBounds_toArray, List.set_cons_zero, List.set_cons_succ, i64_w, i32_w]
                      rfl
                    refine one_ (i := 9) (N := some 13) #[true, true, true, true, true, true, true, true, true, true, false, false] rfl rfl (one_of HT_.out (by kernel_rfl)) (by decide) (fun K hK => ?_)
                    refine box_step ?hg (N := 13) ?hd (cs := #[.int .i64 0, .int .i64 0, .int .u64 0, .int .u64 0, .bool false, .bool false, .bool false, .bool false, .bool false, .bool false, .bool false]) (t := 26) ?hr ?_; (case hd => rfl); (case hg => rfl); (case hr => first | (go_simp; done) | (go_simp; rfl))
                    intro gb228 hg w78 hbox hb
                    have n0_ := Aside0.mk (bb10_ hb BK170.out)
                    have n1_ := Aside0.mk (bb10_ hb BK182.out)
                    have n2_ := Aside0.mk (bb10_ hb BK198.out)
                    have n3_ := Aside0.mk (bb10_ hb BK213.out)
                    have n4_ := Aside0.mk (below_step (by repeat (first | (with_reducible first | exact HB.out | apply below_alloc | apply pw_below_drewN | apply below_drew1 | refine below_set ?_ GE170.out | refine below_set ?_ GE182.out | refine below_set ?_ GE198.out | refine below_set ?_ GE213.out) | exact HB.out)) hb)
                    have n5_ := Aside0.mk (hbox)
                    have n6_ := Aside0.mk ((by rw [hg]; exact (below_size (by repeat (first | (with_reducible first | exact HB.out | apply below_alloc | apply pw_below_drewN | apply below_drew1 | refine below_set ?_ GE170.out | refine below_set ?_ GE182.out | refine below_set ?_ GE198.out | refine below_set ?_ GE213.out) | exact HB.out))) : w.heap.size ≤ gb228))
                    have n7_ := Aside0.mk ((by rw [hg]; exact (below_size (by repeat (first | (with_reducible first | exact HB.out | apply below_alloc | apply pw_below_drewN | apply below_drew1 | refine below_set ?_ GE170.out | refine below_set ?_ GE182.out | refine below_set ?_ GE198.out | refine below_set ?_ GE213.out) | exact HB.out))) : w.heap.size ≤ gb228))
                    have n8_ := Aside0.mk ((by rw [hg]; exact Nat.ne_of_lt (blk_lt BK170.out) : gb170 ≠ gb228))
                    have n9_ := Aside0.mk ((by rw [hg]; exact Nat.ne_of_gt (blk_lt BK170.out) : gb228 ≠ gb170))
                    have n10_ := Aside0.mk ((by rw [hg]; exact Nat.ne_of_lt (blk_lt BK182.out) : gb182 ≠ gb228))
                    have n11_ := Aside0.mk ((by rw [hg]; exact Nat.ne_of_gt (blk_lt BK182.out) : gb228 ≠ gb182))
                    have n12_ := Aside0.mk ((by rw [hg]; exact Nat.ne_of_lt (blk_lt BK198.out) : gb198 ≠ gb228))
                    have n13_ := Aside0.mk ((by rw [hg]; exact Nat.ne_of_gt (blk_lt BK198.out) : gb228 ≠ gb198))
                    have n14_ := Aside0.mk ((by rw [hg]; exact Nat.ne_of_lt (blk_lt BK213.out) : gb213 ≠ gb228))
                    have n15_ := Aside0.mk ((by rw [hg]; exact Nat.ne_of_gt (blk_lt BK213.out) : gb228 ≠ gb213))
                    clear BK170
                    clear BK182
                    clear BK198
                    clear BK213
                    clear HB
                    have BK170 := n0_
                    have BK182 := n1_
                    have BK198 := n2_
                    have BK213 := n3_
                    have HB := n4_
                    have BK228 := n5_
                    have GW228 := n6_
                    have GE228 := n7_
                    have NB170_228 := n8_
                    have NB228_170 := n9_
                    have NB182_228 := n10_
                    have NB228_182 := n11_
                    have NB198_228 := n12_
                    have NB228_198 := n13_
                    have NB213_228 := n14_
                    have NB228_213 := n15_
                    clear n0_ n1_ n2_ n3_ n4_ n5_ n6_ n7_ n8_ n9_ n10_ n11_ n12_ n13_ n14_ n15_
                    clear hb hbox hg
                    refine hK.out _ _ (cz11_10 BK182.out) (fun hHeld => ?_)
                    clear hK K
                    refine norm_ (a' := ?_) ?_ ?_
                    rotate_left
                    · show Act.put _ (some 13) _ = _
                      simp only [Act.put, List.setIfInBounds_toArray, List.set_cons_zero, List.set_cons_succ, i64_w, i32_w]
                      rfl
                    exact norm_ (by simp only [putAll, Act.put, List.setIfInBounds_toArray, List.set_cons_zero, List.set_cons_succ]) (hCont (gb228) _ ⟨hHeld, (by (with_reducible repeat (first | refine blk_drewN ?_ _ | refine blk_drew ?_ | refine blk_alloc ?_ _)); exact BK170.out), (by (with_reducible repeat (first | refine blk_drewN ?_ _ | refine blk_drew ?_ | refine blk_alloc ?_ _)); exact BK182.out), (by (with_reducible repeat (first | refine blk_drewN ?_ _ | refine blk_drew ?_ | refine blk_alloc ?_ _)); exact BK198.out), (by (with_reducible repeat (first | refine blk_drewN ?_ _ | refine blk_drew ?_ | refine blk_alloc ?_ _)); exact BK213.out), (by (with_reducible repeat (first | refine blk_drewN ?_ _ | refine blk_drew ?_ | refine blk_alloc ?_ _)); exact BK228.out), GW228.out, GE228.out, NB170_228.out, NB228_170.out, NB182_228.out, NB228_182.out, NB198_228.out, NB228_198.out, NB213_228.out, NB228_213.out, (by repeat (first | (with_reducible first | exact HB.out | apply below_alloc | apply pw_below_drewN | apply below_drew1 | refine below_set ?_ GE170.out | refine below_set ?_ GE182.out | refine below_set ?_ GE198.out | refine below_set ?_ GE213.out | refine below_set ?_ GE228.out) | exact HB.out))⟩)
                  · skip
                    refine box_step ?hg (N := 13) ?hd (cs := #[.int .i64 0, .int .i64 0, .int .u64 0, .int .u64 0, .bool false, .bool false, .bool false, .bool false, .bool false, .bool false, .bool false]) (t := 26) ?hr ?_; (case hd => rfl); (case hg => rfl); (case hr => first | (go_simp; done) | (go_simp; rfl))
                    intro gb228 hg w77 hbox hb
                    have n0_ := Aside0.mk (bb10_ hb BK170.out)
                    have n1_ := Aside0.mk (bb10_ hb BK182.out)
                    have n2_ := Aside0.mk (bb10_ hb BK198.out)
                    have n3_ := Aside0.mk (bb10_ hb BK213.out)
                    have n4_ := Aside0.mk (below_step (by repeat (first | (with_reducible first | exact HB.out | apply below_alloc | apply pw_below_drewN | apply below_drew1 | refine below_set ?_ GE170.out | refine below_set ?_ GE182.out | refine below_set ?_ GE198.out | refine below_set ?_ GE213.out) | exact HB.out)) hb)
                    have n5_ := Aside0.mk (hbox)
                    have n6_ := Aside0.mk ((by rw [hg]; exact (below_size (by repeat (first | (with_reducible first | exact HB.out | apply below_alloc | apply pw_below_drewN | apply below_drew1 | refine below_set ?_ GE170.out | refine below_set ?_ GE182.out | refine below_set ?_ GE198.out | refine below_set ?_ GE213.out) | exact HB.out))) : w.heap.size ≤ gb228))
                    have n7_ := Aside0.mk ((by rw [hg]; exact (below_size (by repeat (first | (with_reducible first | exact HB.out | apply below_alloc | apply pw_below_drewN | apply below_drew1 | refine below_set ?_ GE170.out | refine below_set ?_ GE182.out | refine below_set ?_ GE198.out | refine below_set ?_ GE213.out) | exact HB.out))) : w.heap.size ≤ gb228))
                    have n8_ := Aside0.mk ((by rw [hg]; exact Nat.ne_of_lt (blk_lt BK170.out) : gb170 ≠ gb228))
                    have n9_ := Aside0.mk ((by rw [hg]; exact Nat.ne_of_gt (blk_lt BK170.out) : gb228 ≠ gb170))
                    have n10_ := Aside0.mk ((by rw [hg]; exact Nat.ne_of_lt (blk_lt BK182.out) : gb182 ≠ gb228))
                    have n11_ := Aside0.mk ((by rw [hg]; exact Nat.ne_of_gt (blk_lt BK182.out) : gb228 ≠ gb182))
                    have n12_ := Aside0.mk ((by rw [hg]; exact Nat.ne_of_lt (blk_lt BK198.out) : gb198 ≠ gb228))
                    have n13_ := Aside0.mk ((by rw [hg]; exact Nat.ne_of_gt (blk_lt BK198.out) : gb228 ≠ gb198))
                    have n14_ := Aside0.mk ((by rw [hg]; exact Nat.ne_of_lt (blk_lt BK213.out) : gb213 ≠ gb228))
                    have n15_ := Aside0.mk ((by rw [hg]; exact Nat.ne_of_gt (blk_lt BK213.out) : gb228 ≠ gb213))
                    clear BK170
                    clear BK182
                    clear BK198
                    clear BK213
                    clear HB
                    have BK170 := n0_
                    have BK182 := n1_
                    have BK198 := n2_
                    have BK213 := n3_
                    have HB := n4_
                    have BK228 := n5_
                    have GW228 := n6_
                    have GE228 := n7_
                    have NB170_228 := n8_
                    have NB228_170 := n9_
                    have NB182_228 := n10_
                    have NB228_182 := n11_
                    have NB198_228 := n12_
                    have NB228_198 := n13_
                    have NB213_228 := n14_
                    have NB228_213 := n15_
                    clear n0_ n1_ n2_ n3_ n4_ n5_ n6_ n7_ n8_ n9_ n10_ n11_ n12_ n13_ n14_ n15_
                    clear hb hbox hg
                    refine hK.out _ _ (cz11_10 BK182.out) (fun hHeld => ?_)
                    clear hK K
                    refine norm_ (a' := ?_) ?_ ?_
                    rotate_left
                    · show Act.put _ (some 13) _ = _
                      simp only [Act.put, List.setIfInBounds_toArray, List.set_cons_zero, List.set_cons_succ, i64_w, i32_w]
                      rfl
                    refine one_ (i := 5) (N := some 55) #[true, true, true, true, true, true, false, false, false, true, false, false] rfl rfl (one_of HT_.out (by kernel_rfl)) (by decide) (fun K hK => ?_)
                    refine goes_ Try.func33 (by kernel_rfl) rfl #[.int .u64 t214, .int .u64 t215, .int .u64 a2] (by rfl) rfl rfl (by (try simp only [List.map_toArray, List.map_cons, List.map_nil]); first | done | rfl | (simp only [List.length_drop, List.length_take]; rfl)) ?_
                    with_reducible refine (lookasideref03_Read.calls kj8 t214 t215 a2 t216 t217 t218 t219 t220 t221 t222 t223 t224 t225 t226 t227 _ A52.out).mono ?_
                    rintro e w78 ⟨rfl, hb⟩
                    refine ⟨_, rfl, ?_⟩
                    have n0_ := Aside0.mk (bb10_ hb BK170.out)
                    have n1_ := Aside0.mk (bb10_ hb BK182.out)
                    have n2_ := Aside0.mk (bb10_ hb BK198.out)
                    have n3_ := Aside0.mk (bb10_ hb BK213.out)
                    have n4_ := Aside0.mk (bb10_ hb BK228.out)
                    have n5_ := Aside0.mk (below_step (by repeat (first | (with_reducible first | exact HB.out | apply below_alloc | apply pw_below_drewN | apply below_drew1 | refine below_set ?_ GE170.out | refine below_set ?_ GE182.out | refine below_set ?_ GE198.out | refine below_set ?_ GE213.out | refine below_set ?_ GE228.out) | exact HB.out)) hb)
                    clear BK170
                    clear BK182
                    clear BK198
                    clear BK213
                    clear BK228
                    clear HB
                    have BK170 := n0_
                    have BK182 := n1_
                    have BK198 := n2_
                    have BK213 := n3_
                    have BK228 := n4_
                    have HB := n5_
                    clear n0_ n1_ n2_ n3_ n4_ n5_
                    (try clear hb)
                    (try clear hb2)
                    (try clear hk)
                    (try clear hi)
                    refine hK.out _ _ (cz11_10 BK182.out) (fun hHeld => ?_)
                    clear hK K
                    refine norm_ (a' := ?_) ?_ ?_
                    rotate_left
                    · show Act.put _ (some 55) _ = _
                      simp only [Act.put, List.setIfInBounds_toArray, List.set_cons_zero, List.set_cons_succ, i64_w, i32_w]
                      rfl
                    refine pure_ (i := 6) (N := some 49) (v := ?_) (a' := ?_) #[true, true, true, true, true, true, true, false, false, true, false, false] rfl rfl (any_of HT_.out (by kernel_rfl)) (fun _ _ _ h => h) (Or.inl ⟨by rfl, ?_⟩) ?_ ?_
                    rotate_left
                    · intro w'
                      go_simp
                      with_reducible rfl
                    rotate_left
                    · simp only [Act.put, List.setIfInBounds_toArray, List.set_cons_zero, List.set_cons_succ, i64_w, i32_w]
                      rfl
                    refine pure_ (i := 7) (N := some 56) (v := ?_) (a' := ?_) #[true, true, true, true, true, true, true, true, false, true, false, false] rfl rfl (any_of HT_.out (by kernel_rfl)) (fun _ _ _ h => h) (Or.inl ⟨by rfl, ?_⟩) ?_ ?_
                    rotate_left
                    · intro w'
                      go_simp
                      with_reducible rfl
                    rotate_left
                    · simp only [Act.put, List.setIfInBounds_toArray, List.set_cons_zero, List.set_cons_succ, i64_w, i32_w]
                      rfl
                    refine pure_ (i := 8) (N := some 57) (v := ?_) (a' := ?_) #[true, true, true, true, true, true, true, true, true, true, false, false] rfl rfl (any_of HT_.out (by kernel_rfl)) (fun _ _ _ h => h) (Or.inl ⟨by rfl, ?_⟩) ?_ ?_
                    rotate_left
                    · intro w'
                      go_simp
                      with_reducible rfl
                    rotate_left
                    · simp only [Act.put, List.setIfInBounds_toArray, List.set_cons_zero, List.set_cons_succ, i64_w, i32_w]
                      rfl
                    exact norm_ (by simp only [putAll, Act.put, List.setIfInBounds_toArray, List.set_cons_zero, List.set_cons_succ]) (hCont (gb228) _ ⟨hHeld, (by (with_reducible repeat (first | refine blk_drewN ?_ _ | refine blk_drew ?_ | refine blk_alloc ?_ _)); exact BK170.out), (by (with_reducible repeat (first | refine blk_drewN ?_ _ | refine blk_drew ?_ | refine blk_alloc ?_ _)); exact BK182.out), (by (with_reducible repeat (first | refine blk_drewN ?_ _ | refine blk_drew ?_ | refine blk_alloc ?_ _)); exact BK198.out), (by (with_reducible repeat (first | refine blk_drewN ?_ _ | refine blk_drew ?_ | refine blk_alloc ?_ _)); exact BK213.out), (by (with_reducible repeat (first | refine blk_drewN ?_ _ | refine blk_drew ?_ | refine blk_alloc ?_ _)); exact BK228.out), GW228.out, GE228.out, NB170_228.out, NB228_170.out, NB182_228.out, NB228_182.out, NB198_228.out, NB228_198.out, NB213_228.out, NB228_213.out, (by repeat (first | (with_reducible first | exact HB.out | apply below_alloc | apply pw_below_drewN | apply below_drew1 | refine below_set ?_ GE170.out | refine below_set ?_ GE182.out | refine below_set ?_ GE198.out | refine below_set ?_ GE213.out | refine below_set ?_ GE228.out) | exact HB.out))⟩)
                · skip
                  refine box_step ?hg (N := 13) ?hd (cs := #[.int .i64 0, .int .i64 0, .int .u64 0, .int .u64 0, .bool false, .bool false, .bool false, .bool false, .bool false, .bool false, .bool false]) (t := 26) ?hr ?_; (case hd => rfl); (case hg => rfl); (case hr => first | (go_simp; done) | (go_simp; rfl))
                  intro gb228 hg w76 hbox hb
                  have n0_ := Aside0.mk (bb10_ hb BK170.out)
                  have n1_ := Aside0.mk (bb10_ hb BK182.out)
                  have n2_ := Aside0.mk (bb10_ hb BK198.out)
                  have n3_ := Aside0.mk (bb10_ hb BK213.out)
                  have n4_ := Aside0.mk (below_step (by repeat (first | (with_reducible first | exact HB.out | apply below_alloc | apply pw_below_drewN | apply below_drew1 | refine below_set ?_ GE170.out | refine below_set ?_ GE182.out | refine below_set ?_ GE198.out | refine below_set ?_ GE213.out) | exact HB.out)) hb)
                  have n5_ := Aside0.mk (hbox)
                  have n6_ := Aside0.mk ((by rw [hg]; exact (below_size (by repeat (first | (with_reducible first | exact HB.out | apply below_alloc | apply pw_below_drewN | apply below_drew1 | refine below_set ?_ GE170.out | refine below_set ?_ GE182.out | refine below_set ?_ GE198.out | refine below_set ?_ GE213.out) | exact HB.out))) : w.heap.size ≤ gb228))
                  have n7_ := Aside0.mk ((by rw [hg]; exact (below_size (by repeat (first | (with_reducible first | exact HB.out | apply below_alloc | apply pw_below_drewN | apply below_drew1 | refine below_set ?_ GE170.out | refine below_set ?_ GE182.out | refine below_set ?_ GE198.out | refine below_set ?_ GE213.out) | exact HB.out))) : w.heap.size ≤ gb228))
                  have n8_ := Aside0.mk ((by rw [hg]; exact Nat.ne_of_lt (blk_lt BK170.out) : gb170 ≠ gb228))
                  have n9_ := Aside0.mk ((by rw [hg]; exact Nat.ne_of_gt (blk_lt BK170.out) : gb228 ≠ gb170))
                  have n10_ := Aside0.mk ((by rw [hg]; exact Nat.ne_of_lt (blk_lt BK182.out) : gb182 ≠ gb228))
                  have n11_ := Aside0.mk ((by rw [hg]; exact Nat.ne_of_gt (blk_lt BK182.out) : gb228 ≠ gb182))
                  have n12_ := Aside0.mk ((by rw [hg]; exact Nat.ne_of_lt (blk_lt BK198.out) : gb198 ≠ gb228))
                  have n13_ := Aside0.mk ((by rw [hg]; exact Nat.ne_of_gt (blk_lt BK198.out) : gb228 ≠ gb198))
                  have n14_ := Aside0.mk ((by rw [hg]; exact Nat.ne_of_lt (blk_lt BK213.out) : gb213 ≠ gb228))
                  have n15_ := Aside0.mk ((by rw [hg]; exact Nat.ne_of_gt (blk_lt BK213.out) : gb228 ≠ gb213))
                  clear BK170
                  clear BK182
                  clear BK198
                  clear BK213
                  clear HB
                  have BK170 := n0_
                  have BK182 := n1_
                  have BK198 := n2_
                  have BK213 := n3_
                  have HB := n4_
                  have BK228 := n5_
                  have GW228 := n6_
                  have GE228 := n7_
                  have NB170_228 := n8_
                  have NB228_170 := n9_
                  have NB182_228 := n10_
                  have NB228_182 := n11_
                  have NB198_228 := n12_
                  have NB228_198 := n13_
                  have NB213_228 := n14_
                  have NB228_213 := n15_
                  clear n0_ n1_ n2_ n3_ n4_ n5_ n6_ n7_ n8_ n9_ n10_ n11_ n12_ n13_ n14_ n15_
                  clear hb hbox hg
                  refine hK.out _ _ (cz11_10 BK182.out) (fun hHeld => ?_)
                  clear hK K
                  refine norm_ (a' := ?_) ?_ ?_
                  rotate_left
                  · show Act.put _ (some 13) _ = _
                    simp only [Act.put, List.setIfInBounds_toArray, List.set_cons_zero, List.set_cons_succ, i64_w, i32_w]
                    rfl
                  refine one_ (i := 3) (N := some 53) #[true, true, true, true, true, false, false, false, false, true, false, false] rfl rfl (one_of HT_.out (by kernel_rfl)) (by decide) (fun K hK => ?_)
                  refine goes_ Try.func25 (by kernel_rfl) rfl #[.agg #[.int .i64 t171, .int .i64 t172, .int .u64 t173, .int .u64 t174, .bool t175, .bool t176, .bool t177, .bool t178, .bool t179, .bool t180, .bool t181]] (by rfl) rfl rfl (by (try simp only [List.map_toArray, List.map_cons, List.map_nil]); first | done | rfl | (simp only [List.length_drop, List.length_take]; rfl)) ?_
                  with_reducible refine (lookasideref03_Data.calls kj8 t171 t172 t173 t174 t175 t176 t177 t178 t179 t180 t181 t215 _ A51.out).mono ?_
                  rintro e w77 ⟨rfl, hb⟩
                  refine ⟨_, rfl, ?_⟩
                  have n0_ := Aside0.mk (bb10_ hb BK170.out)
                  have n1_ := Aside0.mk (bb10_ hb BK182.out)
                  have n2_ := Aside0.mk (bb10_ hb BK198.out)
                  have n3_ := Aside0.mk (bb10_ hb BK213.out)
                  have n4_ := Aside0.mk (bb10_ hb BK228.out)
                  have n5_ := Aside0.mk (below_step (by repeat (first | (with_reducible first | exact HB.out | apply below_alloc | apply pw_below_drewN | apply below_drew1 | refine below_set ?_ GE170.out | refine below_set ?_ GE182.out | refine below_set ?_ GE198.out | refine below_set ?_ GE213.out | refine below_set ?_ GE228.out) | exact HB.out)) hb)
                  clear BK170
                  clear BK182
                  clear BK198
                  clear BK213
                  clear BK228
                  clear HB
                  have BK170 := n0_
                  have BK182 := n1_
                  have BK198 := n2_
                  have BK213 := n3_
                  have BK228 := n4_
                  have HB := n5_
                  clear n0_ n1_ n2_ n3_ n4_ n5_
                  (try clear hb)
                  (try clear hb2)
                  (try clear hk)
                  (try clear hi)
                  refine hK.out _ _ (cz11_10 BK182.out) (fun hHeld => ?_)
                  clear hK K
                  refine norm_ (a' := ?_) ?_ ?_
                  rotate_left
                  · show Act.put _ (some 53) _ = _
                    simp only [Act.put, List.setIfInBounds_toArray, List.set_cons_zero, List.set_cons_succ, i64_w, i32_w]
                    rfl
                  refine one_ (i := 5) (N := some 55) #[true, true, true, true, true, true, false, false, false, true, false, false] rfl rfl (one_of HT_.out (by kernel_rfl)) (by decide) (fun K hK => ?_)
                  refine goes_ Try.func33 (by kernel_rfl) rfl #[.int .u64 t214, .int .u64 t215, .int .u64 a2] (by rfl) rfl rfl (by (try simp only [List.map_toArray, List.map_cons, List.map_nil]); first | done | rfl | (simp only [List.length_drop, List.length_take]; rfl)) ?_
                  with_reducible refine (lookasideref03_Read.calls kj8 t214 t215 a2 t216 t217 t218 t219 t220 t221 t222 t223 t224 t225 t226 t227 _ A52.out).mono ?_
                  rintro e w78 ⟨rfl, hb⟩
                  refine ⟨_, rfl, ?_⟩
                  have n0_ := Aside0.mk (bb10_ hb BK170.out)
                  have n1_ := Aside0.mk (bb10_ hb BK182.out)
                  have n2_ := Aside0.mk (bb10_ hb BK198.out)
                  have n3_ := Aside0.mk (bb10_ hb BK213.out)
                  have n4_ := Aside0.mk (bb10_ hb BK228.out)
                  have n5_ := Aside0.mk (below_step (by repeat (first | (with_reducible first | exact HB.out | apply below_alloc | apply pw_below_drewN | apply below_drew1 | refine below_set ?_ GE170.out | refine below_set ?_ GE182.out | refine below_set ?_ GE198.out | refine below_set ?_ GE213.out | refine below_set ?_ GE228.out) | exact HB.out)) hb)
                  clear BK170
                  clear BK182
                  clear BK198
                  clear BK213
                  clear BK228
                  clear HB
                  have BK170 := n0_
                  have BK182 := n1_
                  have BK198 := n2_
                  have BK213 := n3_
                  have BK228 := n4_
                  have HB := n5_
                  clear n0_ n1_ n2_ n3_ n4_ n5_
                  (try clear hb)
                  (try clear hb2)
                  (try clear hk)
                  (try clear hi)
                  refine hK.out _ _ (cz11_10 BK182.out) (fun hHeld => ?_)
                  clear hK K
                  refine norm_ (a' := ?_) ?_ ?_
                  rotate_left
                  · show Act.put _ (some 55) _ = _
                    simp only [Act.put, List.setIfInBounds_toArray, List.set_cons_zero, List.set_cons_succ, i64_w, i32_w]
                    rfl
                  refine pure_ (i := 6) (N := some 49) (v := ?_) (a' := ?_) #[true, true, true, true, true, true, true, false, false, true, false, false] rfl rfl (any_of HT_.out (by kernel_rfl)) (fun _ _ _ h => h) (Or.inl ⟨by rfl, ?_⟩) ?_ ?_
                  rotate_left
                  · intro w'
                    go_simp
                    with_reducible rfl
                  rotate_left
                  · simp only [Act.put, List.setIfInBounds_toArray, List.set_cons_zero, List.set_cons_succ, i64_w, i32_w]
                    rfl
                  refine pure_ (i := 7) (N := some 56) (v := ?_) (a' := ?_) #[true, true, true, true, true, true, true, true, false, true, false, false] rfl rfl (any_of HT_.out (by kernel_rfl)) (fun _ _ _ h => h) (Or.inl ⟨by rfl, ?_⟩) ?_ ?_
                  rotate_left
                  · intro w'
                    go_simp
                    with_reducible rfl
                  rotate_left
                  · simp only [Act.put, List.setIfInBounds_toArray, List.set_cons_zero, List.set_cons_succ, i64_w, i32_w]
                    rfl
                  refine pure_ (i := 8) (N := some 57) (v := ?_) (a' := ?_) #[true, true, true, true, true, true, true, true, true, true, false, false] rfl rfl (any_of HT_.out (by kernel_rfl)) (fun _ _ _ h => h) (Or.inl ⟨by rfl, ?_⟩) ?_ ?_
                  rotate_left
                  · intro w'
                    go_simp
                    with_reducible rfl
                  rotate_left
                  · simp only [Act.put, List.setIfInBounds_toArray, List.set_cons_zero, List.set_cons_succ, i64_w, i32_w]
                    rfl
                  exact norm_ (by simp only [putAll, Act.put, List.setIfInBounds_toArray, List.set_cons_zero, List.set_cons_succ]) (hCont (gb228) _ ⟨hHeld, (by (with_reducible repeat (first | refine blk_drewN ?_ _ | refine blk_drew ?_ | refine blk_alloc ?_ _)); exact BK170.out), (by (with_reducible repeat (first | refine blk_drewN ?_ _ | refine blk_drew ?_ | refine blk_alloc ?_ _)); exact BK182.out), (by (with_reducible repeat (first | refine blk_drewN ?_ _ | refine blk_drew ?_ | refine blk_alloc ?_ _)); exact BK198.out), (by (with_reducible repeat (first | refine blk_drewN ?_ _ | refine blk_drew ?_ | refine blk_alloc ?_ _)); exact BK213.out), (by (with_reducible repeat (first | refine blk_drewN ?_ _ | refine blk_drew ?_ | refine blk_alloc ?_ _)); exact BK228.out), GW228.out, GE228.out, NB170_228.out, NB228_170.out, NB182_228.out, NB228_182.out, NB198_228.out, NB228_198.out, NB213_228.out, NB228_213.out, (by repeat (first | (with_reducible first | exact HB.out | apply below_alloc | apply pw_below_drewN | apply below_drew1 | refine below_set ?_ GE170.out | refine below_set ?_ GE182.out | refine below_set ?_ GE198.out | refine below_set ?_ GE213.out | refine below_set ?_ GE228.out) | exact HB.out))⟩)
              · skip
                refine box_step ?hg (N := 13) ?hd (cs := #[.int .i64 0, .int .i64 0, .int .u64 0, .int .u64 0, .bool false, .bool false, .bool false, .bool false, .bool false, .bool false, .bool false]) (t := 26) ?hr ?_; (case hd => rfl); (case hg => rfl); (case hr => first | (go_simp; done) | (go_simp; rfl))
                intro gb228 hg w75 hbox hb
                have n0_ := Aside0.mk (bb10_ hb BK170.out)
                have n1_ := Aside0.mk (bb10_ hb BK182.out)
                have n2_ := Aside0.mk (bb10_ hb BK198.out)
                have n3_ := Aside0.mk (bb10_ hb BK213.out)
                have n4_ := Aside0.mk (below_step (by repeat (first | (with_reducible first | exact HB.out | apply below_alloc | apply pw_below_drewN | apply below_drew1 | refine below_set ?_ GE170.out | refine below_set ?_ GE182.out | refine below_set ?_ GE198.out | refine below_set ?_ GE213.out) | exact HB.out)) hb)
                have n5_ := Aside0.mk (hbox)
                have n6_ := Aside0.mk ((by rw [hg]; exact (below_size (by repeat (first | (with_reducible first | exact HB.out | apply below_alloc | apply pw_below_drewN | apply below_drew1 | refine below_set ?_ GE170.out | refine below_set ?_ GE182.out | refine below_set ?_ GE198.out | refine below_set ?_ GE213.out) | exact HB.out))) : w.heap.size ≤ gb228))
                have n7_ := Aside0.mk ((by rw [hg]; exact (below_size (by repeat (first | (with_reducible first | exact HB.out | apply below_alloc | apply pw_below_drewN | apply below_drew1 | refine below_set ?_ GE170.out | refine below_set ?_ GE182.out | refine below_set ?_ GE198.out | refine below_set ?_ GE213.out) | exact HB.out))) : w.heap.size ≤ gb228))
                have n8_ := Aside0.mk ((by rw [hg]; exact Nat.ne_of_lt (blk_lt BK170.out) : gb170 ≠ gb228))
                have n9_ := Aside0.mk ((by rw [hg]; exact Nat.ne_of_gt (blk_lt BK170.out) : gb228 ≠ gb170))
                have n10_ := Aside0.mk ((by rw [hg]; exact Nat.ne_of_lt (blk_lt BK182.out) : gb182 ≠ gb228))
                have n11_ := Aside0.mk ((by rw [hg]; exact Nat.ne_of_gt (blk_lt BK182.out) : gb228 ≠ gb182))
                have n12_ := Aside0.mk ((by rw [hg]; exact Nat.ne_of_lt (blk_lt BK198.out) : gb198 ≠ gb228))
                have n13_ := Aside0.mk ((by rw [hg]; exact Nat.ne_of_gt (blk_lt BK198.out) : gb228 ≠ gb198))
                have n14_ := Aside0.mk ((by rw [hg]; exact Nat.ne_of_lt (blk_lt BK213.out) : gb213 ≠ gb228))
                have n15_ := Aside0.mk ((by rw [hg]; exact Nat.ne_of_gt (blk_lt BK213.out) : gb228 ≠ gb213))
                clear BK170
                clear BK182
                clear BK198
                clear BK213
                clear HB
                have BK170 := n0_
                have BK182 := n1_
                have BK198 := n2_
                have BK213 := n3_
                have HB := n4_
                have BK228 := n5_
                have GW228 := n6_
                have GE228 := n7_
                have NB170_228 := n8_
                have NB228_170 := n9_
                have NB182_228 := n10_
                have NB228_182 := n11_
                have NB198_228 := n12_
                have NB228_198 := n13_
                have NB213_228 := n14_
                have NB228_213 := n15_
                clear n0_ n1_ n2_ n3_ n4_ n5_ n6_ n7_ n8_ n9_ n10_ n11_ n12_ n13_ n14_ n15_
                clear hb hbox hg
                refine hK.out _ _ (cz11_10 BK182.out) (fun hHeld => ?_)
                clear hK K
                refine norm_ (a' := ?_) ?_ ?_
                rotate_left
                · show Act.put _ (some 13) _ = _
                  simp only [Act.put, List.setIfInBounds_toArray, List.set_cons_zero, List.set_cons_succ, i64_w, i32_w]
                  rfl
                refine one_ (i := 1) (N := some 51) #[true, true, true, false, true, false, false, false, false, true, false, false] rfl rfl (one_of HT_.out (by kernel_rfl)) (by decide) (fun K hK => ?_)
                refine goes_ Try.func24 (by kernel_rfl) rfl #[.agg #[.int .i64 t171, .int .i64 t172, .int .u64 t173, .int .u64 t174, .bool t175, .bool t176, .bool t177, .bool t178, .bool t179, .bool t180, .bool t181]] (by rfl) rfl rfl (by (try simp only [List.map_toArray, List.map_cons, List.map_nil]); first | done | rfl | (simp only [List.length_drop, List.length_take]; rfl)) ?_
                with_reducible refine (lookasideref03_Tag.calls kj8 t171 t172 t173 t174 t175 t176 t177 t178 t179 t180 t181 t214 _ A50.out).mono ?_
                rintro e w76 ⟨rfl, hb⟩
                refine ⟨_, rfl, ?_⟩
                have n0_ := Aside0.mk (bb10_ hb BK170.out)
                have n1_ := Aside0.mk (bb10_ hb BK182.out)
                have n2_ := Aside0.mk (bb10_ hb BK198.out)
                have n3_ := Aside0.mk (bb10_ hb BK213.out)
                have n4_ := Aside0.mk (bb10_ hb BK228.out)
                have n5_ := Aside0.mk (below_step (by repeat (first | (with_reducible first | exact HB.out | apply below_alloc | apply pw_below_drewN | apply below_drew1 | refine below_set ?_ GE170.out | refine below_set ?_ GE182.out | refine below_set ?_ GE198.out | refine below_set ?_ GE213.out | refine below_set ?_ GE228.out) | exact HB.out)) hb)
                clear BK170
                clear BK182
                clear BK198
                clear BK213
                clear BK228
                clear HB
                have BK170 := n0_
                have BK182 := n1_
                have BK198 := n2_
                have BK213 := n3_
                have BK228 := n4_
                have HB := n5_
                clear n0_ n1_ n2_ n3_ n4_ n5_
                (try clear hb)
                (try clear hb2)
                (try clear hk)
                (try clear hi)
                refine hK.out _ _ (cz11_10 BK182.out) (fun hHeld => ?_)
                clear hK K
                refine norm_ (a' := ?_) ?_ ?_
                rotate_left
                · show Act.put _ (some 51) _ = _
                  simp only [Act.put, List.setIfInBounds_toArray, List.set_cons_zero, List.set_cons_succ, i64_w, i32_w]
                  rfl
                refine one_ (i := 3) (N := some 53) #[true, true, true, true, true, false, false, false, false, true, false, false] rfl rfl (one_of HT_.out (by kernel_rfl)) (by decide) (fun K hK => ?_)
                refine goes_ Try.func25 (by kernel_rfl) rfl #[.agg #[.int .i64 t171, .int .i64 t172, .int .u64 t173, .int .u64 t174, .bool t175, .bool t176, .bool t177, .bool t178, .bool t179, .bool t180, .bool t181]] (by rfl) rfl rfl (by (try simp only [List.map_toArray, List.map_cons, List.map_nil]); first | done | rfl | (simp only [List.length_drop, List.length_take]; rfl)) ?_
                with_reducible refine (lookasideref03_Data.calls kj8 t171 t172 t173 t174 t175 t176 t177 t178 t179 t180 t181 t215 _ A51.out).mono ?_
                rintro e w77 ⟨rfl, hb⟩
                refine ⟨_, rfl, ?_⟩
                have n0_ := Aside0.mk (bb10_ hb BK170.out)
                have n1_ := Aside0.mk (bb10_ hb BK182.out)
                have n2_ := Aside0.mk (bb10_ hb BK198.out)
                have n3_ := Aside0.mk (bb10_ hb BK213.out)
                have n4_ := Aside0.mk (bb10_ hb BK228.out)
                have n5_ := Aside0.mk (below_step (by repeat (first | (with_reducible first | exact HB.out | apply below_alloc | apply pw_below_drewN | apply below_drew1 | refine below_set ?_ GE170.out | refine below_set ?_ GE182.out | refine below_set ?_ GE198.out | refine below_set ?_ GE213.out | refine below_set ?_ GE228.out) | exact HB.out)) hb)
                clear BK170
                clear BK182
                clear BK198
                clear BK213
                clear BK228
                clear HB
                have BK170 := n0_
                have BK182 := n1_
                have BK198 := n2_
                have BK213 := n3_
                have BK228 := n4_
                have HB := n5_
                clear n0_ n1_ n2_ n3_ n4_ n5_
                (try clear hb)
                (try clear hb2)
                (try clear hk)
                (try clear hi)
                refine hK.out _ _ (cz11_10 BK182.out) (fun hHeld => ?_)
                clear hK K
                refine norm_ (a' := ?_) ?_ ?_
                rotate_left
                · show Act.put _ (some 53) _ = _
                  simp only [Act.put, List.setIfInBounds_toArray, List.set_cons_zero, List.set_cons_succ, i64_w, i32_w]
                  rfl
                refine one_ (i := 5) (N := some 55) #[true, true, true, true, true, true, false, false, false, true, false, false] rfl rfl (one_of HT_.out (by kernel_rfl)) (by decide) (fun K hK => ?_)
                refine goes_ Try.func33 (by kernel_rfl) rfl #[.int .u64 t214, .int .u64 t215, .int .u64 a2] (by rfl) rfl rfl (by (try simp only [List.map_toArray, List.map_cons, List.map_nil]); first | done | rfl | (simp only [List.length_drop, List.length_take]; rfl)) ?_
                with_reducible refine (lookasideref03_Read.calls kj8 t214 t215 a2 t216 t217 t218 t219 t220 t221 t222 t223 t224 t225 t226 t227 _ A52.out).mono ?_
                rintro e w78 ⟨rfl, hb⟩
                refine ⟨_, rfl, ?_⟩
                have n0_ := Aside0.mk (bb10_ hb BK170.out)
                have n1_ := Aside0.mk (bb10_ hb BK182.out)
                have n2_ := Aside0.mk (bb10_ hb BK198.out)
                have n3_ := Aside0.mk (bb10_ hb BK213.out)
                have n4_ := Aside0.mk (bb10_ hb BK228.out)
                have n5_ := Aside0.mk (below_step (by repeat (first | (with_reducible first | exact HB.out | apply below_alloc | apply pw_below_drewN | apply below_drew1 | refine below_set ?_ GE170.out | refine below_set ?_ GE182.out | refine below_set ?_ GE198.out | refine below_set ?_ GE213.out | refine below_set ?_ GE228.out) | exact HB.out)) hb)
                clear BK170
                clear BK182
                clear BK198
                clear BK213
                clear BK228
                clear HB
                have BK170 := n0_
                have BK182 := n1_
                have BK198 := n2_
                have BK213 := n3_
                have BK228 := n4_
                have HB := n5_
                clear n0_ n1_ n2_ n3_ n4_ n5_
                (try clear hb)
                (try clear hb2)
                (try clear hk)
                (try clear hi)
                refine hK.out _ _ (cz11_10 BK182.out) (fun hHeld => ?_)
                clear hK K
                refine norm_ (a' := ?_) ?_ ?_
                rotate_left
                · show Act.put _ (some 55) _ = _
                  simp only [Act.put, List.setIfInBounds_toArray, List.set_cons_zero, List.set_cons_succ, i64_w, i32_w]
                  rfl
                refine pure_ (i := 6) (N := some 49) (v := ?_) (a' := ?_) #[true, true, true, true, true, true, true, false, false, true, false, false] rfl rfl (any_of HT_.out (by kernel_rfl)) (fun _ _ _ h => h) (Or.inl ⟨by rfl, ?_⟩) ?_ ?_
                rotate_left
                · intro w'
                  go_simp
                  with_reducible rfl
                rotate_left
                · simp only [Act.put, List.setIfInBounds_toArray, List.set_cons_zero, List.set_cons_succ, i64_w, i32_w]
                  rfl
                refine pure_ (i := 7) (N := some 56) (v := ?_) (a' := ?_) #[true, true, true, true, true, true, true, true, false, true, false, false] rfl rfl (any_of HT_.out (by kernel_rfl)) (fun _ _ _ h => h) (Or.inl ⟨by rfl, ?_⟩) ?_ ?_
                rotate_left
                · intro w'
                  go_simp
                  with_reducible rfl
                rotate_left
                · simp only [Act.put, List.setIfInBounds_toArray, List.set_cons_zero, List.set_cons_succ, i64_w, i32_w]
                  rfl
                refine pure_ (i := 8) (N := some 57) (v := ?_) (a' := ?_) #[true, true, true, true, true, true, true, true, true, true, false, false] rfl rfl (any_of HT_.out (by kernel_rfl)) (fun _ _ _ h => h) (Or.inl ⟨by rfl, ?_⟩) ?_ ?_
                rotate_left
                · intro w'
                  go_simp
                  with_reducible rfl
                rotate_left
                · simp only [Act.put, List.setIfInBounds_toArray, List.set_cons_zero, List.set_cons_succ, i64_w, i32_w]
                  rfl
                exact norm_ (by simp only [putAll, Act.put, List.setIfInBounds_toArray, List.set_cons_zero, List.set_cons_succ]) (hCont (gb228) _ ⟨hHeld, (by (with_reducible repeat (first | refine blk_drewN ?_ _ | refine blk_drew ?_ | refine blk_alloc ?_ _)); exact BK170.out), (by (with_reducible repeat (first | refine blk_drewN ?_ _ | refine blk_drew ?_ | refine blk_alloc ?_ _)); exact BK182.out), (by (with_reducible repeat (first | refine blk_drewN ?_ _ | refine blk_drew ?_ | refine blk_alloc ?_ _)); exact BK198.out), (by (with_reducible repeat (first | refine blk_drewN ?_ _ | refine blk_drew ?_ | refine blk_alloc ?_ _)); exact BK213.out), (by (with_reducible repeat (first | refine blk_drewN ?_ _ | refine blk_drew ?_ | refine blk_alloc ?_ _)); exact BK228.out), GW228.out, GE228.out, NB170_228.out, NB228_170.out, NB182_228.out, NB228_182.out, NB198_228.out, NB228_198.out, NB213_228.out, NB228_213.out, (by repeat (first | (with_reducible first | exact HB.out | apply below_alloc | apply pw_below_drewN | apply below_drew1 | refine below_set ?_ GE170.out | refine below_set ?_ GE182.out | refine below_set ?_ GE198.out | refine below_set ?_ GE213.out | refine below_set ?_ GE228.out) | exact HB.out))⟩)
            rintro gb228 w79 ⟨hS_, h0_, h1_, h2_, h3_, h4_, h5_, h6_, h7_, h8_, h9_, h10_, h11_, h12_, h13_, h14_, h15_⟩
            have n0_ : Aside0 (w79.heap[gb170]? = some (.cells #[.int .i64 a0_0, .int .i64 a0_1, .int .u64 a0_2, .int .u64 a0_3, .bool a0_4, .bool a0_5, .bool a0_6, .bool a0_7, .bool a0_8, .bool a0_9, .bool a0_10] 26 (0, 0))) := ⟨h0_⟩
            have n1_ : Aside0 (w79.heap[gb182]? = some (.cells #[.int .i64 t171, .int .i64 t172, .int .u64 t173, .int .u64 t174, .bool t175, .bool t176, .bool t177, .bool t178, .bool t179, .bool t180, .bool t181] 26 (0, 0))) := ⟨h1_⟩
            have n2_ : Aside0 (w79.heap[gb198]? = some (.cells #[.int .i64 t186, .int .i64 t187, .int .u64 t188, .int .u64 t189, .bool t190, .bool t191, .bool t192, .bool t193, .bool t194, .bool t195, .bool t196] 26 (0, 0))) := ⟨h2_⟩
            have n3_ : Aside0 (w79.heap[gb213]? = some (.cells #[.int .i64 t201, .int .i64 t202, .int .u64 t203, .int .u64 t204, .bool t205, .bool t206, .bool t207, .bool t208, .bool t209, .bool t210, .bool t211] 26 (0, 0))) := ⟨h3_⟩
            have n4_ : Aside0 (w79.heap[gb228]? = some (.cells #[.int .i64 0, .int .i64 0, .int .u64 0, .int .u64 0, .bool false, .bool false, .bool false, .bool false, .bool false, .bool false, .bool false] 26 (0, 0))) := ⟨h4_⟩
            have n5_ : Aside0 (w.heap.size ≤ gb228) := ⟨h5_⟩
            have n6_ : Aside0 (w.heap.size ≤ gb228) := ⟨h6_⟩
            have n7_ : Aside0 (gb170 ≠ gb228) := ⟨h7_⟩
            have n8_ : Aside0 (gb228 ≠ gb170) := ⟨h8_⟩
            have n9_ : Aside0 (gb182 ≠ gb228) := ⟨h9_⟩
            have n10_ : Aside0 (gb228 ≠ gb182) := ⟨h10_⟩
            have n11_ : Aside0 (gb198 ≠ gb228) := ⟨h11_⟩
            have n12_ : Aside0 (gb228 ≠ gb198) := ⟨h12_⟩
            have n13_ : Aside0 (gb213 ≠ gb228) := ⟨h13_⟩
            have n14_ : Aside0 (gb228 ≠ gb213) := ⟨h14_⟩
            have n15_ : Aside0 (Below w.heap.size w w79) := ⟨h15_⟩
            clear BK170
            clear BK182
            clear BK198
            clear BK213
            clear HB
            clear h0_ h1_ h2_ h3_ h4_ h5_ h6_ h7_ h8_ h9_ h10_ h11_ h12_ h13_ h14_ h15_
            have BK170 := n0_
            have BK182 := n1_
            have BK198 := n2_
            have BK213 := n3_
            have BK228 := n4_
            have GW228 := n5_
            have GE228 := n6_
            have NB170_228 := n7_
            have NB228_170 := n8_
            have NB182_228 := n9_
            have NB228_182 := n10_
            have NB198_228 := n11_
            have NB228_198 := n12_
            have NB213_228 := n13_
            have NB228_213 := n14_
            have HB := n15_
            clear n0_ n1_ n2_ n3_ n4_ n5_ n6_ n7_ n8_ n9_ n10_ n11_ n12_ n13_ n14_ n15_
            have hHeld : w79.cell? ⟨gb182, 0, none⟩ = some (.int .i64 t171) ∧ w79.cell? ⟨gb182, 1, none⟩ = some (.int .i64 t172) ∧ w79.cell? ⟨gb182, 2, none⟩ = some (.int .u64 t173) ∧ w79.cell? ⟨gb182, 3, none⟩ = some (.int .u64 t174) ∧ w79.cell? ⟨gb182, 4, none⟩ = some (.bool t175) ∧ w79.cell? ⟨gb182, 5, none⟩ = some (.bool t176) ∧ w79.cell? ⟨gb182, 6, none⟩ = some (.bool t177) ∧ w79.cell? ⟨gb182, 7, none⟩ = some (.bool t178) ∧ w79.cell? ⟨gb182, 8, none⟩ = some (.bool t179) ∧ w79.cell? ⟨gb182, 9, none⟩ = some (.bool t180) ∧ w79.cell? ⟨gb182, 10, none⟩ = some (.bool t181) := hS_
            refine norm_ (a' := ?_) ?_ ?_
            rotate_left
            · simp only [putAll, Act.put, List.setIfInBounds_toArray, List.set_cons_zero, List.set_cons_succ]
              rfl
            refine one_ (i := 10) (N := none) #[true, true, true, true, true, true, true, true, true, true, true, false] rfl rfl (one_of HT_.out (by kernel_rfl)) (by decide) (fun K hK => ?_)
            have hs80 : w79.cell? ⟨gb228, 0, none⟩ = some (.int .i64 0) := (blk_cell BK228.out 0).trans rfl
            have hfs80 := blk_frozen BK228.out 0
            have hns80_0 := NB170_228.out
            have hns80_1 := NB182_228.out
            have hns80_2 := NB198_228.out
            have hns80_3 := NB213_228.out
            have hms80_0 := NB228_170.out
            have hms80_1 := NB228_182.out
            have hms80_2 := NB228_198.out
            have hms80_3 := NB228_213.out
            have hs81 : w79.cell? ⟨gb228, 1, none⟩ = some (.int .i64 0) := (blk_cell BK228.out 1).trans rfl
            have hfs81 := blk_frozen BK228.out 1
            have hns81_0 := NB170_228.out
            have hns81_1 := NB182_228.out
            have hns81_2 := NB198_228.out
            have hns81_3 := NB213_228.out
            have hms81_0 := NB228_170.out
            have hms81_1 := NB228_182.out
            have hms81_2 := NB228_198.out
            have hms81_3 := NB228_213.out
            have hs82 : w79.cell? ⟨gb228, 2, none⟩ = some (.int .u64 0) := (blk_cell BK228.out 2).trans rfl
            have hfs82 := blk_frozen BK228.out 2
            have hns82_0 := NB170_228.out
            have hns82_1 := NB182_228.out
            have hns82_2 := NB198_228.out
            have hns82_3 := NB213_228.out
            have hms82_0 := NB228_170.out
            have hms82_1 := NB228_182.out
            have hms82_2 := NB228_198.out
            have hms82_3 := NB228_213.out
            have hs83 : w79.cell? ⟨gb228, 3, none⟩ = some (.int .u64 0) := (blk_cell BK228.out 3).trans rfl
            have hfs83 := blk_frozen BK228.out 3
            have hns83_0 := NB170_228.out
            have hns83_1 := NB182_228.out
            have hns83_2 := NB198_228.out
            have hns83_3 := NB213_228.out
            have hms83_0 := NB228_170.out
            have hms83_1 := NB228_182.out
            have hms83_2 := NB228_198.out
            have hms83_3 := NB228_213.out
            have hs84 : w79.cell? ⟨gb228, 4, none⟩ = some (.bool false) := (blk_cell BK228.out 4).trans rfl
            have hfs84 := blk_frozen BK228.out 4
            have hns84_0 := NB170_228.out
            have hns84_1 := NB182_228.out
            have hns84_2 := NB198_228.out
            have hns84_3 := NB213_228.out
            have hms84_0 := NB228_170.out
            have hms84_1 := NB228_182.out
            have hms84_2 := NB228_198.out
            have hms84_3 := NB228_213.out
            have hs85 : w79.cell? ⟨gb228, 5, none⟩ = some (.bool false) := (blk_cell BK228.out 5).trans rfl
            have hfs85 := blk_frozen BK228.out 5
            have hns85_0 := NB170_228.out
            have hns85_1 := NB182_228.out
            have hns85_2 := NB198_228.out
            have hns85_3 := NB213_228.out
            have hms85_0 := NB228_170.out
            have hms85_1 := NB228_182.out
            have hms85_2 := NB228_198.out
            have hms85_3 := NB228_213.out
            have hs86 : w79.cell? ⟨gb228, 6, none⟩ = some (.bool false) := (blk_cell BK228.out 6).trans rfl
            have hfs86 := blk_frozen BK228.out 6
            have hns86_0 := NB170_228.out
            have hns86_1 := NB182_228.out
            have hns86_2 := NB198_228.out
            have hns86_3 := NB213_228.out
            have hms86_0 := NB228_170.out
            have hms86_1 := NB228_182.out
            have hms86_2 := NB228_198.out
            have hms86_3 := NB228_213.out
            have hs87 : w79.cell? ⟨gb228, 7, none⟩ = some (.bool false) := (blk_cell BK228.out 7).trans rfl
            have hfs87 := blk_frozen BK228.out 7
            have hns87_0 := NB170_228.out
            have hns87_1 := NB182_228.out
            have hns87_2 := NB198_228.out
            have hns87_3 := NB213_228.out
            have hms87_0 := NB228_170.out
            have hms87_1 := NB228_182.out
            have hms87_2 := NB228_198.out
            have hms87_3 := NB228_213.out
            have hs88 : w79.cell? ⟨gb228, 8, none⟩ = some (.bool false) := (blk_cell BK228.out 8).trans rfl
            have hfs88 := blk_frozen BK228.out 8
            have hns88_0 := NB170_228.out
            have hns88_1 := NB182_228.out
            have hns88_2 := NB198_228.out
            have hns88_3 := NB213_228.out
            have hms88_0 := NB228_170.out
            have hms88_1 := NB228_182.out
            have hms88_2 := NB228_198.out
            have hms88_3 := NB228_213.out
            have hs89 : w79.cell? ⟨gb228, 9, none⟩ = some (.bool false) := (blk_cell BK228.out 9).trans rfl
            have hfs89 := blk_frozen BK228.out 9
            have hns89_0 := NB170_228.out
            have hns89_1 := NB182_228.out
            have hns89_2 := NB198_228.out
            have hns89_3 := NB213_228.out
            have hms89_0 := NB228_170.out
            have hms89_1 := NB228_182.out
            have hms89_2 := NB228_198.out
            have hms89_3 := NB228_213.out
            have hs90 : w79.cell? ⟨gb228, 10, none⟩ = some (.bool false) := (blk_cell BK228.out 10).trans rfl
            have hfs90 := blk_frozen BK228.out 10
            have hns90_0 := NB170_228.out
            have hns90_1 := NB182_228.out
            have hns90_2 := NB198_228.out
            have hns90_3 := NB213_228.out
            have hms90_0 := NB228_170.out
            have hms90_1 := NB228_182.out
            have hms90_2 := NB228_198.out
            have hms90_3 := NB228_213.out
            refine skip_ (w1 := ?_) (by rfl) rfl ?_ ?_
            rotate_left
            · go_simp
              rfl
            refine hK.out _ _ ⟨((cell_far (p := ⟨gb228, _, none⟩) NB182_228.out _).trans (((cell_far (p := ⟨gb228, _, none⟩) NB182_228.out _).trans (((cell_far (p := ⟨gb228, _, none⟩) NB182_228.out _).trans (((cell_far (p := ⟨gb228, _, none⟩) NB182_228.out _).trans (((cell_far (p := ⟨gb228, _, none⟩) NB182_228.out _).trans (((cell_far (p := ⟨gb228, _, none⟩) NB182_228.out _).trans (((cell_far (p := ⟨gb228, _, none⟩) NB182_228.out _).trans (((cell_far (p := ⟨gb228, _, none⟩) NB182_228.out _).trans (((cell_far (p := ⟨gb228, _, none⟩) NB182_228.out _).trans (((cell_far (p := ⟨gb228, _, none⟩) NB182_228.out _).trans (((cell_far (p := ⟨gb228, _, none⟩) NB182_228.out _).trans (hHeld.1)))))))))))))))))))))), ((cell_far (p := ⟨gb228, _, none⟩) NB182_228.out _).trans (((cell_far (p := ⟨gb228, _, none⟩) NB182_228.out _).trans (((cell_far (p := ⟨gb228, _, none⟩) NB182_228.out _).trans (((cell_far (p := ⟨gb228, _, none⟩) NB182_228.out _).trans (((cell_far (p := ⟨gb228, _, none⟩) NB182_228.out _).trans (((cell_far (p := ⟨gb228, _, none⟩) NB182_228.out _).trans (((cell_far (p := ⟨gb228, _, none⟩) NB182_228.out _).trans (((cell_far (p := ⟨gb228, _, none⟩) NB182_228.out _).trans (((cell_far (p := ⟨gb228, _, none⟩) NB182_228.out _).trans (((cell_far (p := ⟨gb228, _, none⟩) NB182_228.out _).trans (((cell_far (p := ⟨gb228, _, none⟩) NB182_228.out _).trans (hHeld.2.1)))))))))))))))))))))), ((cell_far (p := ⟨gb228, _, none⟩) NB182_228.out _).trans (((cell_far (p := ⟨gb228, _, none⟩) NB182_228.out _).trans (((cell_far (p := ⟨gb228, _, none⟩) NB182_228.out _).trans (((cell_far (p := ⟨gb228, _, none⟩) NB182_228.out _).trans (((cell_far (p := ⟨gb228, _, none⟩) NB182_228.out _).trans (((cell_far (p := ⟨gb228, _, none⟩) NB182_228.out _).trans (((cell_far (p := ⟨gb228, _, none⟩) NB182_228.out _).trans (((cell_far (p := ⟨gb228, _, none⟩) NB182_228.out _).trans (((cell_far (p := ⟨gb228, _, none⟩) NB182_228.out _).trans (((cell_far (p := ⟨gb228, _, none⟩) NB182_228.out _).trans (((cell_far (p := ⟨gb228, _, none⟩) NB182_228.out _).trans (hHeld.2.2.1)))))))))))))))))))))), ((cell_far (p := ⟨gb228, _, none⟩) NB182_228.out _).trans (((cell_far (p := ⟨gb228, _, none⟩) NB182_228.out _).trans (((cell_far (p := ⟨gb228, _, none⟩) NB182_228.out _).trans (((cell_far (p := ⟨gb228, _, none⟩) NB182_228.out _).trans (((cell_far (p := ⟨gb228, _, none⟩) NB182_228.out _).trans (((cell_far (p := ⟨gb228, _, none⟩) NB182_228.out _).trans (((cell_far (p := ⟨gb228, _, none⟩) NB182_228.out _).trans (((cell_far (p := ⟨gb228, _, none⟩) NB182_228.out _).trans (((cell_far (p := ⟨gb228, _, none⟩) NB182_228.out _).trans (((cell_far (p := ⟨gb228, _, none⟩) NB182_228.out _).trans (((cell_far (p := ⟨gb228, _, none⟩) NB182_228.out _).trans (hHeld.2.2.2.1)))))))))))))))))))))), ((cell_far (p := ⟨gb228, _, none⟩) NB182_228.out _).trans (((cell_far (p := ⟨gb228, _, none⟩) NB182_228.out _).trans (((cell_far (p := ⟨gb228, _, none⟩) NB182_228.out _).trans (((cell_far (p := ⟨gb228, _, none⟩) NB182_228.out _).trans (((cell_far (p := ⟨gb228, _, none⟩) NB182_228.out _).trans (((cell_far (p := ⟨gb228, _, none⟩) NB182_228.out _).trans (((cell_far (p := ⟨gb228, _, none⟩) NB182_228.out _).trans (((cell_far (p := ⟨gb228, _, none⟩) NB182_228.out _).trans (((cell_far (p := ⟨gb228, _, none⟩) NB182_228.out _).trans (((cell_far (p := ⟨gb228, _, none⟩) NB182_228.out _).trans (((cell_far (p := ⟨gb228, _, none⟩) NB182_228.out _).trans (hHeld.2.2.2.2.1)))))))))))))))))))))), ((cell_far (p := ⟨gb228, _, none⟩) NB182_228.out _).trans (((cell_far (p := ⟨gb228, _, none⟩) NB182_228.out _).trans (((cell_far (p := ⟨gb228, _, none⟩) NB182_228.out _).trans (((cell_far (p := ⟨gb228, _, none⟩) NB182_228.out _).trans (((cell_far (p := ⟨gb228, _, none⟩) NB182_228.out _).trans (((cell_far (p := ⟨gb228, _, none⟩) NB182_228.out _).trans (((cell_far (p := ⟨gb228, _, none⟩) NB182_228.out _).trans (((cell_far (p := ⟨gb228, _, none⟩) NB182_228.out _).trans (((cell_far (p := ⟨gb228, _, none⟩) NB182_228.out _).trans (((cell_far (p := ⟨gb228, _, none⟩) NB182_228.out _).trans (((cell_far (p := ⟨gb228, _, none⟩) NB182_228.out _).trans (hHeld.2.2.2.2.2.1)))))))))))))))))))))), ((cell_far (p := ⟨gb228, _, none⟩) NB182_228.out _).trans (((cell_far (p := ⟨gb228, _, none⟩) NB182_228.out _).trans (((cell_far (p := ⟨gb228, _, none⟩) NB182_228.out _).trans (((cell_far (p := ⟨gb228, _, none⟩) NB182_228.out _).trans (((cell_far (p := ⟨gb228, _, none⟩) NB182_228.out _).trans (((cell_far (p := ⟨gb228, _, none⟩) NB182_228.out _).trans (((cell_far (p := ⟨gb228, _, none⟩) NB182_228.out _).trans (((cell_far (p := ⟨gb228, _, none⟩) NB182_228.out _).trans (((cell_far (p := ⟨gb228, _, none⟩) NB182_228.out _).trans (((cell_far (p := ⟨gb228, _, none⟩) NB182_228.out _).trans (((cell_far (p := ⟨gb228, _, none⟩) NB182_228.out _).trans (hHeld.2.2.2.2.2.2.1)))))))))))))))))))))), ((cell_far (p := ⟨gb228, _, none⟩) NB182_228.out _).trans (((cell_far (p := ⟨gb228, _, none⟩) NB182_228.out _).trans (((cell_far (p := ⟨gb228, _, none⟩) NB182_228.out _).trans (((cell_far (p := ⟨gb228, _, none⟩) NB182_228.out _).trans (((cell_far (p := ⟨gb228, _, none⟩) NB182_228.out _).trans (((cell_far (p := ⟨gb228, _, none⟩) NB182_228.out _).trans (((cell_far (p := ⟨gb228, _, none⟩) NB182_228.out _).trans (((cell_far (p := ⟨gb228, _, none⟩) NB182_228.out _).trans (((cell_far (p := ⟨gb228, _, none⟩) NB182_228.out _).trans (((cell_far (p := ⟨gb228, _, none⟩) NB182_228.out _).trans (((cell_far (p := ⟨gb228, _, none⟩) NB182_228.out _).trans (hHeld.2.2.2.2.2.2.2.1)))))))))))))))))))))), ((cell_far (p := ⟨gb228, _, none⟩) NB182_228.out _).trans (((cell_far (p := ⟨gb228, _, none⟩) NB182_228.out _).trans (((cell_far (p := ⟨gb228, _, none⟩) NB182_228.out _).trans (((cell_far (p := ⟨gb228, _, none⟩) NB182_228.out _).trans (((cell_far (p := ⟨gb228, _, none⟩) NB182_228.out _).trans (((cell_far (p := ⟨gb228, _, none⟩) NB182_228.out _).trans (((cell_far (p := ⟨gb228, _, none⟩) NB182_228.out _).trans (((cell_far (p := ⟨gb228, _, none⟩) NB182_228.out _).trans (((cell_far (p := ⟨gb228, _, none⟩) NB182_228.out _).trans (((cell_far (p := ⟨gb228, _, none⟩) NB182_228.out _).trans (((cell_far (p := ⟨gb228, _, none⟩) NB182_228.out _).trans (hHeld.2.2.2.2.2.2.2.2.1)))))))))))))))))))))), ((cell_far (p := ⟨gb228, _, none⟩) NB182_228.out _).trans (((cell_far (p := ⟨gb228, _, none⟩) NB182_228.out _).trans (((cell_far (p := ⟨gb228, _, none⟩) NB182_228.out _).trans (((cell_far (p := ⟨gb228, _, none⟩) NB182_228.out _).trans (((cell_far (p := ⟨gb228, _, none⟩) NB182_228.out _).trans (((cell_far (p := ⟨gb228, _, none⟩) NB182_228.out _).trans (((cell_far (p := ⟨gb228, _, none⟩) NB182_228.out _).trans (((cell_far (p := ⟨gb228, _, none⟩) NB182_228.out _).trans (((cell_far (p := ⟨gb228, _, none⟩) NB182_228.out _).trans (((cell_far (p := ⟨gb228, _, none⟩) NB182_228.out _).trans (((cell_far (p := ⟨gb228, _, none⟩) NB182_228.out _).trans (hHeld.2.2.2.2.2.2.2.2.2.1)))))))))))))))))))))), ((cell_far (p := ⟨gb228, _, none⟩) NB182_228.out _).trans (((cell_far (p := ⟨gb228, _, none⟩) NB182_228.out _).trans (((cell_far (p := ⟨gb228, _, none⟩) NB182_228.out _).trans (((cell_far (p := ⟨gb228, _, none⟩) NB182_228.out _).trans (((cell_far (p := ⟨gb228, _, none⟩) NB182_228.out _).trans (((cell_far (p := ⟨gb228, _, none⟩) NB182_228.out _).trans (((cell_far (p := ⟨gb228, _, none⟩) NB182_228.out _).trans (((cell_far (p := ⟨gb228, _, none⟩) NB182_228.out _).trans (((cell_far (p := ⟨gb228, _, none⟩) NB182_228.out _).trans (((cell_far (p := ⟨gb228, _, none⟩) NB182_228.out _).trans (((cell_far (p := ⟨gb228, _, none⟩) NB182_228.out _).trans (hHeld.2.2.2.2.2.2.2.2.2.2))))))))))))))))))))))⟩ (fun hHeld => ?_)
            clear hK K
            refine pure_ (i := 11) (N := some 14) (v := ?_) (a' := ?_) #[true, true, true, true, true, true, true, true, true, true, true, true] rfl rfl (any_of HT_.out (by kernel_rfl)) (fun _ _ _ h => h) (Or.inl ⟨by rfl, ?_⟩) ?_ ?_
            rotate_left
            · intro w'
              go_simp
              with_reducible rfl
            rotate_left
            · simp only [Act.put, List.setIfInBounds_toArray, List.set_cons_zero, List.set_cons_succ, i64_w, i32_w]
              rfl
            refine done_ (done_of HT_.out (by kernel_rfl)) ?_
            have hnb91 := NB213_170.out
            have hnc91 := NB170_213.out
            have hnb92 := NB213_182.out
            have hnc92 := NB182_213.out
            have hnb93 := NB213_198.out
            have hnc93 := NB198_213.out
            have hnb94 := NB213_228.out
            have hnc94 := NB228_213.out
            have hcz95_0 : w79.cell? ⟨gb213, 0, none⟩ = some (.int .i64 t201) := (blk_cell BK213.out 0).trans rfl
            have hcz95_1 : w79.cell? ⟨gb213, 1, none⟩ = some (.int .i64 t202) := (blk_cell BK213.out 1).trans rfl
            have hcz95_2 : w79.cell? ⟨gb213, 2, none⟩ = some (.int .u64 t203) := (blk_cell BK213.out 2).trans rfl
            have hcz95_3 : w79.cell? ⟨gb213, 3, none⟩ = some (.int .u64 t204) := (blk_cell BK213.out 3).trans rfl
            have hcz95_4 : w79.cell? ⟨gb213, 4, none⟩ = some (.bool t205) := (blk_cell BK213.out 4).trans rfl
            have hcz95_5 : w79.cell? ⟨gb213, 5, none⟩ = some (.bool t206) := (blk_cell BK213.out 5).trans rfl
            have hcz95_6 : w79.cell? ⟨gb213, 6, none⟩ = some (.bool t207) := (blk_cell BK213.out 6).trans rfl
            have hcz95_7 : w79.cell? ⟨gb213, 7, none⟩ = some (.bool t208) := (blk_cell BK213.out 7).trans rfl
            have hcz95_8 : w79.cell? ⟨gb213, 8, none⟩ = some (.bool t209) := (blk_cell BK213.out 8).trans rfl
            have hcz95_9 : w79.cell? ⟨gb213, 9, none⟩ = some (.bool t210) := (blk_cell BK213.out 9).trans rfl
            have hcz95_10 : w79.cell? ⟨gb213, 10, none⟩ = some (.bool t211) := (blk_cell BK213.out 10).trans rfl
            have hfz95_0 := blk_frozen BK213.out 0
            have hfz95_1 := blk_frozen BK213.out 1
            have hfz95_2 := blk_frozen BK213.out 2
            have hfz95_3 := blk_frozen BK213.out 3
            have hfz95_4 := blk_frozen BK213.out 4
            have hfz95_5 := blk_frozen BK213.out 5
            have hfz95_6 := blk_frozen BK213.out 6
            have hfz95_7 := blk_frozen BK213.out 7
            have hfz95_8 := blk_frozen BK213.out 8
            have hfz95_9 := blk_frozen BK213.out 9
            have hfz95_10 := blk_frozen BK213.out 10
            have hnb96 := NB228_170.out
            have hnc96 := NB170_228.out
            have hnb97 := NB228_182.out
            have hnc97 := NB182_228.out
            have hnb98 := NB228_198.out
            have hnc98 := NB198_228.out
            have hcz99_0 : w79.cell? ⟨gb228, 0, none⟩ = some (.int .i64 0) := (blk_cell BK228.out 0).trans rfl
            have hcz99_1 : w79.cell? ⟨gb228, 1, none⟩ = some (.int .i64 0) := (blk_cell BK228.out 1).trans rfl
            have hcz99_2 : w79.cell? ⟨gb228, 2, none⟩ = some (.int .u64 0) := (blk_cell BK228.out 2).trans rfl
            have hcz99_3 : w79.cell? ⟨gb228, 3, none⟩ = some (.int .u64 0) := (blk_cell BK228.out 3).trans rfl
            have hcz99_4 : w79.cell? ⟨gb228, 4, none⟩ = some (.bool false) := (blk_cell BK228.out 4).trans rfl
            have hcz99_5 : w79.cell? ⟨gb228, 5, none⟩ = some (.bool false) := (blk_cell BK228.out 5).trans rfl
            have hcz99_6 : w79.cell? ⟨gb228, 6, none⟩ = some (.bool false) := (blk_cell BK228.out 6).trans rfl
            have hcz99_7 : w79.cell? ⟨gb228, 7, none⟩ = some (.bool false) := (blk_cell BK228.out 7).trans rfl
            have hcz99_8 : w79.cell? ⟨gb228, 8, none⟩ = some (.bool false) := (blk_cell BK228.out 8).trans rfl
            have hcz99_9 : w79.cell? ⟨gb228, 9, none⟩ = some (.bool false) := (blk_cell BK228.out 9).trans rfl
            have hcz99_10 : w79.cell? ⟨gb228, 10, none⟩ = some (.bool false) := (blk_cell BK228.out 10).trans rfl
            have hfz99_0 := blk_frozen BK228.out 0
            have hfz99_1 := blk_frozen BK228.out 1
            have hfz99_2 := blk_frozen BK228.out 2
            have hfz99_3 := blk_frozen BK228.out 3
            have hfz99_4 := blk_frozen BK228.out 4
            have hfz99_5 := blk_frozen BK228.out 5
            have hfz99_6 := blk_frozen BK228.out 6
            have hfz99_7 := blk_frozen BK228.out 7
            have hfz99_8 := blk_frozen BK228.out 8
            have hfz99_9 := blk_frozen BK228.out 9
            have hfz99_10 := blk_frozen BK228.out 10
            try go_wp2_with (first | (go_at_call 17; (with_reducible refine (lookasidelaw03_lives.calls kj8  t229 _ A55.out).mono ?_); rintro e w100 ⟨rfl, hb⟩; have n0_ := Aside0.mk (blk_below (g := gb170) (o := .cells #[.int .i64 a0_0, .int .i64 a0_1, .int .u64 a0_2, .int .u64 a0_3, .bool a0_4, .bool a0_5, .bool a0_6, .bool a0_7, .bool a0_8, .bool a0_9, .bool a0_10] 26 (0, 0)) (by (with_reducible repeat (first | refine blk_drewN ?_ _ | refine blk_drew ?_ | refine blk_alloc ?_ _)); refine blk_far ?_ NB170_228.out _; refine blk_far ?_ NB170_228.out _; refine blk_far ?_ NB170_228.out _; refine blk_far ?_ NB170_228.out _; refine blk_far ?_ NB170_228.out _; refine blk_far ?_ NB170_228.out _; refine blk_far ?_ NB170_228.out _; refine blk_far ?_ NB170_228.out _; refine blk_far ?_ NB170_228.out _; refine blk_far ?_ NB170_228.out _; refine blk_far ?_ NB170_228.out _; (with_reducible repeat (first | refine blk_drewN ?_ _ | refine blk_drew ?_ | refine blk_alloc ?_ _)); exact BK170.out) hb); have n1_ := Aside0.mk (blk_below (g := gb182) (o := .cells #[.int .i64 t171, .int .i64 t172, .int .u64 t173, .int .u64 t174, .bool t175, .bool t176, .bool t177, .bool t178, .bool t179, .bool t180, .bool t181] 26 (0, 0)) (by (with_reducible repeat (first | refine blk_drewN ?_ _ | refine blk_drew ?_ | refine blk_alloc ?_ _)); refine blk_far ?_ NB182_228.out _; refine blk_far ?_ NB182_228.out _; refine blk_far ?_ NB182_228.out _; refine blk_far ?_ NB182_228.out _; refine blk_far ?_ NB182_228.out _; refine blk_far ?_ NB182_228.out _; refine blk_far ?_ NB182_228.out _; refine blk_far ?_ NB182_228.out _; refine blk_far ?_ NB182_228.out _; refine blk_far ?_ NB182_228.out _; refine blk_far ?_ NB182_228.out _; (with_reducible repeat (first | refine blk_drewN ?_ _ | refine blk_drew ?_ | refine blk_alloc ?_ _)); exact BK182.out) hb); have n2_ := Aside0.mk (blk_below (g := gb198) (o := .cells #[.int .i64 t186, .int .i64 t187, .int .u64 t188, .int .u64 t189, .bool t190, .bool t191, .bool t192, .bool t193, .bool t194, .bool t195, .bool t196] 26 (0, 0)) (by (with_reducible repeat (first | refine blk_drewN ?_ _ | refine blk_drew ?_ | refine blk_alloc ?_ _)); refine blk_far ?_ NB198_228.out _; refine blk_far ?_ NB198_228.out _; refine blk_far ?_ NB198_228.out _; refine blk_far ?_ NB198_228.out _; refine blk_far ?_ NB198_228.out _; refine blk_far ?_ NB198_228.out _; refine blk_far ?_ NB198_228.out _; refine blk_far ?_ NB198_228.out _; refine blk_far ?_ NB198_228.out _; refine blk_far ?_ NB198_228.out _; refine blk_far ?_ NB198_228.out _; (with_reducible repeat (first | refine blk_drewN ?_ _ | refine blk_drew ?_ | refine blk_alloc ?_ _)); exact BK198.out) hb); have n3_ := Aside0.mk (blk_below (g := gb213) (o := .cells #[.int .i64 t201, .int .i64 t202, .int .u64 t203, .int .u64 t204, .bool t205, .bool t206, .bool t207, .bool t208, .bool t209, .bool t210, .bool t211] 26 (0, 0)) (by (with_reducible repeat (first | refine blk_drewN ?_ _ | refine blk_drew ?_ | refine blk_alloc ?_ _)); refine blk_far ?_ NB213_228.out _; refine blk_far ?_ NB213_228.out _; refine blk_far ?_ NB213_228.out _; refine blk_far ?_ NB213_228.out _; refine blk_far ?_ NB213_228.out _; refine blk_far ?_ NB213_228.out _; refine blk_far ?_ NB213_228.out _; refine blk_far ?_ NB213_228.out _; refine blk_far ?_ NB213_228.out _; refine blk_far ?_ NB213_228.out _; refine blk_far ?_ NB213_228.out _; (with_reducible repeat (first | refine blk_drewN ?_ _ | refine blk_drew ?_ | refine blk_alloc ?_ _)); exact BK213.out) hb); have n4_ := Aside0.mk (blk_below (g := gb228) (o := .cells #[.int .i64 t216, .int .i64 t217, .int .u64 t218, .int .u64 t219, .bool t220, .bool t221, .bool t222, .bool t223, .bool t224, .bool t225, .bool t226] 26 (0, 0)) (by (with_reducible repeat (first | refine blk_drewN ?_ _ | refine blk_drew ?_ | refine blk_alloc ?_ _)); refine blk_put (cs := #[.int .i64 t216, .int .i64 t217, .int .u64 t218, .int .u64 t219, .bool t220, .bool t221, .bool t222, .bool t223, .bool t224, .bool t225, .bool false]) ?_ 10 _ rfl; refine blk_put (cs := #[.int .i64 t216, .int .i64 t217, .int .u64 t218, .int .u64 t219, .bool t220, .bool t221, .bool t222, .bool t223, .bool t224, .bool false, .bool false]) ?_ 9 _ rfl; refine blk_put (cs := #[.int .i64 t216, .int .i64 t217, .int .u64 t218, .int .u64 t219, .bool t220, .bool t221, .bool t222, .bool t223, .bool false, .bool false, .bool false]) ?_ 8 _ rfl; refine blk_put (cs := #[.int .i64 t216, .int .i64 t217, .int .u64 t218, .int .u64 t219, .bool t220, .bool t221, .bool t222, .bool false, .bool false, .bool false, .bool false]) ?_ 7 _ rfl; refine blk_put (cs := #[.int .i64 t216, .int .i64 t217, .int .u64 t218, .int .u64 t219, .bool t220, .bool t221, .bool false, .bool false, .bool false, .bool false, .bool false]) ?_ 6 _ rfl; refine blk_put (cs := #[.int .i64 t216, .int .i64 t217, .int .u64 t218, .int .u64 t219, .bool t220, .bool false, .bool false, .bool false, .bool false, .bool false, .bool false]) ?_ 5 _ rfl; refine blk_put (cs := #[.int .i64 t216, .int .i64 t217, .int .u64 t218, .int .u64 t219, .bool false, .bool false, .bool false, .bool false, .bool false, .bool false, .bool false]) ?_ 4 _ rfl; refine blk_put (cs := #[.int .i64 t216, .int .i64 t217, .int .u64 t218, .int .u64 0, .bool false, .bool false, .bool false, .bool false, .bool false, .bool false, .bool false]) ?_ 3 _ rfl; refine blk_put (cs := #[.int .i64 t216, .int .i64 t217, .int .u64 0, .int .u64 0, .bool false, .bool false, .bool false, .bool false, .bool false, .bool false, .bool false]) ?_ 2 _ rfl; refine blk_put (cs := #[.int .i64 t216, .int .i64 0, .int .u64 0, .int .u64 0, .bool false, .bool false, .bool false, .bool false, .bool false, .bool false, .bool false]) ?_ 1 _ rfl; refine blk_put (cs := #[.int .i64 0, .int .i64 0, .int .u64 0, .int .u64 0, .bool false, .bool false, .bool false, .bool false, .bool false, .bool false, .bool false]) ?_ 0 _ rfl; (with_reducible repeat (first | refine blk_drewN ?_ _ | refine blk_drew ?_ | refine blk_alloc ?_ _)); exact BK228.out) hb); have n5_ := Aside0.mk (below_step (by repeat (first | (with_reducible first | exact HB.out | apply below_alloc | apply pw_below_drewN | apply below_drew1 | refine below_set ?_ GE170.out | refine below_set ?_ GE182.out | refine below_set ?_ GE198.out | refine below_set ?_ GE213.out | refine below_set ?_ GE228.out) | exact HB.out)) hb); clear BK170; clear BK182; clear BK198; clear BK213; clear BK228; clear HB; have BK170 := n0_; have BK182 := n1_; have BK198 := n2_; have BK213 := n3_; have BK228 := n4_; have HB := n5_; clear n0_ n1_ n2_ n3_ n4_ n5_; (try clear hb); (try clear hb2); (try clear hk); (try clear hi)))
            go_ret
            exact ⟨by first | rfl | (simp [errW_none, errW_some] <;> rfl) | (simp [*, errW_none, errW_some] <;> rfl), by repeat (first | (with_reducible first | exact HB.out | apply below_alloc | apply pw_below_drewN | apply below_drew1 | refine below_set ?_ GE170.out | refine below_set ?_ GE182.out | refine below_set ?_ GE198.out | refine below_set ?_ GE213.out | refine below_set ?_ GE228.out) | exact HB.out)⟩
          · rw [if_neg c54] at H
            have c54b0 : (t212 == t227) = false := beq_eq_false_iff_ne.mpr c54
            have c54b1 : (t212 != t227) = true := bne_iff_ne.mpr c54
            exact absurd ((Option.some.inj H).trans hr_.out) (by decide)
        · rw [if_neg c53] at H
          have c53b0 : (t201 == t216 && (t202 == t217 && (t203 == t218 && (t204 == t219 && ((t205 == t220 && (t206 == t221 && (t207 == t222 && (t208 == t223 && (t209 == t224 && (t210 == t225)))))) && (t211 == t226)))))) = false := by simpa using c53
          (try (have c53b1 : decide (t201 = t216 && (t202 == t217 && (t203 == t218 && (t204 == t219 && ((t205 == t220 && (t206 == t221 && (t207 == t222 && (t208 == t223 && (t209 == t224 && (t210 == t225)))))) && (t211 == t226)))))) = false := by simpa using c53))
          (try (have c53b2 : (t201 == t216 && (t202 == t217 && (t203 == t218 && (t204 == t219 && ((t205 == t220 && (t206 == t221 && (t207 == t222 && (t208 == t223 && (t209 == t224 && (t210 == t225)))))) && (t211 == t226)))))) = false := by simpa using c53))
          (try (have c53b3 : ¬ (t201 = t216 && (t202 == t217 && (t203 == t218 && (t204 == t219 && ((t205 == t220 && (t206 == t221 && (t207 == t222 && (t208 == t223 && (t209 == t224 && (t210 == t225)))))) && (t211 == t226)))))) := by simpa using c53))
          clear c53
          exact absurd ((Option.some.inj H).trans hr_.out) (by decide)

/-- THE ONE PURE STATEMENT of lookasidelaw03_TteRound: yours. -/
def lookasidelaw03_TteRound.Pure : Prop := ∀ (a0_0 : Int) (a0_1 : Int) (a0_2 : Int) (a0_3 : Int) (a0_4 : Bool) (a0_5 : Bool) (a0_6 : Bool) (a0_7 : Bool) (a0_8 : Bool) (a0_9 : Bool) (a0_10 : Bool) (a1 : Int) (a2 : Int), (Lit.int .i64 a0_0).wf = true → (Lit.int .i64 a0_1).wf = true → (Lit.int .u64 a0_2).wf = true → (Lit.int .u64 a0_3).wf = true → (Lit.int .u64 a1).wf = true → (Lit.int .u64 a2).wf = true → ∃ k, lookasidelaw03_TteRound.f k a0_0 a0_1 a0_2 a0_3 a0_4 a0_5 a0_6 a0_7 a0_8 a0_9 a0_10 a1 a2 = some true
theorem lookasidelaw03_TteRound.walk (P : lookasidelaw03_TteRound.Pure) (a0_0 : Int) (a0_1 : Int) (a0_2 : Int) (a0_3 : Int) (a0_4 : Bool) (a0_5 : Bool) (a0_6 : Bool) (a0_7 : Bool) (a0_8 : Bool) (a0_9 : Bool) (a0_10 : Bool) (a1 : Int) (a2 : Int) (w : World) (w0_0 : (Lit.int .i64 a0_0).wf = true) (w0_1 : (Lit.int .i64 a0_1).wf = true) (w0_2 : (Lit.int .u64 a0_2).wf = true) (w0_3 : (Lit.int .u64 a0_3).wf = true) (w1 : (Lit.int .u64 a1).wf = true) (w2 : (Lit.int .u64 a2).wf = true) :
    Calls Try.prog 9 #[.agg #[.int .i64 a0_0, .int .i64 a0_1, .int .u64 a0_2, .int .u64 a0_3, .bool a0_4, .bool a0_5, .bool a0_6, .bool a0_7, .bool a0_8, .bool a0_9, .bool a0_10], .int .u64 a1, .int .u64 a2] w fun e w' => e = .returned (.bool true) ∧ Below w.heap.size w w' := by
  obtain ⟨k, h⟩ := P a0_0 a0_1 a0_2 a0_3 a0_4 a0_5 a0_6 a0_7 a0_8 a0_9 a0_10 a1 a2 w0_0 w0_1 w0_2 w0_3 w1 w2
  refine (lookasidelaw03_TteRound.calls k a0_0 a0_1 a0_2 a0_3 a0_4 a0_5 a0_6 a0_7 a0_8 a0_9 a0_10 a1 a2 true w h rfl).mono ?_
  rintro e w' ⟨rfl, hd⟩
  exact ⟨rfl, hd⟩

end Go.Proofs.Ytecbngibhobgbaa.QTteRound
