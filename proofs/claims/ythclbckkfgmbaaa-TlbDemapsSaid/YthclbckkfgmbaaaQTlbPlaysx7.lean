-- Printed by a program of this session (wip/print/myprint.py) out of the translation; Lean checks it.
import Derived.Test.YthclbckkfgmbaaaQTlbPlaysx0
import Derived.Test.YthclbckkfgmbaaaQTlbPlaysx5
import Derived.Test.YthclbckkfgmbaaaQTlbPlaysx6
namespace Go.Proofs.Ythclbckkfgmbaaa.QTlbPlays
open Go.RowKit Go.Proofs.YthclbckkfgmbaaaW.PrintWords Go.Proofs.YthclbckkfgmbaaaW.PrintLast Go.Proofs.YthclbckkfgmbaaaW.PrintMore
attribute [local go_sem] max2_int min2_int max_two min_two max_three min_three max_four min_four   -- for this text's walks alone
set_option linter.unusedVariables false
set_option linter.unusedSimpArgs false
theorem cy11_7 {W : World} {g : Nat} {t : TypeId} {a0 a1 a2 a3 a4 a5 a6 a7 a8 a9 a10 : Value} {l : List Value} (h : W.heap[g]? = some (.cells (Array.mk (a0 :: a1 :: a2 :: a3 :: a4 :: a5 :: a6 :: a7 :: a8 :: a9 :: a10 :: l)) t (0, 0))) : W.cell? ⟨g, 0, none⟩ = some a0 ∧ W.cell? ⟨g, 1, none⟩ = some a1 ∧ W.cell? ⟨g, 2, none⟩ = some a2 ∧ W.cell? ⟨g, 3, none⟩ = some a3 ∧ W.cell? ⟨g, 4, none⟩ = some a4 ∧ W.cell? ⟨g, 5, none⟩ = some a5 ∧ W.cell? ⟨g, 6, none⟩ = some a6 ∧ W.cell? ⟨g, 7, none⟩ = some a7 ∧ W.cell? ⟨g, 8, none⟩ = some a8 ∧ W.cell? ⟨g, 9, none⟩ = some a9 ∧ W.cell? ⟨g, 10, none⟩ = some a10 := ⟨(blk_cell h 0).trans rfl, (blk_cell h 1).trans rfl, (blk_cell h 2).trans rfl, (blk_cell h 3).trans rfl, (blk_cell h 4).trans rfl, (blk_cell h 5).trans rfl, (blk_cell h 6).trans rfl, (blk_cell h 7).trans rfl, (blk_cell h 8).trans rfl, (blk_cell h 9).trans rfl, (blk_cell h 10).trans rfl⟩
theorem bb7_ {w2 w' : World} {g : Nat} {o : Obj} (hb : Below w2.heap.size w2 w') (h : w2.heap[g]? = some o) : w'.heap[g]? = some o := blk_below h hb

/-! ### lookasideref06_Insert: function 64 -/
mutual
def lookasideref06_Insert.l0 : Nat → List (S26) → Int → List (S26) → Int → Int → Int → Int → Int → Bool → Bool → Bool → Bool → Bool → Bool → Bool → Option ((List (S26)) × Int × Int)
  | 0, _, _, _, _, _, _, _, _, _, _, _, _, _, _, _ => none
  | k + 1, x0, x2, x10, x11, x187000, x187001, x187002, x187003, x187004, x187005, x187006, x187007, x187008, x187009, x187010 => if x11 < (x0.length : Int) then (if 0 ≤ x11 then ((lookasideref06_Parts.f k x187000 x187001 x187002 x187003 x187004 x187005 x187006 x187007 x187008 x187009 x187010 ((rd_T26 x0 x11).f0) ((rd_T26 x0 x11).f1) ((rd_T26 x0 x11).f2) ((rd_T26 x0 x11).f3) ((rd_T26 x0 x11).f4.f0) ((rd_T26 x0 x11).f4.f1) ((rd_T26 x0 x11).f4.f2) ((rd_T26 x0 x11).f4.f3) ((rd_T26 x0 x11).f4.f4) ((rd_T26 x0 x11).f4.f5) ((rd_T26 x0 x11).f5)).bind fun t189 => (if ((rd_T26 x0 x11).f5 = true) then (lookasideref06_Insert.j1 k x0 x2 x10 x11 t189 x187000 x187001 x187002 x187003 x187004 x187005 x187006 x187007 x187008 x187009 x187010) else (lookasideref06_Insert.j1 k x0 x2 x10 x11 true x187000 x187001 x187002 x187003 x187004 x187005 x187006 x187007 x187008 x187009 x187010))) else (none)) else (lookasideref06_Insert.l1 k x0 x2 x10 ([] : List Int) 0 x187000 x187001 x187002 x187003 x187004 x187005 x187006 x187007 x187008 x187009 x187010)
def lookasideref06_Insert.j1 : Nat → List (S26) → Int → List (S26) → Int → Bool → Int → Int → Int → Int → Bool → Bool → Bool → Bool → Bool → Bool → Bool → Option ((List (S26)) × Int × Int)
  | 0, _, _, _, _, _, _, _, _, _, _, _, _, _, _, _, _ => none
  | k + 1, x0, x2, x10, x11, x42, x187000, x187001, x187002, x187003, x187004, x187005, x187006, x187007, x187008, x187009, x187010 => if x42 = true then (lookasideref06_Insert.l0 k x0 x2 x10 (wrap64 (x11 + 1)) x187000 x187001 x187002 x187003 x187004 x187005 x187006 x187007 x187008 x187009 x187010) else (if 0 ≤ x11 then (if x11 < (x0.length : Int) then (if (rd_T26 x0 x11).f4.f3 = true then (some (x0, 0, 7)) else ((lookasideref06_with.f x10 x11 0 0 0 0 false false false false false false false).bind fun t192 => (lookasideref06_Insert.l0 k x0 x2 t192 (wrap64 (x11 + 1)) x187000 x187001 x187002 x187003 x187004 x187005 x187006 x187007 x187008 x187009 x187010))) else (none)) else (none))
def lookasideref06_Insert.l1 : Nat → List (S26) → Int → List (S26) → List Int → Int → Int → Int → Int → Int → Bool → Bool → Bool → Bool → Bool → Bool → Bool → Option ((List (S26)) × Int × Int)
  | 0, _, _, _, _, _, _, _, _, _, _, _, _, _, _, _, _ => none
  | k + 1, x0, x2, x10, x13, x14, x187000, x187001, x187002, x187003, x187004, x187005, x187006, x187007, x187008, x187009, x187010 => if x14 < (x10.length : Int) then (if 0 ≤ x14 then (if ((rd_T26 x10 x14).f5 = true) then (if ((rd_T26 x10 x14).f4.f3 = true) then (lookasideref06_Insert.l1 k x0 x2 x10 x13 (wrap64 (x14 + 1)) x187000 x187001 x187002 x187003 x187004 x187005 x187006 x187007 x187008 x187009 x187010) else (if x13.length < 17592186044416 then (lookasideref06_Insert.l1 k x0 x2 x10 (x13 ++ [x14]) (wrap64 (x14 + 1)) x187000 x187001 x187002 x187003 x187004 x187005 x187006 x187007 x187008 x187009 x187010) else (none))) else ((lookasideref06_with.f x10 x14 x187000 x187001 x187002 x187003 x187004 x187005 x187006 x187007 x187008 x187009 x187010).bind fun t200 => (some (t200, x14, 0)))) else (none)) else (if (x13.length : Int) = 0 then (some (x0, 0, 7)) else (if x2 < 0 then (if 0 ≤ (Int.tmod (wrap64 (-(wrap64 (x2 + 1)))) (x13.length : Int)) then (if (Int.tmod (wrap64 (-(wrap64 (x2 + 1)))) (x13.length : Int)) < (x13.length : Int) then ((lookasideref06_with.f x10 (rd x13 (Int.tmod (wrap64 (-(wrap64 (x2 + 1)))) (x13.length : Int))) x187000 x187001 x187002 x187003 x187004 x187005 x187006 x187007 x187008 x187009 x187010).bind fun t204 => (some (t204, rd x13 (Int.tmod (wrap64 (-(wrap64 (x2 + 1)))) (x13.length : Int)), 0))) else (none)) else (none)) else (if 0 ≤ (Int.tmod x2 (x13.length : Int)) then (if (Int.tmod x2 (x13.length : Int)) < (x13.length : Int) then ((lookasideref06_with.f x10 (rd x13 (Int.tmod x2 (x13.length : Int))) x187000 x187001 x187002 x187003 x187004 x187005 x187006 x187007 x187008 x187009 x187010).bind fun t209 => (some (t209, rd x13 (Int.tmod x2 (x13.length : Int)), 0))) else (none)) else (none))))
end
def lookasideref06_Insert.f (k : Nat) (l0 : List (S26)) (a1_0 : Int) (a1_1 : Int) (a1_2 : Int) (a1_3 : Int) (a1_4 : Bool) (a1_5 : Bool) (a1_6 : Bool) (a1_7 : Bool) (a1_8 : Bool) (a1_9 : Bool) (a1_10 : Bool) (a2 : Int) : Option ((List (S26)) × Int × Int) := (lookasideref03_May.f k a1_0 a1_1 a1_2 a1_3 a1_4 a1_5 a1_6 a1_7 a1_8 a1_9 a1_10).bind fun t187 => (if t187 = true then (lookasideref06_Insert.l0 k l0 a2 l0 0 a1_0 a1_1 a1_2 a1_3 a1_4 a1_5 a1_6 a1_7 a1_8 a1_9 a1_10) else (some (l0, 0, 1)))
theorem lookasideref06_Insert.mono_l : ∀ k, (∀ y0 y1 y2 y3 y4 y5 y6 y7 y8 y9 y10 y11 y12 y13 y14, LeO (lookasideref06_Insert.l0 k y0 y1 y2 y3 y4 y5 y6 y7 y8 y9 y10 y11 y12 y13 y14) (lookasideref06_Insert.l0 (k + 1) y0 y1 y2 y3 y4 y5 y6 y7 y8 y9 y10 y11 y12 y13 y14)) ∧ (∀ y0 y1 y2 y3 y4 y5 y6 y7 y8 y9 y10 y11 y12 y13 y14 y15, LeO (lookasideref06_Insert.j1 k y0 y1 y2 y3 y4 y5 y6 y7 y8 y9 y10 y11 y12 y13 y14 y15) (lookasideref06_Insert.j1 (k + 1) y0 y1 y2 y3 y4 y5 y6 y7 y8 y9 y10 y11 y12 y13 y14 y15)) ∧ (∀ y0 y1 y2 y3 y4 y5 y6 y7 y8 y9 y10 y11 y12 y13 y14 y15, LeO (lookasideref06_Insert.l1 k y0 y1 y2 y3 y4 y5 y6 y7 y8 y9 y10 y11 y12 y13 y14 y15) (lookasideref06_Insert.l1 (k + 1) y0 y1 y2 y3 y4 y5 y6 y7 y8 y9 y10 y11 y12 y13 y14 y15))
  | 0 => ⟨fun _ _ _ _ _ _ _ _ _ _ _ _ _ _ _ r h => by simp [lookasideref06_Insert.l0] at h, fun _ _ _ _ _ _ _ _ _ _ _ _ _ _ _ _ r h => by simp [lookasideref06_Insert.j1] at h, fun _ _ _ _ _ _ _ _ _ _ _ _ _ _ _ _ r h => by simp [lookasideref06_Insert.l1] at h⟩
  | k + 1 => by
    obtain ⟨ih0, ih1, ih2⟩ := lookasideref06_Insert.mono_l k
    refine ⟨?_, ?_, ?_⟩
    · intro y0 y1 y2 y3 y4 y5 y6 y7 y8 y9 y10 y11 y12 y13 y14
      unfold lookasideref06_Insert.l0
      repeat' first
      | (with_reducible exact ih0 _ _ _ _ _ _ _ _ _ _ _ _ _ _ _)
      | (with_reducible exact ih1 _ _ _ _ _ _ _ _ _ _ _ _ _ _ _ _)
      | (with_reducible exact ih2 _ _ _ _ _ _ _ _ _ _ _ _ _ _ _ _)
      | (with_reducible exact lookasideref03_May.mono _ _ _ _ _ _ _ _ _ _ _ _)
      | (with_reducible exact lookasideref06_Parts.mono _ _ _ _ _ _ _ _ _ _ _ _ _ _ _ _ _ _ _ _ _ _ _)
      | (with_reducible exact LeO.refl _)
      | (with_reducible exact LeO.none _)
      | (with_reducible refine LeO.ite ?_ ?_)
      | (with_reducible refine LeO.bind ?_ (fun _ => ?_))
      | exact ih0 _ _ _ _ _ _ _ _ _ _ _ _ _ _ _
      | exact ih1 _ _ _ _ _ _ _ _ _ _ _ _ _ _ _ _
      | exact ih2 _ _ _ _ _ _ _ _ _ _ _ _ _ _ _ _
      | exact lookasideref03_May.mono _ _ _ _ _ _ _ _ _ _ _ _
      | exact lookasideref06_Parts.mono _ _ _ _ _ _ _ _ _ _ _ _ _ _ _ _ _ _ _ _ _ _ _
      | exact LeO.none _
      | refine LeO.ite ?_ ?_
      | refine LeO.bind ?_ (fun _ => ?_)
    · intro y0 y1 y2 y3 y4 y5 y6 y7 y8 y9 y10 y11 y12 y13 y14 y15
      unfold lookasideref06_Insert.j1
      repeat' first
      | (with_reducible exact ih0 _ _ _ _ _ _ _ _ _ _ _ _ _ _ _)
      | (with_reducible exact ih1 _ _ _ _ _ _ _ _ _ _ _ _ _ _ _ _)
      | (with_reducible exact ih2 _ _ _ _ _ _ _ _ _ _ _ _ _ _ _ _)
      | (with_reducible exact lookasideref03_May.mono _ _ _ _ _ _ _ _ _ _ _ _)
      | (with_reducible exact lookasideref06_Parts.mono _ _ _ _ _ _ _ _ _ _ _ _ _ _ _ _ _ _ _ _ _ _ _)
      | (with_reducible exact LeO.refl _)
      | (with_reducible exact LeO.none _)
      | (with_reducible refine LeO.ite ?_ ?_)
      | (with_reducible refine LeO.bind ?_ (fun _ => ?_))
      | exact ih0 _ _ _ _ _ _ _ _ _ _ _ _ _ _ _
      | exact ih1 _ _ _ _ _ _ _ _ _ _ _ _ _ _ _ _
      | exact ih2 _ _ _ _ _ _ _ _ _ _ _ _ _ _ _ _
      | exact lookasideref03_May.mono _ _ _ _ _ _ _ _ _ _ _ _
      | exact lookasideref06_Parts.mono _ _ _ _ _ _ _ _ _ _ _ _ _ _ _ _ _ _ _ _ _ _ _
      | exact LeO.none _
      | refine LeO.ite ?_ ?_
      | refine LeO.bind ?_ (fun _ => ?_)
    · intro y0 y1 y2 y3 y4 y5 y6 y7 y8 y9 y10 y11 y12 y13 y14 y15
      unfold lookasideref06_Insert.l1
      repeat' first
      | (with_reducible exact ih0 _ _ _ _ _ _ _ _ _ _ _ _ _ _ _)
      | (with_reducible exact ih1 _ _ _ _ _ _ _ _ _ _ _ _ _ _ _ _)
      | (with_reducible exact ih2 _ _ _ _ _ _ _ _ _ _ _ _ _ _ _ _)
      | (with_reducible exact lookasideref03_May.mono _ _ _ _ _ _ _ _ _ _ _ _)
      | (with_reducible exact lookasideref06_Parts.mono _ _ _ _ _ _ _ _ _ _ _ _ _ _ _ _ _ _ _ _ _ _ _)
      | (with_reducible exact LeO.refl _)
      | (with_reducible exact LeO.none _)
      | (with_reducible refine LeO.ite ?_ ?_)
      | (with_reducible refine LeO.bind ?_ (fun _ => ?_))
      | exact ih0 _ _ _ _ _ _ _ _ _ _ _ _ _ _ _
      | exact ih1 _ _ _ _ _ _ _ _ _ _ _ _ _ _ _ _
      | exact ih2 _ _ _ _ _ _ _ _ _ _ _ _ _ _ _ _
      | exact lookasideref03_May.mono _ _ _ _ _ _ _ _ _ _ _ _
      | exact lookasideref06_Parts.mono _ _ _ _ _ _ _ _ _ _ _ _ _ _ _ _ _ _ _ _ _ _ _
      | exact LeO.none _
      | refine LeO.ite ?_ ?_
      | refine LeO.bind ?_ (fun _ => ?_)
theorem lookasideref06_Insert.mono : ∀ a0 a1 a2 a3 a4 a5 a6 a7 a8 a9 a10 a11 a12 k, LeO (lookasideref06_Insert.f k a0 a1 a2 a3 a4 a5 a6 a7 a8 a9 a10 a11 a12) (lookasideref06_Insert.f (k + 1) a0 a1 a2 a3 a4 a5 a6 a7 a8 a9 a10 a11 a12) := by
  intro a0 a1 a2 a3 a4 a5 a6 a7 a8 a9 a10 a11 a12 k
  obtain ⟨ih0, ih1, ih2⟩ := lookasideref06_Insert.mono_l k
  unfold lookasideref06_Insert.f
  repeat' first
      | (with_reducible exact ih0 _ _ _ _ _ _ _ _ _ _ _ _ _ _ _)
      | (with_reducible exact ih1 _ _ _ _ _ _ _ _ _ _ _ _ _ _ _ _)
      | (with_reducible exact ih2 _ _ _ _ _ _ _ _ _ _ _ _ _ _ _ _)
      | (with_reducible exact lookasideref03_May.mono _ _ _ _ _ _ _ _ _ _ _ _)
      | (with_reducible exact lookasideref06_Parts.mono _ _ _ _ _ _ _ _ _ _ _ _ _ _ _ _ _ _ _ _ _ _ _)
      | (with_reducible exact LeO.refl _)
      | (with_reducible exact LeO.none _)
      | (with_reducible refine LeO.ite ?_ ?_)
      | (with_reducible refine LeO.bind ?_ (fun _ => ?_))
      | exact ih0 _ _ _ _ _ _ _ _ _ _ _ _ _ _ _
      | exact ih1 _ _ _ _ _ _ _ _ _ _ _ _ _ _ _ _
      | exact ih2 _ _ _ _ _ _ _ _ _ _ _ _ _ _ _ _
      | exact lookasideref03_May.mono _ _ _ _ _ _ _ _ _ _ _ _
      | exact lookasideref06_Parts.mono _ _ _ _ _ _ _ _ _ _ _ _ _ _ _ _ _ _ _ _ _ _ _
      | exact LeO.none _
      | refine LeO.ite ?_ ?_
      | refine LeO.bind ?_ (fun _ => ?_)
def lookasideref06_Insert.T26 : Bool × List (List Nat × List Nat) := (true, [([], []), ([], []), ([], []), ([1, 2], [1, 2]), ([3], [3]), ([], []), ([0, 4, 5], [0, 4, 5]), ([], []), ([], []), ([7, 8], [7, 8]), ([9], [9]), ([6, 6, 0, 1, 2, 3, 4, 5, 6], [6]), ([10, 11, 0, 1, 2, 3, 4, 5, 6, 7, 8, 9, 10, 11], [10]), ([12, 0, 1, 2, 3, 4, 5, 6, 7, 8, 9, 10, 11, 12], [])])
def lookasideref06_Insert.B26 : List Nat := [0, 0, 0, 6, 14, 0, 63, 0, 0, 384, 896, 127, 4095, 8191]
theorem lookasideref06_Insert.tab26 : rtab .any (opsOf Try.f64 26) = lookasideref06_Insert.T26 := by kernel_rfl
theorem lookasideref06_Insert.bits26 : waitsOk lookasideref06_Insert.T26.2 lookasideref06_Insert.B26 = true := by kernel_rfl
set_option maxHeartbeats 8000000 in
set_option maxRecDepth 100000 in
theorem lookasideref06_Insert.calls (k : Nat) (P0_ : Nat → Prop) (A0 : Option Addr) (c0 : Nat) (l0 : List (S26)) (a1_0 : Int) (a1_1 : Int) (a1_2 : Int) (a1_3 : Int) (a1_4 : Bool) (a1_5 : Bool) (a1_6 : Bool) (a1_7 : Bool) (a1_8 : Bool) (a1_9 : Bool) (a1_10 : Bool) (a2 : Int) (r1 : List (S26)) (r2 : Int) (r3 : Int) (w : World) (hs0 : Kd.V k26 26 w w.heap.size (fun k_ => P0_ k_) (.slice A0 l0.length c0) l0) (h : lookasideref06_Insert.f k l0 a1_0 a1_1 a1_2 a1_3 a1_4 a1_5 a1_6 a1_7 a1_8 a1_9 a1_10 a2 = some (r1, r2, r3)) :
    Calls Try.prog 64 #[.slice A0 l0.length c0, .agg #[.int .i64 a1_0, .int .i64 a1_1, .int .u64 a1_2, .int .u64 a1_3, .bool a1_4, .bool a1_5, .bool a1_6, .bool a1_7, .bool a1_8, .bool a1_9, .bool a1_10], .int .i64 a2] w fun e w' => ∃ v0_ : Value, e = .returned (.tuple #[v0_, .int .i64 r2, .int .i64 r3]) ∧ Kd.V k26 26 w' w.heap.size (fun k_ => (P0_ k_ ∨ w.heap.size ≤ k_)) v0_ r1 ∧ Below w.heap.size w w' := by
  have hu26 := Try.underlying26
  have HO0 := Aside0.mk (show Kd.V k26 26 w w.heap.size (fun k_ => (P0_ k_ ∨ w.heap.size ≤ k_)) (.slice A0 l0.length c0) l0 from Kd.V_mono hs0 (fun k_ hk => .inl hk))
  have HB := Aside0.mk (Below.refl w.heap.size w)
  have H : ((lookasideref03_May.f k a1_0 a1_1 a1_2 a1_3 a1_4 a1_5 a1_6 a1_7 a1_8 a1_9 a1_10).bind fun t187 => (if t187 = true then (lookasideref06_Insert.l0 k l0 a2 l0 0 a1_0 a1_1 a1_2 a1_3 a1_4 a1_5 a1_6 a1_7 a1_8 a1_9 a1_10) else (some (l0, 0, 1)))) = some (r1, r2, r3) := h
  clear h
  replace H := Option.bind_eq_some_iff.mp H
  obtain ⟨t187, A40, H⟩ := H
  replace H : (if t187 = true then (lookasideref06_Insert.l0 k l0 a2 l0 0 a1_0 a1_1 a1_2 a1_3 a1_4 a1_5 a1_6 a1_7 a1_8 a1_9 a1_10) else (some (l0, 0, 1))) = some (r1, r2, r3) := H
  have A4 := Aside0.mk A40
  clear A40
  by_cases c5 : t187 = true
  · subst c5
    have H1 : (lookasideref06_Insert.l0 k l0 a2 l0 0 a1_0 a1_1 a1_2 a1_3 a1_4 a1_5 a1_6 a1_7 a1_8 a1_9 a1_10) = some (r1, r2, r3) := by rw [if_pos rfl] at H; exact H
    clear H
    have H := H1
    clear H1
    have H' := Aside0.mk H
    clear H
    go_enter Try.func64, Try.ntmps64
    go_wp2_with (first | ((with_reducible refine gate_dst (N := 4) rfl ?_); refine box_event ?hg (N := 4) ?hd (cs := #[.int .i64 a1_0, .int .i64 a1_1, .int .u64 a1_2, .int .u64 a1_3, .bool a1_4, .bool a1_5, .bool a1_6, .bool a1_7, .bool a1_8, .bool a1_9, .bool a1_10]) (t := 26) ?hr ?_; (case hd => rfl); (case hg => rfl); (case hr => first | (go_simp; done) | (go_simp; rfl)); intro gb186 hg w6 hbox hb; have n0_ := Aside0.mk (Kd.V_below (Kd.V_elderB (by (with_reducible repeat (first | apply Kd.V_alloc | apply Kd.V_drewN | apply Kd.V_drew)); exact HO0.out) gb186 (Nat.le_of_eq hg.symm)) hb); have n1_ := Aside0.mk (below_step (by repeat (first | (with_reducible first | exact HB.out | apply below_alloc | apply pw_below_drewN | apply below_drew1) | exact HB.out)) hb); have n2_ := Aside0.mk (hbox); have n3_ := Aside0.mk ((by rw [hg]; exact (below_size (by repeat (first | (with_reducible first | exact HB.out | apply below_alloc | apply pw_below_drewN | apply below_drew1) | exact HB.out))) : w.heap.size ≤ gb186)); have n4_ := Aside0.mk ((by rw [hg]; exact (below_size (by repeat (first | (with_reducible first | exact HB.out | apply below_alloc | apply pw_below_drewN | apply below_drew1) | exact HB.out))) : w.heap.size ≤ gb186)); clear HO0; clear HB; have HO0 := n0_; have HB := n1_; have BK186 := n2_; have GW186 := n3_; have GE186 := n4_; clear n0_ n1_ n2_ n3_ n4_; clear hb hbox hg; obtain ⟨hcz7_0, hcz7_1, hcz7_2, hcz7_3, hcz7_4, hcz7_5, hcz7_6, hcz7_7, hcz7_8, hcz7_9, hcz7_10⟩ := cy11_7 BK186.out; have hfz7_0 := blk_frozen BK186.out 0; have hfz7_1 := blk_frozen BK186.out 1; have hfz7_2 := blk_frozen BK186.out 2; have hfz7_3 := blk_frozen BK186.out 3; have hfz7_4 := blk_frozen BK186.out 4; have hfz7_5 := blk_frozen BK186.out 5; have hfz7_6 := blk_frozen BK186.out 6; have hfz7_7 := blk_frozen BK186.out 7; have hfz7_8 := blk_frozen BK186.out 8; have hfz7_9 := blk_frozen BK186.out 9; have hfz7_10 := blk_frozen BK186.out 10) | ((with_reducible refine gate_callee (f := 92) rfl ?_); refine goesL_ (some 17) rfl rfl Try.func92 (by kernel_rfl) rfl #[.agg #[.int .i64 a1_0, .int .i64 a1_1, .int .u64 a1_2, .int .u64 a1_3, .bool a1_4, .bool a1_5, .bool a1_6, .bool a1_7, .bool a1_8, .bool a1_9, .bool a1_10]] rfl (by (try simp only [List.map_toArray, List.map_cons, List.map_nil]); first | done | rfl | (simp only [List.length_drop, List.length_take]; rfl)) ?_; (with_reducible refine (lookasideref03_May.calls k a1_0 a1_1 a1_2 a1_3 a1_4 a1_5 a1_6 a1_7 a1_8 a1_9 a1_10 true _ A4.out).mono ?_); rintro e w8 ⟨rfl, hb⟩; refine ⟨_, rfl, ?_⟩; have n0_ := Aside0.mk (Kd.V_below (by (with_reducible repeat (first | apply Kd.V_alloc | apply Kd.V_drewN | apply Kd.V_drew)); exact HO0.out) hb); have n1_ := Aside0.mk (bb7_ hb BK186.out); have n2_ := Aside0.mk (below_step (by repeat (first | (with_reducible first | exact HB.out | apply below_alloc | apply pw_below_drewN | apply below_drew1 | refine below_set ?_ GE186.out) | exact HB.out)) hb); clear HO0; clear BK186; clear HB; have HO0 := n0_; have BK186 := n1_; have HB := n2_; clear n0_ n1_ n2_; (try clear hb); (try clear hb2); (try clear hk); (try clear hi)))
    go_loopg [10, 11] k (fun kq v10 v11 w' => ∃ (x10_1 : List (S26)) (x11_1 : Int), v11 = .int .i64 x11_1 ∧ Aside0 (lookasideref06_Insert.l0 kq l0 a2 x10_1 x11_1 a1_0 a1_1 a1_2 a1_3 a1_4 a1_5 a1_6 a1_7 a1_8 a1_9 a1_10 = some (r1, r2, r3)) ∧ Aside0 (kq ≤ k) ∧ Aside0 (Kd.V k26 26 w' w.heap.size (fun k_ => (P0_ k_ ∨ w.heap.size ≤ k_) ∧ k_ ≠ gb186) (.slice A0 l0.length c0) l0) ∧ Aside0 (Kd.V k26 26 w' w.heap.size (fun k_ => (P0_ k_ ∨ w.heap.size ≤ k_) ∧ k_ ≠ gb186) v10 x10_1) ∧ Aside0 (w'.heap[gb186]? = some (.cells #[.int .i64 a1_0, .int .i64 a1_1, .int .u64 a1_2, .int .u64 a1_3, .bool a1_4, .bool a1_5, .bool a1_6, .bool a1_7, .bool a1_8, .bool a1_9, .bool a1_10] 26 (0, 0))) ∧ Aside0 (Below w.heap.size w w'))
    case atStart => exact ⟨(l0), (0), (by first | rfl | (simp; done) | (simp [*]; done)), H', ⟨Nat.le_refl _⟩, ⟨by (with_reducible repeat (first | apply Kd.V_alloc | apply Kd.V_drewN | apply Kd.V_drew)); exact HO0.out⟩, ⟨by (with_reducible repeat (first | apply Kd.V_alloc | apply Kd.V_drewN | apply Kd.V_drew)); exact HO0.out⟩, ⟨by (with_reducible repeat (first | refine blk_drewN ?_ _ | refine blk_drew ?_ | refine blk_alloc ?_ _)); exact BK186.out⟩, ⟨by repeat (first | (with_reducible first | exact HB.out | apply below_alloc | apply pw_below_drewN | apply below_drew1 | refine below_set ?_ GE186.out) | exact HB.out)⟩⟩
    case round =>
      clear H'
      try clear p2
      try clear c5
      try clear c6
      try clear hcz7_0
      try clear hcz7_1
      try clear hcz7_10
      try clear hcz7_2
      try clear hcz7_3
      try clear hcz7_4
      try clear hcz7_5
      try clear hcz7_6
      try clear hcz7_7
      try clear hcz7_8
      try clear hcz7_9
      try clear hfz7_0
      try clear hfz7_1
      try clear hfz7_10
      try clear hfz7_2
      try clear hfz7_3
      try clear hfz7_4
      try clear hfz7_5
      try clear hfz7_6
      try clear hfz7_7
      try clear hfz7_8
      try clear hfz7_9
      obtain ⟨x10_1, x11_1, rfl, HA, HK1, HO_0, HO_10, BK186, HB⟩ := hrel
      cases gk with
      | zero => exact absurd HA.out (by simp [lookasideref06_Insert.l0])
      | succ k1 =>
        have H := HA.out
        clear HA
        simp only [lookasideref06_Insert.l0] at H
        by_cases c9 : x11_1 < (l0.length : Int)
        · rw [if_pos c9] at H
          have c9b0 : decide (x11_1 < (l0.length : Int)) = true := decide_eq_true c9
          clear c9
          by_cases c10 : 0 ≤ x11_1
          · rw [if_pos c10] at H
            have c10b0 : decide (0 ≤ x11_1) = true := decide_eq_true c10
            clear c10
            replace H := Option.bind_eq_some_iff.mp H
            obtain ⟨t189, A110, H⟩ := H
            replace H : (if ((rd_T26 l0 x11_1).f5 = true) then (lookasideref06_Insert.j1 k1 l0 a2 x10_1 x11_1 t189 a1_0 a1_1 a1_2 a1_3 a1_4 a1_5 a1_6 a1_7 a1_8 a1_9 a1_10) else (lookasideref06_Insert.j1 k1 l0 a2 x10_1 x11_1 true a1_0 a1_1 a1_2 a1_3 a1_4 a1_5 a1_6 a1_7 a1_8 a1_9 a1_10)) = some (r1, r2, r3) := H
            have A11 := Aside0.mk A110
            clear A110
            have HC12 := Aside0.mk H
            clear H
            try go_wp2
            have n0_ := Aside0.mk (Kd.V_drew HO_0.out)
            have n1_ := Aside0.mk (Kd.V_drew HO_10.out)
            have n2_ := Aside0.mk (blk_drew BK186.out)
            have n3_ := Aside0.mk (below_drew1 HB.out)
            clear HO_0
            clear HO_10
            clear BK186
            clear HB
            have HO_0 := n0_
            have HO_10 := n1_
            have BK186 := n2_
            have HB := n3_
            clear n0_ n1_ n2_ n3_
            have p188 : 0 ≤ (x11_1 : Int) := of_decide_eq_true (by first | (with_reducible assumption) | assumption)
            have q188 : x11_1 < (l0.length : Int) := of_decide_eq_true (by first | (with_reducible assumption) | assumption)
            obtain ⟨ad188, e188, hx188_0, hx188_1, hx188_2, hx188_3, hx188_4, hx188_5, hx188_6, hx188_7, hx188_8, hx188_9, hx188_10⟩ := at_T26 (Kd.V_reads' HO_0.out).2.2 x11_1 p188 q188
            cases e188
            replace p188 := eq_true p188
            replace q188 := eq_true q188
            refine start_ (n := 7) (S := fun w' => w'.cell? ⟨gb186, 0, none⟩ = some (.int .i64 a1_0) ∧ w'.cell? ⟨gb186, 1, none⟩ = some (.int .i64 a1_1) ∧ w'.cell? ⟨gb186, 2, none⟩ = some (.int .u64 a1_2) ∧ w'.cell? ⟨gb186, 3, none⟩ = some (.int .u64 a1_3) ∧ w'.cell? ⟨gb186, 4, none⟩ = some (.bool a1_4) ∧ w'.cell? ⟨gb186, 5, none⟩ = some (.bool a1_5) ∧ w'.cell? ⟨gb186, 6, none⟩ = some (.bool a1_6) ∧ w'.cell? ⟨gb186, 7, none⟩ = some (.bool a1_7) ∧ w'.cell? ⟨gb186, 8, none⟩ = some (.bool a1_8) ∧ w'.cell? ⟨gb186, 9, none⟩ = some (.bool a1_9) ∧ w'.cell? ⟨gb186, 10, none⟩ = some (.bool a1_10) ∧ w'.cell? (ad188.add ((x11_1).toNat * 11)) = some (.int .i64 ((rd_T26 l0 x11_1).f0)) ∧ w'.cell? ⟨(ad188.add ((x11_1).toNat * 11)).block, (ad188.add ((x11_1).toNat * 11)).off + 1, none⟩ = some (.int .i64 ((rd_T26 l0 x11_1).f1)) ∧ w'.cell? ⟨(ad188.add ((x11_1).toNat * 11)).block, (ad188.add ((x11_1).toNat * 11)).off + 2, none⟩ = some (.int .u64 ((rd_T26 l0 x11_1).f2)) ∧ w'.cell? ⟨(ad188.add ((x11_1).toNat * 11)).block, (ad188.add ((x11_1).toNat * 11)).off + 3, none⟩ = some (.int .u64 ((rd_T26 l0 x11_1).f3)) ∧ w'.cell? ⟨(ad188.add ((x11_1).toNat * 11)).block, (ad188.add ((x11_1).toNat * 11)).off + 4, none⟩ = some (.bool ((rd_T26 l0 x11_1).f4.f0)) ∧ w'.cell? ⟨(ad188.add ((x11_1).toNat * 11)).block, (ad188.add ((x11_1).toNat * 11)).off + 5, none⟩ = some (.bool ((rd_T26 l0 x11_1).f4.f1)) ∧ w'.cell? ⟨(ad188.add ((x11_1).toNat * 11)).block, (ad188.add ((x11_1).toNat * 11)).off + 6, none⟩ = some (.bool ((rd_T26 l0 x11_1).f4.f2)) ∧ w'.cell? ⟨(ad188.add ((x11_1).toNat * 11)).block, (ad188.add ((x11_1).toNat * 11)).off + 7, none⟩ = some (.bool ((rd_T26 l0 x11_1).f4.f3)) ∧ w'.cell? ⟨(ad188.add ((x11_1).toNat * 11)).block, (ad188.add ((x11_1).toNat * 11)).off + 8, none⟩ = some (.bool ((rd_T26 l0 x11_1).f4.f4)) ∧ w'.cell? ⟨(ad188.add ((x11_1).toNat * 11)).block, (ad188.add ((x11_1).toNat * 11)).off + 9, none⟩ = some (.bool ((rd_T26 l0 x11_1).f4.f5)) ∧ w'.cell? ⟨(ad188.add ((x11_1).toNat * 11)).block, (ad188.add ((x11_1).toNat * 11)).off + 10, none⟩ = some (.bool ((rd_T26 l0 x11_1).f5))) (ds := []) #[false, false, false, false, false, false, false] (by kernel_rfl) rfl rfl ⟨(blk_cell BK186.out 0).trans rfl, (blk_cell BK186.out 1).trans rfl, (blk_cell BK186.out 2).trans rfl, (blk_cell BK186.out 3).trans rfl, (blk_cell BK186.out 4).trans rfl, (blk_cell BK186.out 5).trans rfl, (blk_cell BK186.out 6).trans rfl, (blk_cell BK186.out 7).trans rfl, (blk_cell BK186.out 8).trans rfl, (blk_cell BK186.out 9).trans rfl, (blk_cell BK186.out 10).trans rfl, hx188_0, hx188_1, hx188_2, hx188_3, hx188_4, hx188_5, hx188_6, hx188_7, hx188_8, hx188_9, hx188_10⟩ (fun hHeld => ?_)
            generalize wr.drew = w13 at HO_0 HO_10 BK186 HB hx188_0 hx188_1 hx188_10 hx188_2 hx188_3 hx188_4 hx188_5 hx188_6 hx188_7 hx188_8 hx188_9 hHeld ⊢
            refine pure_ (i := 1) (N := some 29) (v := ?_) (a' := ?_) #[false, true, false, false, false, false, false] rfl rfl (by kernel_rfl) (fun _ _ _ h => h) (Or.inl ⟨by rfl, ?_⟩) ?_ ?_
            rotate_left
            · intro w'
              go_simp
              with_reducible rfl
            rotate_left
            · simp only [Act.put, List.setIfInBounds_toArray, List.set_cons_zero, List.set_cons_succ, i64_w, i32_w]
              rfl
            refine pure_ (i := 2) (N := some 30) (v := ?_) (a' := ?_) #[false, true, true, false, false, false, false] rfl rfl (by kernel_rfl) (fun _ _ _ h => h) (Or.inl ⟨by rfl, ?_⟩) ?_ ?_
            rotate_left
            · intro w'
              go_simp
              with_reducible rfl
            rotate_left
            · simp only [Act.put, List.setIfInBounds_toArray, List.set_cons_zero, List.set_cons_succ, i64_w, i32_w]
              rfl
            refine pure_ (i := 3) (N := some 31) (v := ?_) (a' := ?_) #[false, true, true, true, false, false, false] rfl rfl (by kernel_rfl) (fun _ _ _ h => h) (Or.inl ⟨by rfl, ?_⟩) ?_ ?_
            rotate_left
            · intro w'
              go_simp
              with_reducible rfl
            rotate_left
            · simp only [Act.put, List.setIfInBounds_toArray, List.set_cons_zero, List.set_cons_succ, i64_w, i32_w]
              rfl
            refine take_ (i := 0) (N := some 28) (v := ?_) (a' := ?_) #[true, true, true, true, false, false, false] rfl rfl (by kernel_rfl) (fun _ _ _ h => h) (Or.inl ⟨by rfl, ?_⟩) hHeld ?_ ?_
            rotate_left
            · rintro w' ⟨s0, s1, s2, s3, s4, s5, s6, s7, s8, s9, s10, s11, s12, s13, s14, s15, s16, s17, s18, s19, s20, s21⟩
              go_simp
              with_reducible rfl
            rotate_left
            · simp only [Act.put, List.setIfInBounds_toArray, List.set_cons_zero, List.set_cons_succ, i64_w, i32_w]
              rfl
            refine take_ (i := 4) (N := some 32) (v := ?_) (a' := ?_) #[true, true, true, true, true, false, false] rfl rfl (by kernel_rfl) (fun _ _ _ h => h) (Or.inl ⟨by rfl, ?_⟩) hHeld ?_ ?_
            rotate_left
            · rintro w' ⟨s0, s1, s2, s3, s4, s5, s6, s7, s8, s9, s10, s11, s12, s13, s14, s15, s16, s17, s18, s19, s20, s21⟩
              go_simp
              with_reducible rfl
            rotate_left
            · simp only [Act.put, List.setIfInBounds_toArray, List.set_cons_zero, List.set_cons_succ, i64_w, i32_w]
              rfl
            refine one_ (i := 5) (N := some 33) #[true, true, true, true, true, true, false] rfl rfl (by kernel_rfl) (by decide) (fun K hK => ?_)
            refine goes_ Try.func15 (by kernel_rfl) rfl #[.agg #[.int .i64 a1_0, .int .i64 a1_1, .int .u64 a1_2, .int .u64 a1_3, .bool a1_4, .bool a1_5, .bool a1_6, .bool a1_7, .bool a1_8, .bool a1_9, .bool a1_10], .agg #[.int .i64 ((rd_T26 l0 x11_1).f0), .int .i64 ((rd_T26 l0 x11_1).f1), .int .u64 ((rd_T26 l0 x11_1).f2), .int .u64 ((rd_T26 l0 x11_1).f3), .bool ((rd_T26 l0 x11_1).f4.f0), .bool ((rd_T26 l0 x11_1).f4.f1), .bool ((rd_T26 l0 x11_1).f4.f2), .bool ((rd_T26 l0 x11_1).f4.f3), .bool ((rd_T26 l0 x11_1).f4.f4), .bool ((rd_T26 l0 x11_1).f4.f5), .bool ((rd_T26 l0 x11_1).f5)]] (by rfl) rfl rfl (by (try simp only [List.map_toArray, List.map_cons, List.map_nil]); first | done | rfl | (simp only [List.length_drop, List.length_take]; rfl)) ?_
            with_reducible refine (lookasideref06_Parts.calls k1 a1_0 a1_1 a1_2 a1_3 a1_4 a1_5 a1_6 a1_7 a1_8 a1_9 a1_10 ((rd_T26 l0 x11_1).f0) ((rd_T26 l0 x11_1).f1) ((rd_T26 l0 x11_1).f2) ((rd_T26 l0 x11_1).f3) ((rd_T26 l0 x11_1).f4.f0) ((rd_T26 l0 x11_1).f4.f1) ((rd_T26 l0 x11_1).f4.f2) ((rd_T26 l0 x11_1).f4.f3) ((rd_T26 l0 x11_1).f4.f4) ((rd_T26 l0 x11_1).f4.f5) ((rd_T26 l0 x11_1).f5) t189 _ A11.out).mono ?_
            rintro e w14 ⟨rfl, hb⟩
            have HS11_ := (hb.cell (World.block_lt_of_cell? _ _ (hHeld.2.2.2.2.2.2.2.2.2.2.2.1))).trans (hHeld.2.2.2.2.2.2.2.2.2.2.2.1)
            have HS12_ := (hb.cell (World.block_lt_of_cell? _ _ (hHeld.2.2.2.2.2.2.2.2.2.2.2.2.1))).trans (hHeld.2.2.2.2.2.2.2.2.2.2.2.2.1)
            have HS13_ := (hb.cell (World.block_lt_of_cell? _ _ (hHeld.2.2.2.2.2.2.2.2.2.2.2.2.2.1))).trans (hHeld.2.2.2.2.2.2.2.2.2.2.2.2.2.1)
            have HS14_ := (hb.cell (World.block_lt_of_cell? _ _ (hHeld.2.2.2.2.2.2.2.2.2.2.2.2.2.2.1))).trans (hHeld.2.2.2.2.2.2.2.2.2.2.2.2.2.2.1)
            have HS15_ := (hb.cell (World.block_lt_of_cell? _ _ (hHeld.2.2.2.2.2.2.2.2.2.2.2.2.2.2.2.1))).trans (hHeld.2.2.2.2.2.2.2.2.2.2.2.2.2.2.2.1)
            have HS16_ := (hb.cell (World.block_lt_of_cell? _ _ (hHeld.2.2.2.2.2.2.2.2.2.2.2.2.2.2.2.2.1))).trans (hHeld.2.2.2.2.2.2.2.2.2.2.2.2.2.2.2.2.1)
            have HS17_ := (hb.cell (World.block_lt_of_cell? _ _ (hHeld.2.2.2.2.2.2.2.2.2.2.2.2.2.2.2.2.2.1))).trans (hHeld.2.2.2.2.2.2.2.2.2.2.2.2.2.2.2.2.2.1)
            have HS18_ := (hb.cell (World.block_lt_of_cell? _ _ (hHeld.2.2.2.2.2.2.2.2.2.2.2.2.2.2.2.2.2.2.1))).trans (hHeld.2.2.2.2.2.2.2.2.2.2.2.2.2.2.2.2.2.2.1)
            have HS19_ := (hb.cell (World.block_lt_of_cell? _ _ (hHeld.2.2.2.2.2.2.2.2.2.2.2.2.2.2.2.2.2.2.2.1))).trans (hHeld.2.2.2.2.2.2.2.2.2.2.2.2.2.2.2.2.2.2.2.1)
            have HS20_ := (hb.cell (World.block_lt_of_cell? _ _ (hHeld.2.2.2.2.2.2.2.2.2.2.2.2.2.2.2.2.2.2.2.2.1))).trans (hHeld.2.2.2.2.2.2.2.2.2.2.2.2.2.2.2.2.2.2.2.2.1)
            have HS21_ := (hb.cell (World.block_lt_of_cell? _ _ (hHeld.2.2.2.2.2.2.2.2.2.2.2.2.2.2.2.2.2.2.2.2.2))).trans (hHeld.2.2.2.2.2.2.2.2.2.2.2.2.2.2.2.2.2.2.2.2.2)
            refine ⟨_, rfl, ?_⟩
            have n0_ := Aside0.mk (Kd.V_below (by (with_reducible repeat (first | apply Kd.V_alloc | apply Kd.V_drewN | apply Kd.V_drew)); exact HO_0.out) hb)
            have n1_ := Aside0.mk (Kd.V_below (by (with_reducible repeat (first | apply Kd.V_alloc | apply Kd.V_drewN | apply Kd.V_drew)); exact HO_10.out) hb)
            have n2_ := Aside0.mk (bb7_ hb BK186.out)
            have n3_ := Aside0.mk (below_step (by repeat (first | (with_reducible first | exact HB.out | apply below_alloc | apply pw_below_drewN | apply below_drew1 | refine below_set ?_ GE186.out) | exact HB.out)) hb)
            clear HO_0
            clear HO_10
            clear BK186
            clear HB
            have HO_0 := n0_
            have HO_10 := n1_
            have BK186 := n2_
            have HB := n3_
            clear n0_ n1_ n2_ n3_
            (try clear hb)
            (try clear hb2)
            (try clear hk)
            (try clear hi)
            refine hK.out _ _ ⟨(blk_cell BK186.out 0).trans rfl, (blk_cell BK186.out 1).trans rfl, (blk_cell BK186.out 2).trans rfl, (blk_cell BK186.out 3).trans rfl, (blk_cell BK186.out 4).trans rfl, (blk_cell BK186.out 5).trans rfl, (blk_cell BK186.out 6).trans rfl, (blk_cell BK186.out 7).trans rfl, (blk_cell BK186.out 8).trans rfl, (blk_cell BK186.out 9).trans rfl, (blk_cell BK186.out 10).trans rfl, HS11_, HS12_, HS13_, HS14_, HS15_, HS16_, HS17_, HS18_, HS19_, HS20_, HS21_⟩ (fun hHeld => ?_)
            clear hK K
            refine norm_ (a' := ?_) ?_ ?_
            rotate_left
            · show Act.put _ (some 33) _ = _
              simp only [Act.put, List.setIfInBounds_toArray, List.set_cons_zero, List.set_cons_succ, i64_w, i32_w]
              rfl
            refine pure_ (i := 6) (N := some 12) (v := ?_) (a' := ?_) #[true, true, true, true, true, true, true] rfl rfl (by kernel_rfl) (fun _ _ _ h => h) (Or.inl ⟨by rfl, ?_⟩) ?_ ?_
            rotate_left
            · intro w'
              go_simp
              with_reducible rfl
            rotate_left
            · simp only [Act.put, List.setIfInBounds_toArray, List.set_cons_zero, List.set_cons_succ, i64_w, i32_w]
              rfl
            refine done_ (by kernel_rfl) ?_
            go_upto_region 9 with (fail)
            go_cut [42] (fun v42 wc => ∃ (kq : Nat) (x42_11 : Bool), v42 = .bool x42_11 ∧ Aside0 (lookasideref06_Insert.j1 kq l0 a2 x10_1 x11_1 x42_11 a1_0 a1_1 a1_2 a1_3 a1_4 a1_5 a1_6 a1_7 a1_8 a1_9 a1_10 = some (r1, r2, r3)) ∧ Aside0 (kq ≤ k1) ∧ Aside0 (Kd.V k26 26 wc w.heap.size (fun k_ => (P0_ k_ ∨ w.heap.size ≤ k_) ∧ k_ ≠ gb186) (.slice (some ad188) l0.length c0) l0) ∧ Aside0 (Kd.V k26 26 wc w.heap.size (fun k_ => (P0_ k_ ∨ w.heap.size ≤ k_) ∧ k_ ≠ gb186) u10 x10_1) ∧ Aside0 (wc.heap[gb186]? = some (.cells #[.int .i64 a1_0, .int .i64 a1_1, .int .u64 a1_2, .int .u64 a1_3, .bool a1_4, .bool a1_5, .bool a1_6, .bool a1_7, .bool a1_8, .bool a1_9, .bool a1_10] 26 (0, 0))) ∧ Aside0 (Below w.heap.size w wc))
            case first =>
              have H := HC12.out
              clear HC12
              obtain ⟨bq15, hbq15⟩ : ∃ b_ : Bool, b_ = ((rd_T26 l0 x11_1).f5) := ⟨_, rfl⟩
              replace H : (if (bq15 = true) then (lookasideref06_Insert.j1 k1 l0 a2 x10_1 x11_1 t189 a1_0 a1_1 a1_2 a1_3 a1_4 a1_5 a1_6 a1_7 a1_8 a1_9 a1_10) else (lookasideref06_Insert.j1 k1 l0 a2 x10_1 x11_1 true a1_0 a1_1 a1_2 a1_3 a1_4 a1_5 a1_6 a1_7 a1_8 a1_9 a1_10)) = some (r1, r2, r3) := by rw [← hbq15] at H; exact H
              have Nbq15 := Aside0.mk hbq15
              clear hbq15
              (try rw [← Nbq15.out])
              by_cases c16 : (bq15 = true)
              · subst c16
                (try rw [← Nbq15.out] at hx188_10)
                (try rw [← Nbq15.out] at HS21_)
                have H1 : (lookasideref06_Insert.j1 k1 l0 a2 x10_1 x11_1 t189 a1_0 a1_1 a1_2 a1_3 a1_4 a1_5 a1_6 a1_7 a1_8 a1_9 a1_10) = some (r1, r2, r3) := by rw [if_pos rfl] at H; exact H
                clear H
                have H := H1
                clear H1
                have H' := Aside0.mk H
                clear H
                have p190 : 0 ≤ (x11_1 : Int) := of_decide_eq_true (by first | (with_reducible assumption) | assumption)
                have q190 : x11_1 < (l0.length : Int) := of_decide_eq_true (by first | (with_reducible assumption) | assumption)
                obtain ⟨ad190, e190, hx190_0, hx190_1, hx190_2, hx190_3, hx190_4, hx190_5, hx190_6, hx190_7, hx190_8, hx190_9, hx190_10⟩ := at_T26 (Kd.V_reads' HO_0.out).2.2 x11_1 p190 q190
                (try rw [← Nbq15.out] at hx190_4)
                (try rw [← Nbq15.out] at hx190_5)
                (try rw [← Nbq15.out] at hx190_6)
                (try rw [← Nbq15.out] at hx190_7)
                (try rw [← Nbq15.out] at hx190_8)
                (try rw [← Nbq15.out] at hx190_9)
                (try rw [← Nbq15.out] at hx190_10)
                obtain rfl : ad188 = ad190 := (by injection e190)
                replace p190 := eq_true p190
                replace q190 := eq_true q190
                go_wp2
                go_meet
                case rel => exact ⟨_, (t189), (by first | rfl | (simp; done) | (simp [*]; done)), H', ⟨by have := HK1.out; first | omega | exact Nat.le_refl _⟩, ⟨by (with_reducible repeat (first | apply Kd.V_alloc | apply Kd.V_drewN | apply Kd.V_drew)); exact HO_0.out⟩, ⟨by (with_reducible repeat (first | apply Kd.V_alloc | apply Kd.V_drewN | apply Kd.V_drew)); exact HO_10.out⟩, ⟨by (with_reducible repeat (first | refine blk_drewN ?_ _ | refine blk_drew ?_ | refine blk_alloc ?_ _)); exact BK186.out⟩, ⟨by repeat (first | (with_reducible first | exact HB.out | apply below_alloc | apply pw_below_drewN | apply below_drew1 | refine below_set ?_ GE186.out) | exact HB.out)⟩⟩
              · replace c16 := Bool.eq_false_iff.mpr c16
                subst c16
                (try rw [← Nbq15.out] at hx188_10)
                (try rw [← Nbq15.out] at HS21_)
                have H1 : (lookasideref06_Insert.j1 k1 l0 a2 x10_1 x11_1 true a1_0 a1_1 a1_2 a1_3 a1_4 a1_5 a1_6 a1_7 a1_8 a1_9 a1_10) = some (r1, r2, r3) := by rw [if_neg (show ¬ (false = true) by decide)] at H; exact H
                clear H
                have H := H1
                clear H1
                have H' := Aside0.mk H
                clear H
                have p190 : 0 ≤ (x11_1 : Int) := of_decide_eq_true (by first | (with_reducible assumption) | assumption)
                have q190 : x11_1 < (l0.length : Int) := of_decide_eq_true (by first | (with_reducible assumption) | assumption)
                obtain ⟨ad190, e190, hx190_0, hx190_1, hx190_2, hx190_3, hx190_4, hx190_5, hx190_6, hx190_7, hx190_8, hx190_9, hx190_10⟩ := at_T26 (Kd.V_reads' HO_0.out).2.2 x11_1 p190 q190
                (try rw [← Nbq15.out] at hx190_4)
                (try rw [← Nbq15.out] at hx190_5)
                (try rw [← Nbq15.out] at hx190_6)
                (try rw [← Nbq15.out] at hx190_7)
                (try rw [← Nbq15.out] at hx190_8)
                (try rw [← Nbq15.out] at hx190_9)
                (try rw [← Nbq15.out] at hx190_10)
                obtain rfl : ad188 = ad190 := (by injection e190)
                replace p190 := eq_true p190
                replace q190 := eq_true q190
                go_wp2
                go_meet
                case rel => exact ⟨_, (true), (by first | rfl | (simp; done) | (simp [*]; done)), H', ⟨by have := HK1.out; first | omega | exact Nat.le_refl _⟩, ⟨by (with_reducible repeat (first | apply Kd.V_alloc | apply Kd.V_drewN | apply Kd.V_drew)); exact HO_0.out⟩, ⟨by (with_reducible repeat (first | apply Kd.V_alloc | apply Kd.V_drewN | apply Kd.V_drew)); exact HO_10.out⟩, ⟨by (with_reducible repeat (first | refine blk_drewN ?_ _ | refine blk_drew ?_ | refine blk_alloc ?_ _)); exact BK186.out⟩, ⟨by repeat (first | (with_reducible first | exact HB.out | apply below_alloc | apply pw_below_drewN | apply below_drew1 | refine below_set ?_ GE186.out) | exact HB.out)⟩⟩
            case rest =>
              clear HC12
              try clear c1
              try clear p1
              try clear q1
              try clear hx1
              try clear p2
              try clear c5
              try clear c6
              try clear c9
              try clear c9b0
              try clear c10
              try clear c10b0
              try clear c15
              try clear q15
              try clear c16
              try clear hcz7_0
              try clear hcz7_1
              try clear hcz7_10
              try clear hcz7_2
              try clear hcz7_3
              try clear hcz7_4
              try clear hcz7_5
              try clear hcz7_6
              try clear hcz7_7
              try clear hcz7_8
              try clear hcz7_9
              try clear hfz7_0
              try clear hfz7_1
              try clear hfz7_10
              try clear hfz7_2
              try clear hfz7_3
              try clear hfz7_4
              try clear hfz7_5
              try clear hfz7_6
              try clear hfz7_7
              try clear hfz7_8
              try clear hfz7_9
              try clear hx188_0
              try clear hx188_1
              try clear hx188_10
              try clear hx188_2
              try clear hx188_3
              try clear hx188_4
              try clear hx188_5
              try clear hx188_6
              try clear hx188_7
              try clear hx188_8
              try clear hx188_9
              try clear hx190_0
              try clear hx190_1
              try clear hx190_10
              try clear hx190_2
              try clear hx190_3
              try clear hx190_4
              try clear hx190_5
              try clear hx190_6
              try clear hx190_7
              try clear hx190_8
              try clear hx190_9
              try clear p188
              try clear p190
              try clear p2
              try clear q188
              try clear q190
              obtain ⟨kq, x42_11, rfl, HA, HJ11, HO_0, HO_10, BK186, HB⟩ := hcut
              cases kq with
              | zero => exact absurd HA.out (by simp [lookasideref06_Insert.j1])
              | succ kj11 =>
                have H := HA.out
                clear HA
                simp only [lookasideref06_Insert.j1] at H
                by_cases c17 : x42_11 = true
                · subst c17
                  have H1 : (lookasideref06_Insert.l0 kj11 l0 a2 x10_1 (wrap64 (x11_1 + 1)) a1_0 a1_1 a1_2 a1_3 a1_4 a1_5 a1_6 a1_7 a1_8 a1_9 a1_10) = some (r1, r2, r3) := by rw [if_pos rfl] at H; exact H
                  clear H
                  have H := H1
                  clear H1
                  have H' := Aside0.mk H
                  clear H
                  go_wp2
                  go_roundg kj11
                  case measure => have := HK1.out; have := HJ11.out; omega
                  case rel => exact ⟨(x10_1), (wrap64 (x11_1 + 1)), (by first | rfl | (simp; done) | (simp [*]; done)), H', ⟨by have := HK1.out; have := HJ11.out; omega⟩, ⟨by (with_reducible repeat (first | apply Kd.V_alloc | apply Kd.V_drewN | apply Kd.V_drew)); exact HO_0.out⟩, ⟨by (with_reducible repeat (first | apply Kd.V_alloc | apply Kd.V_drewN | apply Kd.V_drew)); exact HO_10.out⟩, ⟨by (with_reducible repeat (first | refine blk_drewN ?_ _ | refine blk_drew ?_ | refine blk_alloc ?_ _)); exact BK186.out⟩, ⟨by repeat (first | (with_reducible first | exact HB.out | apply below_alloc | apply pw_below_drewN | apply below_drew1 | refine below_set ?_ GE186.out) | exact HB.out)⟩⟩
                · replace c17 := Bool.eq_false_iff.mpr c17
                  subst c17
                  have H1 : (if 0 ≤ x11_1 then (if x11_1 < (l0.length : Int) then (if (rd_T26 l0 x11_1).f4.f3 = true then (some (l0, 0, 7)) else ((lookasideref06_with.f x10_1 x11_1 0 0 0 0 false false false false false false false).bind fun t192 => (lookasideref06_Insert.l0 kj11 l0 a2 t192 (wrap64 (x11_1 + 1)) a1_0 a1_1 a1_2 a1_3 a1_4 a1_5 a1_6 a1_7 a1_8 a1_9 a1_10))) else (none)) else (none)) = some (r1, r2, r3) := by rw [if_neg (show ¬ (false = true) by decide)] at H; exact H
                  clear H
                  have H := H1
                  clear H1
                  by_cases c18 : 0 ≤ x11_1
                  · rw [if_pos c18] at H
                    have c18b0 : decide (0 ≤ x11_1) = true := decide_eq_true c18
                    clear c18
                    by_cases c19 : x11_1 < (l0.length : Int)
                    · rw [if_pos c19] at H
                      have c19b0 : decide (x11_1 < (l0.length : Int)) = true := decide_eq_true c19
                      clear c19
                      obtain ⟨bq20, hbq20⟩ : ∃ b_ : Bool, b_ = ((rd_T26 l0 x11_1).f4.f3) := ⟨_, rfl⟩
                      replace H : (if bq20 = true then (some (l0, 0, 7)) else ((lookasideref06_with.f x10_1 x11_1 0 0 0 0 false false false false false false false).bind fun t192 => (lookasideref06_Insert.l0 kj11 l0 a2 t192 (wrap64 (x11_1 + 1)) a1_0 a1_1 a1_2 a1_3 a1_4 a1_5 a1_6 a1_7 a1_8 a1_9 a1_10))) = some (r1, r2, r3) := by rw [← hbq20] at H; exact H
                      have Nbq20 := Aside0.mk hbq20
                      clear hbq20
                      by_cases c21 : bq20 = true
                      · subst c21
                        have H1 : (some (l0, 0, 7)) = some (r1, r2, r3) := by rw [if_pos rfl] at H; exact H
                        clear H
                        have H := H1
                        clear H1
                        simp only [Option.some.injEq, Prod.mk.injEq] at H
                        obtain ⟨rfl, rfl, rfl⟩ := H
                        have p191 : 0 ≤ (x11_1 : Int) := of_decide_eq_true (by first | (with_reducible assumption) | assumption)
                        have q191 : x11_1 < (l0.length : Int) := of_decide_eq_true (by first | (with_reducible assumption) | assumption)
                        obtain ⟨ad191, e191, hx191_0, hx191_1, hx191_2, hx191_3, hx191_4, hx191_5, hx191_6, hx191_7, hx191_8, hx191_9, hx191_10⟩ := at_T26 (Kd.V_reads' HO_0.out).2.2 x11_1 p191 q191
                        (try rw [← Nbq20.out] at hx191_4)
                        (try rw [← Nbq20.out] at hx191_5)
                        (try rw [← Nbq20.out] at hx191_6)
                        (try rw [← Nbq20.out] at hx191_7)
                        (try rw [← Nbq20.out] at hx191_8)
                        (try rw [← Nbq20.out] at hx191_9)
                        (try rw [← Nbq20.out] at hx191_10)
                        obtain rfl : ad188 = ad191 := (by injection e191)
                        replace p191 := eq_true p191
                        replace q191 := eq_true q191
                        go_wp2
                        go_ret3
                        exact ⟨_, by first | rfl | (simp [errW_none, errW_some] <;> rfl) | (simp [*, errW_none, errW_some] <;> rfl), by (with_reducible repeat (first | apply Kd.V_alloc | apply Kd.V_drewN | apply Kd.V_drew)); exact Kd.V_mono HO_0.out (fun _ hk => hk.1), by repeat (first | (with_reducible first | exact HB.out | apply below_alloc | apply pw_below_drewN | apply below_drew1 | refine below_set ?_ GE186.out) | exact HB.out)⟩
                      · replace c21 := Bool.eq_false_iff.mpr c21
                        subst c21
                        have H1 : ((lookasideref06_with.f x10_1 x11_1 0 0 0 0 false false false false false false false).bind fun t192 => (lookasideref06_Insert.l0 kj11 l0 a2 t192 (wrap64 (x11_1 + 1)) a1_0 a1_1 a1_2 a1_3 a1_4 a1_5 a1_6 a1_7 a1_8 a1_9 a1_10)) = some (r1, r2, r3) := by rw [if_neg (show ¬ (false = true) by decide)] at H; exact H
                        clear H
                        have H := H1
                        clear H1
                        replace H := Option.bind_eq_some_iff.mp H
                        obtain ⟨t192, A220, H⟩ := H
                        replace H : (lookasideref06_Insert.l0 kj11 l0 a2 t192 (wrap64 (x11_1 + 1)) a1_0 a1_1 a1_2 a1_3 a1_4 a1_5 a1_6 a1_7 a1_8 a1_9 a1_10) = some (r1, r2, r3) := H
                        have A22 := Aside0.mk A220
                        clear A220
                        have H' := Aside0.mk H
                        clear H
                        have p191 : 0 ≤ (x11_1 : Int) := of_decide_eq_true (by first | (with_reducible assumption) | assumption)
                        have q191 : x11_1 < (l0.length : Int) := of_decide_eq_true (by first | (with_reducible assumption) | assumption)
                        obtain ⟨ad191, e191, hx191_0, hx191_1, hx191_2, hx191_3, hx191_4, hx191_5, hx191_6, hx191_7, hx191_8, hx191_9, hx191_10⟩ := at_T26 (Kd.V_reads' HO_0.out).2.2 x11_1 p191 q191
                        (try rw [← Nbq20.out] at hx191_4)
                        (try rw [← Nbq20.out] at hx191_5)
                        (try rw [← Nbq20.out] at hx191_6)
                        (try rw [← Nbq20.out] at hx191_7)
                        (try rw [← Nbq20.out] at hx191_8)
                        (try rw [← Nbq20.out] at hx191_9)
                        (try rw [← Nbq20.out] at hx191_10)
                        obtain rfl : ad188 = ad191 := (by injection e191)
                        replace p191 := eq_true p191
                        replace q191 := eq_true q191
                        obtain ⟨Ao23, co23, eo23⟩ := Kd.V_slice HO_10.out
                        subst eo23
                        go_wp2_with (first | ((with_reducible refine gate_callee (f := 93) rfl ?_); refine goesL_ (some 53) rfl rfl Try.func93 (by kernel_rfl) rfl #[.slice Ao23 x10_1.length co23, .int .i64 x11_1, .agg #[.int .i64 0, .int .i64 0, .int .u64 0, .int .u64 0, .bool false, .bool false, .bool false, .bool false, .bool false, .bool false, .bool false]] rfl (by (try simp only [List.map_toArray, List.map_cons, List.map_nil]); first | done | rfl | (simp only [List.length_drop, List.length_take]; rfl)) ?_; (with_reducible refine (lookasideref06_with.calls _ _ x10_1 x11_1 0 0 0 0 false false false false false false false t192 _ ?side1 ?side2 A22.out).mono ?_); (case side1 => repeat (first | exact (Kd.V_reads' HO_10.out).2.2 | (with_reducible refine Kd.C_alloc ?_ _) | (with_reducible refine Kd.C_drewN ?_ _) | (with_reducible refine Kd.C_drew ?_))); (case side2 => exact (Kd.V_reads' HO_10.out).2.1); rintro e w24 ⟨v193, rfl, ho0, hb⟩; refine ⟨_, rfl, ?_⟩; have n0_ := Aside0.mk (Kd.V_elder' (by (with_reducible repeat (first | apply Kd.V_alloc | apply Kd.V_drewN | apply Kd.V_drew)); exact HO_0.out) (Kd.R_base ho0) hb); have n1_ := Aside0.mk (Kd.V_elder' (by (with_reducible repeat (first | apply Kd.V_alloc | apply Kd.V_drewN | apply Kd.V_drew)); exact HO_10.out) (Kd.R_base ho0) hb); have n2_ := Aside0.mk (Kd.R_lower (Kd.R_newB (Kd.R_newM (M := fun k_ => (w.heap.size ≤ k_)) ho0 (below_size (by repeat (first | (with_reducible first | exact HB.out | apply below_alloc | apply pw_below_drewN | apply below_drew1 | refine below_set ?_ GE186.out) | exact HB.out))) (fun k_ h_ => h_)) (g := gb186) (o := .cells #[.int .i64 a1_0, .int .i64 a1_1, .int .u64 a1_2, .int .u64 a1_3, .bool a1_4, .bool a1_5, .bool a1_6, .bool a1_7, .bool a1_8, .bool a1_9, .bool a1_10] 26 (0, 0)) (by (with_reducible repeat (first | refine blk_drewN ?_ _ | refine blk_drew ?_ | refine blk_alloc ?_ _)); exact BK186.out)) (below_size (by repeat (first | (with_reducible first | exact HB.out | apply below_alloc | apply pw_below_drewN | apply below_drew1 | refine below_set ?_ GE186.out) | exact HB.out)))); have n3_ := Aside0.mk (bb7_ hb BK186.out); have n4_ := Aside0.mk (below_step (by repeat (first | (with_reducible first | exact HB.out | apply below_alloc | apply pw_below_drewN | apply below_drew1 | refine below_set ?_ GE186.out) | exact HB.out)) hb); clear HO_0; clear HO_10; clear BK186; clear HB; have HO_0 := n0_; have HO_10 := n1_; have HO194 := n2_; have BK186 := n3_; have HB := n4_; clear n0_ n1_ n2_ n3_ n4_; (try clear hb); (try clear hb2); (try clear hk); (try clear hi); (try clear ho0)))
                        go_roundg kj11
                        case measure => have := HK1.out; have := HJ11.out; omega
                        case rel => exact ⟨(t192), (wrap64 (x11_1 + 1)), (by first | rfl | (simp; done) | (simp [*]; done)), H', ⟨by have := HK1.out; have := HJ11.out; omega⟩, ⟨by (with_reducible repeat (first | apply Kd.V_alloc | apply Kd.V_drewN | apply Kd.V_drew)); exact Kd.V_mono HO_0.out (fun _ hk => ⟨hk.1.1, hk.1.2⟩)⟩, ⟨by have h2_ := Kd.V_mono (ok' := fun k_ => (P0_ k_ ∨ w.heap.size ≤ k_) ∧ k_ ≠ gb186) (Kd.R_V (base' := w.heap.size) HO194.out) (fun k_ hk => by first | exact ⟨Or.inr hk.1.1, hk.2⟩ | exact ⟨Or.inr hk.1, hk.2⟩); (with_reducible repeat (first | apply Kd.V_alloc | apply Kd.V_drewN | apply Kd.V_drew)); exact h2_⟩, ⟨by (with_reducible repeat (first | refine blk_drewN ?_ _ | refine blk_drew ?_ | refine blk_alloc ?_ _)); exact BK186.out⟩, ⟨by repeat (first | (with_reducible first | exact HB.out | apply below_alloc | apply pw_below_drewN | apply below_drew1 | refine below_set ?_ GE186.out) | exact HB.out)⟩⟩
                    · rw [if_neg c19] at H
                      exact absurd H (by simp)
                  · rw [if_neg c18] at H
                    exact absurd H (by simp)
          · rw [if_neg c10] at H
            exact absurd H (by simp)
        · rw [if_neg c9] at H
          have c9b0 : decide (x11_1 < (l0.length : Int)) = false := decide_eq_false c9
          clear c9
          have H' := Aside0.mk H
          clear H
          go_wp2
          go_loopg [13, 14] k1 (fun kq v13 v14 w' => ∃ (x13_2 : List Int) (x14_2 : Int), v14 = .int .i64 x14_2 ∧ Aside0 (lookasideref06_Insert.l1 kq l0 a2 x10_1 x13_2 x14_2 a1_0 a1_1 a1_2 a1_3 a1_4 a1_5 a1_6 a1_7 a1_8 a1_9 a1_10 = some (r1, r2, r3)) ∧ Aside0 (kq ≤ k1) ∧ Aside0 (Kd.V k26 26 w' w.heap.size (fun k_ => (P0_ k_ ∨ w.heap.size ≤ k_) ∧ some k_ ≠ (v13 : Value).ownBlock ∧ k_ ≠ gb186) (.slice A0 l0.length c0) l0) ∧ Aside0 (Kd.V k26 26 w' w.heap.size (fun k_ => (P0_ k_ ∨ w.heap.size ≤ k_) ∧ some k_ ≠ (v13 : Value).ownBlock ∧ k_ ≠ gb186) u10 x10_1) ∧ Aside0 (Kd.R (Kd.int .i64) 3 w' w.heap.size (fun k_ => (w.heap.size ≤ k_)) v13 x13_2) ∧ Aside0 (w'.heap[gb186]? = some (.cells #[.int .i64 a1_0, .int .i64 a1_1, .int .u64 a1_2, .int .u64 a1_3, .bool a1_4, .bool a1_5, .bool a1_6, .bool a1_7, .bool a1_8, .bool a1_9, .bool a1_10] 26 (0, 0))) ∧ Aside0 (Below w.heap.size w w'))
          case atStart => exact ⟨(([] : List Int)), (0), (by first | rfl | (simp; done) | (simp [*]; done)), H', ⟨Nat.le_refl _⟩, ⟨by (with_reducible repeat (first | apply Kd.V_alloc | apply Kd.V_drewN | apply Kd.V_drew)); exact Kd.V_mono HO_0.out (fun _ hk => ⟨hk.1, ⟨(by simp [Value.ownBlock]), hk.2⟩⟩)⟩, ⟨by (with_reducible repeat (first | apply Kd.V_alloc | apply Kd.V_drewN | apply Kd.V_drew)); exact Kd.V_mono HO_10.out (fun _ hk => ⟨hk.1, ⟨(by simp [Value.ownBlock]), hk.2⟩⟩)⟩, ⟨by first | exact Kd.R_nil _ _ _ _ _ | exact Kd.N_nil _ _ _ _ _ | exact Kd.V_nil _ _ _ _ _ | exact Kd.Q_nil _ _ _ _ _ | exact Kd.S_nil _ _ _ _ _⟩, ⟨by (with_reducible repeat (first | refine blk_drewN ?_ _ | refine blk_drew ?_ | refine blk_alloc ?_ _)); exact BK186.out⟩, ⟨by repeat (first | (with_reducible first | exact HB.out | apply below_alloc | apply pw_below_drewN | apply below_drew1 | refine below_set ?_ GE186.out) | exact HB.out)⟩⟩
          case round =>
            clear H'
            try clear c1
            try clear p1
            try clear q1
            try clear hx1
            try clear c2
            try clear p2
            try clear q2
            try clear c5
            try clear c6
            try clear p6
            try clear c9
            try clear c9b0
            try clear c10
            try clear c10b0
            try clear c15
            try clear q15
            try clear c16
            try clear c17
            try clear c18
            try clear c18b0
            try clear p18
            try clear q18
            try clear hx18
            try clear c19
            try clear c19b0
            try clear p19
            try clear q19
            try clear hx19
            try clear q20
            try clear c21
            try clear hcz7_0
            try clear hcz7_1
            try clear hcz7_10
            try clear hcz7_2
            try clear hcz7_3
            try clear hcz7_4
            try clear hcz7_5
            try clear hcz7_6
            try clear hcz7_7
            try clear hcz7_8
            try clear hcz7_9
            try clear hfz7_0
            try clear hfz7_1
            try clear hfz7_10
            try clear hfz7_2
            try clear hfz7_3
            try clear hfz7_4
            try clear hfz7_5
            try clear hfz7_6
            try clear hfz7_7
            try clear hfz7_8
            try clear hfz7_9
            try clear hx188_0
            try clear hx188_1
            try clear hx188_10
            try clear hx188_2
            try clear hx188_3
            try clear hx188_4
            try clear hx188_5
            try clear hx188_6
            try clear hx188_7
            try clear hx188_8
            try clear hx188_9
            try clear hx190_0
            try clear hx190_1
            try clear hx190_10
            try clear hx190_2
            try clear hx190_3
            try clear hx190_4
            try clear hx190_5
            try clear hx190_6
            try clear hx190_7
            try clear hx190_8
            try clear hx190_9
            try clear hx191_0
            try clear hx191_1
            try clear hx191_10
            try clear hx191_2
            try clear hx191_3
            try clear hx191_4
            try clear hx191_5
            try clear hx191_6
            try clear hx191_7
            try clear hx191_8
            try clear hx191_9
            try clear p1
            try clear p188
            try clear p190
            try clear p191
            try clear p2
            try clear q1
            try clear q15
            try clear q188
            try clear q190
            try clear q191
            obtain ⟨x13_2, x14_2, rfl, HA, HK2, HO_0, HO_10, HO_13, BK186, HB⟩ := hrel
            cases gk with
            | zero => exact absurd HA.out (by simp [lookasideref06_Insert.l1])
            | succ k2 =>
              have H := HA.out
              clear HA
              simp only [lookasideref06_Insert.l1] at H
              by_cases c25 : x14_2 < (x10_1.length : Int)
              · rw [if_pos c25] at H
                have c25b0 : decide (x14_2 < (x10_1.length : Int)) = true := decide_eq_true c25
                clear c25
                by_cases c26 : 0 ≤ x14_2
                · rw [if_pos c26] at H
                  have c26b0 : decide (0 ≤ x14_2) = true := decide_eq_true c26
                  clear c26
                  obtain ⟨bq27, hbq27⟩ : ∃ b_ : Bool, b_ = ((rd_T26 x10_1 x14_2).f5) := ⟨_, rfl⟩
                  replace H : (if (bq27 = true) then (if ((rd_T26 x10_1 x14_2).f4.f3 = true) then (lookasideref06_Insert.l1 k2 l0 a2 x10_1 x13_2 (wrap64 (x14_2 + 1)) a1_0 a1_1 a1_2 a1_3 a1_4 a1_5 a1_6 a1_7 a1_8 a1_9 a1_10) else (if x13_2.length < 17592186044416 then (lookasideref06_Insert.l1 k2 l0 a2 x10_1 (x13_2 ++ [x14_2]) (wrap64 (x14_2 + 1)) a1_0 a1_1 a1_2 a1_3 a1_4 a1_5 a1_6 a1_7 a1_8 a1_9 a1_10) else (none))) else ((lookasideref06_with.f x10_1 x14_2 a1_0 a1_1 a1_2 a1_3 a1_4 a1_5 a1_6 a1_7 a1_8 a1_9 a1_10).bind fun t200 => (some (t200, x14_2, 0)))) = some (r1, r2, r3) := by rw [← hbq27] at H; exact H
                  have Nbq27 := Aside0.mk hbq27
                  clear hbq27
                  by_cases c28 : (bq27 = true)
                  · subst c28
                    have H1 : (if ((rd_T26 x10_1 x14_2).f4.f3 = true) then (lookasideref06_Insert.l1 k2 l0 a2 x10_1 x13_2 (wrap64 (x14_2 + 1)) a1_0 a1_1 a1_2 a1_3 a1_4 a1_5 a1_6 a1_7 a1_8 a1_9 a1_10) else (if x13_2.length < 17592186044416 then (lookasideref06_Insert.l1 k2 l0 a2 x10_1 (x13_2 ++ [x14_2]) (wrap64 (x14_2 + 1)) a1_0 a1_1 a1_2 a1_3 a1_4 a1_5 a1_6 a1_7 a1_8 a1_9 a1_10) else (none))) = some (r1, r2, r3) := by rw [if_pos rfl] at H; exact H
                    clear H
                    have H := H1
                    clear H1
                    obtain ⟨bq29, hbq29⟩ : ∃ b_ : Bool, b_ = ((rd_T26 x10_1 x14_2).f4.f3) := ⟨_, rfl⟩
                    replace H : (if (bq29 = true) then (lookasideref06_Insert.l1 k2 l0 a2 x10_1 x13_2 (wrap64 (x14_2 + 1)) a1_0 a1_1 a1_2 a1_3 a1_4 a1_5 a1_6 a1_7 a1_8 a1_9 a1_10) else (if x13_2.length < 17592186044416 then (lookasideref06_Insert.l1 k2 l0 a2 x10_1 (x13_2 ++ [x14_2]) (wrap64 (x14_2 + 1)) a1_0 a1_1 a1_2 a1_3 a1_4 a1_5 a1_6 a1_7 a1_8 a1_9 a1_10) else (none))) = some (r1, r2, r3) := by rw [← hbq29] at H; exact H
                    have Nbq29 := Aside0.mk hbq29
                    clear hbq29
                    by_cases c30 : (bq29 = true)
                    · subst c30
                      have H1 : (lookasideref06_Insert.l1 k2 l0 a2 x10_1 x13_2 (wrap64 (x14_2 + 1)) a1_0 a1_1 a1_2 a1_3 a1_4 a1_5 a1_6 a1_7 a1_8 a1_9 a1_10) = some (r1, r2, r3) := by rw [if_pos rfl] at H; exact H
                      clear H
                      have H := H1
                      clear H1
                      have H' := Aside0.mk H
                      clear H
                      obtain ⟨Ao31, co31, eo31⟩ := Kd.V_slice HO_10.out
                      subst eo31
                      have p195 : 0 ≤ (x14_2 : Int) := of_decide_eq_true (by first | (with_reducible assumption) | assumption)
                      have q195 : x14_2 < (x10_1.length : Int) := of_decide_eq_true (by first | (with_reducible assumption) | assumption)
                      obtain ⟨ad195, e195, hx195_0, hx195_1, hx195_2, hx195_3, hx195_4, hx195_5, hx195_6, hx195_7, hx195_8, hx195_9, hx195_10⟩ := at_T26 (Kd.V_reads' HO_10.out).2.2 x14_2 p195 q195
                      (try rw [← Nbq27.out] at hx195_4)
                      (try rw [← Nbq29.out] at hx195_4)
                      (try rw [← Nbq27.out] at hx195_5)
                      (try rw [← Nbq29.out] at hx195_5)
                      (try rw [← Nbq27.out] at hx195_6)
                      (try rw [← Nbq29.out] at hx195_6)
                      (try rw [← Nbq27.out] at hx195_7)
                      (try rw [← Nbq29.out] at hx195_7)
                      (try rw [← Nbq27.out] at hx195_8)
                      (try rw [← Nbq29.out] at hx195_8)
                      (try rw [← Nbq27.out] at hx195_9)
                      (try rw [← Nbq29.out] at hx195_9)
                      (try rw [← Nbq27.out] at hx195_10)
                      (try rw [← Nbq29.out] at hx195_10)
                      cases e195
                      replace p195 := eq_true p195
                      replace q195 := eq_true q195
                      have p196 : 0 ≤ (x14_2 : Int) := of_decide_eq_true (by first | (with_reducible assumption) | assumption)
                      have q196 : x14_2 < (x10_1.length : Int) := of_decide_eq_true (by first | (with_reducible assumption) | assumption)
                      obtain ⟨ad196, e196, hx196_0, hx196_1, hx196_2, hx196_3, hx196_4, hx196_5, hx196_6, hx196_7, hx196_8, hx196_9, hx196_10⟩ := at_T26 (Kd.V_reads' HO_10.out).2.2 x14_2 p196 q196
                      (try rw [← Nbq27.out] at hx196_4)
                      (try rw [← Nbq29.out] at hx196_4)
                      (try rw [← Nbq27.out] at hx196_5)
                      (try rw [← Nbq29.out] at hx196_5)
                      (try rw [← Nbq27.out] at hx196_6)
                      (try rw [← Nbq29.out] at hx196_6)
                      (try rw [← Nbq27.out] at hx196_7)
                      (try rw [← Nbq29.out] at hx196_7)
                      (try rw [← Nbq27.out] at hx196_8)
                      (try rw [← Nbq29.out] at hx196_8)
                      (try rw [← Nbq27.out] at hx196_9)
                      (try rw [← Nbq29.out] at hx196_9)
                      (try rw [← Nbq27.out] at hx196_10)
                      (try rw [← Nbq29.out] at hx196_10)
                      obtain rfl : ad195 = ad196 := (by injection e196)
                      replace p196 := eq_true p196
                      replace q196 := eq_true q196
                      go_wp2
                      go_roundg k2
                      case measure => have := HK1.out; have := HK2.out; omega
                      case rel => exact ⟨(x13_2), (wrap64 (x14_2 + 1)), (by first | rfl | (simp; done) | (simp [*]; done)), H', ⟨by have := HK1.out; have := HK2.out; omega⟩, ⟨by (with_reducible repeat (first | apply Kd.V_alloc | apply Kd.V_drewN | apply Kd.V_drew)); exact HO_0.out⟩, ⟨by (with_reducible repeat (first | apply Kd.V_alloc | apply Kd.V_drewN | apply Kd.V_drew)); exact HO_10.out⟩, ⟨by (with_reducible repeat (first | apply Kd.R_alloc | apply Kd.R_drewN | apply Kd.R_drew)); exact HO_13.out⟩, ⟨by (with_reducible repeat (first | refine blk_drewN ?_ _ | refine blk_drew ?_ | refine blk_alloc ?_ _)); exact BK186.out⟩, ⟨by repeat (first | (with_reducible first | exact HB.out | apply below_alloc | apply pw_below_drewN | apply below_drew1 | refine below_set ?_ GE186.out) | exact HB.out)⟩⟩
                    · replace c30 := Bool.eq_false_iff.mpr c30
                      subst c30
                      have H1 : (if x13_2.length < 17592186044416 then (lookasideref06_Insert.l1 k2 l0 a2 x10_1 (x13_2 ++ [x14_2]) (wrap64 (x14_2 + 1)) a1_0 a1_1 a1_2 a1_3 a1_4 a1_5 a1_6 a1_7 a1_8 a1_9 a1_10) else (none)) = some (r1, r2, r3) := by rw [if_neg (show ¬ (false = true) by decide)] at H; exact H
                      clear H
                      have H := H1
                      clear H1
                      by_cases c32 : x13_2.length < 17592186044416
                      · rw [if_pos c32] at H
                        have LMc32 := Aside0.mk c32
                        clear c32
                        obtain ⟨y197, hy197⟩ : ∃ y_ : List Int, y_ = (x13_2 ++ [x14_2]) := ⟨_, rfl⟩
                        replace H : (lookasideref06_Insert.l1 k2 l0 a2 x10_1 y197 (wrap64 (x14_2 + 1)) a1_0 a1_1 a1_2 a1_3 a1_4 a1_5 a1_6 a1_7 a1_8 a1_9 a1_10) = some (r1, r2, r3) := by first | (rw [hy197]; with_reducible exact H) | (have H2_ := (Option.bind_some _ _).symm.trans H; rw [hy197]; with_reducible exact H2_) | (have H2_ := (Option.bind_some _ _).symm.trans H; with_reducible exact H2_) | with_reducible exact H | (rw [hy197]; exact H) | exact H
                        have Ny197 := Aside0.mk hy197
                        clear hy197
                        have H' := Aside0.mk H
                        clear H
                        obtain ⟨Ao33, co33, eo33⟩ := Kd.V_slice HO_10.out
                        subst eo33
                        have p195 : 0 ≤ (x14_2 : Int) := of_decide_eq_true (by first | (with_reducible assumption) | assumption)
                        have q195 : x14_2 < (x10_1.length : Int) := of_decide_eq_true (by first | (with_reducible assumption) | assumption)
                        obtain ⟨ad195, e195, hx195_0, hx195_1, hx195_2, hx195_3, hx195_4, hx195_5, hx195_6, hx195_7, hx195_8, hx195_9, hx195_10⟩ := at_T26 (Kd.V_reads' HO_10.out).2.2 x14_2 p195 q195
                        (try rw [← Nbq27.out] at hx195_4)
                        (try rw [← Nbq29.out] at hx195_4)
                        (try rw [← Nbq27.out] at hx195_5)
                        (try rw [← Nbq29.out] at hx195_5)
                        (try rw [← Nbq27.out] at hx195_6)
                        (try rw [← Nbq29.out] at hx195_6)
                        (try rw [← Nbq27.out] at hx195_7)
                        (try rw [← Nbq29.out] at hx195_7)
                        (try rw [← Nbq27.out] at hx195_8)
                        (try rw [← Nbq29.out] at hx195_8)
                        (try rw [← Nbq27.out] at hx195_9)
                        (try rw [← Nbq29.out] at hx195_9)
                        (try rw [← Nbq27.out] at hx195_10)
                        (try rw [← Nbq29.out] at hx195_10)
                        cases e195
                        replace p195 := eq_true p195
                        replace q195 := eq_true q195
                        have p196 : 0 ≤ (x14_2 : Int) := of_decide_eq_true (by first | (with_reducible assumption) | assumption)
                        have q196 : x14_2 < (x10_1.length : Int) := of_decide_eq_true (by first | (with_reducible assumption) | assumption)
                        obtain ⟨ad196, e196, hx196_0, hx196_1, hx196_2, hx196_3, hx196_4, hx196_5, hx196_6, hx196_7, hx196_8, hx196_9, hx196_10⟩ := at_T26 (Kd.V_reads' HO_10.out).2.2 x14_2 p196 q196
                        (try rw [← Nbq27.out] at hx196_4)
                        (try rw [← Nbq29.out] at hx196_4)
                        (try rw [← Nbq27.out] at hx196_5)
                        (try rw [← Nbq29.out] at hx196_5)
                        (try rw [← Nbq27.out] at hx196_6)
                        (try rw [← Nbq29.out] at hx196_6)
                        (try rw [← Nbq27.out] at hx196_7)
                        (try rw [← Nbq29.out] at hx196_7)
                        (try rw [← Nbq27.out] at hx196_8)
                        (try rw [← Nbq29.out] at hx196_8)
                        (try rw [← Nbq27.out] at hx196_9)
                        (try rw [← Nbq29.out] at hx196_9)
                        (try rw [← Nbq27.out] at hx196_10)
                        (try rw [← Nbq29.out] at hx196_10)
                        obtain rfl : ad195 = ad196 := (by injection e196)
                        replace p196 := eq_true p196
                        replace q196 := eq_true q196
                        go_wp2_with (first | ((with_reducible refine gate_builtin (b := .append) (xs := #[.tmp 78, .tmp 80]) rfl ?_); at_builtin; refine Kd.R_append (Kd.int .i64) (w0 := w) w.heap.size rfl (.tmp 78) (.tmp 80) 30 3 (.int .i64 0) 8 rfl Try.underlying30 info3 rfl (by decide) (by omega) u13 x13_2 x14_2 [.int .i64 x14_2] (fun k_ => (w.heap.size ≤ k_)) (fun _ => False) rfl rfl ?aP (fun _ hk => hk.elim) ?aF ?aO ?aB ?aS ?aL ?_; (case aP => exact rfl); (case aB => exact (by repeat (first | (with_reducible first | exact HB.out | apply below_alloc | apply pw_below_drewN | apply below_drew1 | refine below_set ?_ GE186.out) | exact HB.out))); (case aF => exact (fun k_ hk => (Nat.le_trans (below_size (by repeat (first | (with_reducible first | exact HB.out | apply below_alloc | apply pw_below_drewN | apply below_drew1 | refine below_set ?_ GE186.out) | exact HB.out))) hk))); (case aO => exact (by (with_reducible repeat (first | apply Kd.R_alloc | apply Kd.R_drewN | apply Kd.R_drew)); exact HO_13.out)); (case aS => exact (below_size (by repeat (first | (with_reducible first | exact HB.out | apply below_alloc | apply pw_below_drewN | apply below_drew1 | refine below_set ?_ GE186.out) | exact HB.out)))); (case aL => have := LMc32.out; omega); intro v198 w34 ho hb hg hat; rw [← Ny197.out] at ho; have n0_ := Aside0.mk (Kd.V_afterv (ok := (fun k_ => (P0_ k_ ∨ w.heap.size ≤ k_) ∧ k_ ≠ gb186)) (by (with_reducible repeat (first | apply Kd.V_alloc | apply Kd.V_drewN | apply Kd.V_drew)); exact Kd.V_mono HO_0.out (fun _ hk => ⟨⟨hk.1, hk.2.2⟩, hk.2.1⟩)) hg hat); have n1_ := Aside0.mk (Kd.V_afterv (ok := (fun k_ => (P0_ k_ ∨ w.heap.size ≤ k_) ∧ k_ ≠ gb186)) (by (with_reducible repeat (first | apply Kd.V_alloc | apply Kd.V_drewN | apply Kd.V_drew)); exact Kd.V_mono HO_10.out (fun _ hk => ⟨⟨hk.1, hk.2.2⟩, hk.2.1⟩)) hg hat); have n2_ := Aside0.mk (blk_grown (g := gb186) (o := .cells #[.int .i64 a1_0, .int .i64 a1_1, .int .u64 a1_2, .int .u64 a1_3, .bool a1_4, .bool a1_5, .bool a1_6, .bool a1_7, .bool a1_8, .bool a1_9, .bool a1_10] 26 (0, 0)) (by (with_reducible repeat (first | refine blk_drewN ?_ _ | refine blk_drew ?_ | refine blk_alloc ?_ _)); exact BK186.out) hg (Kd.R_ne HO_13.out BK186.out (by decide))); have n3_ := Aside0.mk (hb); have n4_ := Aside0.mk (ho); clear HO_0; clear HO_10; clear BK186; clear HB; clear HO_13; have HO_0 := n0_; have HO_10 := n1_; have BK186 := n2_; have HB := n3_; have HO199 := n4_; clear n0_ n1_ n2_ n3_ n4_; clear ho hb hg hat))
                        go_roundg k2
                        case measure => have := HK1.out; have := HK2.out; omega
                        case rel => exact ⟨(y197), (wrap64 (x14_2 + 1)), (by first | rfl | (simp; done) | (simp [*]; done)), H', ⟨by have := HK1.out; have := HK2.out; omega⟩, ⟨by (with_reducible repeat (first | apply Kd.V_alloc | apply Kd.V_drewN | apply Kd.V_drew)); exact Kd.V_mono HO_0.out (fun _ hk => ⟨hk.1.1, ⟨hk.2, hk.1.2⟩⟩)⟩, ⟨by (with_reducible repeat (first | apply Kd.V_alloc | apply Kd.V_drewN | apply Kd.V_drew)); exact Kd.V_mono HO_10.out (fun _ hk => ⟨hk.1.1, ⟨hk.2, hk.1.2⟩⟩)⟩, ⟨by (with_reducible repeat (first | apply Kd.R_alloc | apply Kd.R_drewN | apply Kd.R_drew)); exact HO199.out⟩, ⟨by (with_reducible repeat (first | refine blk_drewN ?_ _ | refine blk_drew ?_ | refine blk_alloc ?_ _)); exact BK186.out⟩, ⟨by repeat (first | (with_reducible first | exact HB.out | apply below_alloc | apply pw_below_drewN | apply below_drew1 | refine below_set ?_ GE186.out) | exact HB.out)⟩⟩
                      · rw [if_neg c32] at H
                        exact absurd H (by simp)
                  · replace c28 := Bool.eq_false_iff.mpr c28
                    subst c28
                    have H1 : ((lookasideref06_with.f x10_1 x14_2 a1_0 a1_1 a1_2 a1_3 a1_4 a1_5 a1_6 a1_7 a1_8 a1_9 a1_10).bind fun t200 => (some (t200, x14_2, 0))) = some (r1, r2, r3) := by rw [if_neg (show ¬ (false = true) by decide)] at H; exact H
                    clear H
                    have H := H1
                    clear H1
                    replace H := Option.bind_eq_some_iff.mp H
                    obtain ⟨t200, A350, H⟩ := H
                    replace H : (some (t200, x14_2, 0)) = some (r1, r2, r3) := H
                    have A35 := Aside0.mk A350
                    clear A350
                    simp only [Option.some.injEq, Prod.mk.injEq] at H
                    obtain ⟨rfl, rfl, rfl⟩ := H
                    obtain ⟨Ao36, co36, eo36⟩ := Kd.V_slice HO_10.out
                    subst eo36
                    have p195 : 0 ≤ (x14_2 : Int) := of_decide_eq_true (by first | (with_reducible assumption) | assumption)
                    have q195 : x14_2 < (x10_1.length : Int) := of_decide_eq_true (by first | (with_reducible assumption) | assumption)
                    obtain ⟨ad195, e195, hx195_0, hx195_1, hx195_2, hx195_3, hx195_4, hx195_5, hx195_6, hx195_7, hx195_8, hx195_9, hx195_10⟩ := at_T26 (Kd.V_reads' HO_10.out).2.2 x14_2 p195 q195
                    (try rw [← Nbq27.out] at hx195_4)
                    (try rw [← Nbq27.out] at hx195_5)
                    (try rw [← Nbq27.out] at hx195_6)
                    (try rw [← Nbq27.out] at hx195_7)
                    (try rw [← Nbq27.out] at hx195_8)
                    (try rw [← Nbq27.out] at hx195_9)
                    (try rw [← Nbq27.out] at hx195_10)
                    cases e195
                    replace p195 := eq_true p195
                    replace q195 := eq_true q195
                    obtain ⟨hcz37_0, hcz37_1, hcz37_2, hcz37_3, hcz37_4, hcz37_5, hcz37_6, hcz37_7, hcz37_8, hcz37_9, hcz37_10⟩ := cy11_7 BK186.out
                    have hfz37_0 := blk_frozen BK186.out 0
                    have hfz37_1 := blk_frozen BK186.out 1
                    have hfz37_2 := blk_frozen BK186.out 2
                    have hfz37_3 := blk_frozen BK186.out 3
                    have hfz37_4 := blk_frozen BK186.out 4
                    have hfz37_5 := blk_frozen BK186.out 5
                    have hfz37_6 := blk_frozen BK186.out 6
                    have hfz37_7 := blk_frozen BK186.out 7
                    have hfz37_8 := blk_frozen BK186.out 8
                    have hfz37_9 := blk_frozen BK186.out 9
                    have hfz37_10 := blk_frozen BK186.out 10
                    go_wp2_with (first | ((with_reducible refine gate_callee (f := 93) rfl ?_); refine goesL_ (some 69) rfl rfl Try.func93 (by kernel_rfl) rfl #[.slice (some ad195) x10_1.length co36, .int .i64 x14_2, .agg #[.int .i64 a1_0, .int .i64 a1_1, .int .u64 a1_2, .int .u64 a1_3, .bool a1_4, .bool a1_5, .bool a1_6, .bool a1_7, .bool a1_8, .bool a1_9, .bool a1_10]] rfl (by (try simp only [List.map_toArray, List.map_cons, List.map_nil]); first | done | rfl | (simp only [List.length_drop, List.length_take]; rfl)) ?_; (with_reducible refine (lookasideref06_with.calls _ _ x10_1 x14_2 a1_0 a1_1 a1_2 a1_3 a1_4 a1_5 a1_6 a1_7 a1_8 a1_9 a1_10 t200 _ ?side1 ?side2 A35.out).mono ?_); (case side1 => repeat (first | exact (Kd.V_reads' HO_10.out).2.2 | (with_reducible refine Kd.C_alloc ?_ _) | (with_reducible refine Kd.C_drewN ?_ _) | (with_reducible refine Kd.C_drew ?_))); (case side2 => exact (Kd.V_reads' HO_10.out).2.1); rintro e w38 ⟨v201, rfl, ho0, hb⟩; refine ⟨_, rfl, ?_⟩; have n0_ := Aside0.mk (Kd.V_elder' (by (with_reducible repeat (first | apply Kd.V_alloc | apply Kd.V_drewN | apply Kd.V_drew)); exact HO_0.out) (Kd.R_base ho0) hb); have n1_ := Aside0.mk (Kd.V_elder' (by (with_reducible repeat (first | apply Kd.V_alloc | apply Kd.V_drewN | apply Kd.V_drew)); exact HO_10.out) (Kd.R_base ho0) hb); have n2_ := Aside0.mk (Kd.R_below (by (with_reducible repeat (first | apply Kd.R_alloc | apply Kd.R_drewN | apply Kd.R_drew)); exact HO_13.out) hb); have n3_ := Aside0.mk (Kd.R_lower (Kd.R_newB (Kd.R_newM (M := fun k_ => (w.heap.size ≤ k_)) ho0 (below_size (by repeat (first | (with_reducible first | exact HB.out | apply below_alloc | apply pw_below_drewN | apply below_drew1 | refine below_set ?_ GE186.out) | exact HB.out))) (fun k_ h_ => h_)) (g := gb186) (o := .cells #[.int .i64 a1_0, .int .i64 a1_1, .int .u64 a1_2, .int .u64 a1_3, .bool a1_4, .bool a1_5, .bool a1_6, .bool a1_7, .bool a1_8, .bool a1_9, .bool a1_10] 26 (0, 0)) (by (with_reducible repeat (first | refine blk_drewN ?_ _ | refine blk_drew ?_ | refine blk_alloc ?_ _)); exact BK186.out)) (below_size (by repeat (first | (with_reducible first | exact HB.out | apply below_alloc | apply pw_below_drewN | apply below_drew1 | refine below_set ?_ GE186.out) | exact HB.out)))); have n4_ := Aside0.mk (bb7_ hb BK186.out); have n5_ := Aside0.mk (below_step (by repeat (first | (with_reducible first | exact HB.out | apply below_alloc | apply pw_below_drewN | apply below_drew1 | refine below_set ?_ GE186.out) | exact HB.out)) hb); clear HO_0; clear HO_10; clear HO_13; clear BK186; clear HB; have HO_0 := n0_; have HO_10 := n1_; have HO_13 := n2_; have HO202 := n3_; have BK186 := n4_; have HB := n5_; clear n0_ n1_ n2_ n3_ n4_ n5_; (try clear hb); (try clear hb2); (try clear hk); (try clear hi); (try clear ho0)))
                    go_ret3
                    exact ⟨_, by first | rfl | (simp [errW_none, errW_some] <;> rfl) | (simp [*, errW_none, errW_some] <;> rfl), Kd.V_mono (Kd.R_V (by (with_reducible repeat (first | apply Kd.R_alloc | apply Kd.R_drewN | apply Kd.R_drew)); exact Kd.R_mono HO202.out (fun _ hk => hk.1.1))) (fun k_ hk => by first | exact ⟨(.inr (hk.1)), hk.2⟩ | exact (.inr (hk))), by repeat (first | (with_reducible first | exact HB.out | apply below_alloc | apply pw_below_drewN | apply below_drew1 | refine below_set ?_ GE186.out) | exact HB.out)⟩
                · rw [if_neg c26] at H
                  exact absurd H (by simp)
              · rw [if_neg c25] at H
                have c25b0 : decide (x14_2 < (x10_1.length : Int)) = false := decide_eq_false c25
                clear c25
                by_cases c39 : (x13_2.length : Int) = 0
                · rw [if_pos c39] at H
                  have c39b0 : ((x13_2.length : Int) == 0) = true := beq_iff_eq.mpr c39
                  have c39b1 : ((x13_2.length : Int) != 0) = false := bne_eq_false_iff_eq.mpr c39
                  clear c39
                  simp only [Option.some.injEq, Prod.mk.injEq] at H
                  obtain ⟨rfl, rfl, rfl⟩ := H
                  obtain ⟨Ao40, co40, eo40⟩ := Kd.V_slice HO_10.out
                  subst eo40
                  obtain ⟨Ao41, co41, eo41⟩ := Kd.R_slice HO_13.out
                  subst eo41
                  go_wp2
                  go_ret3
                  exact ⟨_, by first | rfl | (simp [errW_none, errW_some] <;> rfl) | (simp [*, errW_none, errW_some] <;> rfl), by (with_reducible repeat (first | apply Kd.V_alloc | apply Kd.V_drewN | apply Kd.V_drew)); exact Kd.V_mono HO_0.out (fun _ hk => hk.1), by repeat (first | (with_reducible first | exact HB.out | apply below_alloc | apply pw_below_drewN | apply below_drew1 | refine below_set ?_ GE186.out) | exact HB.out)⟩
                · rw [if_neg c39] at H
                  have c39b0 : ((x13_2.length : Int) == 0) = false := beq_eq_false_iff_ne.mpr c39
                  have c39b1 : ((x13_2.length : Int) != 0) = true := bne_iff_ne.mpr c39
                  have c39b2 : ¬ (x13_2 = []) := fun h_ => c39 (by rw [h_]; rfl)
                  by_cases c42 : a2 < 0
                  · rw [if_pos c42] at H
                    have c42b0 : decide (a2 < 0) = true := decide_eq_true c42
                    clear c42
                    obtain ⟨ji43, hji43⟩ : ∃ j_ : Int, (Int.tmod (wrap64 (-(wrap64 (a2 + 1)))) (x13_2.length : Int)) = j_ := ⟨_, rfl⟩
                    replace H : (if 0 ≤ (ji43) then (if (ji43) < (x13_2.length : Int) then ((lookasideref06_with.f x10_1 (rd x13_2 (ji43)) a1_0 a1_1 a1_2 a1_3 a1_4 a1_5 a1_6 a1_7 a1_8 a1_9 a1_10).bind fun t204 => (some (t204, rd x13_2 (ji43), 0))) else (none)) else (none)) = some (r1, r2, r3) := by first | (rw [hji43] at H; exact H) | (simp only [hji43] at H ⊢; exact H)
                    by_cases c44 : 0 ≤ (ji43)
                    · rw [if_pos c44] at H
                      have c44b0 : decide (0 ≤ (ji43)) = true := decide_eq_true c44
                      clear c44
                      by_cases c45 : (ji43) < (x13_2.length : Int)
                      · rw [if_pos c45] at H
                        have c45b0 : decide ((ji43) < (x13_2.length : Int)) = true := decide_eq_true c45
                        clear c45
                        replace H := Option.bind_eq_some_iff.mp H
                        obtain ⟨t204, A460, H⟩ := H
                        replace H : (some (t204, rd x13_2 (ji43), 0)) = some (r1, r2, r3) := H
                        have A46 := Aside0.mk A460
                        clear A460
                        simp only [Option.some.injEq, Prod.mk.injEq] at H
                        obtain ⟨rfl, rfl, rfl⟩ := H
                        obtain ⟨Ao47, co47, eo47⟩ := Kd.V_slice HO_10.out
                        subst eo47
                        obtain ⟨Ao48, co48, eo48⟩ := Kd.R_slice HO_13.out
                        subst eo48
                        try go_wp2
                        have n0_ := Aside0.mk (Kd.V_drew HO_0.out)
                        have n1_ := Aside0.mk (Kd.V_drew HO_10.out)
                        have n2_ := Aside0.mk (Kd.R_drew HO_13.out)
                        have n3_ := Aside0.mk (blk_drew BK186.out)
                        have n4_ := Aside0.mk (below_drew1 HB.out)
                        clear HO_0
                        clear HO_10
                        clear HO_13
                        clear BK186
                        clear HB
                        have HO_0 := n0_
                        have HO_10 := n1_
                        have HO_13 := n2_
                        have BK186 := n3_
                        have HB := n4_
                        clear n0_ n1_ n2_ n3_ n4_
                        have p203 : 0 ≤ ((ji43) : Int) := of_decide_eq_true (by first | (with_reducible assumption) | assumption)
                        have q203 : (ji43) < (x13_2.length : Int) := of_decide_eq_true (by first | (with_reducible assumption) | assumption)
                        obtain ⟨ad203, e203, hx203_0⟩ := Kd.at_int (Kd.R_reads' HO_13.out).2.2 (ji43) p203 q203
                        cases e203
                        replace p203 := eq_true p203
                        replace q203 := eq_true q203
                        have p207 : 0 ≤ ((ji43) : Int) := of_decide_eq_true (by first | (with_reducible assumption) | assumption)
                        have q207 : (ji43) < (x13_2.length : Int) := of_decide_eq_true (by first | (with_reducible assumption) | assumption)
                        obtain ⟨ad207, e207, hx207_0⟩ := Kd.at_int (Kd.R_reads' HO_13.out).2.2 (ji43) p207 q207
                        obtain rfl : ad203 = ad207 := (by injection e207)
                        replace p207 := eq_true p207
                        replace q207 := eq_true q207
                        refine start_ (n := 14) (S := fun w' => w'.cell? ⟨gb186, 0, none⟩ = some (.int .i64 a1_0) ∧ w'.cell? ⟨gb186, 1, none⟩ = some (.int .i64 a1_1) ∧ w'.cell? ⟨gb186, 2, none⟩ = some (.int .u64 a1_2) ∧ w'.cell? ⟨gb186, 3, none⟩ = some (.int .u64 a1_3) ∧ w'.cell? ⟨gb186, 4, none⟩ = some (.bool a1_4) ∧ w'.cell? ⟨gb186, 5, none⟩ = some (.bool a1_5) ∧ w'.cell? ⟨gb186, 6, none⟩ = some (.bool a1_6) ∧ w'.cell? ⟨gb186, 7, none⟩ = some (.bool a1_7) ∧ w'.cell? ⟨gb186, 8, none⟩ = some (.bool a1_8) ∧ w'.cell? ⟨gb186, 9, none⟩ = some (.bool a1_9) ∧ w'.cell? ⟨gb186, 10, none⟩ = some (.bool a1_10) ∧ w'.cell? (ad203.add ((ji43)).toNat) = some (.int .i64 (rd x13_2 (ji43))) ∧ w'.cell? (ad203.add ((ji43)).toNat) = some (.int .i64 (rd x13_2 (ji43)))) (ds := []) #[false, false, false, false, false, false, false, false, false, false, false, false, false, false] (by kernel_rfl) rfl rfl ⟨(blk_cell BK186.out 0).trans rfl, (blk_cell BK186.out 1).trans rfl, (blk_cell BK186.out 2).trans rfl, (blk_cell BK186.out 3).trans rfl, (blk_cell BK186.out 4).trans rfl, (blk_cell BK186.out 5).trans rfl, (blk_cell BK186.out 6).trans rfl, (blk_cell BK186.out 7).trans rfl, (blk_cell BK186.out 8).trans rfl, (blk_cell BK186.out 9).trans rfl, (blk_cell BK186.out 10).trans rfl, hx203_0, hx207_0⟩ (fun hHeld => ?_); refine with_tabW lookasideref06_Insert.tab26 lookasideref06_Insert.bits26 (fun HT_ HW_ => ?_)
                        generalize wr.drew = w49 at HO_0 HO_10 HO_13 BK186 HB hx203_0 hx207_0 hHeld ⊢
                        refine pure_ (i := 0) (N := some 95) (v := ?_) (a' := ?_) #[true, false, false, false, false, false, false, false, false, false, false, false, false, false] rfl rfl (any_of HT_.out (by kernel_rfl)) (fun _ _ _ h => h) (Or.inl ⟨by rfl, ?_⟩) ?_ ?_
                        rotate_left
                        · intro w'
                          go_simp
                          with_reducible rfl
                        rotate_left
                        · simp only [Act.put, List.setIfInBounds_toArray, List.set_cons_zero, List.set_cons_succ, i64_w, i32_w]
                          rfl
                        refine pure_ (i := 1) (N := some 96) (v := ?_) (a' := ?_) #[true, true, false, false, false, false, false, false, false, false, false, false, false, false] rfl rfl (any_of HT_.out (by kernel_rfl)) (fun _ _ _ h => h) (Or.inl ⟨by rfl, ?_⟩) ?_ ?_
                        rotate_left
                        · intro w'
                          go_simp
                          with_reducible rfl
                        rotate_left
                        · simp only [Act.put, List.setIfInBounds_toArray, List.set_cons_zero, List.set_cons_succ, i64_w, i32_w]
                          rfl
                        refine pure_ (i := 2) (N := some 97) (v := ?_) (a' := ?_) #[true, true, true, false, false, false, false, false, false, false, false, false, false, false] rfl rfl (any_of HT_.out (by kernel_rfl)) (fun _ _ _ h => h) (Or.inl ⟨by rfl, ?_⟩) ?_ ?_
                        rotate_left
                        · intro w'
                          go_simp
                          with_reducible rfl
                        rotate_left
                        · simp only [Act.put, List.setIfInBounds_toArray, List.set_cons_zero, List.set_cons_succ, i64_w, i32_w]
                          rfl
                        refine pure_ (i := 3) (N := some 98) (v := ?_) (a' := ?_) #[true, true, true, true, false, false, false, false, false, false, false, false, false, false] rfl rfl (any_of HT_.out (by kernel_rfl)) (fun _ _ _ h => h) (Or.inl ⟨by rfl, ?_⟩) ?_ ?_
                        rotate_left
                        · intro w'
                          go_simp
                          with_reducible rfl
                        rotate_left
                        · simp only [Act.put, List.setIfInBounds_toArray, List.set_cons_zero, List.set_cons_succ, i64_w, i32_w]
                          rfl
                        refine pure_ (i := 7) (N := some 102) (v := ?_) (a' := ?_) #[true, true, true, true, false, false, false, true, false, false, false, false, false, false] rfl rfl (any_of HT_.out (by kernel_rfl)) (fun _ _ _ h => h) (Or.inl ⟨by rfl, ?_⟩) ?_ ?_
                        rotate_left
                        · intro w'
                          go_simp
                          with_reducible rfl
                        rotate_left
                        · simp only [Act.put, List.setIfInBounds_toArray, List.set_cons_zero, List.set_cons_succ, i64_w, i32_w]
                          rfl
                        refine pure_ (i := 8) (N := some 103) (v := ?_) (a' := ?_) #[true, true, true, true, false, false, false, true, true, false, false, false, false, false] rfl rfl (any_of HT_.out (by kernel_rfl)) (fun _ _ _ h => h) (Or.inl ⟨by rfl, ?_⟩) ?_ ?_
                        rotate_left
                        · intro w'
                          go_simp
                          with_reducible rfl
                        rotate_left
                        · simp only [Act.put, List.setIfInBounds_toArray, List.set_cons_zero, List.set_cons_succ, i64_w, i32_w]
                          rfl
                        refine pure_ (i := 9) (N := some 104) (v := ?_) (a' := ?_) #[true, true, true, true, false, false, false, true, true, true, false, false, false, false] rfl rfl (any_of HT_.out (by kernel_rfl)) (fun _ _ _ h => h) (Or.inl ⟨by rfl, ?_⟩) ?_ ?_
                        rotate_left
                        · intro w'
                          go_simp
                          with_reducible rfl
                        rotate_left
                        · simp only [Act.put, List.setIfInBounds_toArray, List.set_cons_zero, List.set_cons_succ, i64_w, i32_w]
                          rfl
                        refine take_ (i := 4) (N := some 99) (v := ?_) (a' := ?_) #[true, true, true, true, true, false, false, true, true, true, false, false, false, false] rfl rfl (take_ofW HT_.out HW_.out (by kernel_rfl)) (fun _ _ _ h => h) (Or.inl ⟨by rfl, ?_⟩) hHeld ?_ ?_
                        rotate_left
                        · rintro w' ⟨s0, s1, s2, s3, s4, s5, s6, s7, s8, s9, s10, s11, s12⟩
                          go_simp
                          with_reducible rfl
                        rotate_left
                        · simp only [Act.put, List.setIfInBounds_toArray, List.set_cons_zero, List.set_cons_succ, i64_w, i32_w]
                          rfl
                        refine take_ (i := 5) (N := some 100) (v := ?_) (a' := ?_) #[true, true, true, true, true, true, false, true, true, true, false, false, false, false] rfl rfl (take_ofW HT_.out HW_.out (by kernel_rfl)) (fun _ _ _ h => h) (Or.inl ⟨by rfl, ?_⟩) hHeld ?_ ?_
                        rotate_left
                        · rintro w' ⟨s0, s1, s2, s3, s4, s5, s6, s7, s8, s9, s10, s11, s12⟩
                          go_simp
                          with_reducible rfl
                        rotate_left
                        · simp only [Act.put, List.setIfInBounds_toArray, List.set_cons_zero, List.set_cons_succ, i64_w, i32_w]
                          rfl
                        refine take_ (i := 10) (N := some 105) (v := ?_) (a' := ?_) #[true, true, true, true, true, true, false, true, true, true, true, false, false, false] rfl rfl (take_ofW HT_.out HW_.out (by kernel_rfl)) (fun _ _ _ h => h) (Or.inl ⟨by rfl, ?_⟩) hHeld ?_ ?_
                        rotate_left
                        · rintro w' ⟨s0, s1, s2, s3, s4, s5, s6, s7, s8, s9, s10, s11, s12⟩
                          go_simp
                          with_reducible rfl
                        rotate_left
                        · simp only [Act.put, List.setIfInBounds_toArray, List.set_cons_zero, List.set_cons_succ, i64_w, i32_w]
                          rfl
                        refine one_ (i := 6) (N := some 101) #[true, true, true, true, true, true, true, true, true, true, true, false, false, false] rfl rfl (one_of HT_.out (by kernel_rfl)) (by decide) (fun K hK => ?_)
                        refine goes_ Try.func93 (by kernel_rfl) rfl #[.slice Ao47 x10_1.length co47, .int .i64 (rd x13_2 (ji43)), .agg #[.int .i64 a1_0, .int .i64 a1_1, .int .u64 a1_2, .int .u64 a1_3, .bool a1_4, .bool a1_5, .bool a1_6, .bool a1_7, .bool a1_8, .bool a1_9, .bool a1_10]] (by rfl) rfl rfl (by (try simp only [List.map_toArray, List.map_cons, List.map_nil]); first | done | (simp only [hji43]; rfl) | rfl | (simp only [List.length_drop, List.length_take]; rfl)) ?_
                        with_reducible refine (lookasideref06_with.calls _ _ x10_1 (rd x13_2 (ji43)) a1_0 a1_1 a1_2 a1_3 a1_4 a1_5 a1_6 a1_7 a1_8 a1_9 a1_10 t204 _ ?side1 ?side2 A46.out).mono ?_
                        (case side1 => repeat (first | exact (Kd.V_reads' HO_10.out).2.2 | (with_reducible refine Kd.C_alloc ?_ _) | (with_reducible refine Kd.C_drewN ?_ _) | (with_reducible refine Kd.C_drew ?_)))
                        (case side2 => exact (Kd.V_reads' HO_10.out).2.1)
                        rintro e w50 ⟨v205, rfl, ho0, hb⟩
                        have HS11_ := (hb.cell (World.block_lt_of_cell? _ _ (hHeld.2.2.2.2.2.2.2.2.2.2.2.1))).trans (hHeld.2.2.2.2.2.2.2.2.2.2.2.1)
                        have HS12_ := (hb.cell (World.block_lt_of_cell? _ _ (hHeld.2.2.2.2.2.2.2.2.2.2.2.2))).trans (hHeld.2.2.2.2.2.2.2.2.2.2.2.2)
                        refine ⟨_, rfl, ?_⟩
                        have n0_ := Aside0.mk (Kd.V_elder' (by (with_reducible repeat (first | apply Kd.V_alloc | apply Kd.V_drewN | apply Kd.V_drew)); exact HO_0.out) (Kd.R_base ho0) hb)
                        have n1_ := Aside0.mk (Kd.V_elder' (by (with_reducible repeat (first | apply Kd.V_alloc | apply Kd.V_drewN | apply Kd.V_drew)); exact HO_10.out) (Kd.R_base ho0) hb)
                        have n2_ := Aside0.mk (Kd.R_below (by (with_reducible repeat (first | apply Kd.R_alloc | apply Kd.R_drewN | apply Kd.R_drew)); exact HO_13.out) hb)
                        have n3_ := Aside0.mk (Kd.R_lower (Kd.R_newB (Kd.R_newM (M := fun k_ => (w.heap.size ≤ k_)) ho0 (below_size (by repeat (first | (with_reducible first | exact HB.out | apply below_alloc | apply pw_below_drewN | apply below_drew1 | refine below_set ?_ GE186.out) | exact HB.out))) (fun k_ h_ => h_)) (g := gb186) (o := .cells #[.int .i64 a1_0, .int .i64 a1_1, .int .u64 a1_2, .int .u64 a1_3, .bool a1_4, .bool a1_5, .bool a1_6, .bool a1_7, .bool a1_8, .bool a1_9, .bool a1_10] 26 (0, 0)) (by (with_reducible repeat (first | refine blk_drewN ?_ _ | refine blk_drew ?_ | refine blk_alloc ?_ _)); exact BK186.out)) (below_size (by repeat (first | (with_reducible first | exact HB.out | apply below_alloc | apply pw_below_drewN | apply below_drew1 | refine below_set ?_ GE186.out) | exact HB.out))))
                        have n4_ := Aside0.mk (bb7_ hb BK186.out)
                        have n5_ := Aside0.mk (below_step (by repeat (first | (with_reducible first | exact HB.out | apply below_alloc | apply pw_below_drewN | apply below_drew1 | refine below_set ?_ GE186.out) | exact HB.out)) hb)
                        clear HO_0
                        clear HO_10
                        clear HO_13
                        clear BK186
                        clear HB
                        have HO_0 := n0_
                        have HO_10 := n1_
                        have HO_13 := n2_
                        have HO206 := n3_
                        have BK186 := n4_
                        have HB := n5_
                        clear n0_ n1_ n2_ n3_ n4_ n5_
                        (try clear hb)
                        (try clear hb2)
                        (try clear hk)
                        (try clear hi)
                        (try clear ho0)
                        refine hK.out _ _ ⟨(blk_cell BK186.out 0).trans rfl, (blk_cell BK186.out 1).trans rfl, (blk_cell BK186.out 2).trans rfl, (blk_cell BK186.out 3).trans rfl, (blk_cell BK186.out 4).trans rfl, (blk_cell BK186.out 5).trans rfl, (blk_cell BK186.out 6).trans rfl, (blk_cell BK186.out 7).trans rfl, (blk_cell BK186.out 8).trans rfl, (blk_cell BK186.out 9).trans rfl, (blk_cell BK186.out 10).trans rfl, HS11_, HS12_⟩ (fun hHeld => ?_)
                        clear hK K
                        refine norm_ (a' := ?_) ?_ ?_
                        rotate_left
                        · show Act.put _ (some 101) _ = _
                          simp only [Act.put, List.setIfInBounds_toArray, List.set_cons_zero, List.set_cons_succ, i64_w, i32_w]
                          rfl
                        refine pure_ (i := 11) (N := some 6) (v := ?_) (a' := ?_) #[true, true, true, true, true, true, true, true, true, true, true, true, false, false] rfl rfl (any_of HT_.out (by kernel_rfl)) (fun _ _ _ h => h) (Or.inl ⟨by rfl, ?_⟩) ?_ ?_
                        rotate_left
                        · intro w'
                          go_simp
                          with_reducible rfl
                        rotate_left
                        · simp only [Act.put, List.setIfInBounds_toArray, List.set_cons_zero, List.set_cons_succ, i64_w, i32_w]
                          rfl
                        refine pure_ (i := 12) (N := some 7) (v := ?_) (a' := ?_) #[true, true, true, true, true, true, true, true, true, true, true, true, true, false] rfl rfl (any_of HT_.out (by kernel_rfl)) (fun _ _ _ h => h) (Or.inl ⟨by rfl, ?_⟩) ?_ ?_
                        rotate_left
                        · intro w'
                          go_simp
                          with_reducible rfl
                        rotate_left
                        · simp only [Act.put, List.setIfInBounds_toArray, List.set_cons_zero, List.set_cons_succ, i64_w, i32_w]
                          rfl
                        refine pure_ (i := 13) (N := some 8) (v := ?_) (a' := ?_) #[true, true, true, true, true, true, true, true, true, true, true, true, true, true] rfl rfl (any_of HT_.out (by kernel_rfl)) (fun _ _ _ h => h) (Or.inl ⟨by rfl, ?_⟩) ?_ ?_
                        rotate_left
                        · intro w'
                          go_simp
                          with_reducible rfl
                        rotate_left
                        · simp only [Act.put, List.setIfInBounds_toArray, List.set_cons_zero, List.set_cons_succ, i64_w, i32_w]
                          rfl
                        refine done_ (done_of HT_.out (by kernel_rfl)) ?_
                        try go_wp2
                        go_ret3
                        exact ⟨_, by first | rfl | (simp [errW_none, errW_some] <;> rfl) | (simp only [← hji43]; first | rfl | (simp [errW_none, errW_some] <;> rfl)) | (simp [*, errW_none, errW_some] <;> rfl), Kd.V_mono (Kd.R_V (by (with_reducible repeat (first | apply Kd.R_alloc | apply Kd.R_drewN | apply Kd.R_drew)); exact Kd.R_mono HO206.out (fun _ hk => hk.1.1))) (fun k_ hk => by first | exact ⟨(.inr (hk.1)), hk.2⟩ | exact (.inr (hk))), by repeat (first | (with_reducible first | exact HB.out | apply below_alloc | apply pw_below_drewN | apply below_drew1 | refine below_set ?_ GE186.out) | exact HB.out)⟩
                      · rw [if_neg c45] at H
                        exact absurd H (by simp)
                    · rw [if_neg c44] at H
                      exact absurd H (by simp)
                  · rw [if_neg c42] at H
                    have c42b0 : decide (a2 < 0) = false := decide_eq_false c42
                    clear c42
                    obtain ⟨ji51, hji51⟩ : ∃ j_ : Int, (Int.tmod a2 (x13_2.length : Int)) = j_ := ⟨_, rfl⟩
                    replace H : (if 0 ≤ (ji51) then (if (ji51) < (x13_2.length : Int) then ((lookasideref06_with.f x10_1 (rd x13_2 (ji51)) a1_0 a1_1 a1_2 a1_3 a1_4 a1_5 a1_6 a1_7 a1_8 a1_9 a1_10).bind fun t209 => (some (t209, rd x13_2 (ji51), 0))) else (none)) else (none)) = some (r1, r2, r3) := by first | (rw [hji51] at H; exact H) | (simp only [hji51] at H ⊢; exact H)
                    by_cases c52 : 0 ≤ (ji51)
                    · rw [if_pos c52] at H
                      have c52b0 : decide (0 ≤ (ji51)) = true := decide_eq_true c52
                      clear c52
                      by_cases c53 : (ji51) < (x13_2.length : Int)
                      · rw [if_pos c53] at H
                        have c53b0 : decide ((ji51) < (x13_2.length : Int)) = true := decide_eq_true c53
                        clear c53
                        replace H := Option.bind_eq_some_iff.mp H
                        obtain ⟨t209, A540, H⟩ := H
                        replace H : (some (t209, rd x13_2 (ji51), 0)) = some (r1, r2, r3) := H
                        have A54 := Aside0.mk A540
                        clear A540
                        simp only [Option.some.injEq, Prod.mk.injEq] at H
                        obtain ⟨rfl, rfl, rfl⟩ := H
                        obtain ⟨Ao55, co55, eo55⟩ := Kd.V_slice HO_10.out
                        subst eo55
                        obtain ⟨Ao56, co56, eo56⟩ := Kd.R_slice HO_13.out
                        subst eo56
                        try go_wp2
                        have n0_ := Aside0.mk (Kd.V_drew HO_0.out)
                        have n1_ := Aside0.mk (Kd.V_drew HO_10.out)
                        have n2_ := Aside0.mk (Kd.R_drew HO_13.out)
                        have n3_ := Aside0.mk (blk_drew BK186.out)
                        have n4_ := Aside0.mk (below_drew1 HB.out)
                        clear HO_0
                        clear HO_10
                        clear HO_13
                        clear BK186
                        clear HB
                        have HO_0 := n0_
                        have HO_10 := n1_
                        have HO_13 := n2_
                        have BK186 := n3_
                        have HB := n4_
                        clear n0_ n1_ n2_ n3_ n4_
                        have p208 : 0 ≤ ((ji51) : Int) := of_decide_eq_true (by first | (with_reducible assumption) | assumption)
                        have q208 : (ji51) < (x13_2.length : Int) := of_decide_eq_true (by first | (with_reducible assumption) | assumption)
                        obtain ⟨ad208, e208, hx208_0⟩ := Kd.at_int (Kd.R_reads' HO_13.out).2.2 (ji51) p208 q208
                        cases e208
                        replace p208 := eq_true p208
                        replace q208 := eq_true q208
                        have p212 : 0 ≤ ((ji51) : Int) := of_decide_eq_true (by first | (with_reducible assumption) | assumption)
                        have q212 : (ji51) < (x13_2.length : Int) := of_decide_eq_true (by first | (with_reducible assumption) | assumption)
                        obtain ⟨ad212, e212, hx212_0⟩ := Kd.at_int (Kd.R_reads' HO_13.out).2.2 (ji51) p212 q212
                        obtain rfl : ad208 = ad212 := (by injection e212)
                        replace p212 := eq_true p212
                        replace q212 := eq_true q212
                        refine start_ (n := 14) (S := fun w' => w'.cell? ⟨gb186, 0, none⟩ = some (.int .i64 a1_0) ∧ w'.cell? ⟨gb186, 1, none⟩ = some (.int .i64 a1_1) ∧ w'.cell? ⟨gb186, 2, none⟩ = some (.int .u64 a1_2) ∧ w'.cell? ⟨gb186, 3, none⟩ = some (.int .u64 a1_3) ∧ w'.cell? ⟨gb186, 4, none⟩ = some (.bool a1_4) ∧ w'.cell? ⟨gb186, 5, none⟩ = some (.bool a1_5) ∧ w'.cell? ⟨gb186, 6, none⟩ = some (.bool a1_6) ∧ w'.cell? ⟨gb186, 7, none⟩ = some (.bool a1_7) ∧ w'.cell? ⟨gb186, 8, none⟩ = some (.bool a1_8) ∧ w'.cell? ⟨gb186, 9, none⟩ = some (.bool a1_9) ∧ w'.cell? ⟨gb186, 10, none⟩ = some (.bool a1_10) ∧ w'.cell? (ad208.add ((ji51)).toNat) = some (.int .i64 (rd x13_2 (ji51))) ∧ w'.cell? (ad208.add ((ji51)).toNat) = some (.int .i64 (rd x13_2 (ji51)))) (ds := []) #[false, false, false, false, false, false, false, false, false, false, false, false, false, false] (by kernel_rfl) rfl rfl ⟨(blk_cell BK186.out 0).trans rfl, (blk_cell BK186.out 1).trans rfl, (blk_cell BK186.out 2).trans rfl, (blk_cell BK186.out 3).trans rfl, (blk_cell BK186.out 4).trans rfl, (blk_cell BK186.out 5).trans rfl, (blk_cell BK186.out 6).trans rfl, (blk_cell BK186.out 7).trans rfl, (blk_cell BK186.out 8).trans rfl, (blk_cell BK186.out 9).trans rfl, (blk_cell BK186.out 10).trans rfl, hx208_0, hx212_0⟩ (fun hHeld => ?_); refine with_tabW lookasideref06_Insert.tab26 lookasideref06_Insert.bits26 (fun HT_ HW_ => ?_)
                        generalize wr.drew = w57 at HO_0 HO_10 HO_13 BK186 HB hx208_0 hx212_0 hHeld ⊢
                        refine pure_ (i := 0) (N := some 95) (v := ?_) (a' := ?_) #[true, false, false, false, false, false, false, false, false, false, false, false, false, false] rfl rfl (any_of HT_.out (by kernel_rfl)) (fun _ _ _ h => h) (Or.inl ⟨by rfl, ?_⟩) ?_ ?_
                        rotate_left
                        · intro w'
                          go_simp
                          with_reducible rfl
                        rotate_left
                        · simp only [Act.put, List.setIfInBounds_toArray, List.set_cons_zero, List.set_cons_succ, i64_w, i32_w]
                          rfl
                        refine pure_ (i := 1) (N := some 96) (v := ?_) (a' := ?_) #[true, true, false, false, false, false, false, false, false, false, false, false, false, false] rfl rfl (any_of HT_.out (by kernel_rfl)) (fun _ _ _ h => h) (Or.inl ⟨by rfl, ?_⟩) ?_ ?_
                        rotate_left
                        · intro w'
                          go_simp
                          with_reducible rfl
                        rotate_left
                        · simp only [Act.put, List.setIfInBounds_toArray, List.set_cons_zero, List.set_cons_succ, i64_w, i32_w]
                          rfl
                        refine pure_ (i := 2) (N := some 97) (v := ?_) (a' := ?_) #[true, true, true, false, false, false, false, false, false, false, false, false, false, false] rfl rfl (any_of HT_.out (by kernel_rfl)) (fun _ _ _ h => h) (Or.inl ⟨by rfl, ?_⟩) ?_ ?_
                        rotate_left
                        · intro w'
                          go_simp
                          with_reducible rfl
                        rotate_left
                        · simp only [Act.put, List.setIfInBounds_toArray, List.set_cons_zero, List.set_cons_succ, i64_w, i32_w]
                          rfl
                        refine pure_ (i := 3) (N := some 98) (v := ?_) (a' := ?_) #[true, true, true, true, false, false, false, false, false, false, false, false, false, false] rfl rfl (any_of HT_.out (by kernel_rfl)) (fun _ _ _ h => h) (Or.inl ⟨by rfl, ?_⟩) ?_ ?_
                        rotate_left
                        · intro w'
                          go_simp
                          with_reducible rfl
                        rotate_left
                        · simp only [Act.put, List.setIfInBounds_toArray, List.set_cons_zero, List.set_cons_succ, i64_w, i32_w]
                          rfl
                        refine pure_ (i := 7) (N := some 102) (v := ?_) (a' := ?_) #[true, true, true, true, false, false, false, true, false, false, false, false, false, false] rfl rfl (any_of HT_.out (by kernel_rfl)) (fun _ _ _ h => h) (Or.inl ⟨by rfl, ?_⟩) ?_ ?_
                        rotate_left
                        · intro w'
                          go_simp
                          with_reducible rfl
                        rotate_left
                        · simp only [Act.put, List.setIfInBounds_toArray, List.set_cons_zero, List.set_cons_succ, i64_w, i32_w]
                          rfl
                        refine pure_ (i := 8) (N := some 103) (v := ?_) (a' := ?_) #[true, true, true, true, false, false, false, true, true, false, false, false, false, false] rfl rfl (any_of HT_.out (by kernel_rfl)) (fun _ _ _ h => h) (Or.inl ⟨by rfl, ?_⟩) ?_ ?_
                        rotate_left
                        · intro w'
                          go_simp
                          with_reducible rfl
                        rotate_left
                        · simp only [Act.put, List.setIfInBounds_toArray, List.set_cons_zero, List.set_cons_succ, i64_w, i32_w]
                          rfl
                        refine pure_ (i := 9) (N := some 104) (v := ?_) (a' := ?_) #[true, true, true, true, false, false, false, true, true, true, false, false, false, false] rfl rfl (any_of HT_.out (by kernel_rfl)) (fun _ _ _ h => h) (Or.inl ⟨by rfl, ?_⟩) ?_ ?_
                        rotate_left
                        · intro w'
                          go_simp
                          with_reducible rfl
                        rotate_left
                        · simp only [Act.put, List.setIfInBounds_toArray, List.set_cons_zero, List.set_cons_succ, i64_w, i32_w]
                          rfl
                        refine take_ (i := 4) (N := some 99) (v := ?_) (a' := ?_) #[true, true, true, true, true, false, false, true, true, true, false, false, false, false] rfl rfl (take_ofW HT_.out HW_.out (by kernel_rfl)) (fun _ _ _ h => h) (Or.inl ⟨by rfl, ?_⟩) hHeld ?_ ?_
                        rotate_left
                        · rintro w' ⟨s0, s1, s2, s3, s4, s5, s6, s7, s8, s9, s10, s11, s12⟩
                          go_simp
                          with_reducible rfl
                        rotate_left
                        · simp only [Act.put, List.setIfInBounds_toArray, List.set_cons_zero, List.set_cons_succ, i64_w, i32_w]
                          rfl
                        refine take_ (i := 5) (N := some 100) (v := ?_) (a' := ?_) #[true, true, true, true, true, true, false, true, true, true, false, false, false, false] rfl rfl (take_ofW HT_.out HW_.out (by kernel_rfl)) (fun _ _ _ h => h) (Or.inl ⟨by rfl, ?_⟩) hHeld ?_ ?_
                        rotate_left
                        · rintro w' ⟨s0, s1, s2, s3, s4, s5, s6, s7, s8, s9, s10, s11, s12⟩
                          go_simp
                          with_reducible rfl
                        rotate_left
                        · simp only [Act.put, List.setIfInBounds_toArray, List.set_cons_zero, List.set_cons_succ, i64_w, i32_w]
                          rfl
                        refine take_ (i := 10) (N := some 105) (v := ?_) (a' := ?_) #[true, true, true, true, true, true, false, true, true, true, true, false, false, false] rfl rfl (take_ofW HT_.out HW_.out (by kernel_rfl)) (fun _ _ _ h => h) (Or.inl ⟨by rfl, ?_⟩) hHeld ?_ ?_
                        rotate_left
                        · rintro w' ⟨s0, s1, s2, s3, s4, s5, s6, s7, s8, s9, s10, s11, s12⟩
                          go_simp
                          with_reducible rfl
                        rotate_left
                        · simp only [Act.put, List.setIfInBounds_toArray, List.set_cons_zero, List.set_cons_succ, i64_w, i32_w]
                          rfl
                        refine one_ (i := 6) (N := some 101) #[true, true, true, true, true, true, true, true, true, true, true, false, false, false] rfl rfl (one_of HT_.out (by kernel_rfl)) (by decide) (fun K hK => ?_)
                        refine goes_ Try.func93 (by kernel_rfl) rfl #[.slice Ao55 x10_1.length co55, .int .i64 (rd x13_2 (ji51)), .agg #[.int .i64 a1_0, .int .i64 a1_1, .int .u64 a1_2, .int .u64 a1_3, .bool a1_4, .bool a1_5, .bool a1_6, .bool a1_7, .bool a1_8, .bool a1_9, .bool a1_10]] (by rfl) rfl rfl (by (try simp only [List.map_toArray, List.map_cons, List.map_nil]); first | done | (simp only [hji51]; rfl) | rfl | (simp only [List.length_drop, List.length_take]; rfl)) ?_
                        with_reducible refine (lookasideref06_with.calls _ _ x10_1 (rd x13_2 (ji51)) a1_0 a1_1 a1_2 a1_3 a1_4 a1_5 a1_6 a1_7 a1_8 a1_9 a1_10 t209 _ ?side1 ?side2 A54.out).mono ?_
                        (case side1 => repeat (first | exact (Kd.V_reads' HO_10.out).2.2 | (with_reducible refine Kd.C_alloc ?_ _) | (with_reducible refine Kd.C_drewN ?_ _) | (with_reducible refine Kd.C_drew ?_)))
                        (case side2 => exact (Kd.V_reads' HO_10.out).2.1)
                        rintro e w58 ⟨v210, rfl, ho0, hb⟩
                        have HS11_ := (hb.cell (World.block_lt_of_cell? _ _ (hHeld.2.2.2.2.2.2.2.2.2.2.2.1))).trans (hHeld.2.2.2.2.2.2.2.2.2.2.2.1)
                        have HS12_ := (hb.cell (World.block_lt_of_cell? _ _ (hHeld.2.2.2.2.2.2.2.2.2.2.2.2))).trans (hHeld.2.2.2.2.2.2.2.2.2.2.2.2)
                        refine ⟨_, rfl, ?_⟩
                        have n0_ := Aside0.mk (Kd.V_elder' (by (with_reducible repeat (first | apply Kd.V_alloc | apply Kd.V_drewN | apply Kd.V_drew)); exact HO_0.out) (Kd.R_base ho0) hb)
                        have n1_ := Aside0.mk (Kd.V_elder' (by (with_reducible repeat (first | apply Kd.V_alloc | apply Kd.V_drewN | apply Kd.V_drew)); exact HO_10.out) (Kd.R_base ho0) hb)
                        have n2_ := Aside0.mk (Kd.R_below (by (with_reducible repeat (first | apply Kd.R_alloc | apply Kd.R_drewN | apply Kd.R_drew)); exact HO_13.out) hb)
                        have n3_ := Aside0.mk (Kd.R_lower (Kd.R_newB (Kd.R_newM (M := fun k_ => (w.heap.size ≤ k_)) ho0 (below_size (by repeat (first | (with_reducible first | exact HB.out | apply below_alloc | apply pw_below_drewN | apply below_drew1 | refine below_set ?_ GE186.out) | exact HB.out))) (fun k_ h_ => h_)) (g := gb186) (o := .cells #[.int .i64 a1_0, .int .i64 a1_1, .int .u64 a1_2, .int .u64 a1_3, .bool a1_4, .bool a1_5, .bool a1_6, .bool a1_7, .bool a1_8, .bool a1_9, .bool a1_10] 26 (0, 0)) (by (with_reducible repeat (first | refine blk_drewN ?_ _ | refine blk_drew ?_ | refine blk_alloc ?_ _)); exact BK186.out)) (below_size (by repeat (first | (with_reducible first | exact HB.out | apply below_alloc | apply pw_below_drewN | apply below_drew1 | refine below_set ?_ GE186.out) | exact HB.out))))
                        have n4_ := Aside0.mk (bb7_ hb BK186.out)
                        have n5_ := Aside0.mk (below_step (by repeat (first | (with_reducible first | exact HB.out | apply below_alloc | apply pw_below_drewN | apply below_drew1 | refine below_set ?_ GE186.out) | exact HB.out)) hb)
                        clear HO_0
                        clear HO_10
                        clear HO_13
                        clear BK186
                        clear HB
                        have HO_0 := n0_
                        have HO_10 := n1_
                        have HO_13 := n2_
                        have HO211 := n3_
                        have BK186 := n4_
                        have HB := n5_
                        clear n0_ n1_ n2_ n3_ n4_ n5_
                        (try clear hb)
                        (try clear hb2)
                        (try clear hk)
                        (try clear hi)
                        (try clear ho0)
                        refine hK.out _ _ ⟨(blk_cell BK186.out 0).trans rfl, (blk_cell BK186.out 1).trans rfl, (blk_cell BK186.out 2).trans rfl, (blk_cell BK186.out 3).trans rfl, (blk_cell BK186.out 4).trans rfl, (blk_cell BK186.out 5).trans rfl, (blk_cell BK186.out 6).trans rfl, (blk_cell BK186.out 7).trans rfl, (blk_cell BK186.out 8).trans rfl, (blk_cell BK186.out 9).trans rfl, (blk_cell BK186.out 10).trans rfl, HS11_, HS12_⟩ (fun hHeld => ?_)
                        clear hK K
                        refine norm_ (a' := ?_) ?_ ?_
                        rotate_left
                        · show Act.put _ (some 101) _ = _
                          simp only [Act.put, List.setIfInBounds_toArray, List.set_cons_zero, List.set_cons_succ, i64_w, i32_w]
                          rfl
                        refine pure_ (i := 11) (N := some 6) (v := ?_) (a' := ?_) #[true, true, true, true, true, true, true, true, true, true, true, true, false, false] rfl rfl (any_of HT_.out (by kernel_rfl)) (fun _ _ _ h => h) (Or.inl ⟨by rfl, ?_⟩) ?_ ?_
                        rotate_left
                        · intro w'
                          go_simp
                          with_reducible rfl
                        rotate_left
                        · simp only [Act.put, List.setIfInBounds_toArray, List.set_cons_zero, List.set_cons_succ, i64_w, i32_w]
                          rfl
                        refine pure_ (i := 12) (N := some 7) (v := ?_) (a' := ?_) #[true, true, true, true, true, true, true, true, true, true, true, true, true, false] rfl rfl (any_of HT_.out (by kernel_rfl)) (fun _ _ _ h => h) (Or.inl ⟨by rfl, ?_⟩) ?_ ?_
                        rotate_left
                        · intro w'
                          go_simp
                          with_reducible rfl
                        rotate_left
                        · simp only [Act.put, List.setIfInBounds_toArray, List.set_cons_zero, List.set_cons_succ, i64_w, i32_w]
                          rfl
                        refine pure_ (i := 13) (N := some 8) (v := ?_) (a' := ?_) #[true, true, true, true, true, true, true, true, true, true, true, true, true, true] rfl rfl (any_of HT_.out (by kernel_rfl)) (fun _ _ _ h => h) (Or.inl ⟨by rfl, ?_⟩) ?_ ?_
                        rotate_left
                        · intro w'
                          go_simp
                          with_reducible rfl
                        rotate_left
                        · simp only [Act.put, List.setIfInBounds_toArray, List.set_cons_zero, List.set_cons_succ, i64_w, i32_w]
                          rfl
                        refine done_ (done_of HT_.out (by kernel_rfl)) ?_
                        try go_wp2
                        go_ret3
                        exact ⟨_, by first | rfl | (simp [errW_none, errW_some] <;> rfl) | (simp only [← hji51]; first | rfl | (simp [errW_none, errW_some] <;> rfl)) | (simp [*, errW_none, errW_some] <;> rfl), Kd.V_mono (Kd.R_V (by (with_reducible repeat (first | apply Kd.R_alloc | apply Kd.R_drewN | apply Kd.R_drew)); exact Kd.R_mono HO211.out (fun _ hk => hk.1.1))) (fun k_ hk => by first | exact ⟨(.inr (hk.1)), hk.2⟩ | exact (.inr (hk))), by repeat (first | (with_reducible first | exact HB.out | apply below_alloc | apply pw_below_drewN | apply below_drew1 | refine below_set ?_ GE186.out) | exact HB.out)⟩
                      · rw [if_neg c53] at H
                        exact absurd H (by simp)
                    · rw [if_neg c52] at H
                      exact absurd H (by simp)
  · replace c5 := Bool.eq_false_iff.mpr c5
    subst c5
    have H1 : (some (l0, 0, 1)) = some (r1, r2, r3) := by rw [if_neg (show ¬ (false = true) by decide)] at H; exact H
    clear H
    have H := H1
    clear H1
    simp only [Option.some.injEq, Prod.mk.injEq] at H
    obtain ⟨rfl, rfl, rfl⟩ := H
    go_enter Try.func64, Try.ntmps64
    go_wp2_with (first | ((with_reducible refine gate_dst (N := 4) rfl ?_); refine box_event ?hg (N := 4) ?hd (cs := #[.int .i64 a1_0, .int .i64 a1_1, .int .u64 a1_2, .int .u64 a1_3, .bool a1_4, .bool a1_5, .bool a1_6, .bool a1_7, .bool a1_8, .bool a1_9, .bool a1_10]) (t := 26) ?hr ?_; (case hd => rfl); (case hg => rfl); (case hr => first | (go_simp; done) | (go_simp; rfl)); intro gb186 hg w59 hbox hb; have n0_ := Aside0.mk (Kd.V_below (Kd.V_elderB (by (with_reducible repeat (first | apply Kd.V_alloc | apply Kd.V_drewN | apply Kd.V_drew)); exact HO0.out) gb186 (Nat.le_of_eq hg.symm)) hb); have n1_ := Aside0.mk (below_step (by repeat (first | (with_reducible first | exact HB.out | apply below_alloc | apply pw_below_drewN | apply below_drew1) | exact HB.out)) hb); have n2_ := Aside0.mk (hbox); have n3_ := Aside0.mk ((by rw [hg]; exact (below_size (by repeat (first | (with_reducible first | exact HB.out | apply below_alloc | apply pw_below_drewN | apply below_drew1) | exact HB.out))) : w.heap.size ≤ gb186)); have n4_ := Aside0.mk ((by rw [hg]; exact (below_size (by repeat (first | (with_reducible first | exact HB.out | apply below_alloc | apply pw_below_drewN | apply below_drew1) | exact HB.out))) : w.heap.size ≤ gb186)); clear HO0; clear HB; have HO0 := n0_; have HB := n1_; have BK186 := n2_; have GW186 := n3_; have GE186 := n4_; clear n0_ n1_ n2_ n3_ n4_; clear hb hbox hg; obtain ⟨hcz60_0, hcz60_1, hcz60_2, hcz60_3, hcz60_4, hcz60_5, hcz60_6, hcz60_7, hcz60_8, hcz60_9, hcz60_10⟩ := cy11_7 BK186.out; have hfz60_0 := blk_frozen BK186.out 0; have hfz60_1 := blk_frozen BK186.out 1; have hfz60_2 := blk_frozen BK186.out 2; have hfz60_3 := blk_frozen BK186.out 3; have hfz60_4 := blk_frozen BK186.out 4; have hfz60_5 := blk_frozen BK186.out 5; have hfz60_6 := blk_frozen BK186.out 6; have hfz60_7 := blk_frozen BK186.out 7; have hfz60_8 := blk_frozen BK186.out 8; have hfz60_9 := blk_frozen BK186.out 9; have hfz60_10 := blk_frozen BK186.out 10) | ((with_reducible refine gate_callee (f := 92) rfl ?_); refine goesL_ (some 17) rfl rfl Try.func92 (by kernel_rfl) rfl #[.agg #[.int .i64 a1_0, .int .i64 a1_1, .int .u64 a1_2, .int .u64 a1_3, .bool a1_4, .bool a1_5, .bool a1_6, .bool a1_7, .bool a1_8, .bool a1_9, .bool a1_10]] rfl (by (try simp only [List.map_toArray, List.map_cons, List.map_nil]); first | done | rfl | (simp only [List.length_drop, List.length_take]; rfl)) ?_; (with_reducible refine (lookasideref03_May.calls k a1_0 a1_1 a1_2 a1_3 a1_4 a1_5 a1_6 a1_7 a1_8 a1_9 a1_10 false _ A4.out).mono ?_); rintro e w61 ⟨rfl, hb⟩; refine ⟨_, rfl, ?_⟩; have n0_ := Aside0.mk (Kd.V_below (by (with_reducible repeat (first | apply Kd.V_alloc | apply Kd.V_drewN | apply Kd.V_drew)); exact HO0.out) hb); have n1_ := Aside0.mk (bb7_ hb BK186.out); have n2_ := Aside0.mk (below_step (by repeat (first | (with_reducible first | exact HB.out | apply below_alloc | apply pw_below_drewN | apply below_drew1 | refine below_set ?_ GE186.out) | exact HB.out)) hb); clear HO0; clear BK186; clear HB; have HO0 := n0_; have BK186 := n1_; have HB := n2_; clear n0_ n1_ n2_; (try clear hb); (try clear hb2); (try clear hk); (try clear hi)))
    go_ret3
    exact ⟨_, by first | rfl | (simp [errW_none, errW_some] <;> rfl) | (simp [*, errW_none, errW_some] <;> rfl), by (with_reducible repeat (first | apply Kd.V_alloc | apply Kd.V_drewN | apply Kd.V_drew)); exact Kd.V_mono HO0.out (fun _ hk => hk.1), by repeat (first | (with_reducible first | exact HB.out | apply below_alloc | apply pw_below_drewN | apply below_drew1 | refine below_set ?_ GE186.out) | exact HB.out)⟩

end Go.Proofs.Ythclbckkfgmbaaa.QTlbPlays
