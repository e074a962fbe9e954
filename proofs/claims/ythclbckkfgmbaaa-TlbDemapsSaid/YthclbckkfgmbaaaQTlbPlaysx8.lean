-- Printed by a program of this session (wip/print/myprint.py) out of the translation; Lean checks it.
import Derived.Test.YthclbckkfgmbaaaQTlbPlaysx0
import Derived.Test.YthclbckkfgmbaaaQTlbPlaysx5
import Derived.Test.YthclbckkfgmbaaaQTlbPlaysx6
namespace Go.Proofs.Ythclbckkfgmbaaa.QTlbPlays
open Go.RowKit Go.Proofs.YthclbckkfgmbaaaW.PrintWords Go.Proofs.YthclbckkfgmbaaaW.PrintLast Go.Proofs.YthclbckkfgmbaaaW.PrintMore
attribute [local go_sem] max2_int min2_int max_two min_two max_three min_three max_four min_four   -- for this text's walks alone
set_option linter.unusedVariables false
set_option linter.unusedSimpArgs false
theorem cy11_8 {W : World} {g : Nat} {t : TypeId} {a0 a1 a2 a3 a4 a5 a6 a7 a8 a9 a10 : Value} {l : List Value} (h : W.heap[g]? = some (.cells (Array.mk (a0 :: a1 :: a2 :: a3 :: a4 :: a5 :: a6 :: a7 :: a8 :: a9 :: a10 :: l)) t (0, 0))) : W.cell? ⟨g, 0, none⟩ = some a0 ∧ W.cell? ⟨g, 1, none⟩ = some a1 ∧ W.cell? ⟨g, 2, none⟩ = some a2 ∧ W.cell? ⟨g, 3, none⟩ = some a3 ∧ W.cell? ⟨g, 4, none⟩ = some a4 ∧ W.cell? ⟨g, 5, none⟩ = some a5 ∧ W.cell? ⟨g, 6, none⟩ = some a6 ∧ W.cell? ⟨g, 7, none⟩ = some a7 ∧ W.cell? ⟨g, 8, none⟩ = some a8 ∧ W.cell? ⟨g, 9, none⟩ = some a9 ∧ W.cell? ⟨g, 10, none⟩ = some a10 := ⟨(blk_cell h 0).trans rfl, (blk_cell h 1).trans rfl, (blk_cell h 2).trans rfl, (blk_cell h 3).trans rfl, (blk_cell h 4).trans rfl, (blk_cell h 5).trans rfl, (blk_cell h 6).trans rfl, (blk_cell h 7).trans rfl, (blk_cell h 8).trans rfl, (blk_cell h 9).trans rfl, (blk_cell h 10).trans rfl⟩
theorem bb8_ {w2 w' : World} {g : Nat} {o : Obj} (hb : Below w2.heap.size w2 w') (h : w2.heap[g]? = some o) : w'.heap[g]? = some o := blk_below h hb

/-! ### lookasideref06_Put: function 65 -/
mutual
def lookasideref06_Put.j0 : Nat → List (S26) → Int → Bool → Int → Int → Int → Int → Bool → Bool → Bool → Bool → Bool → Bool → Bool → Option ((List (S26)) × Int)
  | 0, _, _, _, _, _, _, _, _, _, _, _, _, _, _ => none
  | k + 1, x0, x1, x23, x214000, x214001, x214002, x214003, x214004, x214005, x214006, x214007, x214008, x214009, x214010 => if x23 = true then (some (x0, 5)) else (lookasideref06_Put.l0 k x0 x1 0 x214000 x214001 x214002 x214003 x214004 x214005 x214006 x214007 x214008 x214009 x214010)
def lookasideref06_Put.l0 : Nat → List (S26) → Int → Int → Int → Int → Int → Int → Bool → Bool → Bool → Bool → Bool → Bool → Bool → Option ((List (S26)) × Int)
  | 0, _, _, _, _, _, _, _, _, _, _, _, _, _, _ => none
  | k + 1, x0, x1, x9, x214000, x214001, x214002, x214003, x214004, x214005, x214006, x214007, x214008, x214009, x214010 => if x9 < (x0.length : Int) then (if 0 ≤ x9 then ((lookasideref06_Parts.f k x214000 x214001 x214002 x214003 x214004 x214005 x214006 x214007 x214008 x214009 x214010 ((rd_T26 x0 x9).f0) ((rd_T26 x0 x9).f1) ((rd_T26 x0 x9).f2) ((rd_T26 x0 x9).f3) ((rd_T26 x0 x9).f4.f0) ((rd_T26 x0 x9).f4.f1) ((rd_T26 x0 x9).f4.f2) ((rd_T26 x0 x9).f4.f3) ((rd_T26 x0 x9).f4.f4) ((rd_T26 x0 x9).f4.f5) ((rd_T26 x0 x9).f5)).bind fun t216 => (if x9 = x1 then (lookasideref06_Put.l0 k x0 x1 (wrap64 (x9 + 1)) x214000 x214001 x214002 x214003 x214004 x214005 x214006 x214007 x214008 x214009 x214010) else (if (rd_T26 x0 x9).f5 = true then (if t216 = true then (lookasideref06_Put.l0 k x0 x1 (wrap64 (x9 + 1)) x214000 x214001 x214002 x214003 x214004 x214005 x214006 x214007 x214008 x214009 x214010) else (some (x0, 9))) else (lookasideref06_Put.l0 k x0 x1 (wrap64 (x9 + 1)) x214000 x214001 x214002 x214003 x214004 x214005 x214006 x214007 x214008 x214009 x214010)))) else (none)) else ((lookasideref06_with.f x0 x1 x214000 x214001 x214002 x214003 x214004 x214005 x214006 x214007 x214008 x214009 x214010).bind fun t218 => (some (t218, 0)))
end
def lookasideref06_Put.f (k : Nat) (l0 : List (S26)) (a1 : Int) (a2_0 : Int) (a2_1 : Int) (a2_2 : Int) (a2_3 : Int) (a2_4 : Bool) (a2_5 : Bool) (a2_6 : Bool) (a2_7 : Bool) (a2_8 : Bool) (a2_9 : Bool) (a2_10 : Bool) : Option ((List (S26)) × Int) := (lookasideref03_May.f k a2_0 a2_1 a2_2 a2_3 a2_4 a2_5 a2_6 a2_7 a2_8 a2_9 a2_10).bind fun t214 => (if t214 = true then (if a1 < 0 then (lookasideref06_Put.j0 k l0 a1 true a2_0 a2_1 a2_2 a2_3 a2_4 a2_5 a2_6 a2_7 a2_8 a2_9 a2_10) else (lookasideref06_Put.j0 k l0 a1 (decide (a1 ≥ (l0.length : Int))) a2_0 a2_1 a2_2 a2_3 a2_4 a2_5 a2_6 a2_7 a2_8 a2_9 a2_10)) else (some (l0, 1)))
theorem lookasideref06_Put.mono_l : ∀ k, (∀ y0 y1 y2 y3 y4 y5 y6 y7 y8 y9 y10 y11 y12 y13, LeO (lookasideref06_Put.j0 k y0 y1 y2 y3 y4 y5 y6 y7 y8 y9 y10 y11 y12 y13) (lookasideref06_Put.j0 (k + 1) y0 y1 y2 y3 y4 y5 y6 y7 y8 y9 y10 y11 y12 y13)) ∧ (∀ y0 y1 y2 y3 y4 y5 y6 y7 y8 y9 y10 y11 y12 y13, LeO (lookasideref06_Put.l0 k y0 y1 y2 y3 y4 y5 y6 y7 y8 y9 y10 y11 y12 y13) (lookasideref06_Put.l0 (k + 1) y0 y1 y2 y3 y4 y5 y6 y7 y8 y9 y10 y11 y12 y13))
  | 0 => ⟨fun _ _ _ _ _ _ _ _ _ _ _ _ _ _ r h => by simp [lookasideref06_Put.j0] at h, fun _ _ _ _ _ _ _ _ _ _ _ _ _ _ r h => by simp [lookasideref06_Put.l0] at h⟩
  | k + 1 => by
    obtain ⟨ih0, ih1⟩ := lookasideref06_Put.mono_l k
    refine ⟨?_, ?_⟩
    · intro y0 y1 y2 y3 y4 y5 y6 y7 y8 y9 y10 y11 y12 y13
      unfold lookasideref06_Put.j0
      repeat' first
      | (with_reducible exact ih0 _ _ _ _ _ _ _ _ _ _ _ _ _ _)
      | (with_reducible exact ih1 _ _ _ _ _ _ _ _ _ _ _ _ _ _)
      | (with_reducible exact lookasideref03_May.mono _ _ _ _ _ _ _ _ _ _ _ _)
      | (with_reducible exact lookasideref06_Parts.mono _ _ _ _ _ _ _ _ _ _ _ _ _ _ _ _ _ _ _ _ _ _ _)
      | (with_reducible exact LeO.refl _)
      | (with_reducible exact LeO.none _)
      | (with_reducible refine LeO.ite ?_ ?_)
      | (with_reducible refine LeO.bind ?_ (fun _ => ?_))
      | exact ih0 _ _ _ _ _ _ _ _ _ _ _ _ _ _
      | exact ih1 _ _ _ _ _ _ _ _ _ _ _ _ _ _
      | exact lookasideref03_May.mono _ _ _ _ _ _ _ _ _ _ _ _
      | exact lookasideref06_Parts.mono _ _ _ _ _ _ _ _ _ _ _ _ _ _ _ _ _ _ _ _ _ _ _
      | exact LeO.none _
      | refine LeO.ite ?_ ?_
      | refine LeO.bind ?_ (fun _ => ?_)
    · intro y0 y1 y2 y3 y4 y5 y6 y7 y8 y9 y10 y11 y12 y13
      unfold lookasideref06_Put.l0
      repeat' first
      | (with_reducible exact ih0 _ _ _ _ _ _ _ _ _ _ _ _ _ _)
      | (with_reducible exact ih1 _ _ _ _ _ _ _ _ _ _ _ _ _ _)
      | (with_reducible exact lookasideref03_May.mono _ _ _ _ _ _ _ _ _ _ _ _)
      | (with_reducible exact lookasideref06_Parts.mono _ _ _ _ _ _ _ _ _ _ _ _ _ _ _ _ _ _ _ _ _ _ _)
      | (with_reducible exact LeO.refl _)
      | (with_reducible exact LeO.none _)
      | (with_reducible refine LeO.ite ?_ ?_)
      | (with_reducible refine LeO.bind ?_ (fun _ => ?_))
      | exact ih0 _ _ _ _ _ _ _ _ _ _ _ _ _ _
      | exact ih1 _ _ _ _ _ _ _ _ _ _ _ _ _ _
      | exact lookasideref03_May.mono _ _ _ _ _ _ _ _ _ _ _ _
      | exact lookasideref06_Parts.mono _ _ _ _ _ _ _ _ _ _ _ _ _ _ _ _ _ _ _ _ _ _ _
      | exact LeO.none _
      | refine LeO.ite ?_ ?_
      | refine LeO.bind ?_ (fun _ => ?_)
theorem lookasideref06_Put.mono : ∀ a0 a1 a2 a3 a4 a5 a6 a7 a8 a9 a10 a11 a12 k, LeO (lookasideref06_Put.f k a0 a1 a2 a3 a4 a5 a6 a7 a8 a9 a10 a11 a12) (lookasideref06_Put.f (k + 1) a0 a1 a2 a3 a4 a5 a6 a7 a8 a9 a10 a11 a12) := by
  intro a0 a1 a2 a3 a4 a5 a6 a7 a8 a9 a10 a11 a12 k
  obtain ⟨ih0, ih1⟩ := lookasideref06_Put.mono_l k
  unfold lookasideref06_Put.f
  repeat' first
      | (with_reducible exact ih0 _ _ _ _ _ _ _ _ _ _ _ _ _ _)
      | (with_reducible exact ih1 _ _ _ _ _ _ _ _ _ _ _ _ _ _)
      | (with_reducible exact lookasideref03_May.mono _ _ _ _ _ _ _ _ _ _ _ _)
      | (with_reducible exact lookasideref06_Parts.mono _ _ _ _ _ _ _ _ _ _ _ _ _ _ _ _ _ _ _ _ _ _ _)
      | (with_reducible exact LeO.refl _)
      | (with_reducible exact LeO.none _)
      | (with_reducible refine LeO.ite ?_ ?_)
      | (with_reducible refine LeO.bind ?_ (fun _ => ?_))
      | exact ih0 _ _ _ _ _ _ _ _ _ _ _ _ _ _
      | exact ih1 _ _ _ _ _ _ _ _ _ _ _ _ _ _
      | exact lookasideref03_May.mono _ _ _ _ _ _ _ _ _ _ _ _
      | exact lookasideref06_Parts.mono _ _ _ _ _ _ _ _ _ _ _ _ _ _ _ _ _ _ _ _ _ _ _
      | exact LeO.none _
      | refine LeO.ite ?_ ?_
      | refine LeO.bind ?_ (fun _ => ?_)
set_option maxHeartbeats 8000000 in
set_option maxRecDepth 100000 in
theorem lookasideref06_Put.calls (k : Nat) (P0_ : Nat → Prop) (A0 : Option Addr) (c0 : Nat) (l0 : List (S26)) (a1 : Int) (a2_0 : Int) (a2_1 : Int) (a2_2 : Int) (a2_3 : Int) (a2_4 : Bool) (a2_5 : Bool) (a2_6 : Bool) (a2_7 : Bool) (a2_8 : Bool) (a2_9 : Bool) (a2_10 : Bool) (r1 : List (S26)) (r2 : Int) (w : World) (hs0 : Kd.V k26 26 w w.heap.size (fun k_ => P0_ k_) (.slice A0 l0.length c0) l0) (h : lookasideref06_Put.f k l0 a1 a2_0 a2_1 a2_2 a2_3 a2_4 a2_5 a2_6 a2_7 a2_8 a2_9 a2_10 = some (r1, r2)) :
    Calls Try.prog 65 #[.slice A0 l0.length c0, .int .i64 a1, .agg #[.int .i64 a2_0, .int .i64 a2_1, .int .u64 a2_2, .int .u64 a2_3, .bool a2_4, .bool a2_5, .bool a2_6, .bool a2_7, .bool a2_8, .bool a2_9, .bool a2_10]] w fun e w' => ∃ v0_ : Value, e = .returned (.tuple #[v0_, .int .i64 r2]) ∧ Kd.V k26 26 w' w.heap.size (fun k_ => (P0_ k_ ∨ w.heap.size ≤ k_)) v0_ r1 ∧ Below w.heap.size w w' := by
  have hu26 := Try.underlying26
  have HO0 := Aside0.mk (show Kd.V k26 26 w w.heap.size (fun k_ => (P0_ k_ ∨ w.heap.size ≤ k_)) (.slice A0 l0.length c0) l0 from Kd.V_mono hs0 (fun k_ hk => .inl hk))
  have HB := Aside0.mk (Below.refl w.heap.size w)
  have H : ((lookasideref03_May.f k a2_0 a2_1 a2_2 a2_3 a2_4 a2_5 a2_6 a2_7 a2_8 a2_9 a2_10).bind fun t214 => (if t214 = true then (if a1 < 0 then (lookasideref06_Put.j0 k l0 a1 true a2_0 a2_1 a2_2 a2_3 a2_4 a2_5 a2_6 a2_7 a2_8 a2_9 a2_10) else (lookasideref06_Put.j0 k l0 a1 (decide (a1 ≥ (l0.length : Int))) a2_0 a2_1 a2_2 a2_3 a2_4 a2_5 a2_6 a2_7 a2_8 a2_9 a2_10)) else (some (l0, 1)))) = some (r1, r2) := h
  clear h
  replace H := Option.bind_eq_some_iff.mp H
  obtain ⟨t214, A40, H⟩ := H
  replace H : (if t214 = true then (if a1 < 0 then (lookasideref06_Put.j0 k l0 a1 true a2_0 a2_1 a2_2 a2_3 a2_4 a2_5 a2_6 a2_7 a2_8 a2_9 a2_10) else (lookasideref06_Put.j0 k l0 a1 (decide (a1 ≥ (l0.length : Int))) a2_0 a2_1 a2_2 a2_3 a2_4 a2_5 a2_6 a2_7 a2_8 a2_9 a2_10)) else (some (l0, 1))) = some (r1, r2) := H
  have A4 := Aside0.mk A40
  clear A40
  by_cases c5 : t214 = true
  · subst c5
    have H1 : (if a1 < 0 then (lookasideref06_Put.j0 k l0 a1 true a2_0 a2_1 a2_2 a2_3 a2_4 a2_5 a2_6 a2_7 a2_8 a2_9 a2_10) else (lookasideref06_Put.j0 k l0 a1 (decide (a1 ≥ (l0.length : Int))) a2_0 a2_1 a2_2 a2_3 a2_4 a2_5 a2_6 a2_7 a2_8 a2_9 a2_10)) = some (r1, r2) := by rw [if_pos rfl] at H; exact H
    clear H
    have H := H1
    clear H1
    have HC6 := Aside0.mk H
    clear H
    go_enter Try.func65, Try.ntmps65
    go_upto_region 4 with (first | ((with_reducible refine gate_dst (N := 5) rfl ?_); (try (refine gate_guard (by rfl) ?_; dsimp only)); refine box_event ?hg (N := 5) ?hd (cs := #[.int .i64 a2_0, .int .i64 a2_1, .int .u64 a2_2, .int .u64 a2_3, .bool a2_4, .bool a2_5, .bool a2_6, .bool a2_7, .bool a2_8, .bool a2_9, .bool a2_10]) (t := 26) ?hr ?_; (case hd => rfl); (case hg => rfl); (case hr => first | (go_simp; done) | (go_simp; rfl)); intro gb213 hg w7 hbox hb; have n0_ := Aside0.mk (Kd.V_below (Kd.V_elderB (by (with_reducible repeat (first | apply Kd.V_alloc | apply Kd.V_drewN | apply Kd.V_drew)); exact HO0.out) gb213 (Nat.le_of_eq hg.symm)) hb); have n1_ := Aside0.mk (below_step (by repeat (first | (with_reducible first | exact HB.out | apply below_alloc | apply pw_below_drewN | apply below_drew1) | exact HB.out)) hb); have n2_ := Aside0.mk (hbox); have n3_ := Aside0.mk ((by rw [hg]; exact (below_size (by repeat (first | (with_reducible first | exact HB.out | apply below_alloc | apply pw_below_drewN | apply below_drew1) | exact HB.out))) : w.heap.size ≤ gb213)); have n4_ := Aside0.mk ((by rw [hg]; exact (below_size (by repeat (first | (with_reducible first | exact HB.out | apply below_alloc | apply pw_below_drewN | apply below_drew1) | exact HB.out))) : w.heap.size ≤ gb213)); clear HO0; clear HB; have HO0 := n0_; have HB := n1_; have BK213 := n2_; have GW213 := n3_; have GE213 := n4_; clear n0_ n1_ n2_ n3_ n4_; clear hb hbox hg; obtain ⟨hcz8_0, hcz8_1, hcz8_2, hcz8_3, hcz8_4, hcz8_5, hcz8_6, hcz8_7, hcz8_8, hcz8_9, hcz8_10⟩ := cy11_8 BK213.out; have hfz8_0 := blk_frozen BK213.out 0; have hfz8_1 := blk_frozen BK213.out 1; have hfz8_2 := blk_frozen BK213.out 2; have hfz8_3 := blk_frozen BK213.out 3; have hfz8_4 := blk_frozen BK213.out 4; have hfz8_5 := blk_frozen BK213.out 5; have hfz8_6 := blk_frozen BK213.out 6; have hfz8_7 := blk_frozen BK213.out 7; have hfz8_8 := blk_frozen BK213.out 8; have hfz8_9 := blk_frozen BK213.out 9; have hfz8_10 := blk_frozen BK213.out 10) | ((with_reducible refine gate_callee (f := 92) rfl ?_); refine goesL_ (some 12) rfl rfl Try.func92 (by kernel_rfl) rfl #[.agg #[.int .i64 a2_0, .int .i64 a2_1, .int .u64 a2_2, .int .u64 a2_3, .bool a2_4, .bool a2_5, .bool a2_6, .bool a2_7, .bool a2_8, .bool a2_9, .bool a2_10]] rfl (by (try simp only [List.map_toArray, List.map_cons, List.map_nil]); first | done | rfl | (simp only [List.length_drop, List.length_take]; rfl)) ?_; (with_reducible refine (lookasideref03_May.calls k a2_0 a2_1 a2_2 a2_3 a2_4 a2_5 a2_6 a2_7 a2_8 a2_9 a2_10 true _ A4.out).mono ?_); rintro e w9 ⟨rfl, hb⟩; refine ⟨_, rfl, ?_⟩; have n0_ := Aside0.mk (Kd.V_below (by (with_reducible repeat (first | apply Kd.V_alloc | apply Kd.V_drewN | apply Kd.V_drew)); exact HO0.out) hb); have n1_ := Aside0.mk (bb8_ hb BK213.out); have n2_ := Aside0.mk (below_step (by repeat (first | (with_reducible first | exact HB.out | apply below_alloc | apply pw_below_drewN | apply below_drew1 | refine below_set ?_ GE213.out) | exact HB.out)) hb); clear HO0; clear BK213; clear HB; have HO0 := n0_; have BK213 := n1_; have HB := n2_; clear n0_ n1_ n2_; (try clear hb); (try clear hb2); (try clear hk); (try clear hi)))
    (try simp only [Act.put, List.setIfInBounds_toArray, List.set_cons_zero, List.set_cons_succ])
    go_cut [23] (fun v23 wc => ∃ (kq : Nat) (x23_5 : Bool), v23 = .bool x23_5 ∧ Aside0 (lookasideref06_Put.j0 kq l0 a1 x23_5 a2_0 a2_1 a2_2 a2_3 a2_4 a2_5 a2_6 a2_7 a2_8 a2_9 a2_10 = some (r1, r2)) ∧ Aside0 (kq ≤ k) ∧ Aside0 (Kd.V k26 26 wc w.heap.size (fun k_ => (P0_ k_ ∨ w.heap.size ≤ k_) ∧ k_ ≠ gb213) (.slice A0 l0.length c0) l0) ∧ Aside0 (wc.heap[gb213]? = some (.cells #[.int .i64 a2_0, .int .i64 a2_1, .int .u64 a2_2, .int .u64 a2_3, .bool a2_4, .bool a2_5, .bool a2_6, .bool a2_7, .bool a2_8, .bool a2_9, .bool a2_10] 26 (0, 0))) ∧ Aside0 (Below w.heap.size w wc))
    case first =>
      have H := HC6.out
      clear HC6
      by_cases c10 : a1 < 0
      · rw [if_pos c10] at H
        have c10b0 : decide (a1 < 0) = true := decide_eq_true c10
        clear c10
        (first | rw [c10b0] | (simp only [i64_w, i32_w]; rw [c10b0]) | skip)
        have H' := Aside0.mk H
        clear H
        go_wp2
        go_meet
        case rel => exact ⟨_, (true), (by first | rfl | (simp; done) | (simp [*]; done)), H', ⟨by first | omega | exact Nat.le_refl _⟩, ⟨by (with_reducible repeat (first | apply Kd.V_alloc | apply Kd.V_drewN | apply Kd.V_drew)); exact HO0.out⟩, ⟨by (with_reducible repeat (first | refine blk_drewN ?_ _ | refine blk_drew ?_ | refine blk_alloc ?_ _)); exact BK213.out⟩, ⟨by repeat (first | (with_reducible first | exact HB.out | apply below_alloc | apply pw_below_drewN | apply below_drew1 | refine below_set ?_ GE213.out) | exact HB.out)⟩⟩
      · rw [if_neg c10] at H
        have c10b0 : decide (a1 < 0) = false := decide_eq_false c10
        clear c10
        (first | rw [c10b0] | (simp only [i64_w, i32_w]; rw [c10b0]) | skip)
        have H' := Aside0.mk H
        clear H
        go_wp2
        go_meet
        case rel => exact ⟨_, (decide (a1 ≥ (l0.length : Int))), (by first | rfl | (simp; done) | (simp [*]; done)), H', ⟨by first | omega | exact Nat.le_refl _⟩, ⟨by (with_reducible repeat (first | apply Kd.V_alloc | apply Kd.V_drewN | apply Kd.V_drew)); exact HO0.out⟩, ⟨by (with_reducible repeat (first | refine blk_drewN ?_ _ | refine blk_drew ?_ | refine blk_alloc ?_ _)); exact BK213.out⟩, ⟨by repeat (first | (with_reducible first | exact HB.out | apply below_alloc | apply pw_below_drewN | apply below_drew1 | refine below_set ?_ GE213.out) | exact HB.out)⟩⟩
    case rest =>
      clear HC6
      try clear c1
      try clear p2
      try clear c5
      try clear c6
      try clear c9
      try clear c10
      try clear c10b0
      try clear hcz8_0
      try clear hcz8_1
      try clear hcz8_10
      try clear hcz8_2
      try clear hcz8_3
      try clear hcz8_4
      try clear hcz8_5
      try clear hcz8_6
      try clear hcz8_7
      try clear hcz8_8
      try clear hcz8_9
      try clear hfz8_0
      try clear hfz8_1
      try clear hfz8_10
      try clear hfz8_2
      try clear hfz8_3
      try clear hfz8_4
      try clear hfz8_5
      try clear hfz8_6
      try clear hfz8_7
      try clear hfz8_8
      try clear hfz8_9
      obtain ⟨kq, x23_5, rfl, HA, HJ5, HO_0, BK213, HB⟩ := hcut
      cases kq with
      | zero => exact absurd HA.out (by simp [lookasideref06_Put.j0])
      | succ kj5 =>
        have H := HA.out
        clear HA
        simp only [lookasideref06_Put.j0] at H
        by_cases c11 : x23_5 = true
        · subst c11
          have H1 : (some (l0, 5)) = some (r1, r2) := by rw [if_pos rfl] at H; exact H
          clear H
          have H := H1
          clear H1
          simp only [Option.some.injEq, Prod.mk.injEq] at H
          obtain ⟨rfl, rfl⟩ := H
          go_wp2
          go_ret2
          exact ⟨_, by first | rfl | (simp [errW_none, errW_some] <;> rfl) | (simp [*, errW_none, errW_some] <;> rfl), by (with_reducible repeat (first | apply Kd.V_alloc | apply Kd.V_drewN | apply Kd.V_drew)); exact Kd.V_mono HO_0.out (fun _ hk => hk.1), by repeat (first | (with_reducible first | exact HB.out | apply below_alloc | apply pw_below_drewN | apply below_drew1 | refine below_set ?_ GE213.out) | exact HB.out)⟩
        · replace c11 := Bool.eq_false_iff.mpr c11
          subst c11
          have H1 : (lookasideref06_Put.l0 kj5 l0 a1 0 a2_0 a2_1 a2_2 a2_3 a2_4 a2_5 a2_6 a2_7 a2_8 a2_9 a2_10) = some (r1, r2) := by rw [if_neg (show ¬ (false = true) by decide)] at H; exact H
          clear H
          have H := H1
          clear H1
          have H' := Aside0.mk H
          clear H
          go_wp2
          go_loopg [9] kj5 (fun kq v9 w' => ∃ (x9_2 : Int), v9 = .int .i64 x9_2 ∧ Aside0 (lookasideref06_Put.l0 kq l0 a1 x9_2 a2_0 a2_1 a2_2 a2_3 a2_4 a2_5 a2_6 a2_7 a2_8 a2_9 a2_10 = some (r1, r2)) ∧ Aside0 (kq ≤ kj5) ∧ Aside0 (Kd.V k26 26 w' w.heap.size (fun k_ => (P0_ k_ ∨ w.heap.size ≤ k_) ∧ k_ ≠ gb213) (.slice A0 l0.length c0) l0) ∧ Aside0 (w'.heap[gb213]? = some (.cells #[.int .i64 a2_0, .int .i64 a2_1, .int .u64 a2_2, .int .u64 a2_3, .bool a2_4, .bool a2_5, .bool a2_6, .bool a2_7, .bool a2_8, .bool a2_9, .bool a2_10] 26 (0, 0))) ∧ Aside0 (Below w.heap.size w w'))
          case atStart => exact ⟨(0), (by first | rfl | (simp; done) | (simp [*]; done)), H', ⟨Nat.le_refl _⟩, ⟨by (with_reducible repeat (first | apply Kd.V_alloc | apply Kd.V_drewN | apply Kd.V_drew)); exact HO_0.out⟩, ⟨by (with_reducible repeat (first | refine blk_drewN ?_ _ | refine blk_drew ?_ | refine blk_alloc ?_ _)); exact BK213.out⟩, ⟨by repeat (first | (with_reducible first | exact HB.out | apply below_alloc | apply pw_below_drewN | apply below_drew1 | refine below_set ?_ GE213.out) | exact HB.out)⟩⟩
          case round =>
            clear H'
            try clear c1
            try clear p2
            try clear c5
            try clear c6
            try clear c9
            try clear c10
            try clear c10b0
            try clear c11
            try clear hcz8_0
            try clear hcz8_1
            try clear hcz8_10
            try clear hcz8_2
            try clear hcz8_3
            try clear hcz8_4
            try clear hcz8_5
            try clear hcz8_6
            try clear hcz8_7
            try clear hcz8_8
            try clear hcz8_9
            try clear hfz8_0
            try clear hfz8_1
            try clear hfz8_10
            try clear hfz8_2
            try clear hfz8_3
            try clear hfz8_4
            try clear hfz8_5
            try clear hfz8_6
            try clear hfz8_7
            try clear hfz8_8
            try clear hfz8_9
            try clear p2
            obtain ⟨x9_2, rfl, HA, HK2, HO_0, BK213, HB⟩ := hrel
            cases gk with
            | zero => exact absurd HA.out (by simp [lookasideref06_Put.l0])
            | succ k2 =>
              have H := HA.out
              clear HA
              simp only [lookasideref06_Put.l0] at H
              by_cases c12 : x9_2 < (l0.length : Int)
              · rw [if_pos c12] at H
                have c12b0 : decide (x9_2 < (l0.length : Int)) = true := decide_eq_true c12
                clear c12
                by_cases c13 : 0 ≤ x9_2
                · rw [if_pos c13] at H
                  have c13b0 : decide (0 ≤ x9_2) = true := decide_eq_true c13
                  clear c13
                  replace H := Option.bind_eq_some_iff.mp H
                  obtain ⟨t216, A140, H⟩ := H
                  replace H : (if x9_2 = a1 then (lookasideref06_Put.l0 k2 l0 a1 (wrap64 (x9_2 + 1)) a2_0 a2_1 a2_2 a2_3 a2_4 a2_5 a2_6 a2_7 a2_8 a2_9 a2_10) else (if (rd_T26 l0 x9_2).f5 = true then (if t216 = true then (lookasideref06_Put.l0 k2 l0 a1 (wrap64 (x9_2 + 1)) a2_0 a2_1 a2_2 a2_3 a2_4 a2_5 a2_6 a2_7 a2_8 a2_9 a2_10) else (some (l0, 9))) else (lookasideref06_Put.l0 k2 l0 a1 (wrap64 (x9_2 + 1)) a2_0 a2_1 a2_2 a2_3 a2_4 a2_5 a2_6 a2_7 a2_8 a2_9 a2_10))) = some (r1, r2) := H
                  have A14 := Aside0.mk A140
                  clear A140
                  by_cases c15 : x9_2 = a1
                  · rw [if_pos c15] at H
                    have c15b0 : (x9_2 == a1) = true := beq_iff_eq.mpr c15
                    have c15b1 : (x9_2 != a1) = false := bne_eq_false_iff_eq.mpr c15
                    clear c15
                    have H' := Aside0.mk H
                    clear H
                    try go_wp2
                    have n0_ := Aside0.mk (Kd.V_drew HO_0.out)
                    have n1_ := Aside0.mk (blk_drew BK213.out)
                    have n2_ := Aside0.mk (below_drew1 HB.out)
                    clear HO_0
                    clear BK213
                    clear HB
                    have HO_0 := n0_
                    have BK213 := n1_
                    have HB := n2_
                    clear n0_ n1_ n2_
                    have p215 : 0 ≤ (x9_2 : Int) := of_decide_eq_true (by first | (with_reducible assumption) | assumption)
                    have q215 : x9_2 < (l0.length : Int) := of_decide_eq_true (by first | (with_reducible assumption) | assumption)
                    obtain ⟨ad215, e215, hx215_0, hx215_1, hx215_2, hx215_3, hx215_4, hx215_5, hx215_6, hx215_7, hx215_8, hx215_9, hx215_10⟩ := at_T26 (Kd.V_reads' HO_0.out).2.2 x9_2 p215 q215
                    cases e215
                    replace p215 := eq_true p215
                    replace q215 := eq_true q215
                    refine start_ (n := 7) (S := fun w' => w'.cell? ⟨gb213, 0, none⟩ = some (.int .i64 a2_0) ∧ w'.cell? ⟨gb213, 1, none⟩ = some (.int .i64 a2_1) ∧ w'.cell? ⟨gb213, 2, none⟩ = some (.int .u64 a2_2) ∧ w'.cell? ⟨gb213, 3, none⟩ = some (.int .u64 a2_3) ∧ w'.cell? ⟨gb213, 4, none⟩ = some (.bool a2_4) ∧ w'.cell? ⟨gb213, 5, none⟩ = some (.bool a2_5) ∧ w'.cell? ⟨gb213, 6, none⟩ = some (.bool a2_6) ∧ w'.cell? ⟨gb213, 7, none⟩ = some (.bool a2_7) ∧ w'.cell? ⟨gb213, 8, none⟩ = some (.bool a2_8) ∧ w'.cell? ⟨gb213, 9, none⟩ = some (.bool a2_9) ∧ w'.cell? ⟨gb213, 10, none⟩ = some (.bool a2_10) ∧ w'.cell? (ad215.add ((x9_2).toNat * 11)) = some (.int .i64 ((rd_T26 l0 x9_2).f0)) ∧ w'.cell? ⟨(ad215.add ((x9_2).toNat * 11)).block, (ad215.add ((x9_2).toNat * 11)).off + 1, none⟩ = some (.int .i64 ((rd_T26 l0 x9_2).f1)) ∧ w'.cell? ⟨(ad215.add ((x9_2).toNat * 11)).block, (ad215.add ((x9_2).toNat * 11)).off + 2, none⟩ = some (.int .u64 ((rd_T26 l0 x9_2).f2)) ∧ w'.cell? ⟨(ad215.add ((x9_2).toNat * 11)).block, (ad215.add ((x9_2).toNat * 11)).off + 3, none⟩ = some (.int .u64 ((rd_T26 l0 x9_2).f3)) ∧ w'.cell? ⟨(ad215.add ((x9_2).toNat * 11)).block, (ad215.add ((x9_2).toNat * 11)).off + 4, none⟩ = some (.bool ((rd_T26 l0 x9_2).f4.f0)) ∧ w'.cell? ⟨(ad215.add ((x9_2).toNat * 11)).block, (ad215.add ((x9_2).toNat * 11)).off + 5, none⟩ = some (.bool ((rd_T26 l0 x9_2).f4.f1)) ∧ w'.cell? ⟨(ad215.add ((x9_2).toNat * 11)).block, (ad215.add ((x9_2).toNat * 11)).off + 6, none⟩ = some (.bool ((rd_T26 l0 x9_2).f4.f2)) ∧ w'.cell? ⟨(ad215.add ((x9_2).toNat * 11)).block, (ad215.add ((x9_2).toNat * 11)).off + 7, none⟩ = some (.bool ((rd_T26 l0 x9_2).f4.f3)) ∧ w'.cell? ⟨(ad215.add ((x9_2).toNat * 11)).block, (ad215.add ((x9_2).toNat * 11)).off + 8, none⟩ = some (.bool ((rd_T26 l0 x9_2).f4.f4)) ∧ w'.cell? ⟨(ad215.add ((x9_2).toNat * 11)).block, (ad215.add ((x9_2).toNat * 11)).off + 9, none⟩ = some (.bool ((rd_T26 l0 x9_2).f4.f5)) ∧ w'.cell? ⟨(ad215.add ((x9_2).toNat * 11)).block, (ad215.add ((x9_2).toNat * 11)).off + 10, none⟩ = some (.bool ((rd_T26 l0 x9_2).f5))) (ds := []) #[false, false, false, false, false, false, false] (by kernel_rfl) rfl rfl ⟨(blk_cell BK213.out 0).trans rfl, (blk_cell BK213.out 1).trans rfl, (blk_cell BK213.out 2).trans rfl, (blk_cell BK213.out 3).trans rfl, (blk_cell BK213.out 4).trans rfl, (blk_cell BK213.out 5).trans rfl, (blk_cell BK213.out 6).trans rfl, (blk_cell BK213.out 7).trans rfl, (blk_cell BK213.out 8).trans rfl, (blk_cell BK213.out 9).trans rfl, (blk_cell BK213.out 10).trans rfl, hx215_0, hx215_1, hx215_2, hx215_3, hx215_4, hx215_5, hx215_6, hx215_7, hx215_8, hx215_9, hx215_10⟩ (fun hHeld => ?_)
                    generalize wr.drew = w16 at HO_0 BK213 HB hx215_0 hx215_1 hx215_10 hx215_2 hx215_3 hx215_4 hx215_5 hx215_6 hx215_7 hx215_8 hx215_9 hHeld ⊢
                    refine pure_ (i := 1) (N := some 32) (v := ?_) (a' := ?_) #[false, true, false, false, false, false, false] rfl rfl (by kernel_rfl) (fun _ _ _ h => h) (Or.inl ⟨by rfl, ?_⟩) ?_ ?_
                    rotate_left
                    · intro w'
                      go_simp
                      with_reducible rfl
                    rotate_left
                    · simp only [Act.put, List.setIfInBounds_toArray, List.set_cons_zero, List.set_cons_succ, i64_w, i32_w]
                      rfl
                    refine pure_ (i := 2) (N := some 33) (v := ?_) (a' := ?_) #[false, true, true, false, false, false, false] rfl rfl (by kernel_rfl) (fun _ _ _ h => h) (Or.inl ⟨by rfl, ?_⟩) ?_ ?_
                    rotate_left
                    · intro w'
                      go_simp
                      with_reducible rfl
                    rotate_left
                    · simp only [Act.put, List.setIfInBounds_toArray, List.set_cons_zero, List.set_cons_succ, i64_w, i32_w]
                      rfl
                    refine pure_ (i := 3) (N := some 34) (v := ?_) (a' := ?_) #[false, true, true, true, false, false, false] rfl rfl (by kernel_rfl) (fun _ _ _ h => h) (Or.inl ⟨by rfl, ?_⟩) ?_ ?_
                    rotate_left
                    · intro w'
                      go_simp
                      with_reducible rfl
                    rotate_left
                    · simp only [Act.put, List.setIfInBounds_toArray, List.set_cons_zero, List.set_cons_succ, i64_w, i32_w]
                      rfl
                    refine take_ (i := 0) (N := some 31) (v := ?_) (a' := ?_) #[true, true, true, true, false, false, false] rfl rfl (by kernel_rfl) (fun _ _ _ h => h) (Or.inl ⟨by rfl, ?_⟩) hHeld ?_ ?_
                    rotate_left
                    · rintro w' ⟨s0, s1, s2, s3, s4, s5, s6, s7, s8, s9, s10, s11, s12, s13, s14, s15, s16, s17, s18, s19, s20, s21⟩
                      go_simp
                      with_reducible rfl
                    rotate_left
                    · simp only [Act.put, List.setIfInBounds_toArray, List.set_cons_zero, List.set_cons_succ, i64_w, i32_w]
                      rfl
                    refine take_ (i := 4) (N := some 35) (v := ?_) (a' := ?_) #[true, true, true, true, true, false, false] rfl rfl (by kernel_rfl) (fun _ _ _ h => h) (Or.inl ⟨by rfl, ?_⟩) hHeld ?_ ?_
                    rotate_left
                    · rintro w' ⟨s0, s1, s2, s3, s4, s5, s6, s7, s8, s9, s10, s11, s12, s13, s14, s15, s16, s17, s18, s19, s20, s21⟩
                      go_simp
                      with_reducible rfl
                    rotate_left
                    · simp only [Act.put, List.setIfInBounds_toArray, List.set_cons_zero, List.set_cons_succ, i64_w, i32_w]
                      rfl
                    refine one_ (i := 5) (N := some 36) #[true, true, true, true, true, true, false] rfl rfl (by kernel_rfl) (by decide) (fun K hK => ?_)
                    refine goes_ Try.func15 (by kernel_rfl) rfl #[.agg #[.int .i64 a2_0, .int .i64 a2_1, .int .u64 a2_2, .int .u64 a2_3, .bool a2_4, .bool a2_5, .bool a2_6, .bool a2_7, .bool a2_8, .bool a2_9, .bool a2_10], .agg #[.int .i64 ((rd_T26 l0 x9_2).f0), .int .i64 ((rd_T26 l0 x9_2).f1), .int .u64 ((rd_T26 l0 x9_2).f2), .int .u64 ((rd_T26 l0 x9_2).f3), .bool ((rd_T26 l0 x9_2).f4.f0), .bool ((rd_T26 l0 x9_2).f4.f1), .bool ((rd_T26 l0 x9_2).f4.f2), .bool ((rd_T26 l0 x9_2).f4.f3), .bool ((rd_T26 l0 x9_2).f4.f4), .bool ((rd_T26 l0 x9_2).f4.f5), .bool ((rd_T26 l0 x9_2).f5)]] (by rfl) rfl rfl (by (try simp only [List.map_toArray, List.map_cons, List.map_nil]); first | done | rfl | (simp only [List.length_drop, List.length_take]; rfl)) ?_
                    with_reducible refine (lookasideref06_Parts.calls k2 a2_0 a2_1 a2_2 a2_3 a2_4 a2_5 a2_6 a2_7 a2_8 a2_9 a2_10 ((rd_T26 l0 x9_2).f0) ((rd_T26 l0 x9_2).f1) ((rd_T26 l0 x9_2).f2) ((rd_T26 l0 x9_2).f3) ((rd_T26 l0 x9_2).f4.f0) ((rd_T26 l0 x9_2).f4.f1) ((rd_T26 l0 x9_2).f4.f2) ((rd_T26 l0 x9_2).f4.f3) ((rd_T26 l0 x9_2).f4.f4) ((rd_T26 l0 x9_2).f4.f5) ((rd_T26 l0 x9_2).f5) t216 _ A14.out).mono ?_
                    rintro e w17 ⟨rfl, hb⟩
                    have HS11_ := (hb.cell (World.block_lt_of_cell? _ _ (hHeld.2.2.2.2.2.2.2.2.2.2.2.1))).trans (hHeld.2.2.2.2.2.2.2.2.2.2.2.1)
                    have HS12_ := (hb.cell (World.block_lt_of_cell? _ _ (hHeld.2.2.2.2.2.2.2.2.2.2.2.2.1))).trans (hHeld.2.2.2.2.2.2.2.2.2.2.2.2.1)
                    have HS13_ := (hb.cell (World.block_lt_of_cell? _ _ (hHeld.2.2.2.2.2.2.2.2.2.2.2.2.2.1))).trans (hHeld.2.2.2.2.2.2.2.2.2.2.2.2.2.1)
                    have HS14_ := (hb.cell (World.block_lt_of_cell? _ _ (hHeld.2.2.2.2.2.2.2.2.2.2.2.2.2.2.1))).trans (hHeld.2.2.2.2.2.2.2.2.2.2.2.2.2.2.1)
                    have HS15_ := (hb.cell (World.block_lt_of_cell? _ _ (hHeld.2.2.2.2.2.2.2.2.2.2.2.2.2.2.2.1))).trans (hHeld.2.2.2.2.2.2.2.2.2.2.2.2.2.2.2.1)
                    have HS16_ := (hb.cell (World.block_lt_of_cell? _ _ (hHeld.2.2.2.2.2.2.2.2.2.2.2.2.2.2.2.2.1))).trans (hHeld.2.2.2.2.2.2.2.2.2.2.2.2.2.2.2.2.1)
                    have HS17_ := (hb.cell (World.block_lt_of_cell? _ _ (hHeld.2.2.2.2.2.2.2.2.2.2.2.2.2.2.2.2.2.1))).trans (hHeld.2.2.2.2.2.2.2.2.2.2.2.2.2.2.2.2.2.1)
                    have HS18_ := (hb.cell (World.block_lt_of_cell? _ _ (hHeld.2.2.2.2.2.2.2.2.2.2.2.2.2.2.2.2.2.2.1))).trans (hHeld.2.2.2.2.2.2.2.2.2.2.2.2.2.2.2.2.2.2.1)
                    have HS19_ := (hb.cell (World.block_lt_of_cell? _ _ (hHeld.2.2.2.2.2.2.2.2.2.2.2.2.2.2.2.2.2.2.2.1))).trans (hHeld.2.2.2.2.2.2.2.2.2.2.2.2.2.2.2.2.2.2.2.1)
                    have HS20_ := (hb.cell (World.block_lt_of_cell? _ _ (hHeld.2.2.2.2.2.2.2.2.2.2.2.2.2.2.2.2.2.2.2.2.1))).trans (hHeld.2.2.2.2.2.2.2.2.2.2.2.2.2.2.2.2.2.2.2.2.1)
                    have HS21_ := (hb.cell (World.block_lt_of_cell? _ _ (hHeld.2.2.2.2.2.2.2.2.2.2.2.2.2.2.2.2.2.2.2.2.2))).trans (hHeld.2.2.2.2.2.2.2.2.2.2.2.2.2.2.2.2.2.2.2.2.2)
                    refine ⟨_, rfl, ?_⟩
                    have n0_ := Aside0.mk (Kd.V_below (by (with_reducible repeat (first | apply Kd.V_alloc | apply Kd.V_drewN | apply Kd.V_drew)); exact HO_0.out) hb)
                    have n1_ := Aside0.mk (bb8_ hb BK213.out)
                    have n2_ := Aside0.mk (below_step (by repeat (first | (with_reducible first | exact HB.out | apply below_alloc | apply pw_below_drewN | apply below_drew1 | refine below_set ?_ GE213.out) | exact HB.out)) hb)
                    clear HO_0
                    clear BK213
                    clear HB
                    have HO_0 := n0_
                    have BK213 := n1_
                    have HB := n2_
                    clear n0_ n1_ n2_
                    (try clear hb)
                    (try clear hb2)
                    (try clear hk)
                    (try clear hi)
                    refine hK.out _ _ ⟨(blk_cell BK213.out 0).trans rfl, (blk_cell BK213.out 1).trans rfl, (blk_cell BK213.out 2).trans rfl, (blk_cell BK213.out 3).trans rfl, (blk_cell BK213.out 4).trans rfl, (blk_cell BK213.out 5).trans rfl, (blk_cell BK213.out 6).trans rfl, (blk_cell BK213.out 7).trans rfl, (blk_cell BK213.out 8).trans rfl, (blk_cell BK213.out 9).trans rfl, (blk_cell BK213.out 10).trans rfl, HS11_, HS12_, HS13_, HS14_, HS15_, HS16_, HS17_, HS18_, HS19_, HS20_, HS21_⟩ (fun hHeld => ?_)
                    clear hK K
                    refine norm_ (a' := ?_) ?_ ?_
                    rotate_left
                    · show Act.put _ (some 36) _ = _
                      simp only [Act.put, List.setIfInBounds_toArray, List.set_cons_zero, List.set_cons_succ, i64_w, i32_w]
                      rfl
                    refine pure_ (i := 6) (N := some 10) (v := ?_) (a' := ?_) #[true, true, true, true, true, true, true] rfl rfl (by kernel_rfl) (fun _ _ _ h => h) (Or.inl ⟨by rfl, ?_⟩) ?_ ?_
                    rotate_left
                    · intro w'
                      go_simp
                      with_reducible rfl
                    rotate_left
                    · simp only [Act.put, List.setIfInBounds_toArray, List.set_cons_zero, List.set_cons_succ, i64_w, i32_w]
                      rfl
                    refine done_ (by kernel_rfl) ?_
                    try go_wp2
                    go_roundg k2
                    case measure => have := HJ5.out; have := HK2.out; omega
                    case rel => exact ⟨(wrap64 (x9_2 + 1)), (by first | rfl | (simp; done) | (simp [*]; done)), H', ⟨by have := HJ5.out; have := HK2.out; omega⟩, ⟨by (with_reducible repeat (first | apply Kd.V_alloc | apply Kd.V_drewN | apply Kd.V_drew)); exact HO_0.out⟩, ⟨by (with_reducible repeat (first | refine blk_drewN ?_ _ | refine blk_drew ?_ | refine blk_alloc ?_ _)); exact BK213.out⟩, ⟨by repeat (first | (with_reducible first | exact HB.out | apply below_alloc | apply pw_below_drewN | apply below_drew1 | refine below_set ?_ GE213.out) | exact HB.out)⟩⟩
                  · rw [if_neg c15] at H
                    have c15b0 : (x9_2 == a1) = false := beq_eq_false_iff_ne.mpr c15
                    have c15b1 : (x9_2 != a1) = true := bne_iff_ne.mpr c15
                    obtain ⟨bq18, hbq18⟩ : ∃ b_ : Bool, b_ = ((rd_T26 l0 x9_2).f5) := ⟨_, rfl⟩
                    replace H : (if bq18 = true then (if t216 = true then (lookasideref06_Put.l0 k2 l0 a1 (wrap64 (x9_2 + 1)) a2_0 a2_1 a2_2 a2_3 a2_4 a2_5 a2_6 a2_7 a2_8 a2_9 a2_10) else (some (l0, 9))) else (lookasideref06_Put.l0 k2 l0 a1 (wrap64 (x9_2 + 1)) a2_0 a2_1 a2_2 a2_3 a2_4 a2_5 a2_6 a2_7 a2_8 a2_9 a2_10)) = some (r1, r2) := by rw [← hbq18] at H; exact H
                    have Nbq18 := Aside0.mk hbq18
                    clear hbq18
                    by_cases c19 : bq18 = true
                    · subst c19
                      have H1 : (if t216 = true then (lookasideref06_Put.l0 k2 l0 a1 (wrap64 (x9_2 + 1)) a2_0 a2_1 a2_2 a2_3 a2_4 a2_5 a2_6 a2_7 a2_8 a2_9 a2_10) else (some (l0, 9))) = some (r1, r2) := by rw [if_pos rfl] at H; exact H
                      clear H
                      have H := H1
                      clear H1
                      by_cases c20 : t216 = true
                      · subst c20
                        have H1 : (lookasideref06_Put.l0 k2 l0 a1 (wrap64 (x9_2 + 1)) a2_0 a2_1 a2_2 a2_3 a2_4 a2_5 a2_6 a2_7 a2_8 a2_9 a2_10) = some (r1, r2) := by rw [if_pos rfl] at H; exact H
                        clear H
                        have H := H1
                        clear H1
                        have H' := Aside0.mk H
                        clear H
                        try go_wp2
                        have n0_ := Aside0.mk (Kd.V_drew HO_0.out)
                        have n1_ := Aside0.mk (blk_drew BK213.out)
                        have n2_ := Aside0.mk (below_drew1 HB.out)
                        clear HO_0
                        clear BK213
                        clear HB
                        have HO_0 := n0_
                        have BK213 := n1_
                        have HB := n2_
                        clear n0_ n1_ n2_
                        have p215 : 0 ≤ (x9_2 : Int) := of_decide_eq_true (by first | (with_reducible assumption) | assumption)
                        have q215 : x9_2 < (l0.length : Int) := of_decide_eq_true (by first | (with_reducible assumption) | assumption)
                        obtain ⟨ad215, e215, hx215_0, hx215_1, hx215_2, hx215_3, hx215_4, hx215_5, hx215_6, hx215_7, hx215_8, hx215_9, hx215_10⟩ := at_T26 (Kd.V_reads' HO_0.out).2.2 x9_2 p215 q215
                        (try rw [← Nbq18.out] at hx215_4)
                        (try rw [← Nbq18.out] at hx215_5)
                        (try rw [← Nbq18.out] at hx215_6)
                        (try rw [← Nbq18.out] at hx215_7)
                        (try rw [← Nbq18.out] at hx215_8)
                        (try rw [← Nbq18.out] at hx215_9)
                        (try rw [← Nbq18.out] at hx215_10)
                        cases e215
                        replace p215 := eq_true p215
                        replace q215 := eq_true q215
                        refine start_ (n := 7) (S := fun w' => w'.cell? ⟨gb213, 0, none⟩ = some (.int .i64 a2_0) ∧ w'.cell? ⟨gb213, 1, none⟩ = some (.int .i64 a2_1) ∧ w'.cell? ⟨gb213, 2, none⟩ = some (.int .u64 a2_2) ∧ w'.cell? ⟨gb213, 3, none⟩ = some (.int .u64 a2_3) ∧ w'.cell? ⟨gb213, 4, none⟩ = some (.bool a2_4) ∧ w'.cell? ⟨gb213, 5, none⟩ = some (.bool a2_5) ∧ w'.cell? ⟨gb213, 6, none⟩ = some (.bool a2_6) ∧ w'.cell? ⟨gb213, 7, none⟩ = some (.bool a2_7) ∧ w'.cell? ⟨gb213, 8, none⟩ = some (.bool a2_8) ∧ w'.cell? ⟨gb213, 9, none⟩ = some (.bool a2_9) ∧ w'.cell? ⟨gb213, 10, none⟩ = some (.bool a2_10) ∧ w'.cell? (ad215.add ((x9_2).toNat * 11)) = some (.int .i64 ((rd_T26 l0 x9_2).f0)) ∧ w'.cell? ⟨(ad215.add ((x9_2).toNat * 11)).block, (ad215.add ((x9_2).toNat * 11)).off + 1, none⟩ = some (.int .i64 ((rd_T26 l0 x9_2).f1)) ∧ w'.cell? ⟨(ad215.add ((x9_2).toNat * 11)).block, (ad215.add ((x9_2).toNat * 11)).off + 2, none⟩ = some (.int .u64 ((rd_T26 l0 x9_2).f2)) ∧ w'.cell? ⟨(ad215.add ((x9_2).toNat * 11)).block, (ad215.add ((x9_2).toNat * 11)).off + 3, none⟩ = some (.int .u64 ((rd_T26 l0 x9_2).f3)) ∧ w'.cell? ⟨(ad215.add ((x9_2).toNat * 11)).block, (ad215.add ((x9_2).toNat * 11)).off + 4, none⟩ = some (.bool ((rd_T26 l0 x9_2).f4.f0)) ∧ w'.cell? ⟨(ad215.add ((x9_2).toNat * 11)).block, (ad215.add ((x9_2).toNat * 11)).off + 5, none⟩ = some (.bool ((rd_T26 l0 x9_2).f4.f1)) ∧ w'.cell? ⟨(ad215.add ((x9_2).toNat * 11)).block, (ad215.add ((x9_2).toNat * 11)).off + 6, none⟩ = some (.bool ((rd_T26 l0 x9_2).f4.f2)) ∧ w'.cell? ⟨(ad215.add ((x9_2).toNat * 11)).block, (ad215.add ((x9_2).toNat * 11)).off + 7, none⟩ = some (.bool ((rd_T26 l0 x9_2).f4.f3)) ∧ w'.cell? ⟨(ad215.add ((x9_2).toNat * 11)).block, (ad215.add ((x9_2).toNat * 11)).off + 8, none⟩ = some (.bool ((rd_T26 l0 x9_2).f4.f4)) ∧ w'.cell? ⟨(ad215.add ((x9_2).toNat * 11)).block, (ad215.add ((x9_2).toNat * 11)).off + 9, none⟩ = some (.bool ((rd_T26 l0 x9_2).f4.f5)) ∧ w'.cell? ⟨(ad215.add ((x9_2).toNat * 11)).block, (ad215.add ((x9_2).toNat * 11)).off + 10, none⟩ = some (.bool true)) (ds := []) #[false, false, false, false, false, false, false] (by kernel_rfl) rfl rfl ⟨(blk_cell BK213.out 0).trans rfl, (blk_cell BK213.out 1).trans rfl, (blk_cell BK213.out 2).trans rfl, (blk_cell BK213.out 3).trans rfl, (blk_cell BK213.out 4).trans rfl, (blk_cell BK213.out 5).trans rfl, (blk_cell BK213.out 6).trans rfl, (blk_cell BK213.out 7).trans rfl, (blk_cell BK213.out 8).trans rfl, (blk_cell BK213.out 9).trans rfl, (blk_cell BK213.out 10).trans rfl, hx215_0, hx215_1, hx215_2, hx215_3, hx215_4, hx215_5, hx215_6, hx215_7, hx215_8, hx215_9, hx215_10⟩ (fun hHeld => ?_)
                        generalize wr.drew = w21 at HO_0 BK213 HB hx215_0 hx215_1 hx215_10 hx215_2 hx215_3 hx215_4 hx215_5 hx215_6 hx215_7 hx215_8 hx215_9 hHeld ⊢
                        refine pure_ (i := 1) (N := some 32) (v := ?_) (a' := ?_) #[false, true, false, false, false, false, false] rfl rfl (by kernel_rfl) (fun _ _ _ h => h) (Or.inl ⟨by rfl, ?_⟩) ?_ ?_
                        rotate_left
                        · intro w'
                          go_simp
                          with_reducible rfl
                        rotate_left
                        · simp only [Act.put, List.setIfInBounds_toArray, List.set_cons_zero, List.set_cons_succ, i64_w, i32_w]
                          rfl
                        refine pure_ (i := 2) (N := some 33) (v := ?_) (a' := ?_) #[false, true, true, false, false, false, false] rfl rfl (by kernel_rfl) (fun _ _ _ h => h) (Or.inl ⟨by rfl, ?_⟩) ?_ ?_
                        rotate_left
                        · intro w'
                          go_simp
                          with_reducible rfl
                        rotate_left
                        · simp only [Act.put, List.setIfInBounds_toArray, List.set_cons_zero, List.set_cons_succ, i64_w, i32_w]
                          rfl
                        refine pure_ (i := 3) (N := some 34) (v := ?_) (a' := ?_) #[false, true, true, true, false, false, false] rfl rfl (by kernel_rfl) (fun _ _ _ h => h) (Or.inl ⟨by rfl, ?_⟩) ?_ ?_
                        rotate_left
                        · intro w'
                          go_simp
                          with_reducible rfl
                        rotate_left
                        · simp only [Act.put, List.setIfInBounds_toArray, List.set_cons_zero, List.set_cons_succ, i64_w, i32_w]
                          rfl
                        refine take_ (i := 0) (N := some 31) (v := ?_) (a' := ?_) #[true, true, true, true, false, false, false] rfl rfl (by kernel_rfl) (fun _ _ _ h => h) (Or.inl ⟨by rfl, ?_⟩) hHeld ?_ ?_
                        rotate_left
                        · rintro w' ⟨s0, s1, s2, s3, s4, s5, s6, s7, s8, s9, s10, s11, s12, s13, s14, s15, s16, s17, s18, s19, s20, s21⟩
                          go_simp
                          with_reducible rfl
                        rotate_left
                        · simp only [Act.put, List.setIfInBounds_toArray, List.set_cons_zero, List.set_cons_succ, i64_w, i32_w]
                          rfl
                        refine take_ (i := 4) (N := some 35) (v := ?_) (a' := ?_) #[true, true, true, true, true, false, false] rfl rfl (by kernel_rfl) (fun _ _ _ h => h) (Or.inl ⟨by rfl, ?_⟩) hHeld ?_ ?_
                        rotate_left
                        · rintro w' ⟨s0, s1, s2, s3, s4, s5, s6, s7, s8, s9, s10, s11, s12, s13, s14, s15, s16, s17, s18, s19, s20, s21⟩
                          go_simp
                          with_reducible rfl
                        rotate_left
                        · simp only [Act.put, List.setIfInBounds_toArray, List.set_cons_zero, List.set_cons_succ, i64_w, i32_w]
                          rfl
                        refine one_ (i := 5) (N := some 36) #[true, true, true, true, true, true, false] rfl rfl (by kernel_rfl) (by decide) (fun K hK => ?_)
                        refine goes_ Try.func15 (by kernel_rfl) rfl #[.agg #[.int .i64 a2_0, .int .i64 a2_1, .int .u64 a2_2, .int .u64 a2_3, .bool a2_4, .bool a2_5, .bool a2_6, .bool a2_7, .bool a2_8, .bool a2_9, .bool a2_10], .agg #[.int .i64 ((rd_T26 l0 x9_2).f0), .int .i64 ((rd_T26 l0 x9_2).f1), .int .u64 ((rd_T26 l0 x9_2).f2), .int .u64 ((rd_T26 l0 x9_2).f3), .bool ((rd_T26 l0 x9_2).f4.f0), .bool ((rd_T26 l0 x9_2).f4.f1), .bool ((rd_T26 l0 x9_2).f4.f2), .bool ((rd_T26 l0 x9_2).f4.f3), .bool ((rd_T26 l0 x9_2).f4.f4), .bool ((rd_T26 l0 x9_2).f4.f5), .bool true]] (by rfl) rfl rfl (by (try simp only [List.map_toArray, List.map_cons, List.map_nil]); first | done | rfl | (simp only [List.length_drop, List.length_take]; rfl)) ?_
                        with_reducible refine (lookasideref06_Parts.calls k2 a2_0 a2_1 a2_2 a2_3 a2_4 a2_5 a2_6 a2_7 a2_8 a2_9 a2_10 ((rd_T26 l0 x9_2).f0) ((rd_T26 l0 x9_2).f1) ((rd_T26 l0 x9_2).f2) ((rd_T26 l0 x9_2).f3) ((rd_T26 l0 x9_2).f4.f0) ((rd_T26 l0 x9_2).f4.f1) ((rd_T26 l0 x9_2).f4.f2) ((rd_T26 l0 x9_2).f4.f3) ((rd_T26 l0 x9_2).f4.f4) ((rd_T26 l0 x9_2).f4.f5) true true _ (by have h_ := A14.out; rw [← Nbq18.out] at h_; exact h_)).mono ?_
                        rintro e w22 ⟨rfl, hb⟩
                        have HS11_ := (hb.cell (World.block_lt_of_cell? _ _ (hHeld.2.2.2.2.2.2.2.2.2.2.2.1))).trans (hHeld.2.2.2.2.2.2.2.2.2.2.2.1)
                        have HS12_ := (hb.cell (World.block_lt_of_cell? _ _ (hHeld.2.2.2.2.2.2.2.2.2.2.2.2.1))).trans (hHeld.2.2.2.2.2.2.2.2.2.2.2.2.1)
                        have HS13_ := (hb.cell (World.block_lt_of_cell? _ _ (hHeld.2.2.2.2.2.2.2.2.2.2.2.2.2.1))).trans (hHeld.2.2.2.2.2.2.2.2.2.2.2.2.2.1)
                        have HS14_ := (hb.cell (World.block_lt_of_cell? _ _ (hHeld.2.2.2.2.2.2.2.2.2.2.2.2.2.2.1))).trans (hHeld.2.2.2.2.2.2.2.2.2.2.2.2.2.2.1)
                        have HS15_ := (hb.cell (World.block_lt_of_cell? _ _ (hHeld.2.2.2.2.2.2.2.2.2.2.2.2.2.2.2.1))).trans (hHeld.2.2.2.2.2.2.2.2.2.2.2.2.2.2.2.1)
                        have HS16_ := (hb.cell (World.block_lt_of_cell? _ _ (hHeld.2.2.2.2.2.2.2.2.2.2.2.2.2.2.2.2.1))).trans (hHeld.2.2.2.2.2.2.2.2.2.2.2.2.2.2.2.2.1)
                        have HS17_ := (hb.cell (World.block_lt_of_cell? _ _ (hHeld.2.2.2.2.2.2.2.2.2.2.2.2.2.2.2.2.2.1))).trans (hHeld.2.2.2.2.2.2.2.2.2.2.2.2.2.2.2.2.2.1)
                        have HS18_ := (hb.cell (World.block_lt_of_cell? _ _ (hHeld.2.2.2.2.2.2.2.2.2.2.2.2.2.2.2.2.2.2.1))).trans (hHeld.2.2.2.2.2.2.2.2.2.2.2.2.2.2.2.2.2.2.1)
                        have HS19_ := (hb.cell (World.block_lt_of_cell? _ _ (hHeld.2.2.2.2.2.2.2.2.2.2.2.2.2.2.2.2.2.2.2.1))).trans (hHeld.2.2.2.2.2.2.2.2.2.2.2.2.2.2.2.2.2.2.2.1)
                        have HS20_ := (hb.cell (World.block_lt_of_cell? _ _ (hHeld.2.2.2.2.2.2.2.2.2.2.2.2.2.2.2.2.2.2.2.2.1))).trans (hHeld.2.2.2.2.2.2.2.2.2.2.2.2.2.2.2.2.2.2.2.2.1)
                        have HS21_ := (hb.cell (World.block_lt_of_cell? _ _ (hHeld.2.2.2.2.2.2.2.2.2.2.2.2.2.2.2.2.2.2.2.2.2))).trans (hHeld.2.2.2.2.2.2.2.2.2.2.2.2.2.2.2.2.2.2.2.2.2)
                        refine ⟨_, rfl, ?_⟩
                        have n0_ := Aside0.mk (Kd.V_below (by (with_reducible repeat (first | apply Kd.V_alloc | apply Kd.V_drewN | apply Kd.V_drew)); exact HO_0.out) hb)
                        have n1_ := Aside0.mk (bb8_ hb BK213.out)
                        have n2_ := Aside0.mk (below_step (by repeat (first | (with_reducible first | exact HB.out | apply below_alloc | apply pw_below_drewN | apply below_drew1 | refine below_set ?_ GE213.out) | exact HB.out)) hb)
                        clear HO_0
                        clear BK213
                        clear HB
                        have HO_0 := n0_
                        have BK213 := n1_
                        have HB := n2_
                        clear n0_ n1_ n2_
                        (try clear hb)
                        (try clear hb2)
                        (try clear hk)
                        (try clear hi)
                        refine hK.out _ _ ⟨(blk_cell BK213.out 0).trans rfl, (blk_cell BK213.out 1).trans rfl, (blk_cell BK213.out 2).trans rfl, (blk_cell BK213.out 3).trans rfl, (blk_cell BK213.out 4).trans rfl, (blk_cell BK213.out 5).trans rfl, (blk_cell BK213.out 6).trans rfl, (blk_cell BK213.out 7).trans rfl, (blk_cell BK213.out 8).trans rfl, (blk_cell BK213.out 9).trans rfl, (blk_cell BK213.out 10).trans rfl, HS11_, HS12_, HS13_, HS14_, HS15_, HS16_, HS17_, HS18_, HS19_, HS20_, HS21_⟩ (fun hHeld => ?_)
                        clear hK K
                        refine norm_ (a' := ?_) ?_ ?_
                        rotate_left
                        · show Act.put _ (some 36) _ = _
                          simp only [Act.put, List.setIfInBounds_toArray, List.set_cons_zero, List.set_cons_succ, i64_w, i32_w]
                          rfl
                        refine pure_ (i := 6) (N := some 10) (v := ?_) (a' := ?_) #[true, true, true, true, true, true, true] rfl rfl (by kernel_rfl) (fun _ _ _ h => h) (Or.inl ⟨by rfl, ?_⟩) ?_ ?_
                        rotate_left
                        · intro w'
                          go_simp
                          with_reducible rfl
                        rotate_left
                        · simp only [Act.put, List.setIfInBounds_toArray, List.set_cons_zero, List.set_cons_succ, i64_w, i32_w]
                          rfl
                        refine done_ (by kernel_rfl) ?_
                        have p217 : 0 ≤ (x9_2 : Int) := of_decide_eq_true (by first | (with_reducible assumption) | assumption)
                        have q217 : x9_2 < (l0.length : Int) := of_decide_eq_true (by first | (with_reducible assumption) | assumption)
                        obtain ⟨ad217, e217, hx217_0, hx217_1, hx217_2, hx217_3, hx217_4, hx217_5, hx217_6, hx217_7, hx217_8, hx217_9, hx217_10⟩ := at_T26 (Kd.V_reads' HO_0.out).2.2 x9_2 p217 q217
                        (try rw [← Nbq18.out] at hx217_4)
                        (try rw [← Nbq18.out] at hx217_5)
                        (try rw [← Nbq18.out] at hx217_6)
                        (try rw [← Nbq18.out] at hx217_7)
                        (try rw [← Nbq18.out] at hx217_8)
                        (try rw [← Nbq18.out] at hx217_9)
                        (try rw [← Nbq18.out] at hx217_10)
                        obtain rfl : ad215 = ad217 := (by injection e217)
                        replace p217 := eq_true p217
                        replace q217 := eq_true q217
                        try go_wp2
                        go_roundg k2
                        case measure => have := HJ5.out; have := HK2.out; omega
                        case rel => exact ⟨(wrap64 (x9_2 + 1)), (by first | rfl | (simp; done) | (simp [*]; done)), H', ⟨by have := HJ5.out; have := HK2.out; omega⟩, ⟨by (with_reducible repeat (first | apply Kd.V_alloc | apply Kd.V_drewN | apply Kd.V_drew)); exact HO_0.out⟩, ⟨by (with_reducible repeat (first | refine blk_drewN ?_ _ | refine blk_drew ?_ | refine blk_alloc ?_ _)); exact BK213.out⟩, ⟨by repeat (first | (with_reducible first | exact HB.out | apply below_alloc | apply pw_below_drewN | apply below_drew1 | refine below_set ?_ GE213.out) | exact HB.out)⟩⟩
                      · replace c20 := Bool.eq_false_iff.mpr c20
                        subst c20
                        have H1 : (some (l0, 9)) = some (r1, r2) := by rw [if_neg (show ¬ (false = true) by decide)] at H; exact H
                        clear H
                        have H := H1
                        clear H1
                        simp only [Option.some.injEq, Prod.mk.injEq] at H
                        obtain ⟨rfl, rfl⟩ := H
                        try go_wp2
                        have n0_ := Aside0.mk (Kd.V_drew HO_0.out)
                        have n1_ := Aside0.mk (blk_drew BK213.out)
                        have n2_ := Aside0.mk (below_drew1 HB.out)
                        clear HO_0
                        clear BK213
                        clear HB
                        have HO_0 := n0_
                        have BK213 := n1_
                        have HB := n2_
                        clear n0_ n1_ n2_
                        have p215 : 0 ≤ (x9_2 : Int) := of_decide_eq_true (by first | (with_reducible assumption) | assumption)
                        have q215 : x9_2 < (l0.length : Int) := of_decide_eq_true (by first | (with_reducible assumption) | assumption)
                        obtain ⟨ad215, e215, hx215_0, hx215_1, hx215_2, hx215_3, hx215_4, hx215_5, hx215_6, hx215_7, hx215_8, hx215_9, hx215_10⟩ := at_T26 (Kd.V_reads' HO_0.out).2.2 x9_2 p215 q215
                        (try rw [← Nbq18.out] at hx215_4)
                        (try rw [← Nbq18.out] at hx215_5)
                        (try rw [← Nbq18.out] at hx215_6)
                        (try rw [← Nbq18.out] at hx215_7)
                        (try rw [← Nbq18.out] at hx215_8)
                        (try rw [← Nbq18.out] at hx215_9)
                        (try rw [← Nbq18.out] at hx215_10)
                        cases e215
                        replace p215 := eq_true p215
                        replace q215 := eq_true q215
                        refine start_ (n := 7) (S := fun w' => w'.cell? ⟨gb213, 0, none⟩ = some (.int .i64 a2_0) ∧ w'.cell? ⟨gb213, 1, none⟩ = some (.int .i64 a2_1) ∧ w'.cell? ⟨gb213, 2, none⟩ = some (.int .u64 a2_2) ∧ w'.cell? ⟨gb213, 3, none⟩ = some (.int .u64 a2_3) ∧ w'.cell? ⟨gb213, 4, none⟩ = some (.bool a2_4) ∧ w'.cell? ⟨gb213, 5, none⟩ = some (.bool a2_5) ∧ w'.cell? ⟨gb213, 6, none⟩ = some (.bool a2_6) ∧ w'.cell? ⟨gb213, 7, none⟩ = some (.bool a2_7) ∧ w'.cell? ⟨gb213, 8, none⟩ = some (.bool a2_8) ∧ w'.cell? ⟨gb213, 9, none⟩ = some (.bool a2_9) ∧ w'.cell? ⟨gb213, 10, none⟩ = some (.bool a2_10) ∧ w'.cell? (ad215.add ((x9_2).toNat * 11)) = some (.int .i64 ((rd_T26 l0 x9_2).f0)) ∧ w'.cell? ⟨(ad215.add ((x9_2).toNat * 11)).block, (ad215.add ((x9_2).toNat * 11)).off + 1, none⟩ = some (.int .i64 ((rd_T26 l0 x9_2).f1)) ∧ w'.cell? ⟨(ad215.add ((x9_2).toNat * 11)).block, (ad215.add ((x9_2).toNat * 11)).off + 2, none⟩ = some (.int .u64 ((rd_T26 l0 x9_2).f2)) ∧ w'.cell? ⟨(ad215.add ((x9_2).toNat * 11)).block, (ad215.add ((x9_2).toNat * 11)).off + 3, none⟩ = some (.int .u64 ((rd_T26 l0 x9_2).f3)) ∧ w'.cell? ⟨(ad215.add ((x9_2).toNat * 11)).block, (ad215.add ((x9_2).toNat * 11)).off + 4, none⟩ = some (.bool ((rd_T26 l0 x9_2).f4.f0)) ∧ w'.cell? ⟨(ad215.add ((x9_2).toNat * 11)).block, (ad215.add ((x9_2).toNat * 11)).off + 5, none⟩ = some (.bool ((rd_T26 l0 x9_2).f4.f1)) ∧ w'.cell? ⟨(ad215.add ((x9_2).toNat * 11)).block, (ad215.add ((x9_2).toNat * 11)).off + 6, none⟩ = some (.bool ((rd_T26 l0 x9_2).f4.f2)) ∧ w'.cell? ⟨(ad215.add ((x9_2).toNat * 11)).block, (ad215.add ((x9_2).toNat * 11)).off + 7, none⟩ = some (.bool ((rd_T26 l0 x9_2).f4.f3)) ∧ w'.cell? ⟨(ad215.add ((x9_2).toNat * 11)).block, (ad215.add ((x9_2).toNat * 11)).off + 8, none⟩ = some (.bool ((rd_T26 l0 x9_2).f4.f4)) ∧ w'.cell? ⟨(ad215.add ((x9_2).toNat * 11)).block, (ad215.add ((x9_2).toNat * 11)).off + 9, none⟩ = some (.bool ((rd_T26 l0 x9_2).f4.f5)) ∧ w'.cell? ⟨(ad215.add ((x9_2).toNat * 11)).block, (ad215.add ((x9_2).toNat * 11)).off + 10, none⟩ = some (.bool true)) (ds := []) #[false, false, false, false, false, false, false] (by kernel_rfl) rfl rfl ⟨(blk_cell BK213.out 0).trans rfl, (blk_cell BK213.out 1).trans rfl, (blk_cell BK213.out 2).trans rfl, (blk_cell BK213.out 3).trans rfl, (blk_cell BK213.out 4).trans rfl, (blk_cell BK213.out 5).trans rfl, (blk_cell BK213.out 6).trans rfl, (blk_cell BK213.out 7).trans rfl, (blk_cell BK213.out 8).trans rfl, (blk_cell BK213.out 9).trans rfl, (blk_cell BK213.out 10).trans rfl, hx215_0, hx215_1, hx215_2, hx215_3, hx215_4, hx215_5, hx215_6, hx215_7, hx215_8, hx215_9, hx215_10⟩ (fun hHeld => ?_)
                        generalize wr.drew = w23 at HO_0 BK213 HB hx215_0 hx215_1 hx215_10 hx215_2 hx215_3 hx215_4 hx215_5 hx215_6 hx215_7 hx215_8 hx215_9 hHeld ⊢
                        refine pure_ (i := 1) (N := some 32) (v := ?_) (a' := ?_) #[false, true, false, false, false, false, false] rfl rfl (by kernel_rfl) (fun _ _ _ h => h) (Or.inl ⟨by rfl, ?_⟩) ?_ ?_
                        rotate_left
                        · intro w'
                          go_simp
                          with_reducible rfl
                        rotate_left
                        · simp only [Act.put, List.setIfInBounds_toArray, List.set_cons_zero, List.set_cons_succ, i64_w, i32_w]
                          rfl
                        refine pure_ (i := 2) (N := some 33) (v := ?_) (a' := ?_) #[false, true, true, false, false, false, false] rfl rfl (by kernel_rfl) (fun _ _ _ h => h) (Or.inl ⟨by rfl, ?_⟩) ?_ ?_
                        rotate_left
                        · intro w'
                          go_simp
                          with_reducible rfl
                        rotate_left
                        · simp only [Act.put, List.setIfInBounds_toArray, List.set_cons_zero, List.set_cons_succ, i64_w, i32_w]
                          rfl
                        refine pure_ (i := 3) (N := some 34) (v := ?_) (a' := ?_) #[false, true, true, true, false, false, false] rfl rfl (by kernel_rfl) (fun _ _ _ h => h) (Or.inl ⟨by rfl, ?_⟩) ?_ ?_
                        rotate_left
                        · intro w'
                          go_simp
                          with_reducible rfl
                        rotate_left
                        · simp only [Act.put, List.setIfInBounds_toArray, List.set_cons_zero, List.set_cons_succ, i64_w, i32_w]
                          rfl
                        refine take_ (i := 0) (N := some 31) (v := ?_) (a' := ?_) #[true, true, true, true, false, false, false] rfl rfl (by kernel_rfl) (fun _ _ _ h => h) (Or.inl ⟨by rfl, ?_⟩) hHeld ?_ ?_
                        rotate_left
                        · rintro w' ⟨s0, s1, s2, s3, s4, s5, s6, s7, s8, s9, s10, s11, s12, s13, s14, s15, s16, s17, s18, s19, s20, s21⟩
                          go_simp
                          with_reducible rfl
                        rotate_left
                        · simp only [Act.put, List.setIfInBounds_toArray, List.set_cons_zero, List.set_cons_succ, i64_w, i32_w]
                          rfl
                        refine take_ (i := 4) (N := some 35) (v := ?_) (a' := ?_) #[true, true, true, true, true, false, false] rfl rfl (by kernel_rfl) (fun _ _ _ h => h) (Or.inl ⟨by rfl, ?_⟩) hHeld ?_ ?_
                        rotate_left
                        · rintro w' ⟨s0, s1, s2, s3, s4, s5, s6, s7, s8, s9, s10, s11, s12, s13, s14, s15, s16, s17, s18, s19, s20, s21⟩
                          go_simp
                          with_reducible rfl
                        rotate_left
                        · simp only [Act.put, List.setIfInBounds_toArray, List.set_cons_zero, List.set_cons_succ, i64_w, i32_w]
                          rfl
                        refine one_ (i := 5) (N := some 36) #[true, true, true, true, true, true, false] rfl rfl (by kernel_rfl) (by decide) (fun K hK => ?_)
                        refine goes_ Try.func15 (by kernel_rfl) rfl #[.agg #[.int .i64 a2_0, .int .i64 a2_1, .int .u64 a2_2, .int .u64 a2_3, .bool a2_4, .bool a2_5, .bool a2_6, .bool a2_7, .bool a2_8, .bool a2_9, .bool a2_10], .agg #[.int .i64 ((rd_T26 l0 x9_2).f0), .int .i64 ((rd_T26 l0 x9_2).f1), .int .u64 ((rd_T26 l0 x9_2).f2), .int .u64 ((rd_T26 l0 x9_2).f3), .bool ((rd_T26 l0 x9_2).f4.f0), .bool ((rd_T26 l0 x9_2).f4.f1), .bool ((rd_T26 l0 x9_2).f4.f2), .bool ((rd_T26 l0 x9_2).f4.f3), .bool ((rd_T26 l0 x9_2).f4.f4), .bool ((rd_T26 l0 x9_2).f4.f5), .bool true]] (by rfl) rfl rfl (by (try simp only [List.map_toArray, List.map_cons, List.map_nil]); first | done | rfl | (simp only [List.length_drop, List.length_take]; rfl)) ?_
                        with_reducible refine (lookasideref06_Parts.calls k2 a2_0 a2_1 a2_2 a2_3 a2_4 a2_5 a2_6 a2_7 a2_8 a2_9 a2_10 ((rd_T26 l0 x9_2).f0) ((rd_T26 l0 x9_2).f1) ((rd_T26 l0 x9_2).f2) ((rd_T26 l0 x9_2).f3) ((rd_T26 l0 x9_2).f4.f0) ((rd_T26 l0 x9_2).f4.f1) ((rd_T26 l0 x9_2).f4.f2) ((rd_T26 l0 x9_2).f4.f3) ((rd_T26 l0 x9_2).f4.f4) ((rd_T26 l0 x9_2).f4.f5) true false _ (by have h_ := A14.out; rw [← Nbq18.out] at h_; exact h_)).mono ?_
                        rintro e w24 ⟨rfl, hb⟩
                        have HS11_ := (hb.cell (World.block_lt_of_cell? _ _ (hHeld.2.2.2.2.2.2.2.2.2.2.2.1))).trans (hHeld.2.2.2.2.2.2.2.2.2.2.2.1)
                        have HS12_ := (hb.cell (World.block_lt_of_cell? _ _ (hHeld.2.2.2.2.2.2.2.2.2.2.2.2.1))).trans (hHeld.2.2.2.2.2.2.2.2.2.2.2.2.1)
                        have HS13_ := (hb.cell (World.block_lt_of_cell? _ _ (hHeld.2.2.2.2.2.2.2.2.2.2.2.2.2.1))).trans (hHeld.2.2.2.2.2.2.2.2.2.2.2.2.2.1)
                        have HS14_ := (hb.cell (World.block_lt_of_cell? _ _ (hHeld.2.2.2.2.2.2.2.2.2.2.2.2.2.2.1))).trans (hHeld.2.2.2.2.2.2.2.2.2.2.2.2.2.2.1)
                        have HS15_ := (hb.cell (World.block_lt_of_cell? _ _ (hHeld.2.2.2.2.2.2.2.2.2.2.2.2.2.2.2.1))).trans (hHeld.2.2.2.2.2.2.2.2.2.2.2.2.2.2.2.1)
                        have HS16_ := (hb.cell (World.block_lt_of_cell? _ _ (hHeld.2.2.2.2.2.2.2.2.2.2.2.2.2.2.2.2.1))).trans (hHeld.2.2.2.2.2.2.2.2.2.2.2.2.2.2.2.2.1)
                        have HS17_ := (hb.cell (World.block_lt_of_cell? _ _ (hHeld.2.2.2.2.2.2.2.2.2.2.2.2.2.2.2.2.2.1))).trans (hHeld.2.2.2.2.2.2.2.2.2.2.2.2.2.2.2.2.2.1)
                        have HS18_ := (hb.cell (World.block_lt_of_cell? _ _ (hHeld.2.2.2.2.2.2.2.2.2.2.2.2.2.2.2.2.2.2.1))).trans (hHeld.2.2.2.2.2.2.2.2.2.2.2.2.2.2.2.2.2.2.1)
                        have HS19_ := (hb.cell (World.block_lt_of_cell? _ _ (hHeld.2.2.2.2.2.2.2.2.2.2.2.2.2.2.2.2.2.2.2.1))).trans (hHeld.2.2.2.2.2.2.2.2.2.2.2.2.2.2.2.2.2.2.2.1)
                        have HS20_ := (hb.cell (World.block_lt_of_cell? _ _ (hHeld.2.2.2.2.2.2.2.2.2.2.2.2.2.2.2.2.2.2.2.2.1))).trans (hHeld.2.2.2.2.2.2.2.2.2.2.2.2.2.2.2.2.2.2.2.2.1)
                        have HS21_ := (hb.cell (World.block_lt_of_cell? _ _ (hHeld.2.2.2.2.2.2.2.2.2.2.2.2.2.2.2.2.2.2.2.2.2))).trans (hHeld.2.2.2.2.2.2.2.2.2.2.2.2.2.2.2.2.2.2.2.2.2)
                        refine ⟨_, rfl, ?_⟩
                        have n0_ := Aside0.mk (Kd.V_below (by (with_reducible repeat (first | apply Kd.V_alloc | apply Kd.V_drewN | apply Kd.V_drew)); exact HO_0.out) hb)
                        have n1_ := Aside0.mk (bb8_ hb BK213.out)
                        have n2_ := Aside0.mk (below_step (by repeat (first | (with_reducible first | exact HB.out | apply below_alloc | apply pw_below_drewN | apply below_drew1 | refine below_set ?_ GE213.out) | exact HB.out)) hb)
                        clear HO_0
                        clear BK213
                        clear HB
                        have HO_0 := n0_
                        have BK213 := n1_
                        have HB := n2_
                        clear n0_ n1_ n2_
                        (try clear hb)
                        (try clear hb2)
                        (try clear hk)
                        (try clear hi)
                        refine hK.out _ _ ⟨(blk_cell BK213.out 0).trans rfl, (blk_cell BK213.out 1).trans rfl, (blk_cell BK213.out 2).trans rfl, (blk_cell BK213.out 3).trans rfl, (blk_cell BK213.out 4).trans rfl, (blk_cell BK213.out 5).trans rfl, (blk_cell BK213.out 6).trans rfl, (blk_cell BK213.out 7).trans rfl, (blk_cell BK213.out 8).trans rfl, (blk_cell BK213.out 9).trans rfl, (blk_cell BK213.out 10).trans rfl, HS11_, HS12_, HS13_, HS14_, HS15_, HS16_, HS17_, HS18_, HS19_, HS20_, HS21_⟩ (fun hHeld => ?_)
                        clear hK K
                        refine norm_ (a' := ?_) ?_ ?_
                        rotate_left
                        · show Act.put _ (some 36) _ = _
                          simp only [Act.put, List.setIfInBounds_toArray, List.set_cons_zero, List.set_cons_succ, i64_w, i32_w]
                          rfl
                        refine pure_ (i := 6) (N := some 10) (v := ?_) (a' := ?_) #[true, true, true, true, true, true, true] rfl rfl (by kernel_rfl) (fun _ _ _ h => h) (Or.inl ⟨by rfl, ?_⟩) ?_ ?_
                        rotate_left
                        · intro w'
                          go_simp
                          with_reducible rfl
                        rotate_left
                        · simp only [Act.put, List.setIfInBounds_toArray, List.set_cons_zero, List.set_cons_succ, i64_w, i32_w]
                          rfl
                        refine done_ (by kernel_rfl) ?_
                        have p217 : 0 ≤ (x9_2 : Int) := of_decide_eq_true (by first | (with_reducible assumption) | assumption)
                        have q217 : x9_2 < (l0.length : Int) := of_decide_eq_true (by first | (with_reducible assumption) | assumption)
                        obtain ⟨ad217, e217, hx217_0, hx217_1, hx217_2, hx217_3, hx217_4, hx217_5, hx217_6, hx217_7, hx217_8, hx217_9, hx217_10⟩ := at_T26 (Kd.V_reads' HO_0.out).2.2 x9_2 p217 q217
                        (try rw [← Nbq18.out] at hx217_4)
                        (try rw [← Nbq18.out] at hx217_5)
                        (try rw [← Nbq18.out] at hx217_6)
                        (try rw [← Nbq18.out] at hx217_7)
                        (try rw [← Nbq18.out] at hx217_8)
                        (try rw [← Nbq18.out] at hx217_9)
                        (try rw [← Nbq18.out] at hx217_10)
                        obtain rfl : ad215 = ad217 := (by injection e217)
                        replace p217 := eq_true p217
                        replace q217 := eq_true q217
                        try go_wp2
                        go_ret2
                        exact ⟨_, by first | rfl | (simp [errW_none, errW_some] <;> rfl) | (simp [*, errW_none, errW_some] <;> rfl), by (with_reducible repeat (first | apply Kd.V_alloc | apply Kd.V_drewN | apply Kd.V_drew)); exact Kd.V_mono HO_0.out (fun _ hk => hk.1), by repeat (first | (with_reducible first | exact HB.out | apply below_alloc | apply pw_below_drewN | apply below_drew1 | refine below_set ?_ GE213.out) | exact HB.out)⟩
                    · replace c19 := Bool.eq_false_iff.mpr c19
                      subst c19
                      have H1 : (lookasideref06_Put.l0 k2 l0 a1 (wrap64 (x9_2 + 1)) a2_0 a2_1 a2_2 a2_3 a2_4 a2_5 a2_6 a2_7 a2_8 a2_9 a2_10) = some (r1, r2) := by rw [if_neg (show ¬ (false = true) by decide)] at H; exact H
                      clear H
                      have H := H1
                      clear H1
                      have H' := Aside0.mk H
                      clear H
                      try go_wp2
                      have n0_ := Aside0.mk (Kd.V_drew HO_0.out)
                      have n1_ := Aside0.mk (blk_drew BK213.out)
                      have n2_ := Aside0.mk (below_drew1 HB.out)
                      clear HO_0
                      clear BK213
                      clear HB
                      have HO_0 := n0_
                      have BK213 := n1_
                      have HB := n2_
                      clear n0_ n1_ n2_
                      have p215 : 0 ≤ (x9_2 : Int) := of_decide_eq_true (by first | (with_reducible assumption) | assumption)
                      have q215 : x9_2 < (l0.length : Int) := of_decide_eq_true (by first | (with_reducible assumption) | assumption)
                      obtain ⟨ad215, e215, hx215_0, hx215_1, hx215_2, hx215_3, hx215_4, hx215_5, hx215_6, hx215_7, hx215_8, hx215_9, hx215_10⟩ := at_T26 (Kd.V_reads' HO_0.out).2.2 x9_2 p215 q215
                      (try rw [← Nbq18.out] at hx215_4)
                      (try rw [← Nbq18.out] at hx215_5)
                      (try rw [← Nbq18.out] at hx215_6)
                      (try rw [← Nbq18.out] at hx215_7)
                      (try rw [← Nbq18.out] at hx215_8)
                      (try rw [← Nbq18.out] at hx215_9)
                      (try rw [← Nbq18.out] at hx215_10)
                      cases e215
                      replace p215 := eq_true p215
                      replace q215 := eq_true q215
                      refine start_ (n := 7) (S := fun w' => w'.cell? ⟨gb213, 0, none⟩ = some (.int .i64 a2_0) ∧ w'.cell? ⟨gb213, 1, none⟩ = some (.int .i64 a2_1) ∧ w'.cell? ⟨gb213, 2, none⟩ = some (.int .u64 a2_2) ∧ w'.cell? ⟨gb213, 3, none⟩ = some (.int .u64 a2_3) ∧ w'.cell? ⟨gb213, 4, none⟩ = some (.bool a2_4) ∧ w'.cell? ⟨gb213, 5, none⟩ = some (.bool a2_5) ∧ w'.cell? ⟨gb213, 6, none⟩ = some (.bool a2_6) ∧ w'.cell? ⟨gb213, 7, none⟩ = some (.bool a2_7) ∧ w'.cell? ⟨gb213, 8, none⟩ = some (.bool a2_8) ∧ w'.cell? ⟨gb213, 9, none⟩ = some (.bool a2_9) ∧ w'.cell? ⟨gb213, 10, none⟩ = some (.bool a2_10) ∧ w'.cell? (ad215.add ((x9_2).toNat * 11)) = some (.int .i64 ((rd_T26 l0 x9_2).f0)) ∧ w'.cell? ⟨(ad215.add ((x9_2).toNat * 11)).block, (ad215.add ((x9_2).toNat * 11)).off + 1, none⟩ = some (.int .i64 ((rd_T26 l0 x9_2).f1)) ∧ w'.cell? ⟨(ad215.add ((x9_2).toNat * 11)).block, (ad215.add ((x9_2).toNat * 11)).off + 2, none⟩ = some (.int .u64 ((rd_T26 l0 x9_2).f2)) ∧ w'.cell? ⟨(ad215.add ((x9_2).toNat * 11)).block, (ad215.add ((x9_2).toNat * 11)).off + 3, none⟩ = some (.int .u64 ((rd_T26 l0 x9_2).f3)) ∧ w'.cell? ⟨(ad215.add ((x9_2).toNat * 11)).block, (ad215.add ((x9_2).toNat * 11)).off + 4, none⟩ = some (.bool ((rd_T26 l0 x9_2).f4.f0)) ∧ w'.cell? ⟨(ad215.add ((x9_2).toNat * 11)).block, (ad215.add ((x9_2).toNat * 11)).off + 5, none⟩ = some (.bool ((rd_T26 l0 x9_2).f4.f1)) ∧ w'.cell? ⟨(ad215.add ((x9_2).toNat * 11)).block, (ad215.add ((x9_2).toNat * 11)).off + 6, none⟩ = some (.bool ((rd_T26 l0 x9_2).f4.f2)) ∧ w'.cell? ⟨(ad215.add ((x9_2).toNat * 11)).block, (ad215.add ((x9_2).toNat * 11)).off + 7, none⟩ = some (.bool ((rd_T26 l0 x9_2).f4.f3)) ∧ w'.cell? ⟨(ad215.add ((x9_2).toNat * 11)).block, (ad215.add ((x9_2).toNat * 11)).off + 8, none⟩ = some (.bool ((rd_T26 l0 x9_2).f4.f4)) ∧ w'.cell? ⟨(ad215.add ((x9_2).toNat * 11)).block, (ad215.add ((x9_2).toNat * 11)).off + 9, none⟩ = some (.bool ((rd_T26 l0 x9_2).f4.f5)) ∧ w'.cell? ⟨(ad215.add ((x9_2).toNat * 11)).block, (ad215.add ((x9_2).toNat * 11)).off + 10, none⟩ = some (.bool false)) (ds := []) #[false, false, false, false, false, false, false] (by kernel_rfl) rfl rfl ⟨(blk_cell BK213.out 0).trans rfl, (blk_cell BK213.out 1).trans rfl, (blk_cell BK213.out 2).trans rfl, (blk_cell BK213.out 3).trans rfl, (blk_cell BK213.out 4).trans rfl, (blk_cell BK213.out 5).trans rfl, (blk_cell BK213.out 6).trans rfl, (blk_cell BK213.out 7).trans rfl, (blk_cell BK213.out 8).trans rfl, (blk_cell BK213.out 9).trans rfl, (blk_cell BK213.out 10).trans rfl, hx215_0, hx215_1, hx215_2, hx215_3, hx215_4, hx215_5, hx215_6, hx215_7, hx215_8, hx215_9, hx215_10⟩ (fun hHeld => ?_)
                      generalize wr.drew = w25 at HO_0 BK213 HB hx215_0 hx215_1 hx215_10 hx215_2 hx215_3 hx215_4 hx215_5 hx215_6 hx215_7 hx215_8 hx215_9 hHeld ⊢
                      refine pure_ (i := 1) (N := some 32) (v := ?_) (a' := ?_) #[false, true, false, false, false, false, false] rfl rfl (by kernel_rfl) (fun _ _ _ h => h) (Or.inl ⟨by rfl, ?_⟩) ?_ ?_
                      rotate_left
                      · intro w'
                        go_simp
                        with_reducible rfl
                      rotate_left
                      · simp only [Act.put, List.setIfInBounds_toArray, List.set_cons_zero, List.set_cons_succ, i64_w, i32_w]
                        rfl
                      refine pure_ (i := 2) (N := some 33) (v := ?_) (a' := ?_) #[false, true, true, false, false, false, false] rfl rfl (by kernel_rfl) (fun _ _ _ h => h) (Or.inl ⟨by rfl, ?_⟩) ?_ ?_
                      rotate_left
                      · intro w'
                        go_simp
                        with_reducible rfl
                      rotate_left
                      · simp only [Act.put, List.setIfInBounds_toArray, List.set_cons_zero, List.set_cons_succ, i64_w, i32_w]
                        rfl
                      refine pure_ (i := 3) (N := some 34) (v := ?_) (a' := ?_) #[false, true, true, true, false, false, false] rfl rfl (by kernel_rfl) (fun _ _ _ h => h) (Or.inl ⟨by rfl, ?_⟩) ?_ ?_
                      rotate_left
                      · intro w'
                        go_simp
                        with_reducible rfl
                      rotate_left
                      · simp only [Act.put, List.setIfInBounds_toArray, List.set_cons_zero, List.set_cons_succ, i64_w, i32_w]
                        rfl
                      refine take_ (i := 0) (N := some 31) (v := ?_) (a' := ?_) #[true, true, true, true, false, false, false] rfl rfl (by kernel_rfl) (fun _ _ _ h => h) (Or.inl ⟨by rfl, ?_⟩) hHeld ?_ ?_
                      rotate_left
                      · rintro w' ⟨s0, s1, s2, s3, s4, s5, s6, s7, s8, s9, s10, s11, s12, s13, s14, s15, s16, s17, s18, s19, s20, s21⟩
                        go_simp
                        with_reducible rfl
                      rotate_left
                      · simp only [Act.put, List.setIfInBounds_toArray, List.set_cons_zero, List.set_cons_succ, i64_w, i32_w]
                        rfl
                      refine take_ (i := 4) (N := some 35) (v := ?_) (a' := ?_) #[true, true, true, true, true, false, false] rfl rfl (by kernel_rfl) (fun _ _ _ h => h) (Or.inl ⟨by rfl, ?_⟩) hHeld ?_ ?_
                      rotate_left
                      · rintro w' ⟨s0, s1, s2, s3, s4, s5, s6, s7, s8, s9, s10, s11, s12, s13, s14, s15, s16, s17, s18, s19, s20, s21⟩
                        go_simp
                        with_reducible rfl
                      rotate_left
                      · simp only [Act.put, List.setIfInBounds_toArray, List.set_cons_zero, List.set_cons_succ, i64_w, i32_w]
                        rfl
                      refine one_ (i := 5) (N := some 36) #[true, true, true, true, true, true, false] rfl rfl (by kernel_rfl) (by decide) (fun K hK => ?_)
                      refine goes_ Try.func15 (by kernel_rfl) rfl #[.agg #[.int .i64 a2_0, .int .i64 a2_1, .int .u64 a2_2, .int .u64 a2_3, .bool a2_4, .bool a2_5, .bool a2_6, .bool a2_7, .bool a2_8, .bool a2_9, .bool a2_10], .agg #[.int .i64 ((rd_T26 l0 x9_2).f0), .int .i64 ((rd_T26 l0 x9_2).f1), .int .u64 ((rd_T26 l0 x9_2).f2), .int .u64 ((rd_T26 l0 x9_2).f3), .bool ((rd_T26 l0 x9_2).f4.f0), .bool ((rd_T26 l0 x9_2).f4.f1), .bool ((rd_T26 l0 x9_2).f4.f2), .bool ((rd_T26 l0 x9_2).f4.f3), .bool ((rd_T26 l0 x9_2).f4.f4), .bool ((rd_T26 l0 x9_2).f4.f5), .bool false]] (by rfl) rfl rfl (by (try simp only [List.map_toArray, List.map_cons, List.map_nil]); first | done | rfl | (simp only [List.length_drop, List.length_take]; rfl)) ?_
                      with_reducible refine (lookasideref06_Parts.calls k2 a2_0 a2_1 a2_2 a2_3 a2_4 a2_5 a2_6 a2_7 a2_8 a2_9 a2_10 ((rd_T26 l0 x9_2).f0) ((rd_T26 l0 x9_2).f1) ((rd_T26 l0 x9_2).f2) ((rd_T26 l0 x9_2).f3) ((rd_T26 l0 x9_2).f4.f0) ((rd_T26 l0 x9_2).f4.f1) ((rd_T26 l0 x9_2).f4.f2) ((rd_T26 l0 x9_2).f4.f3) ((rd_T26 l0 x9_2).f4.f4) ((rd_T26 l0 x9_2).f4.f5) false t216 _ (by have h_ := A14.out; rw [← Nbq18.out] at h_; exact h_)).mono ?_
                      rintro e w26 ⟨rfl, hb⟩
                      have HS11_ := (hb.cell (World.block_lt_of_cell? _ _ (hHeld.2.2.2.2.2.2.2.2.2.2.2.1))).trans (hHeld.2.2.2.2.2.2.2.2.2.2.2.1)
                      have HS12_ := (hb.cell (World.block_lt_of_cell? _ _ (hHeld.2.2.2.2.2.2.2.2.2.2.2.2.1))).trans (hHeld.2.2.2.2.2.2.2.2.2.2.2.2.1)
                      have HS13_ := (hb.cell (World.block_lt_of_cell? _ _ (hHeld.2.2.2.2.2.2.2.2.2.2.2.2.2.1))).trans (hHeld.2.2.2.2.2.2.2.2.2.2.2.2.2.1)
                      have HS14_ := (hb.cell (World.block_lt_of_cell? _ _ (hHeld.2.2.2.2.2.2.2.2.2.2.2.2.2.2.1))).trans (hHeld.2.2.2.2.2.2.2.2.2.2.2.2.2.2.1)
                      have HS15_ := (hb.cell (World.block_lt_of_cell? _ _ (hHeld.2.2.2.2.2.2.2.2.2.2.2.2.2.2.2.1))).trans (hHeld.2.2.2.2.2.2.2.2.2.2.2.2.2.2.2.1)
                      have HS16_ := (hb.cell (World.block_lt_of_cell? _ _ (hHeld.2.2.2.2.2.2.2.2.2.2.2.2.2.2.2.2.1))).trans (hHeld.2.2.2.2.2.2.2.2.2.2.2.2.2.2.2.2.1)
                      have HS17_ := (hb.cell (World.block_lt_of_cell? _ _ (hHeld.2.2.2.2.2.2.2.2.2.2.2.2.2.2.2.2.2.1))).trans (hHeld.2.2.2.2.2.2.2.2.2.2.2.2.2.2.2.2.2.1)
                      have HS18_ := (hb.cell (World.block_lt_of_cell? _ _ (hHeld.2.2.2.2.2.2.2.2.2.2.2.2.2.2.2.2.2.2.1))).trans (hHeld.2.2.2.2.2.2.2.2.2.2.2.2.2.2.2.2.2.2.1)
                      have HS19_ := (hb.cell (World.block_lt_of_cell? _ _ (hHeld.2.2.2.2.2.2.2.2.2.2.2.2.2.2.2.2.2.2.2.1))).trans (hHeld.2.2.2.2.2.2.2.2.2.2.2.2.2.2.2.2.2.2.2.1)
                      have HS20_ := (hb.cell (World.block_lt_of_cell? _ _ (hHeld.2.2.2.2.2.2.2.2.2.2.2.2.2.2.2.2.2.2.2.2.1))).trans (hHeld.2.2.2.2.2.2.2.2.2.2.2.2.2.2.2.2.2.2.2.2.1)
                      have HS21_ := (hb.cell (World.block_lt_of_cell? _ _ (hHeld.2.2.2.2.2.2.2.2.2.2.2.2.2.2.2.2.2.2.2.2.2))).trans (hHeld.2.2.2.2.2.2.2.2.2.2.2.2.2.2.2.2.2.2.2.2.2)
                      refine ⟨_, rfl, ?_⟩
                      have n0_ := Aside0.mk (Kd.V_below (by (with_reducible repeat (first | apply Kd.V_alloc | apply Kd.V_drewN | apply Kd.V_drew)); exact HO_0.out) hb)
                      have n1_ := Aside0.mk (bb8_ hb BK213.out)
                      have n2_ := Aside0.mk (below_step (by repeat (first | (with_reducible first | exact HB.out | apply below_alloc | apply pw_below_drewN | apply below_drew1 | refine below_set ?_ GE213.out) | exact HB.out)) hb)
                      clear HO_0
                      clear BK213
                      clear HB
                      have HO_0 := n0_
                      have BK213 := n1_
                      have HB := n2_
                      clear n0_ n1_ n2_
                      (try clear hb)
                      (try clear hb2)
                      (try clear hk)
                      (try clear hi)
                      refine hK.out _ _ ⟨(blk_cell BK213.out 0).trans rfl, (blk_cell BK213.out 1).trans rfl, (blk_cell BK213.out 2).trans rfl, (blk_cell BK213.out 3).trans rfl, (blk_cell BK213.out 4).trans rfl, (blk_cell BK213.out 5).trans rfl, (blk_cell BK213.out 6).trans rfl, (blk_cell BK213.out 7).trans rfl, (blk_cell BK213.out 8).trans rfl, (blk_cell BK213.out 9).trans rfl, (blk_cell BK213.out 10).trans rfl, HS11_, HS12_, HS13_, HS14_, HS15_, HS16_, HS17_, HS18_, HS19_, HS20_, HS21_⟩ (fun hHeld => ?_)
                      clear hK K
                      refine norm_ (a' := ?_) ?_ ?_
                      rotate_left
                      · show Act.put _ (some 36) _ = _
                        simp only [Act.put, List.setIfInBounds_toArray, List.set_cons_zero, List.set_cons_succ, i64_w, i32_w]
                        rfl
                      refine pure_ (i := 6) (N := some 10) (v := ?_) (a' := ?_) #[true, true, true, true, true, true, true] rfl rfl (by kernel_rfl) (fun _ _ _ h => h) (Or.inl ⟨by rfl, ?_⟩) ?_ ?_
                      rotate_left
                      · intro w'
                        go_simp
                        with_reducible rfl
                      rotate_left
                      · simp only [Act.put, List.setIfInBounds_toArray, List.set_cons_zero, List.set_cons_succ, i64_w, i32_w]
                        rfl
                      refine done_ (by kernel_rfl) ?_
                      have p217 : 0 ≤ (x9_2 : Int) := of_decide_eq_true (by first | (with_reducible assumption) | assumption)
                      have q217 : x9_2 < (l0.length : Int) := of_decide_eq_true (by first | (with_reducible assumption) | assumption)
                      obtain ⟨ad217, e217, hx217_0, hx217_1, hx217_2, hx217_3, hx217_4, hx217_5, hx217_6, hx217_7, hx217_8, hx217_9, hx217_10⟩ := at_T26 (Kd.V_reads' HO_0.out).2.2 x9_2 p217 q217
                      (try rw [← Nbq18.out] at hx217_4)
                      (try rw [← Nbq18.out] at hx217_5)
                      (try rw [← Nbq18.out] at hx217_6)
                      (try rw [← Nbq18.out] at hx217_7)
                      (try rw [← Nbq18.out] at hx217_8)
                      (try rw [← Nbq18.out] at hx217_9)
                      (try rw [← Nbq18.out] at hx217_10)
                      obtain rfl : ad215 = ad217 := (by injection e217)
                      replace p217 := eq_true p217
                      replace q217 := eq_true q217
                      try go_wp2
                      go_roundg k2
                      case measure => have := HJ5.out; have := HK2.out; omega
                      case rel => exact ⟨(wrap64 (x9_2 + 1)), (by first | rfl | (simp; done) | (simp [*]; done)), H', ⟨by have := HJ5.out; have := HK2.out; omega⟩, ⟨by (with_reducible repeat (first | apply Kd.V_alloc | apply Kd.V_drewN | apply Kd.V_drew)); exact HO_0.out⟩, ⟨by (with_reducible repeat (first | refine blk_drewN ?_ _ | refine blk_drew ?_ | refine blk_alloc ?_ _)); exact BK213.out⟩, ⟨by repeat (first | (with_reducible first | exact HB.out | apply below_alloc | apply pw_below_drewN | apply below_drew1 | refine below_set ?_ GE213.out) | exact HB.out)⟩⟩
                · rw [if_neg c13] at H
                  exact absurd H (by simp)
              · rw [if_neg c12] at H
                have c12b0 : decide (x9_2 < (l0.length : Int)) = false := decide_eq_false c12
                clear c12
                replace H := Option.bind_eq_some_iff.mp H
                obtain ⟨t218, A270, H⟩ := H
                replace H : (some (t218, 0)) = some (r1, r2) := H
                have A27 := Aside0.mk A270
                clear A270
                simp only [Option.some.injEq, Prod.mk.injEq] at H
                obtain ⟨rfl, rfl⟩ := H
                obtain ⟨hcz28_0, hcz28_1, hcz28_2, hcz28_3, hcz28_4, hcz28_5, hcz28_6, hcz28_7, hcz28_8, hcz28_9, hcz28_10⟩ := cy11_8 BK213.out
                have hfz28_0 := blk_frozen BK213.out 0
                have hfz28_1 := blk_frozen BK213.out 1
                have hfz28_2 := blk_frozen BK213.out 2
                have hfz28_3 := blk_frozen BK213.out 3
                have hfz28_4 := blk_frozen BK213.out 4
                have hfz28_5 := blk_frozen BK213.out 5
                have hfz28_6 := blk_frozen BK213.out 6
                have hfz28_7 := blk_frozen BK213.out 7
                have hfz28_8 := blk_frozen BK213.out 8
                have hfz28_9 := blk_frozen BK213.out 9
                have hfz28_10 := blk_frozen BK213.out 10
                go_wp2_with (first | ((with_reducible refine gate_callee (f := 93) rfl ?_); refine goesL_ (some 55) rfl rfl Try.func93 (by kernel_rfl) rfl #[.slice A0 l0.length c0, .int .i64 a1, .agg #[.int .i64 a2_0, .int .i64 a2_1, .int .u64 a2_2, .int .u64 a2_3, .bool a2_4, .bool a2_5, .bool a2_6, .bool a2_7, .bool a2_8, .bool a2_9, .bool a2_10]] rfl (by (try simp only [List.map_toArray, List.map_cons, List.map_nil]); first | done | rfl | (simp only [List.length_drop, List.length_take]; rfl)) ?_; (with_reducible refine (lookasideref06_with.calls _ _ l0 a1 a2_0 a2_1 a2_2 a2_3 a2_4 a2_5 a2_6 a2_7 a2_8 a2_9 a2_10 t218 _ ?side1 ?side2 A27.out).mono ?_); (case side1 => repeat (first | exact (Kd.V_reads' HO_0.out).2.2 | (with_reducible refine Kd.C_alloc ?_ _) | (with_reducible refine Kd.C_drewN ?_ _) | (with_reducible refine Kd.C_drew ?_))); (case side2 => exact (Kd.V_reads' HO_0.out).2.1); rintro e w29 ⟨v219, rfl, ho0, hb⟩; refine ⟨_, rfl, ?_⟩; have n0_ := Aside0.mk (Kd.V_elder' (by (with_reducible repeat (first | apply Kd.V_alloc | apply Kd.V_drewN | apply Kd.V_drew)); exact HO_0.out) (Kd.R_base ho0) hb); have n1_ := Aside0.mk (Kd.R_lower (Kd.R_newB (Kd.R_newM (M := fun k_ => (w.heap.size ≤ k_)) ho0 (below_size (by repeat (first | (with_reducible first | exact HB.out | apply below_alloc | apply pw_below_drewN | apply below_drew1 | refine below_set ?_ GE213.out) | exact HB.out))) (fun k_ h_ => h_)) (g := gb213) (o := .cells #[.int .i64 a2_0, .int .i64 a2_1, .int .u64 a2_2, .int .u64 a2_3, .bool a2_4, .bool a2_5, .bool a2_6, .bool a2_7, .bool a2_8, .bool a2_9, .bool a2_10] 26 (0, 0)) (by (with_reducible repeat (first | refine blk_drewN ?_ _ | refine blk_drew ?_ | refine blk_alloc ?_ _)); exact BK213.out)) (below_size (by repeat (first | (with_reducible first | exact HB.out | apply below_alloc | apply pw_below_drewN | apply below_drew1 | refine below_set ?_ GE213.out) | exact HB.out)))); have n2_ := Aside0.mk (bb8_ hb BK213.out); have n3_ := Aside0.mk (below_step (by repeat (first | (with_reducible first | exact HB.out | apply below_alloc | apply pw_below_drewN | apply below_drew1 | refine below_set ?_ GE213.out) | exact HB.out)) hb); clear HO_0; clear BK213; clear HB; have HO_0 := n0_; have HO220 := n1_; have BK213 := n2_; have HB := n3_; clear n0_ n1_ n2_ n3_; (try clear hb); (try clear hb2); (try clear hk); (try clear hi); (try clear ho0)))
                go_ret2
                exact ⟨_, by first | rfl | (simp [errW_none, errW_some] <;> rfl) | (simp [*, errW_none, errW_some] <;> rfl), Kd.V_mono (Kd.R_V (by (with_reducible repeat (first | apply Kd.R_alloc | apply Kd.R_drewN | apply Kd.R_drew)); exact Kd.R_mono HO220.out (fun _ hk => hk.1.1))) (fun k_ hk => by first | exact ⟨(.inr (hk.1)), hk.2⟩ | exact (.inr (hk))), by repeat (first | (with_reducible first | exact HB.out | apply below_alloc | apply pw_below_drewN | apply below_drew1 | refine below_set ?_ GE213.out) | exact HB.out)⟩
  · replace c5 := Bool.eq_false_iff.mpr c5
    subst c5
    have H1 : (some (l0, 1)) = some (r1, r2) := by rw [if_neg (show ¬ (false = true) by decide)] at H; exact H
    clear H
    have H := H1
    clear H1
    simp only [Option.some.injEq, Prod.mk.injEq] at H
    obtain ⟨rfl, rfl⟩ := H
    go_enter Try.func65, Try.ntmps65
    go_wp2_with (first | ((with_reducible refine gate_dst (N := 5) rfl ?_); (try (refine gate_guard (by rfl) ?_; dsimp only)); refine box_event ?hg (N := 5) ?hd (cs := #[.int .i64 a2_0, .int .i64 a2_1, .int .u64 a2_2, .int .u64 a2_3, .bool a2_4, .bool a2_5, .bool a2_6, .bool a2_7, .bool a2_8, .bool a2_9, .bool a2_10]) (t := 26) ?hr ?_; (case hd => rfl); (case hg => rfl); (case hr => first | (go_simp; done) | (go_simp; rfl)); intro gb213 hg w30 hbox hb; have n0_ := Aside0.mk (Kd.V_below (Kd.V_elderB (by (with_reducible repeat (first | apply Kd.V_alloc | apply Kd.V_drewN | apply Kd.V_drew)); exact HO0.out) gb213 (Nat.le_of_eq hg.symm)) hb); have n1_ := Aside0.mk (below_step (by repeat (first | (with_reducible first | exact HB.out | apply below_alloc | apply pw_below_drewN | apply below_drew1) | exact HB.out)) hb); have n2_ := Aside0.mk (hbox); have n3_ := Aside0.mk ((by rw [hg]; exact (below_size (by repeat (first | (with_reducible first | exact HB.out | apply below_alloc | apply pw_below_drewN | apply below_drew1) | exact HB.out))) : w.heap.size ≤ gb213)); have n4_ := Aside0.mk ((by rw [hg]; exact (below_size (by repeat (first | (with_reducible first | exact HB.out | apply below_alloc | apply pw_below_drewN | apply below_drew1) | exact HB.out))) : w.heap.size ≤ gb213)); clear HO0; clear HB; have HO0 := n0_; have HB := n1_; have BK213 := n2_; have GW213 := n3_; have GE213 := n4_; clear n0_ n1_ n2_ n3_ n4_; clear hb hbox hg; obtain ⟨hcz31_0, hcz31_1, hcz31_2, hcz31_3, hcz31_4, hcz31_5, hcz31_6, hcz31_7, hcz31_8, hcz31_9, hcz31_10⟩ := cy11_8 BK213.out; have hfz31_0 := blk_frozen BK213.out 0; have hfz31_1 := blk_frozen BK213.out 1; have hfz31_2 := blk_frozen BK213.out 2; have hfz31_3 := blk_frozen BK213.out 3; have hfz31_4 := blk_frozen BK213.out 4; have hfz31_5 := blk_frozen BK213.out 5; have hfz31_6 := blk_frozen BK213.out 6; have hfz31_7 := blk_frozen BK213.out 7; have hfz31_8 := blk_frozen BK213.out 8; have hfz31_9 := blk_frozen BK213.out 9; have hfz31_10 := blk_frozen BK213.out 10) | ((with_reducible refine gate_callee (f := 92) rfl ?_); refine goesL_ (some 12) rfl rfl Try.func92 (by kernel_rfl) rfl #[.agg #[.int .i64 a2_0, .int .i64 a2_1, .int .u64 a2_2, .int .u64 a2_3, .bool a2_4, .bool a2_5, .bool a2_6, .bool a2_7, .bool a2_8, .bool a2_9, .bool a2_10]] rfl (by (try simp only [List.map_toArray, List.map_cons, List.map_nil]); first | done | rfl | (simp only [List.length_drop, List.length_take]; rfl)) ?_; (with_reducible refine (lookasideref03_May.calls k a2_0 a2_1 a2_2 a2_3 a2_4 a2_5 a2_6 a2_7 a2_8 a2_9 a2_10 false _ A4.out).mono ?_); rintro e w32 ⟨rfl, hb⟩; refine ⟨_, rfl, ?_⟩; have n0_ := Aside0.mk (Kd.V_below (by (with_reducible repeat (first | apply Kd.V_alloc | apply Kd.V_drewN | apply Kd.V_drew)); exact HO0.out) hb); have n1_ := Aside0.mk (bb8_ hb BK213.out); have n2_ := Aside0.mk (below_step (by repeat (first | (with_reducible first | exact HB.out | apply below_alloc | apply pw_below_drewN | apply below_drew1 | refine below_set ?_ GE213.out) | exact HB.out)) hb); clear HO0; clear BK213; clear HB; have HO0 := n0_; have BK213 := n1_; have HB := n2_; clear n0_ n1_ n2_; (try clear hb); (try clear hb2); (try clear hk); (try clear hi)))
    go_ret2
    exact ⟨_, by first | rfl | (simp [errW_none, errW_some] <;> rfl) | (simp [*, errW_none, errW_some] <;> rfl), by (with_reducible repeat (first | apply Kd.V_alloc | apply Kd.V_drewN | apply Kd.V_drew)); exact Kd.V_mono HO0.out (fun _ hk => hk.1), by repeat (first | (with_reducible first | exact HB.out | apply below_alloc | apply pw_below_drewN | apply below_drew1 | refine below_set ?_ GE213.out) | exact HB.out)⟩

-- NOT PRINTED: function 66 (tlb_Tlb_Put)

end Go.Proofs.Ythclbckkfgmbaaa.QTlbPlays
