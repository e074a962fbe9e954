-- Printed by a program of this session (wip/print/myprint.py) out of the translation; Lean checks it.
import Derived.Test.YtecbngibhobgbaaQTteRoundx0
import Derived.Test.YtecbngibhobgbaaQTteRoundx2
import Derived.Test.YtecbngibhobgbaaQTteRoundx7
namespace Go.Proofs.Ytecbngibhobgbaa.QTteRound
open Go.RowKit Go.Proofs.YtecbngibhobgbaaW.PrintWords Go.Proofs.YtecbngibhobgbaaW.PrintLast Go.Proofs.YtecbngibhobgbaaW.PrintMore
attribute [local go_sem] max2_int min2_int max_two min_two max_three min_three max_four min_four   -- for this text's walks alone
set_option linter.unusedVariables false
set_option linter.unusedSimpArgs false

/-! ### lookasideref03_May: function 23 -/
def lookasideref03_May.j0 : Nat → Bool → Int → Int → Int → Int → Bool → Bool → Bool → Bool → Bool → Bool → Bool → Option (Bool)
  | 0, _, _, _, _, _, _, _, _, _, _, _, _ => none
  | k + 1, x40, x165000, x165001, x165002, x165003, x165004, x165005, x165006, x165007, x165008, x165009, x165010 => if x40 = true then (some false) else ((lookasideref02_Bytes.f x165000).bind fun t167 => (if t167 = 0 then (none) else (if (Int.tmod x165002 t167) = 0 then (if (Int.tmod x165003 t167) = 0 then (some (decide (x165003 < 2199023255552))) else (some false)) else (some false))))
def lookasideref03_May.f (k : Nat) (a0_0 : Int) (a0_1 : Int) (a0_2 : Int) (a0_3 : Int) (a0_4 : Bool) (a0_5 : Bool) (a0_6 : Bool) (a0_7 : Bool) (a0_8 : Bool) (a0_9 : Bool) (a0_10 : Bool) : Option (Bool) := (lookasideref02_May.f a0_0).bind fun t165 => ((lookasideref02_Hole.f k a0_2).bind fun t166 => (if a0_10 = true then (if t165 = true then (if a0_1 < 0 then (lookasideref03_May.j0 k true a0_0 a0_1 a0_2 a0_3 a0_4 a0_5 a0_6 a0_7 a0_8 a0_9 a0_10) else (if a0_1 > 8191 then (lookasideref03_May.j0 k true a0_0 a0_1 a0_2 a0_3 a0_4 a0_5 a0_6 a0_7 a0_8 a0_9 a0_10) else (if t166 = true then (lookasideref03_May.j0 k true a0_0 a0_1 a0_2 a0_3 a0_4 a0_5 a0_6 a0_7 a0_8 a0_9 a0_10) else (if a0_8 = true then (lookasideref03_May.j0 k (a0_1 != 0) a0_0 a0_1 a0_2 a0_3 a0_4 a0_5 a0_6 a0_7 a0_8 a0_9 a0_10) else (lookasideref03_May.j0 k false a0_0 a0_1 a0_2 a0_3 a0_4 a0_5 a0_6 a0_7 a0_8 a0_9 a0_10))))) else (lookasideref03_May.j0 k true a0_0 a0_1 a0_2 a0_3 a0_4 a0_5 a0_6 a0_7 a0_8 a0_9 a0_10)) else (lookasideref03_May.j0 k true a0_0 a0_1 a0_2 a0_3 a0_4 a0_5 a0_6 a0_7 a0_8 a0_9 a0_10)))
theorem lookasideref03_May.mono_l : ∀ k, (∀ y0 y1 y2 y3 y4 y5 y6 y7 y8 y9 y10 y11, LeO (lookasideref03_May.j0 k y0 y1 y2 y3 y4 y5 y6 y7 y8 y9 y10 y11) (lookasideref03_May.j0 (k + 1) y0 y1 y2 y3 y4 y5 y6 y7 y8 y9 y10 y11))
  | 0 => fun _ _ _ _ _ _ _ _ _ _ _ _ r h => by simp [lookasideref03_May.j0] at h
  | k + 1 => by
    have ih0 := lookasideref03_May.mono_l k
    · intro y0 y1 y2 y3 y4 y5 y6 y7 y8 y9 y10 y11
      unfold lookasideref03_May.j0
      repeat' first
      | (with_reducible exact ih0 _ _ _ _ _ _ _ _ _ _ _ _)
      | (with_reducible exact lookasideref02_Hole.mono _ _)
      | (with_reducible exact LeO.refl _)
      | (with_reducible exact LeO.none _)
      | (with_reducible refine LeO.ite ?_ ?_)
      | (with_reducible refine LeO.bind ?_ (fun _ => ?_))
      | exact ih0 _ _ _ _ _ _ _ _ _ _ _ _
      | exact lookasideref02_Hole.mono _ _
      | exact LeO.none _
      | refine LeO.ite ?_ ?_
      | refine LeO.bind ?_ (fun _ => ?_)
theorem lookasideref03_May.mono : ∀ a0 a1 a2 a3 a4 a5 a6 a7 a8 a9 a10 k, LeO (lookasideref03_May.f k a0 a1 a2 a3 a4 a5 a6 a7 a8 a9 a10) (lookasideref03_May.f (k + 1) a0 a1 a2 a3 a4 a5 a6 a7 a8 a9 a10) := by
  intro a0 a1 a2 a3 a4 a5 a6 a7 a8 a9 a10 k
  have ih0 := lookasideref03_May.mono_l k
  unfold lookasideref03_May.f
  repeat' first
      | (with_reducible exact ih0 _ _ _ _ _ _ _ _ _ _ _ _)
      | (with_reducible exact lookasideref02_Hole.mono _ _)
      | (with_reducible exact LeO.refl _)
      | (with_reducible exact LeO.none _)
      | (with_reducible refine LeO.ite ?_ ?_)
      | (with_reducible refine LeO.bind ?_ (fun _ => ?_))
      | exact ih0 _ _ _ _ _ _ _ _ _ _ _ _
      | exact lookasideref02_Hole.mono _ _
      | exact LeO.none _
      | refine LeO.ite ?_ ?_
      | refine LeO.bind ?_ (fun _ => ?_)
set_option maxHeartbeats 8000000 in
set_option maxRecDepth 100000 in
theorem lookasideref03_May.calls (k : Nat) (a0_0 : Int) (a0_1 : Int) (a0_2 : Int) (a0_3 : Int) (a0_4 : Bool) (a0_5 : Bool) (a0_6 : Bool) (a0_7 : Bool) (a0_8 : Bool) (a0_9 : Bool) (a0_10 : Bool) (r : Bool) (w : World) (h : lookasideref03_May.f k a0_0 a0_1 a0_2 a0_3 a0_4 a0_5 a0_6 a0_7 a0_8 a0_9 a0_10 = some r) :
    Calls Try.prog 23 #[.agg #[.int .i64 a0_0, .int .i64 a0_1, .int .u64 a0_2, .int .u64 a0_3, .bool a0_4, .bool a0_5, .bool a0_6, .bool a0_7, .bool a0_8, .bool a0_9, .bool a0_10]] w fun e w' => e = .returned (.bool r) ∧ Below w.heap.size w w' := by
  have hu26 := Try.underlying26
  have HB := Aside0.mk (Below.refl w.heap.size w)
  have H : ((lookasideref02_May.f a0_0).bind fun t165 => ((lookasideref02_Hole.f k a0_2).bind fun t166 => (if a0_10 = true then (if t165 = true then (if a0_1 < 0 then (lookasideref03_May.j0 k true a0_0 a0_1 a0_2 a0_3 a0_4 a0_5 a0_6 a0_7 a0_8 a0_9 a0_10) else (if a0_1 > 8191 then (lookasideref03_May.j0 k true a0_0 a0_1 a0_2 a0_3 a0_4 a0_5 a0_6 a0_7 a0_8 a0_9 a0_10) else (if t166 = true then (lookasideref03_May.j0 k true a0_0 a0_1 a0_2 a0_3 a0_4 a0_5 a0_6 a0_7 a0_8 a0_9 a0_10) else (if a0_8 = true then (lookasideref03_May.j0 k (a0_1 != 0) a0_0 a0_1 a0_2 a0_3 a0_4 a0_5 a0_6 a0_7 a0_8 a0_9 a0_10) else (lookasideref03_May.j0 k false a0_0 a0_1 a0_2 a0_3 a0_4 a0_5 a0_6 a0_7 a0_8 a0_9 a0_10))))) else (lookasideref03_May.j0 k true a0_0 a0_1 a0_2 a0_3 a0_4 a0_5 a0_6 a0_7 a0_8 a0_9 a0_10)) else (lookasideref03_May.j0 k true a0_0 a0_1 a0_2 a0_3 a0_4 a0_5 a0_6 a0_7 a0_8 a0_9 a0_10)))) = some r := h
  clear h
  replace H := Option.bind_eq_some_iff.mp H
  obtain ⟨t165, A20, H⟩ := H
  replace H : ((lookasideref02_Hole.f k a0_2).bind fun t166 => (if a0_10 = true then (if t165 = true then (if a0_1 < 0 then (lookasideref03_May.j0 k true a0_0 a0_1 a0_2 a0_3 a0_4 a0_5 a0_6 a0_7 a0_8 a0_9 a0_10) else (if a0_1 > 8191 then (lookasideref03_May.j0 k true a0_0 a0_1 a0_2 a0_3 a0_4 a0_5 a0_6 a0_7 a0_8 a0_9 a0_10) else (if t166 = true then (lookasideref03_May.j0 k true a0_0 a0_1 a0_2 a0_3 a0_4 a0_5 a0_6 a0_7 a0_8 a0_9 a0_10) else (if a0_8 = true then (lookasideref03_May.j0 k (a0_1 != 0) a0_0 a0_1 a0_2 a0_3 a0_4 a0_5 a0_6 a0_7 a0_8 a0_9 a0_10) else (lookasideref03_May.j0 k false a0_0 a0_1 a0_2 a0_3 a0_4 a0_5 a0_6 a0_7 a0_8 a0_9 a0_10))))) else (lookasideref03_May.j0 k true a0_0 a0_1 a0_2 a0_3 a0_4 a0_5 a0_6 a0_7 a0_8 a0_9 a0_10)) else (lookasideref03_May.j0 k true a0_0 a0_1 a0_2 a0_3 a0_4 a0_5 a0_6 a0_7 a0_8 a0_9 a0_10))) = some r := H
  have A2 := Aside0.mk A20
  clear A20
  replace H := Option.bind_eq_some_iff.mp H
  obtain ⟨t166, A30, H⟩ := H
  replace H : (if a0_10 = true then (if t165 = true then (if a0_1 < 0 then (lookasideref03_May.j0 k true a0_0 a0_1 a0_2 a0_3 a0_4 a0_5 a0_6 a0_7 a0_8 a0_9 a0_10) else (if a0_1 > 8191 then (lookasideref03_May.j0 k true a0_0 a0_1 a0_2 a0_3 a0_4 a0_5 a0_6 a0_7 a0_8 a0_9 a0_10) else (if t166 = true then (lookasideref03_May.j0 k true a0_0 a0_1 a0_2 a0_3 a0_4 a0_5 a0_6 a0_7 a0_8 a0_9 a0_10) else (if a0_8 = true then (lookasideref03_May.j0 k (a0_1 != 0) a0_0 a0_1 a0_2 a0_3 a0_4 a0_5 a0_6 a0_7 a0_8 a0_9 a0_10) else (lookasideref03_May.j0 k false a0_0 a0_1 a0_2 a0_3 a0_4 a0_5 a0_6 a0_7 a0_8 a0_9 a0_10))))) else (lookasideref03_May.j0 k true a0_0 a0_1 a0_2 a0_3 a0_4 a0_5 a0_6 a0_7 a0_8 a0_9 a0_10)) else (lookasideref03_May.j0 k true a0_0 a0_1 a0_2 a0_3 a0_4 a0_5 a0_6 a0_7 a0_8 a0_9 a0_10)) = some r := H
  have A3 := Aside0.mk A30
  clear A30
  have HC4 := Aside0.mk H
  clear H
  go_enter Try.func23, Try.ntmps23
  go_upto_region 3 with (first | ((with_reducible refine gate_dst (N := 1) rfl ?_); refine box_event ?hg (N := 1) ?hd (cs := #[.int .i64 a0_0, .int .i64 a0_1, .int .u64 a0_2, .int .u64 a0_3, .bool a0_4, .bool a0_5, .bool a0_6, .bool a0_7, .bool a0_8, .bool a0_9, .bool a0_10]) (t := 26) ?hr ?_; (case hd => rfl); (case hg => rfl); (case hr => first | (go_simp; done) | (go_simp; rfl)); intro gb164 hg w5 hbox hb; have n0_ := Aside0.mk (below_step (by repeat (first | (with_reducible first | exact HB.out | apply below_alloc | apply pw_below_drewN | apply below_drew1) | exact HB.out)) hb); have n1_ := Aside0.mk (hbox); have n2_ := Aside0.mk ((by rw [hg]; exact (below_size (by repeat (first | (with_reducible first | exact HB.out | apply below_alloc | apply pw_below_drewN | apply below_drew1) | exact HB.out))) : w.heap.size ≤ gb164)); have n3_ := Aside0.mk ((by rw [hg]; exact (below_size (by repeat (first | (with_reducible first | exact HB.out | apply below_alloc | apply pw_below_drewN | apply below_drew1) | exact HB.out))) : w.heap.size ≤ gb164)); clear HB; have HB := n0_; have BK164 := n1_; have GW164 := n2_; have GE164 := n3_; clear n0_ n1_ n2_ n3_; clear hb hbox hg; have hcz6_0 : w5.cell? ⟨gb164, 0, none⟩ = some (.int .i64 a0_0) := (blk_cell BK164.out 0).trans rfl; have hcz6_1 : w5.cell? ⟨gb164, 1, none⟩ = some (.int .i64 a0_1) := (blk_cell BK164.out 1).trans rfl; have hcz6_2 : w5.cell? ⟨gb164, 2, none⟩ = some (.int .u64 a0_2) := (blk_cell BK164.out 2).trans rfl; have hcz6_3 : w5.cell? ⟨gb164, 3, none⟩ = some (.int .u64 a0_3) := (blk_cell BK164.out 3).trans rfl; have hcz6_4 : w5.cell? ⟨gb164, 4, none⟩ = some (.bool a0_4) := (blk_cell BK164.out 4).trans rfl; have hcz6_5 : w5.cell? ⟨gb164, 5, none⟩ = some (.bool a0_5) := (blk_cell BK164.out 5).trans rfl; have hcz6_6 : w5.cell? ⟨gb164, 6, none⟩ = some (.bool a0_6) := (blk_cell BK164.out 6).trans rfl; have hcz6_7 : w5.cell? ⟨gb164, 7, none⟩ = some (.bool a0_7) := (blk_cell BK164.out 7).trans rfl; have hcz6_8 : w5.cell? ⟨gb164, 8, none⟩ = some (.bool a0_8) := (blk_cell BK164.out 8).trans rfl; have hcz6_9 : w5.cell? ⟨gb164, 9, none⟩ = some (.bool a0_9) := (blk_cell BK164.out 9).trans rfl; have hcz6_10 : w5.cell? ⟨gb164, 10, none⟩ = some (.bool a0_10) := (blk_cell BK164.out 10).trans rfl; have hfz6_0 := blk_frozen BK164.out 0; have hfz6_1 := blk_frozen BK164.out 1; have hfz6_2 := blk_frozen BK164.out 2; have hfz6_3 := blk_frozen BK164.out 3; have hfz6_4 := blk_frozen BK164.out 4; have hfz6_5 := blk_frozen BK164.out 5; have hfz6_6 := blk_frozen BK164.out 6; have hfz6_7 := blk_frozen BK164.out 7; have hfz6_8 := blk_frozen BK164.out 8; have hfz6_9 := blk_frozen BK164.out 9; have hfz6_10 := blk_frozen BK164.out 10) | (go_at_call 50; (with_reducible refine (lookasideref02_May.calls a0_0 t165 _ A2.out).mono ?_); rintro e w' ⟨rfl, ⟨nd, rfl⟩⟩; (try first | exact ⟨rfl, _, World.drewN_drewN _ _ _⟩ | exact ⟨rfl, _, Eq.trans (World.drewN_drewN _ _ _) (congrArg (World.drewN _) (Nat.add_assoc _ _ _))⟩)) | (go_at_call 57; (with_reducible refine (lookasideref02_Hole.calls k a0_2 t166 _ A3.out).mono ?_); rintro e w' ⟨rfl, ⟨nd, rfl⟩⟩; (try first | exact ⟨rfl, _, World.drewN_drewN _ _ _⟩ | exact ⟨rfl, _, Eq.trans (World.drewN_drewN _ _ _) (congrArg (World.drewN _) (Nat.add_assoc _ _ _))⟩)))
  repeat (go_quiet (first | ((with_reducible refine gate_dst (N := 1) rfl ?_); refine box_event ?hg (N := 1) ?hd (cs := #[.int .i64 a0_0, .int .i64 a0_1, .int .u64 a0_2, .int .u64 a0_3, .bool a0_4, .bool a0_5, .bool a0_6, .bool a0_7, .bool a0_8, .bool a0_9, .bool a0_10]) (t := 26) ?hr ?_; (case hd => rfl); (case hg => rfl); (case hr => first | (go_simp; done) | (go_simp; rfl)); intro gb164 hg w5 hbox hb; have n0_ := Aside0.mk (below_step (by repeat (first | (with_reducible first | exact HB.out | apply below_alloc | apply pw_below_drewN | apply below_drew1) | exact HB.out)) hb); have n1_ := Aside0.mk (hbox); have n2_ := Aside0.mk ((by rw [hg]; exact (below_size (by repeat (first | (with_reducible first | exact HB.out | apply below_alloc | apply pw_below_drewN | apply below_drew1) | exact HB.out))) : w.heap.size ≤ gb164)); have n3_ := Aside0.mk ((by rw [hg]; exact (below_size (by repeat (first | (with_reducible first | exact HB.out | apply below_alloc | apply pw_below_drewN | apply below_drew1) | exact HB.out))) : w.heap.size ≤ gb164)); clear HB; have HB := n0_; have BK164 := n1_; have GW164 := n2_; have GE164 := n3_; clear n0_ n1_ n2_ n3_; clear hb hbox hg; have hcz6_0 : w5.cell? ⟨gb164, 0, none⟩ = some (.int .i64 a0_0) := (blk_cell BK164.out 0).trans rfl; have hcz6_1 : w5.cell? ⟨gb164, 1, none⟩ = some (.int .i64 a0_1) := (blk_cell BK164.out 1).trans rfl; have hcz6_2 : w5.cell? ⟨gb164, 2, none⟩ = some (.int .u64 a0_2) := (blk_cell BK164.out 2).trans rfl; have hcz6_3 : w5.cell? ⟨gb164, 3, none⟩ = some (.int .u64 a0_3) := (blk_cell BK164.out 3).trans rfl; have hcz6_4 : w5.cell? ⟨gb164, 4, none⟩ = some (.bool a0_4) := (blk_cell BK164.out 4).trans rfl; have hcz6_5 : w5.cell? ⟨gb164, 5, none⟩ = some (.bool a0_5) := (blk_cell BK164.out 5).trans rfl; have hcz6_6 : w5.cell? ⟨gb164, 6, none⟩ = some (.bool a0_6) := (blk_cell BK164.out 6).trans rfl; have hcz6_7 : w5.cell? ⟨gb164, 7, none⟩ = some (.bool a0_7) := (blk_cell BK164.out 7).trans rfl; have hcz6_8 : w5.cell? ⟨gb164, 8, none⟩ = some (.bool a0_8) := (blk_cell BK164.out 8).trans rfl; have hcz6_9 : w5.cell? ⟨gb164, 9, none⟩ = some (.bool a0_9) := (blk_cell BK164.out 9).trans rfl; have hcz6_10 : w5.cell? ⟨gb164, 10, none⟩ = some (.bool a0_10) := (blk_cell BK164.out 10).trans rfl; have hfz6_0 := blk_frozen BK164.out 0; have hfz6_1 := blk_frozen BK164.out 1; have hfz6_2 := blk_frozen BK164.out 2; have hfz6_3 := blk_frozen BK164.out 3; have hfz6_4 := blk_frozen BK164.out 4; have hfz6_5 := blk_frozen BK164.out 5; have hfz6_6 := blk_frozen BK164.out 6; have hfz6_7 := blk_frozen BK164.out 7; have hfz6_8 := blk_frozen BK164.out 8; have hfz6_9 := blk_frozen BK164.out 9; have hfz6_10 := blk_frozen BK164.out 10) | (go_at_call 50; (with_reducible refine (lookasideref02_May.calls a0_0 t165 _ A2.out).mono ?_); rintro e w' ⟨rfl, ⟨nd, rfl⟩⟩; (try first | exact ⟨rfl, _, World.drewN_drewN _ _ _⟩ | exact ⟨rfl, _, Eq.trans (World.drewN_drewN _ _ _) (congrArg (World.drewN _) (Nat.add_assoc _ _ _))⟩)) | (go_at_call 57; (with_reducible refine (lookasideref02_Hole.calls k a0_2 t166 _ A3.out).mono ?_); rintro e w' ⟨rfl, ⟨nd, rfl⟩⟩; (try first | exact ⟨rfl, _, World.drewN_drewN _ _ _⟩ | exact ⟨rfl, _, Eq.trans (World.drewN_drewN _ _ _) (congrArg (World.drewN _) (Nat.add_assoc _ _ _))⟩))); go_upto_region 3 with (first | ((with_reducible refine gate_dst (N := 1) rfl ?_); refine box_event ?hg (N := 1) ?hd (cs := #[.int .i64 a0_0, .int .i64 a0_1, .int .u64 a0_2, .int .u64 a0_3, .bool a0_4, .bool a0_5, .bool a0_6, .bool a0_7, .bool a0_8, .bool a0_9, .bool a0_10]) (t := 26) ?hr ?_; (case hd => rfl); (case hg => rfl); (case hr => first | (go_simp; done) | (go_simp; rfl)); intro gb164 hg w5 hbox hb; have n0_ := Aside0.mk (below_step (by repeat (first | (with_reducible first | exact HB.out | apply below_alloc | apply pw_below_drewN | apply below_drew1) | exact HB.out)) hb); have n1_ := Aside0.mk (hbox); have n2_ := Aside0.mk ((by rw [hg]; exact (below_size (by repeat (first | (with_reducible first | exact HB.out | apply below_alloc | apply pw_below_drewN | apply below_drew1) | exact HB.out))) : w.heap.size ≤ gb164)); have n3_ := Aside0.mk ((by rw [hg]; exact (below_size (by repeat (first | (with_reducible first | exact HB.out | apply below_alloc | apply pw_below_drewN | apply below_drew1) | exact HB.out))) : w.heap.size ≤ gb164)); clear HB; have HB := n0_; have BK164 := n1_; have GW164 := n2_; have GE164 := n3_; clear n0_ n1_ n2_ n3_; clear hb hbox hg; have hcz6_0 : w5.cell? ⟨gb164, 0, none⟩ = some (.int .i64 a0_0) := (blk_cell BK164.out 0).trans rfl; have hcz6_1 : w5.cell? ⟨gb164, 1, none⟩ = some (.int .i64 a0_1) := (blk_cell BK164.out 1).trans rfl; have hcz6_2 : w5.cell? ⟨gb164, 2, none⟩ = some (.int .u64 a0_2) := (blk_cell BK164.out 2).trans rfl; have hcz6_3 : w5.cell? ⟨gb164, 3, none⟩ = some (.int .u64 a0_3) := (blk_cell BK164.out 3).trans rfl; have hcz6_4 : w5.cell? ⟨gb164, 4, none⟩ = some (.bool a0_4) := (blk_cell BK164.out 4).trans rfl; have hcz6_5 : w5.cell? ⟨gb164, 5, none⟩ = some (.bool a0_5) := (blk_cell BK164.out 5).trans rfl; have hcz6_6 : w5.cell? ⟨gb164, 6, none⟩ = some (.bool a0_6) := (blk_cell BK164.out 6).trans rfl; have hcz6_7 : w5.cell? ⟨gb164, 7, none⟩ = some (.bool a0_7) := (blk_cell BK164.out 7).trans rfl; have hcz6_8 : w5.cell? ⟨gb164, 8, none⟩ = some (.bool a0_8) := (blk_cell BK164.out 8).trans rfl; have hcz6_9 : w5.cell? ⟨gb164, 9, none⟩ = some (.bool a0_9) := (blk_cell BK164.out 9).trans rfl; have hcz6_10 : w5.cell? ⟨gb164, 10, none⟩ = some (.bool a0_10) := (blk_cell BK164.out 10).trans rfl; have hfz6_0 := blk_frozen BK164.out 0; have hfz6_1 := blk_frozen BK164.out 1; have hfz6_2 := blk_frozen BK164.out 2; have hfz6_3 := blk_frozen BK164.out 3; have hfz6_4 := blk_frozen BK164.out 4; have hfz6_5 := blk_frozen BK164.out 5; have hfz6_6 := blk_frozen BK164.out 6; have hfz6_7 := blk_frozen BK164.out 7; have hfz6_8 := blk_frozen BK164.out 8; have hfz6_9 := blk_frozen BK164.out 9; have hfz6_10 := blk_frozen BK164.out 10) | (go_at_call 50; (with_reducible refine (lookasideref02_May.calls a0_0 t165 _ A2.out).mono ?_); rintro e w' ⟨rfl, ⟨nd, rfl⟩⟩; (try first | exact ⟨rfl, _, World.drewN_drewN _ _ _⟩ | exact ⟨rfl, _, Eq.trans (World.drewN_drewN _ _ _) (congrArg (World.drewN _) (Nat.add_assoc _ _ _))⟩)) | (go_at_call 57; (with_reducible refine (lookasideref02_Hole.calls k a0_2 t166 _ A3.out).mono ?_); rintro e w' ⟨rfl, ⟨nd, rfl⟩⟩; (try first | exact ⟨rfl, _, World.drewN_drewN _ _ _⟩ | exact ⟨rfl, _, Eq.trans (World.drewN_drewN _ _ _) (congrArg (World.drewN _) (Nat.add_assoc _ _ _))⟩))))
  (try simp only [Act.put, List.setIfInBounds_toArray, List.set_cons_zero, List.set_cons_succ])
  go_cut [40] (fun v40 wc => ∃ (kq : Nat) (x40_3 : Bool), v40 = .bool x40_3 ∧ Aside0 (lookasideref03_May.j0 kq x40_3 a0_0 a0_1 a0_2 a0_3 a0_4 a0_5 a0_6 a0_7 a0_8 a0_9 a0_10 = some r) ∧ Aside0 (kq ≤ k) ∧ Aside0 (wc.heap[gb164]? = some (.cells #[.int .i64 a0_0, .int .i64 a0_1, .int .u64 a0_2, .int .u64 a0_3, .bool a0_4, .bool a0_5, .bool a0_6, .bool a0_7, .bool a0_8, .bool a0_9, .bool a0_10] 26 (0, 0))) ∧ Aside0 (Below w.heap.size w wc))
  case first =>
    have H := HC4.out
    clear HC4
    by_cases c7 : a0_10 = true
    · subst c7
      have H1 : (if t165 = true then (if a0_1 < 0 then (lookasideref03_May.j0 k true a0_0 a0_1 a0_2 a0_3 a0_4 a0_5 a0_6 a0_7 a0_8 a0_9 true) else (if a0_1 > 8191 then (lookasideref03_May.j0 k true a0_0 a0_1 a0_2 a0_3 a0_4 a0_5 a0_6 a0_7 a0_8 a0_9 true) else (if t166 = true then (lookasideref03_May.j0 k true a0_0 a0_1 a0_2 a0_3 a0_4 a0_5 a0_6 a0_7 a0_8 a0_9 true) else (if a0_8 = true then (lookasideref03_May.j0 k (a0_1 != 0) a0_0 a0_1 a0_2 a0_3 a0_4 a0_5 a0_6 a0_7 a0_8 a0_9 true) else (lookasideref03_May.j0 k false a0_0 a0_1 a0_2 a0_3 a0_4 a0_5 a0_6 a0_7 a0_8 a0_9 true))))) else (lookasideref03_May.j0 k true a0_0 a0_1 a0_2 a0_3 a0_4 a0_5 a0_6 a0_7 a0_8 a0_9 true)) = some r := by rw [if_pos rfl] at H; exact H
      clear H
      have H := H1
      clear H1
      by_cases c8 : t165 = true
      · subst c8
        have H1 : (if a0_1 < 0 then (lookasideref03_May.j0 k true a0_0 a0_1 a0_2 a0_3 a0_4 a0_5 a0_6 a0_7 a0_8 a0_9 true) else (if a0_1 > 8191 then (lookasideref03_May.j0 k true a0_0 a0_1 a0_2 a0_3 a0_4 a0_5 a0_6 a0_7 a0_8 a0_9 true) else (if t166 = true then (lookasideref03_May.j0 k true a0_0 a0_1 a0_2 a0_3 a0_4 a0_5 a0_6 a0_7 a0_8 a0_9 true) else (if a0_8 = true then (lookasideref03_May.j0 k (a0_1 != 0) a0_0 a0_1 a0_2 a0_3 a0_4 a0_5 a0_6 a0_7 a0_8 a0_9 true) else (lookasideref03_May.j0 k false a0_0 a0_1 a0_2 a0_3 a0_4 a0_5 a0_6 a0_7 a0_8 a0_9 true))))) = some r := by rw [if_pos rfl] at H; exact H
        clear H
        have H := H1
        clear H1
        by_cases c9 : a0_1 < 0
        · rw [if_pos c9] at H
          have c9b0 : decide (a0_1 < 0) = true := decide_eq_true c9
          clear c9
          (first | rw [c9b0] | (simp only [i64_w, i32_w]; rw [c9b0]) | skip)
          have H' := Aside0.mk H
          clear H
          have hcz10_0 : w5.cell? ⟨gb164, 0, none⟩ = some (.int .i64 a0_0) := (blk_cell BK164.out 0).trans rfl
          have hcz10_1 : w5.cell? ⟨gb164, 1, none⟩ = some (.int .i64 a0_1) := (blk_cell BK164.out 1).trans rfl
          have hcz10_2 : w5.cell? ⟨gb164, 2, none⟩ = some (.int .u64 a0_2) := (blk_cell BK164.out 2).trans rfl
          have hcz10_3 : w5.cell? ⟨gb164, 3, none⟩ = some (.int .u64 a0_3) := (blk_cell BK164.out 3).trans rfl
          have hcz10_4 : w5.cell? ⟨gb164, 4, none⟩ = some (.bool a0_4) := (blk_cell BK164.out 4).trans rfl
          have hcz10_5 : w5.cell? ⟨gb164, 5, none⟩ = some (.bool a0_5) := (blk_cell BK164.out 5).trans rfl
          have hcz10_6 : w5.cell? ⟨gb164, 6, none⟩ = some (.bool a0_6) := (blk_cell BK164.out 6).trans rfl
          have hcz10_7 : w5.cell? ⟨gb164, 7, none⟩ = some (.bool a0_7) := (blk_cell BK164.out 7).trans rfl
          have hcz10_8 : w5.cell? ⟨gb164, 8, none⟩ = some (.bool a0_8) := (blk_cell BK164.out 8).trans rfl
          have hcz10_9 : w5.cell? ⟨gb164, 9, none⟩ = some (.bool a0_9) := (blk_cell BK164.out 9).trans rfl
          have hcz10_10 : w5.cell? ⟨gb164, 10, none⟩ = some (.bool true) := (blk_cell BK164.out 10).trans rfl
          have hfz10_0 := blk_frozen BK164.out 0
          have hfz10_1 := blk_frozen BK164.out 1
          have hfz10_2 := blk_frozen BK164.out 2
          have hfz10_3 := blk_frozen BK164.out 3
          have hfz10_4 := blk_frozen BK164.out 4
          have hfz10_5 := blk_frozen BK164.out 5
          have hfz10_6 := blk_frozen BK164.out 6
          have hfz10_7 := blk_frozen BK164.out 7
          have hfz10_8 := blk_frozen BK164.out 8
          have hfz10_9 := blk_frozen BK164.out 9
          have hfz10_10 := blk_frozen BK164.out 10
          go_wp2
          repeat (go_quiet (fail); try go_wp2)
          go_meet
          case rel => exact ⟨_, (true), (by first | rfl | (simp; done) | (simp [*]; done)), H', ⟨by first | omega | exact Nat.le_refl _⟩, ⟨by (with_reducible repeat (first | refine blk_drewN ?_ _ | refine blk_drew ?_ | refine blk_alloc ?_ _)); exact BK164.out⟩, ⟨by repeat (first | (with_reducible first | exact HB.out | apply below_alloc | apply pw_below_drewN | apply below_drew1 | refine below_set ?_ GE164.out) | exact HB.out)⟩⟩
        · rw [if_neg c9] at H
          have c9b0 : decide (a0_1 < 0) = false := decide_eq_false c9
          clear c9
          (first | rw [c9b0] | (simp only [i64_w, i32_w]; rw [c9b0]) | skip)
          by_cases c11 : a0_1 > 8191
          · rw [if_pos c11] at H
            have c11b0 : decide (8191 < a0_1) = true := decide_eq_true c11
            clear c11
            have H' := Aside0.mk H
            clear H
            have hcz12_0 : w5.cell? ⟨gb164, 0, none⟩ = some (.int .i64 a0_0) := (blk_cell BK164.out 0).trans rfl
            have hcz12_1 : w5.cell? ⟨gb164, 1, none⟩ = some (.int .i64 a0_1) := (blk_cell BK164.out 1).trans rfl
            have hcz12_2 : w5.cell? ⟨gb164, 2, none⟩ = some (.int .u64 a0_2) := (blk_cell BK164.out 2).trans rfl
            have hcz12_3 : w5.cell? ⟨gb164, 3, none⟩ = some (.int .u64 a0_3) := (blk_cell BK164.out 3).trans rfl
            have hcz12_4 : w5.cell? ⟨gb164, 4, none⟩ = some (.bool a0_4) := (blk_cell BK164.out 4).trans rfl
            have hcz12_5 : w5.cell? ⟨gb164, 5, none⟩ = some (.bool a0_5) := (blk_cell BK164.out 5).trans rfl
            have hcz12_6 : w5.cell? ⟨gb164, 6, none⟩ = some (.bool a0_6) := (blk_cell BK164.out 6).trans rfl
            have hcz12_7 : w5.cell? ⟨gb164, 7, none⟩ = some (.bool a0_7) := (blk_cell BK164.out 7).trans rfl
            have hcz12_8 : w5.cell? ⟨gb164, 8, none⟩ = some (.bool a0_8) := (blk_cell BK164.out 8).trans rfl
            have hcz12_9 : w5.cell? ⟨gb164, 9, none⟩ = some (.bool a0_9) := (blk_cell BK164.out 9).trans rfl
            have hcz12_10 : w5.cell? ⟨gb164, 10, none⟩ = some (.bool true) := (blk_cell BK164.out 10).trans rfl
            have hfz12_0 := blk_frozen BK164.out 0
            have hfz12_1 := blk_frozen BK164.out 1
            have hfz12_2 := blk_frozen BK164.out 2
            have hfz12_3 := blk_frozen BK164.out 3
            have hfz12_4 := blk_frozen BK164.out 4
            have hfz12_5 := blk_frozen BK164.out 5
            have hfz12_6 := blk_frozen BK164.out 6
            have hfz12_7 := blk_frozen BK164.out 7
            have hfz12_8 := blk_frozen BK164.out 8
            have hfz12_9 := blk_frozen BK164.out 9
            have hfz12_10 := blk_frozen BK164.out 10
            go_wp2
            repeat (go_quiet (fail); try go_wp2)
            go_meet
            case rel => exact ⟨_, (true), (by first | rfl | (simp; done) | (simp [*]; done)), H', ⟨by first | omega | exact Nat.le_refl _⟩, ⟨by (with_reducible repeat (first | refine blk_drewN ?_ _ | refine blk_drew ?_ | refine blk_alloc ?_ _)); exact BK164.out⟩, ⟨by repeat (first | (with_reducible first | exact HB.out | apply below_alloc | apply pw_below_drewN | apply below_drew1 | refine below_set ?_ GE164.out) | exact HB.out)⟩⟩
          · rw [if_neg c11] at H
            have c11b0 : decide (8191 < a0_1) = false := decide_eq_false c11
            clear c11
            by_cases c13 : t166 = true
            · subst c13
              have H1 : (lookasideref03_May.j0 k true a0_0 a0_1 a0_2 a0_3 a0_4 a0_5 a0_6 a0_7 a0_8 a0_9 true) = some r := by rw [if_pos rfl] at H; exact H
              clear H
              have H := H1
              clear H1
              have H' := Aside0.mk H
              clear H
              have hcz14_0 : w5.cell? ⟨gb164, 0, none⟩ = some (.int .i64 a0_0) := (blk_cell BK164.out 0).trans rfl
              have hcz14_1 : w5.cell? ⟨gb164, 1, none⟩ = some (.int .i64 a0_1) := (blk_cell BK164.out 1).trans rfl
              have hcz14_2 : w5.cell? ⟨gb164, 2, none⟩ = some (.int .u64 a0_2) := (blk_cell BK164.out 2).trans rfl
              have hcz14_3 : w5.cell? ⟨gb164, 3, none⟩ = some (.int .u64 a0_3) := (blk_cell BK164.out 3).trans rfl
              have hcz14_4 : w5.cell? ⟨gb164, 4, none⟩ = some (.bool a0_4) := (blk_cell BK164.out 4).trans rfl
              have hcz14_5 : w5.cell? ⟨gb164, 5, none⟩ = some (.bool a0_5) := (blk_cell BK164.out 5).trans rfl
              have hcz14_6 : w5.cell? ⟨gb164, 6, none⟩ = some (.bool a0_6) := (blk_cell BK164.out 6).trans rfl
              have hcz14_7 : w5.cell? ⟨gb164, 7, none⟩ = some (.bool a0_7) := (blk_cell BK164.out 7).trans rfl
              have hcz14_8 : w5.cell? ⟨gb164, 8, none⟩ = some (.bool a0_8) := (blk_cell BK164.out 8).trans rfl
              have hcz14_9 : w5.cell? ⟨gb164, 9, none⟩ = some (.bool a0_9) := (blk_cell BK164.out 9).trans rfl
              have hcz14_10 : w5.cell? ⟨gb164, 10, none⟩ = some (.bool true) := (blk_cell BK164.out 10).trans rfl
              have hfz14_0 := blk_frozen BK164.out 0
              have hfz14_1 := blk_frozen BK164.out 1
              have hfz14_2 := blk_frozen BK164.out 2
              have hfz14_3 := blk_frozen BK164.out 3
              have hfz14_4 := blk_frozen BK164.out 4
              have hfz14_5 := blk_frozen BK164.out 5
              have hfz14_6 := blk_frozen BK164.out 6
              have hfz14_7 := blk_frozen BK164.out 7
              have hfz14_8 := blk_frozen BK164.out 8
              have hfz14_9 := blk_frozen BK164.out 9
              have hfz14_10 := blk_frozen BK164.out 10
              go_wp2
              repeat (go_quiet (fail); try go_wp2)
              go_meet
              case rel => exact ⟨_, (true), (by first | rfl | (simp; done) | (simp [*]; done)), H', ⟨by first | omega | exact Nat.le_refl _⟩, ⟨by (with_reducible repeat (first | refine blk_drewN ?_ _ | refine blk_drew ?_ | refine blk_alloc ?_ _)); exact BK164.out⟩, ⟨by repeat (first | (with_reducible first | exact HB.out | apply below_alloc | apply pw_below_drewN | apply below_drew1 | refine below_set ?_ GE164.out) | exact HB.out)⟩⟩
            · replace c13 := Bool.eq_false_iff.mpr c13
              subst c13
              have H1 : (if a0_8 = true then (lookasideref03_May.j0 k (a0_1 != 0) a0_0 a0_1 a0_2 a0_3 a0_4 a0_5 a0_6 a0_7 a0_8 a0_9 true) else (lookasideref03_May.j0 k false a0_0 a0_1 a0_2 a0_3 a0_4 a0_5 a0_6 a0_7 a0_8 a0_9 true)) = some r := by rw [if_neg (show ¬ (false = true) by decide)] at H; exact H
              clear H
              have H := H1
              clear H1
              by_cases c15 : a0_8 = true
              · subst c15
                have H1 : (lookasideref03_May.j0 k (a0_1 != 0) a0_0 a0_1 a0_2 a0_3 a0_4 a0_5 a0_6 a0_7 true a0_9 true) = some r := by rw [if_pos rfl] at H; exact H
                clear H
                have H := H1
                clear H1
                have H' := Aside0.mk H
                clear H
                have hcz16_0 : w5.cell? ⟨gb164, 0, none⟩ = some (.int .i64 a0_0) := (blk_cell BK164.out 0).trans rfl
                have hcz16_1 : w5.cell? ⟨gb164, 1, none⟩ = some (.int .i64 a0_1) := (blk_cell BK164.out 1).trans rfl
                have hcz16_2 : w5.cell? ⟨gb164, 2, none⟩ = some (.int .u64 a0_2) := (blk_cell BK164.out 2).trans rfl
                have hcz16_3 : w5.cell? ⟨gb164, 3, none⟩ = some (.int .u64 a0_3) := (blk_cell BK164.out 3).trans rfl
                have hcz16_4 : w5.cell? ⟨gb164, 4, none⟩ = some (.bool a0_4) := (blk_cell BK164.out 4).trans rfl
                have hcz16_5 : w5.cell? ⟨gb164, 5, none⟩ = some (.bool a0_5) := (blk_cell BK164.out 5).trans rfl
                have hcz16_6 : w5.cell? ⟨gb164, 6, none⟩ = some (.bool a0_6) := (blk_cell BK164.out 6).trans rfl
                have hcz16_7 : w5.cell? ⟨gb164, 7, none⟩ = some (.bool a0_7) := (blk_cell BK164.out 7).trans rfl
                have hcz16_8 : w5.cell? ⟨gb164, 8, none⟩ = some (.bool true) := (blk_cell BK164.out 8).trans rfl
                have hcz16_9 : w5.cell? ⟨gb164, 9, none⟩ = some (.bool a0_9) := (blk_cell BK164.out 9).trans rfl
                have hcz16_10 : w5.cell? ⟨gb164, 10, none⟩ = some (.bool true) := (blk_cell BK164.out 10).trans rfl
                have hfz16_0 := blk_frozen BK164.out 0
                have hfz16_1 := blk_frozen BK164.out 1
                have hfz16_2 := blk_frozen BK164.out 2
                have hfz16_3 := blk_frozen BK164.out 3
                have hfz16_4 := blk_frozen BK164.out 4
                have hfz16_5 := blk_frozen BK164.out 5
                have hfz16_6 := blk_frozen BK164.out 6
                have hfz16_7 := blk_frozen BK164.out 7
                have hfz16_8 := blk_frozen BK164.out 8
                have hfz16_9 := blk_frozen BK164.out 9
                have hfz16_10 := blk_frozen BK164.out 10
                go_wp2
                repeat (go_quiet (fail); try go_wp2)
                go_meet
                case rel => exact ⟨_, ((a0_1 != 0)), (by first | rfl | (simp; done) | (simp [*]; done)), H', ⟨by first | omega | exact Nat.le_refl _⟩, ⟨by (with_reducible repeat (first | refine blk_drewN ?_ _ | refine blk_drew ?_ | refine blk_alloc ?_ _)); exact BK164.out⟩, ⟨by repeat (first | (with_reducible first | exact HB.out | apply below_alloc | apply pw_below_drewN | apply below_drew1 | refine below_set ?_ GE164.out) | exact HB.out)⟩⟩
              · replace c15 := Bool.eq_false_iff.mpr c15
                subst c15
                have H1 : (lookasideref03_May.j0 k false a0_0 a0_1 a0_2 a0_3 a0_4 a0_5 a0_6 a0_7 false a0_9 true) = some r := by rw [if_neg (show ¬ (false = true) by decide)] at H; exact H
                clear H
                have H := H1
                clear H1
                have H' := Aside0.mk H
                clear H
                have hcz17_0 : w5.cell? ⟨gb164, 0, none⟩ = some (.int .i64 a0_0) := (blk_cell BK164.out 0).trans rfl
                have hcz17_1 : w5.cell? ⟨gb164, 1, none⟩ = some (.int .i64 a0_1) := (blk_cell BK164.out 1).trans rfl
                have hcz17_2 : w5.cell? ⟨gb164, 2, none⟩ = some (.int .u64 a0_2) := (blk_cell BK164.out 2).trans rfl
                have hcz17_3 : w5.cell? ⟨gb164, 3, none⟩ = some (.int .u64 a0_3) := (blk_cell BK164.out 3).trans rfl
                have hcz17_4 : w5.cell? ⟨gb164, 4, none⟩ = some (.bool a0_4) := (blk_cell BK164.out 4).trans rfl
                have hcz17_5 : w5.cell? ⟨gb164, 5, none⟩ = some (.bool a0_5) := (blk_cell BK164.out 5).trans rfl
                have hcz17_6 : w5.cell? ⟨gb164, 6, none⟩ = some (.bool a0_6) := (blk_cell BK164.out 6).trans rfl
                have hcz17_7 : w5.cell? ⟨gb164, 7, none⟩ = some (.bool a0_7) := (blk_cell BK164.out 7).trans rfl
                have hcz17_8 : w5.cell? ⟨gb164, 8, none⟩ = some (.bool false) := (blk_cell BK164.out 8).trans rfl
                have hcz17_9 : w5.cell? ⟨gb164, 9, none⟩ = some (.bool a0_9) := (blk_cell BK164.out 9).trans rfl
                have hcz17_10 : w5.cell? ⟨gb164, 10, none⟩ = some (.bool true) := (blk_cell BK164.out 10).trans rfl
                have hfz17_0 := blk_frozen BK164.out 0
                have hfz17_1 := blk_frozen BK164.out 1
                have hfz17_2 := blk_frozen BK164.out 2
                have hfz17_3 := blk_frozen BK164.out 3
                have hfz17_4 := blk_frozen BK164.out 4
                have hfz17_5 := blk_frozen BK164.out 5
                have hfz17_6 := blk_frozen BK164.out 6
                have hfz17_7 := blk_frozen BK164.out 7
                have hfz17_8 := blk_frozen BK164.out 8
                have hfz17_9 := blk_frozen BK164.out 9
                have hfz17_10 := blk_frozen BK164.out 10
                go_wp2
                repeat (go_quiet (fail); try go_wp2)
                go_meet
                case rel => exact ⟨_, (false), (by first | rfl | (simp; done) | (simp [*]; done)), H', ⟨by first | omega | exact Nat.le_refl _⟩, ⟨by (with_reducible repeat (first | refine blk_drewN ?_ _ | refine blk_drew ?_ | refine blk_alloc ?_ _)); exact BK164.out⟩, ⟨by repeat (first | (with_reducible first | exact HB.out | apply below_alloc | apply pw_below_drewN | apply below_drew1 | refine below_set ?_ GE164.out) | exact HB.out)⟩⟩
      · replace c8 := Bool.eq_false_iff.mpr c8
        subst c8
        have H1 : (lookasideref03_May.j0 k true a0_0 a0_1 a0_2 a0_3 a0_4 a0_5 a0_6 a0_7 a0_8 a0_9 true) = some r := by rw [if_neg (show ¬ (false = true) by decide)] at H; exact H
        clear H
        have H := H1
        clear H1
        have H' := Aside0.mk H
        clear H
        have hcz18_0 : w5.cell? ⟨gb164, 0, none⟩ = some (.int .i64 a0_0) := (blk_cell BK164.out 0).trans rfl
        have hcz18_1 : w5.cell? ⟨gb164, 1, none⟩ = some (.int .i64 a0_1) := (blk_cell BK164.out 1).trans rfl
        have hcz18_2 : w5.cell? ⟨gb164, 2, none⟩ = some (.int .u64 a0_2) := (blk_cell BK164.out 2).trans rfl
        have hcz18_3 : w5.cell? ⟨gb164, 3, none⟩ = some (.int .u64 a0_3) := (blk_cell BK164.out 3).trans rfl
        have hcz18_4 : w5.cell? ⟨gb164, 4, none⟩ = some (.bool a0_4) := (blk_cell BK164.out 4).trans rfl
        have hcz18_5 : w5.cell? ⟨gb164, 5, none⟩ = some (.bool a0_5) := (blk_cell BK164.out 5).trans rfl
        have hcz18_6 : w5.cell? ⟨gb164, 6, none⟩ = some (.bool a0_6) := (blk_cell BK164.out 6).trans rfl
        have hcz18_7 : w5.cell? ⟨gb164, 7, none⟩ = some (.bool a0_7) := (blk_cell BK164.out 7).trans rfl
        have hcz18_8 : w5.cell? ⟨gb164, 8, none⟩ = some (.bool a0_8) := (blk_cell BK164.out 8).trans rfl
        have hcz18_9 : w5.cell? ⟨gb164, 9, none⟩ = some (.bool a0_9) := (blk_cell BK164.out 9).trans rfl
        have hcz18_10 : w5.cell? ⟨gb164, 10, none⟩ = some (.bool true) := (blk_cell BK164.out 10).trans rfl
        have hfz18_0 := blk_frozen BK164.out 0
        have hfz18_1 := blk_frozen BK164.out 1
        have hfz18_2 := blk_frozen BK164.out 2
        have hfz18_3 := blk_frozen BK164.out 3
        have hfz18_4 := blk_frozen BK164.out 4
        have hfz18_5 := blk_frozen BK164.out 5
        have hfz18_6 := blk_frozen BK164.out 6
        have hfz18_7 := blk_frozen BK164.out 7
        have hfz18_8 := blk_frozen BK164.out 8
        have hfz18_9 := blk_frozen BK164.out 9
        have hfz18_10 := blk_frozen BK164.out 10
        go_wp2
        repeat (go_quiet (fail); try go_wp2)
        go_meet
        case rel => exact ⟨_, (true), (by first | rfl | (simp; done) | (simp [*]; done)), H', ⟨by first | omega | exact Nat.le_refl _⟩, ⟨by (with_reducible repeat (first | refine blk_drewN ?_ _ | refine blk_drew ?_ | refine blk_alloc ?_ _)); exact BK164.out⟩, ⟨by repeat (first | (with_reducible first | exact HB.out | apply below_alloc | apply pw_below_drewN | apply below_drew1 | refine below_set ?_ GE164.out) | exact HB.out)⟩⟩
    · replace c7 := Bool.eq_false_iff.mpr c7
      subst c7
      have H1 : (lookasideref03_May.j0 k true a0_0 a0_1 a0_2 a0_3 a0_4 a0_5 a0_6 a0_7 a0_8 a0_9 false) = some r := by rw [if_neg (show ¬ (false = true) by decide)] at H; exact H
      clear H
      have H := H1
      clear H1
      have H' := Aside0.mk H
      clear H
      have hcz19_0 : w5.cell? ⟨gb164, 0, none⟩ = some (.int .i64 a0_0) := (blk_cell BK164.out 0).trans rfl
      have hcz19_1 : w5.cell? ⟨gb164, 1, none⟩ = some (.int .i64 a0_1) := (blk_cell BK164.out 1).trans rfl
      have hcz19_2 : w5.cell? ⟨gb164, 2, none⟩ = some (.int .u64 a0_2) := (blk_cell BK164.out 2).trans rfl
      have hcz19_3 : w5.cell? ⟨gb164, 3, none⟩ = some (.int .u64 a0_3) := (blk_cell BK164.out 3).trans rfl
      have hcz19_4 : w5.cell? ⟨gb164, 4, none⟩ = some (.bool a0_4) := (blk_cell BK164.out 4).trans rfl
      have hcz19_5 : w5.cell? ⟨gb164, 5, none⟩ = some (.bool a0_5) := (blk_cell BK164.out 5).trans rfl
      have hcz19_6 : w5.cell? ⟨gb164, 6, none⟩ = some (.bool a0_6) := (blk_cell BK164.out 6).trans rfl
      have hcz19_7 : w5.cell? ⟨gb164, 7, none⟩ = some (.bool a0_7) := (blk_cell BK164.out 7).trans rfl
      have hcz19_8 : w5.cell? ⟨gb164, 8, none⟩ = some (.bool a0_8) := (blk_cell BK164.out 8).trans rfl
      have hcz19_9 : w5.cell? ⟨gb164, 9, none⟩ = some (.bool a0_9) := (blk_cell BK164.out 9).trans rfl
      have hcz19_10 : w5.cell? ⟨gb164, 10, none⟩ = some (.bool false) := (blk_cell BK164.out 10).trans rfl
      have hfz19_0 := blk_frozen BK164.out 0
      have hfz19_1 := blk_frozen BK164.out 1
      have hfz19_2 := blk_frozen BK164.out 2
      have hfz19_3 := blk_frozen BK164.out 3
      have hfz19_4 := blk_frozen BK164.out 4
      have hfz19_5 := blk_frozen BK164.out 5
      have hfz19_6 := blk_frozen BK164.out 6
      have hfz19_7 := blk_frozen BK164.out 7
      have hfz19_8 := blk_frozen BK164.out 8
      have hfz19_9 := blk_frozen BK164.out 9
      have hfz19_10 := blk_frozen BK164.out 10
      go_wp2
      repeat (go_quiet (fail); try go_wp2)
      go_meet
      case rel => exact ⟨_, (true), (by first | rfl | (simp; done) | (simp [*]; done)), H', ⟨by first | omega | exact Nat.le_refl _⟩, ⟨by (with_reducible repeat (first | refine blk_drewN ?_ _ | refine blk_drew ?_ | refine blk_alloc ?_ _)); exact BK164.out⟩, ⟨by repeat (first | (with_reducible first | exact HB.out | apply below_alloc | apply pw_below_drewN | apply below_drew1 | refine below_set ?_ GE164.out) | exact HB.out)⟩⟩
  case rest =>
    clear HC4
    try clear c1
    try clear c2
    try clear p2
    try clear c7
    try clear c8
    try clear c9
    try clear c9b0
    try clear c11
    try clear c11b0
    try clear c13
    try clear c15
    try clear hcz10_0
    try clear hcz10_1
    try clear hcz10_10
    try clear hcz10_2
    try clear hcz10_3
    try clear hcz10_4
    try clear hcz10_5
    try clear hcz10_6
    try clear hcz10_7
    try clear hcz10_8
    try clear hcz10_9
    try clear hcz12_0
    try clear hcz12_1
    try clear hcz12_10
    try clear hcz12_2
    try clear hcz12_3
    try clear hcz12_4
    try clear hcz12_5
    try clear hcz12_6
    try clear hcz12_7
    try clear hcz12_8
    try clear hcz12_9
    try clear hcz14_0
    try clear hcz14_1
    try clear hcz14_10
    try clear hcz14_2
    try clear hcz14_3
    try clear hcz14_4
    try clear hcz14_5
    try clear hcz14_6
    try clear hcz14_7
    try clear hcz14_8
    try clear hcz14_9
    try clear hcz16_0
    try clear hcz16_1
    try clear hcz16_10
    try clear hcz16_2
    try clear hcz16_3
    try clear hcz16_4
    try clear hcz16_5
    try clear hcz16_6
    try clear hcz16_7
    try clear hcz16_8
    try clear hcz16_9
    try clear hcz17_0
    try clear hcz17_1
    try clear hcz17_10
    try clear hcz17_2
    try clear hcz17_3
    try clear hcz17_4
    try clear hcz17_5
    try clear hcz17_6
    try clear hcz17_7
    try clear hcz17_8
    try clear hcz17_9
    try clear hcz18_0
    try clear hcz18_1
    try clear hcz18_10
    try clear hcz18_2
    try clear hcz18_3
    try clear hcz18_4
    try clear hcz18_5
    try clear hcz18_6
    try clear hcz18_7
    try clear hcz18_8
    try clear hcz18_9
    try clear hcz19_0
    try clear hcz19_1
    try clear hcz19_10
    try clear hcz19_2
    try clear hcz19_3
    try clear hcz19_4
    try clear hcz19_5
    try clear hcz19_6
    try clear hcz19_7
    try clear hcz19_8
    try clear hcz19_9
    try clear hcz6_0
    try clear hcz6_1
    try clear hcz6_10
    try clear hcz6_2
    try clear hcz6_3
    try clear hcz6_4
    try clear hcz6_5
    try clear hcz6_6
    try clear hcz6_7
    try clear hcz6_8
    try clear hcz6_9
    try clear hfz10_0
    try clear hfz10_1
    try clear hfz10_10
    try clear hfz10_2
    try clear hfz10_3
    try clear hfz10_4
    try clear hfz10_5
    try clear hfz10_6
    try clear hfz10_7
    try clear hfz10_8
    try clear hfz10_9
    try clear hfz12_0
    try clear hfz12_1
    try clear hfz12_10
    try clear hfz12_2
    try clear hfz12_3
    try clear hfz12_4
    try clear hfz12_5
    try clear hfz12_6
    try clear hfz12_7
    try clear hfz12_8
    try clear hfz12_9
    try clear hfz14_0
    try clear hfz14_1
    try clear hfz14_10
    try clear hfz14_2
    try clear hfz14_3
    try clear hfz14_4
    try clear hfz14_5
    try clear hfz14_6
    try clear hfz14_7
    try clear hfz14_8
    try clear hfz14_9
    try clear hfz16_0
    try clear hfz16_1
    try clear hfz16_10
    try clear hfz16_2
    try clear hfz16_3
    try clear hfz16_4
    try clear hfz16_5
    try clear hfz16_6
    try clear hfz16_7
    try clear hfz16_8
    try clear hfz16_9
    try clear hfz17_0
    try clear hfz17_1
    try clear hfz17_10
    try clear hfz17_2
    try clear hfz17_3
    try clear hfz17_4
    try clear hfz17_5
    try clear hfz17_6
    try clear hfz17_7
    try clear hfz17_8
    try clear hfz17_9
    try clear hfz18_0
    try clear hfz18_1
    try clear hfz18_10
    try clear hfz18_2
    try clear hfz18_3
    try clear hfz18_4
    try clear hfz18_5
    try clear hfz18_6
    try clear hfz18_7
    try clear hfz18_8
    try clear hfz18_9
    try clear hfz19_0
    try clear hfz19_1
    try clear hfz19_10
    try clear hfz19_2
    try clear hfz19_3
    try clear hfz19_4
    try clear hfz19_5
    try clear hfz19_6
    try clear hfz19_7
    try clear hfz19_8
    try clear hfz19_9
    try clear hfz6_0
    try clear hfz6_1
    try clear hfz6_10
    try clear hfz6_2
    try clear hfz6_3
    try clear hfz6_4
    try clear hfz6_5
    try clear hfz6_6
    try clear hfz6_7
    try clear hfz6_8
    try clear hfz6_9
    obtain ⟨kq, x40_3, rfl, HA, HJ3, BK164, HB⟩ := hcut
    cases kq with
    | zero => exact absurd HA.out (by simp [lookasideref03_May.j0])
    | succ kj3 =>
      have H := HA.out
      clear HA
      simp only [lookasideref03_May.j0] at H
      by_cases c20 : x40_3 = true
      · subst c20
        have H1 : (some false) = some r := by rw [if_pos rfl] at H; exact H
        clear H
        have H := H1
        clear H1
        obtain rfl := Option.some.inj H
        go_wp2
        repeat (go_quiet (fail); try go_wp2)
        go_ret
        exact ⟨by first | rfl | (simp [errW_none, errW_some] <;> rfl) | (simp [*, errW_none, errW_some] <;> rfl), by repeat (first | (with_reducible first | exact HB.out | apply below_alloc | apply pw_below_drewN | apply below_drew1 | refine below_set ?_ GE164.out) | exact HB.out)⟩
      · replace c20 := Bool.eq_false_iff.mpr c20
        subst c20
        have H1 : ((lookasideref02_Bytes.f a0_0).bind fun t167 => (if t167 = 0 then (none) else (if (Int.tmod a0_2 t167) = 0 then (if (Int.tmod a0_3 t167) = 0 then (some (decide (a0_3 < 2199023255552))) else (some false)) else (some false)))) = some r := by rw [if_neg (show ¬ (false = true) by decide)] at H; exact H
        clear H
        have H := H1
        clear H1
        replace H := Option.bind_eq_some_iff.mp H
        obtain ⟨t167, A210, H⟩ := H
        replace H : (if t167 = 0 then (none) else (if (Int.tmod a0_2 t167) = 0 then (if (Int.tmod a0_3 t167) = 0 then (some (decide (a0_3 < 2199023255552))) else (some false)) else (some false))) = some r := H
        have A21 := Aside0.mk A210
        clear A210
        by_cases c22 : t167 = 0
        · rw [if_pos c22] at H
          exact absurd H (by simp)
        · rw [if_neg c22] at H
          have c22b0 : (t167 == 0) = false := beq_eq_false_iff_ne.mpr c22
          have c22b1 : (t167 != 0) = true := bne_iff_ne.mpr c22
          by_cases c23 : (Int.tmod a0_2 t167) = 0
          · rw [if_pos c23] at H
            have c23b0 : ((Int.tmod a0_2 t167) == 0) = true := beq_iff_eq.mpr c23
            have c23b1 : ((Int.tmod a0_2 t167) != 0) = false := bne_eq_false_iff_eq.mpr c23
            clear c23
            by_cases c24 : (Int.tmod a0_3 t167) = 0
            · rw [if_pos c24] at H
              have c24b0 : ((Int.tmod a0_3 t167) == 0) = true := beq_iff_eq.mpr c24
              have c24b1 : ((Int.tmod a0_3 t167) != 0) = false := bne_eq_false_iff_eq.mpr c24
              clear c24
              obtain rfl := Option.some.inj H
              have hcz25_0 : wc.cell? ⟨gb164, 0, none⟩ = some (.int .i64 a0_0) := (blk_cell BK164.out 0).trans rfl
              have hcz25_1 : wc.cell? ⟨gb164, 1, none⟩ = some (.int .i64 a0_1) := (blk_cell BK164.out 1).trans rfl
              have hcz25_2 : wc.cell? ⟨gb164, 2, none⟩ = some (.int .u64 a0_2) := (blk_cell BK164.out 2).trans rfl
              have hcz25_3 : wc.cell? ⟨gb164, 3, none⟩ = some (.int .u64 a0_3) := (blk_cell BK164.out 3).trans rfl
              have hcz25_4 : wc.cell? ⟨gb164, 4, none⟩ = some (.bool a0_4) := (blk_cell BK164.out 4).trans rfl
              have hcz25_5 : wc.cell? ⟨gb164, 5, none⟩ = some (.bool a0_5) := (blk_cell BK164.out 5).trans rfl
              have hcz25_6 : wc.cell? ⟨gb164, 6, none⟩ = some (.bool a0_6) := (blk_cell BK164.out 6).trans rfl
              have hcz25_7 : wc.cell? ⟨gb164, 7, none⟩ = some (.bool a0_7) := (blk_cell BK164.out 7).trans rfl
              have hcz25_8 : wc.cell? ⟨gb164, 8, none⟩ = some (.bool a0_8) := (blk_cell BK164.out 8).trans rfl
              have hcz25_9 : wc.cell? ⟨gb164, 9, none⟩ = some (.bool a0_9) := (blk_cell BK164.out 9).trans rfl
              have hcz25_10 : wc.cell? ⟨gb164, 10, none⟩ = some (.bool a0_10) := (blk_cell BK164.out 10).trans rfl
              have hfz25_0 := blk_frozen BK164.out 0
              have hfz25_1 := blk_frozen BK164.out 1
              have hfz25_2 := blk_frozen BK164.out 2
              have hfz25_3 := blk_frozen BK164.out 3
              have hfz25_4 := blk_frozen BK164.out 4
              have hfz25_5 := blk_frozen BK164.out 5
              have hfz25_6 := blk_frozen BK164.out 6
              have hfz25_7 := blk_frozen BK164.out 7
              have hfz25_8 := blk_frozen BK164.out 8
              have hfz25_9 := blk_frozen BK164.out 9
              have hfz25_10 := blk_frozen BK164.out 10
              go_wp2_with (first | (go_at_call 27; (with_reducible refine (lookasideref02_Bytes.calls a0_0 t167 _ A21.out).mono ?_); rintro e w' ⟨rfl, ⟨nd, rfl⟩⟩; (try first | exact ⟨rfl, _, World.drewN_drewN _ _ _⟩ | exact ⟨rfl, _, Eq.trans (World.drewN_drewN _ _ _) (congrArg (World.drewN _) (Nat.add_assoc _ _ _))⟩)))
              repeat (go_quiet (first | (go_at_call 27; (with_reducible refine (lookasideref02_Bytes.calls a0_0 t167 _ A21.out).mono ?_); rintro e w' ⟨rfl, ⟨nd, rfl⟩⟩; (try first | exact ⟨rfl, _, World.drewN_drewN _ _ _⟩ | exact ⟨rfl, _, Eq.trans (World.drewN_drewN _ _ _) (congrArg (World.drewN _) (Nat.add_assoc _ _ _))⟩))); try go_wp2_with (first | (go_at_call 27; (with_reducible refine (lookasideref02_Bytes.calls a0_0 t167 _ A21.out).mono ?_); rintro e w' ⟨rfl, ⟨nd, rfl⟩⟩; (try first | exact ⟨rfl, _, World.drewN_drewN _ _ _⟩ | exact ⟨rfl, _, Eq.trans (World.drewN_drewN _ _ _) (congrArg (World.drewN _) (Nat.add_assoc _ _ _))⟩))))
              go_ret
              exact ⟨by first | rfl | (simp [errW_none, errW_some] <;> rfl) | (simp [*, errW_none, errW_some] <;> rfl), by repeat (first | (with_reducible first | exact HB.out | apply below_alloc | apply pw_below_drewN | apply below_drew1 | refine below_set ?_ GE164.out) | exact HB.out)⟩
            · rw [if_neg c24] at H
              have c24b0 : ((Int.tmod a0_3 t167) == 0) = false := beq_eq_false_iff_ne.mpr c24
              have c24b1 : ((Int.tmod a0_3 t167) != 0) = true := bne_iff_ne.mpr c24
              obtain rfl := Option.some.inj H
              have hcz26_0 : wc.cell? ⟨gb164, 0, none⟩ = some (.int .i64 a0_0) := (blk_cell BK164.out 0).trans rfl
              have hcz26_1 : wc.cell? ⟨gb164, 1, none⟩ = some (.int .i64 a0_1) := (blk_cell BK164.out 1).trans rfl
              have hcz26_2 : wc.cell? ⟨gb164, 2, none⟩ = some (.int .u64 a0_2) := (blk_cell BK164.out 2).trans rfl
              have hcz26_3 : wc.cell? ⟨gb164, 3, none⟩ = some (.int .u64 a0_3) := (blk_cell BK164.out 3).trans rfl
              have hcz26_4 : wc.cell? ⟨gb164, 4, none⟩ = some (.bool a0_4) := (blk_cell BK164.out 4).trans rfl
              have hcz26_5 : wc.cell? ⟨gb164, 5, none⟩ = some (.bool a0_5) := (blk_cell BK164.out 5).trans rfl
              have hcz26_6 : wc.cell? ⟨gb164, 6, none⟩ = some (.bool a0_6) := (blk_cell BK164.out 6).trans rfl
              have hcz26_7 : wc.cell? ⟨gb164, 7, none⟩ = some (.bool a0_7) := (blk_cell BK164.out 7).trans rfl
              have hcz26_8 : wc.cell? ⟨gb164, 8, none⟩ = some (.bool a0_8) := (blk_cell BK164.out 8).trans rfl
              have hcz26_9 : wc.cell? ⟨gb164, 9, none⟩ = some (.bool a0_9) := (blk_cell BK164.out 9).trans rfl
              have hcz26_10 : wc.cell? ⟨gb164, 10, none⟩ = some (.bool a0_10) := (blk_cell BK164.out 10).trans rfl
              have hfz26_0 := blk_frozen BK164.out 0
              have hfz26_1 := blk_frozen BK164.out 1
              have hfz26_2 := blk_frozen BK164.out 2
              have hfz26_3 := blk_frozen BK164.out 3
              have hfz26_4 := blk_frozen BK164.out 4
              have hfz26_5 := blk_frozen BK164.out 5
              have hfz26_6 := blk_frozen BK164.out 6
              have hfz26_7 := blk_frozen BK164.out 7
              have hfz26_8 := blk_frozen BK164.out 8
              have hfz26_9 := blk_frozen BK164.out 9
              have hfz26_10 := blk_frozen BK164.out 10
              go_wp2_with (first | (go_at_call 27; (with_reducible refine (lookasideref02_Bytes.calls a0_0 t167 _ A21.out).mono ?_); rintro e w' ⟨rfl, ⟨nd, rfl⟩⟩; (try first | exact ⟨rfl, _, World.drewN_drewN _ _ _⟩ | exact ⟨rfl, _, Eq.trans (World.drewN_drewN _ _ _) (congrArg (World.drewN _) (Nat.add_assoc _ _ _))⟩)))
              repeat (go_quiet (first | (go_at_call 27; (with_reducible refine (lookasideref02_Bytes.calls a0_0 t167 _ A21.out).mono ?_); rintro e w' ⟨rfl, ⟨nd, rfl⟩⟩; (try first | exact ⟨rfl, _, World.drewN_drewN _ _ _⟩ | exact ⟨rfl, _, Eq.trans (World.drewN_drewN _ _ _) (congrArg (World.drewN _) (Nat.add_assoc _ _ _))⟩))); try go_wp2_with (first | (go_at_call 27; (with_reducible refine (lookasideref02_Bytes.calls a0_0 t167 _ A21.out).mono ?_); rintro e w' ⟨rfl, ⟨nd, rfl⟩⟩; (try first | exact ⟨rfl, _, World.drewN_drewN _ _ _⟩ | exact ⟨rfl, _, Eq.trans (World.drewN_drewN _ _ _) (congrArg (World.drewN _) (Nat.add_assoc _ _ _))⟩))))
              go_ret
              exact ⟨by first | rfl | (simp [errW_none, errW_some] <;> rfl) | (simp [*, errW_none, errW_some] <;> rfl), by repeat (first | (with_reducible first | exact HB.out | apply below_alloc | apply pw_below_drewN | apply below_drew1 | refine below_set ?_ GE164.out) | exact HB.out)⟩
          · rw [if_neg c23] at H
            have c23b0 : ((Int.tmod a0_2 t167) == 0) = false := beq_eq_false_iff_ne.mpr c23
            have c23b1 : ((Int.tmod a0_2 t167) != 0) = true := bne_iff_ne.mpr c23
            obtain rfl := Option.some.inj H
            have hcz27_0 : wc.cell? ⟨gb164, 0, none⟩ = some (.int .i64 a0_0) := (blk_cell BK164.out 0).trans rfl
            have hcz27_1 : wc.cell? ⟨gb164, 1, none⟩ = some (.int .i64 a0_1) := (blk_cell BK164.out 1).trans rfl
            have hcz27_2 : wc.cell? ⟨gb164, 2, none⟩ = some (.int .u64 a0_2) := (blk_cell BK164.out 2).trans rfl
            have hcz27_3 : wc.cell? ⟨gb164, 3, none⟩ = some (.int .u64 a0_3) := (blk_cell BK164.out 3).trans rfl
            have hcz27_4 : wc.cell? ⟨gb164, 4, none⟩ = some (.bool a0_4) := (blk_cell BK164.out 4).trans rfl
            have hcz27_5 : wc.cell? ⟨gb164, 5, none⟩ = some (.bool a0_5) := (blk_cell BK164.out 5).trans rfl
            have hcz27_6 : wc.cell? ⟨gb164, 6, none⟩ = some (.bool a0_6) := (blk_cell BK164.out 6).trans rfl
            have hcz27_7 : wc.cell? ⟨gb164, 7, none⟩ = some (.bool a0_7) := (blk_cell BK164.out 7).trans rfl
            have hcz27_8 : wc.cell? ⟨gb164, 8, none⟩ = some (.bool a0_8) := (blk_cell BK164.out 8).trans rfl
            have hcz27_9 : wc.cell? ⟨gb164, 9, none⟩ = some (.bool a0_9) := (blk_cell BK164.out 9).trans rfl
            have hcz27_10 : wc.cell? ⟨gb164, 10, none⟩ = some (.bool a0_10) := (blk_cell BK164.out 10).trans rfl
            have hfz27_0 := blk_frozen BK164.out 0
            have hfz27_1 := blk_frozen BK164.out 1
            have hfz27_2 := blk_frozen BK164.out 2
            have hfz27_3 := blk_frozen BK164.out 3
            have hfz27_4 := blk_frozen BK164.out 4
            have hfz27_5 := blk_frozen BK164.out 5
            have hfz27_6 := blk_frozen BK164.out 6
            have hfz27_7 := blk_frozen BK164.out 7
            have hfz27_8 := blk_frozen BK164.out 8
            have hfz27_9 := blk_frozen BK164.out 9
            have hfz27_10 := blk_frozen BK164.out 10
            go_wp2_with (first | (go_at_call 27; (with_reducible refine (lookasideref02_Bytes.calls a0_0 t167 _ A21.out).mono ?_); rintro e w' ⟨rfl, ⟨nd, rfl⟩⟩; (try first | exact ⟨rfl, _, World.drewN_drewN _ _ _⟩ | exact ⟨rfl, _, Eq.trans (World.drewN_drewN _ _ _) (congrArg (World.drewN _) (Nat.add_assoc _ _ _))⟩)))
            repeat (go_quiet (first | (go_at_call 27; (with_reducible refine (lookasideref02_Bytes.calls a0_0 t167 _ A21.out).mono ?_); rintro e w' ⟨rfl, ⟨nd, rfl⟩⟩; (try first | exact ⟨rfl, _, World.drewN_drewN _ _ _⟩ | exact ⟨rfl, _, Eq.trans (World.drewN_drewN _ _ _) (congrArg (World.drewN _) (Nat.add_assoc _ _ _))⟩))); try go_wp2_with (first | (go_at_call 27; (with_reducible refine (lookasideref02_Bytes.calls a0_0 t167 _ A21.out).mono ?_); rintro e w' ⟨rfl, ⟨nd, rfl⟩⟩; (try first | exact ⟨rfl, _, World.drewN_drewN _ _ _⟩ | exact ⟨rfl, _, Eq.trans (World.drewN_drewN _ _ _) (congrArg (World.drewN _) (Nat.add_assoc _ _ _))⟩))))
            go_ret
            exact ⟨by first | rfl | (simp [errW_none, errW_some] <;> rfl) | (simp [*, errW_none, errW_some] <;> rfl), by repeat (first | (with_reducible first | exact HB.out | apply below_alloc | apply pw_below_drewN | apply below_drew1 | refine below_set ?_ GE164.out) | exact HB.out)⟩

/-! ### lookasideref01_May: function 65 -/
def lookasideref01_May.f (a0 : Int) (a1 : Int) : Option (Bool) := if a0 ≥ 0 then (if a0 < 64 then (if a1 ≥ 1 then (if a1 ≤ 64 then (some (decide ((wrap64 (a0 + a1)) ≤ 64))) else (some false)) else (some false)) else (some false)) else (some false)
set_option maxHeartbeats 8000000 in
set_option maxRecDepth 100000 in
theorem lookasideref01_May.calls (a0 : Int) (a1 : Int) (r : Bool) (w : World) (h : lookasideref01_May.f a0 a1 = some r) :
    Calls Try.prog 65 #[.int .i64 a0, .int .i64 a1] w fun e w' => e = .returned (.bool r) ∧ Drawn0 w w' := by
  have H : (if a0 ≥ 0 then (if a0 < 64 then (if a1 ≥ 1 then (if a1 ≤ 64 then (some (decide ((wrap64 (a0 + a1)) ≤ 64))) else (some false)) else (some false)) else (some false)) else (some false)) = some r := h
  clear h
  by_cases c3 : a0 ≥ 0
  · rw [if_pos c3] at H
    have c3b0 : decide (0 ≤ a0) = true := decide_eq_true c3
    clear c3
    by_cases c4 : a0 < 64
    · rw [if_pos c4] at H
      have c4b0 : decide (a0 < 64) = true := decide_eq_true c4
      clear c4
      by_cases c5 : a1 ≥ 1
      · rw [if_pos c5] at H
        have c5b0 : decide (1 ≤ a1) = true := decide_eq_true c5
        clear c5
        by_cases c6 : a1 ≤ 64
        · rw [if_pos c6] at H
          have c6b0 : decide (a1 ≤ 64) = true := decide_eq_true c6
          clear c6
          obtain rfl := Option.some.inj H
          go_enter Try.func65, Try.ntmps65
          go_wp2
          go_ret
          exact ⟨by first | rfl | (simp; done) | (simp [*]; done), by repeat (first | exact Drawn0.refl _ | apply Drawn0.step)⟩
        · rw [if_neg c6] at H
          have c6b0 : decide (a1 ≤ 64) = false := decide_eq_false c6
          clear c6
          obtain rfl := Option.some.inj H
          go_enter Try.func65, Try.ntmps65
          go_wp2
          go_ret
          exact ⟨by first | rfl | (simp; done) | (simp [*]; done), by repeat (first | exact Drawn0.refl _ | apply Drawn0.step)⟩
      · rw [if_neg c5] at H
        have c5b0 : decide (1 ≤ a1) = false := decide_eq_false c5
        clear c5
        obtain rfl := Option.some.inj H
        go_enter Try.func65, Try.ntmps65
        go_wp2
        go_ret
        exact ⟨by first | rfl | (simp; done) | (simp [*]; done), by repeat (first | exact Drawn0.refl _ | apply Drawn0.step)⟩
    · rw [if_neg c4] at H
      have c4b0 : decide (a0 < 64) = false := decide_eq_false c4
      clear c4
      obtain rfl := Option.some.inj H
      go_enter Try.func65, Try.ntmps65
      go_wp2
      go_ret
      exact ⟨by first | rfl | (simp; done) | (simp [*]; done), by repeat (first | exact Drawn0.refl _ | apply Drawn0.step)⟩
  · rw [if_neg c3] at H
    have c3b0 : decide (0 ≤ a0) = false := decide_eq_false c3
    clear c3
    obtain rfl := Option.some.inj H
    go_enter Try.func65, Try.ntmps65
    go_wp2
    go_ret
    exact ⟨by first | rfl | (simp; done) | (simp [*]; done), by repeat (first | exact Drawn0.refl _ | apply Drawn0.step)⟩

/-! ### lookasideref01_Get: function 64 -/
def lookasideref01_Get.l0 : Nat → Int → Int → Bool → Int → Int → Option (Int)
  | 0, _, _, _, _, _ => none
  | k + 1, x0, x1, x7, x8, x9 => if x7 = true then (if x9 ≥ 0 then ((lookasideref01_Bit.f k x0 (wrap64 (x1 + x9))).bind fun t169 => (lookasideref01_Get.l0 k x0 x1 x7 (IntKind.u64.wrap ((IntKind.u64.wrap (2 * x8)) + t169)) (wrap64 (x9 - 1)))) else (some x8)) else (some x8)
def lookasideref01_Get.f (k : Nat) (a0 : Int) (a1 : Int) (a2 : Int) : Option (Int) := (lookasideref01_May.f a1 a2).bind fun t168 => (lookasideref01_Get.l0 k a0 a1 t168 0 (wrap64 (a2 - 1)))
theorem lookasideref01_Get.mono_l : ∀ k, (∀ y0 y1 y2 y3 y4, LeO (lookasideref01_Get.l0 k y0 y1 y2 y3 y4) (lookasideref01_Get.l0 (k + 1) y0 y1 y2 y3 y4))
  | 0 => fun _ _ _ _ _ r h => by simp [lookasideref01_Get.l0] at h
  | k + 1 => by
    have ih0 := lookasideref01_Get.mono_l k
    · intro y0 y1 y2 y3 y4
      unfold lookasideref01_Get.l0
      repeat' first
      | (with_reducible exact ih0 _ _ _ _ _)
      | (with_reducible exact lookasideref01_Bit.mono _ _ _)
      | (with_reducible exact LeO.refl _)
      | (with_reducible exact LeO.none _)
      | (with_reducible refine LeO.ite ?_ ?_)
      | (with_reducible refine LeO.bind ?_ (fun _ => ?_))
      | exact ih0 _ _ _ _ _
      | exact lookasideref01_Bit.mono _ _ _
      | exact LeO.none _
      | refine LeO.ite ?_ ?_
      | refine LeO.bind ?_ (fun _ => ?_)
theorem lookasideref01_Get.mono : ∀ a0 a1 a2 k, LeO (lookasideref01_Get.f k a0 a1 a2) (lookasideref01_Get.f (k + 1) a0 a1 a2) := by
  intro a0 a1 a2 k
  have ih0 := lookasideref01_Get.mono_l k
  unfold lookasideref01_Get.f
  repeat' first
      | (with_reducible exact ih0 _ _ _ _ _)
      | (with_reducible exact lookasideref01_Bit.mono _ _ _)
      | (with_reducible exact LeO.refl _)
      | (with_reducible exact LeO.none _)
      | (with_reducible refine LeO.ite ?_ ?_)
      | (with_reducible refine LeO.bind ?_ (fun _ => ?_))
      | exact ih0 _ _ _ _ _
      | exact lookasideref01_Bit.mono _ _ _
      | exact LeO.none _
      | refine LeO.ite ?_ ?_
      | refine LeO.bind ?_ (fun _ => ?_)
set_option maxHeartbeats 8000000 in
set_option maxRecDepth 100000 in
theorem lookasideref01_Get.calls (k : Nat) (a0 : Int) (a1 : Int) (a2 : Int) (r : Int) (w : World) (h : lookasideref01_Get.f k a0 a1 a2 = some r) :
    Calls Try.prog 64 #[.int .u64 a0, .int .i64 a1, .int .i64 a2] w fun e w' => e = .returned (.int .u64 r) ∧ Drawn0 w w' := by
  have H : ((lookasideref01_May.f a1 a2).bind fun t168 => (lookasideref01_Get.l0 k a0 a1 t168 0 (wrap64 (a2 - 1)))) = some r := h
  clear h
  replace H := Option.bind_eq_some_iff.mp H
  obtain ⟨t168, A40, H⟩ := H
  replace H : (lookasideref01_Get.l0 k a0 a1 t168 0 (wrap64 (a2 - 1))) = some r := H
  have A4 := Aside0.mk A40
  clear A40
  have H' := Aside0.mk H
  clear H
  go_enter Try.func64, Try.ntmps64
  go_wp2_with (first | ((with_reducible refine gate_callee (f := 65) rfl ?_); refine goesL_ (some 12) rfl rfl Try.func65 (by kernel_rfl) rfl #[.int .i64 a1, .int .i64 a2] rfl (by (try simp only [List.map_toArray, List.map_cons, List.map_nil]); first | done | rfl | (simp only [List.length_drop, List.length_take]; rfl)) ?_; (with_reducible refine (lookasideref01_May.calls a1 a2 t168 _ A4.out).mono ?_); rintro e w' ⟨rfl, ⟨nd, rfl⟩⟩; refine ⟨_, rfl, ?_⟩))
  go_loopg [8, 9] k (fun kq v8 v9 w' => ∃ (x8_1 : Int) (x9_1 : Int), v8 = .int .u64 x8_1 ∧ v9 = .int .i64 x9_1 ∧ Aside0 (lookasideref01_Get.l0 kq a0 a1 t168 x8_1 x9_1 = some r) ∧ Aside0 (kq ≤ k) ∧ Drawn0 w w')
  case atStart => exact ⟨(0), (wrap64 (a2 - 1)), (by first | rfl | (simp; done) | (simp [*]; done)), (by first | rfl | (simp; done) | (simp [*]; done)), H', ⟨Nat.le_refl _⟩, by repeat (first | exact Drawn0.refl _ | apply Drawn0.step)⟩
  case round =>
    clear H'
    try clear p2
    obtain ⟨x8_1, x9_1, rfl, rfl, HA, HK1, ⟨m1, rfl⟩⟩ := hrel
    cases gk with
    | zero => exact absurd HA.out (by simp [lookasideref01_Get.l0])
    | succ k1 =>
      have H := HA.out
      clear HA
      simp only [lookasideref01_Get.l0] at H
      by_cases c5 : t168 = true
      · subst c5
        have H1 : (if x9_1 ≥ 0 then ((lookasideref01_Bit.f k1 a0 (wrap64 (a1 + x9_1))).bind fun t169 => (lookasideref01_Get.l0 k1 a0 a1 true (IntKind.u64.wrap ((IntKind.u64.wrap (2 * x8_1)) + t169)) (wrap64 (x9_1 - 1)))) else (some x8_1)) = some r := by rw [if_pos rfl] at H; exact H
        clear H
        have H := H1
        clear H1
        by_cases c6 : x9_1 ≥ 0
        · rw [if_pos c6] at H
          have c6b0 : decide (0 ≤ x9_1) = true := decide_eq_true c6
          clear c6
          replace H := Option.bind_eq_some_iff.mp H
          obtain ⟨t169, A70, H⟩ := H
          replace H : (lookasideref01_Get.l0 k1 a0 a1 true (IntKind.u64.wrap ((IntKind.u64.wrap (2 * x8_1)) + t169)) (wrap64 (x9_1 - 1))) = some r := H
          have A7 := Aside0.mk A70
          clear A70
          have H' := Aside0.mk H
          clear H
          go_wp2_with (first | ((with_reducible refine gate_callee (f := 35) rfl ?_); refine goesL_ (some 28) rfl rfl Try.func35 (by kernel_rfl) rfl #[.int .u64 a0, .int .i64 (wrap64 (a1 + x9_1))] rfl (by (try simp only [List.map_toArray, List.map_cons, List.map_nil]); first | done | rfl | (simp only [List.length_drop, List.length_take]; rfl)) ?_; (with_reducible refine (lookasideref01_Bit.calls k1 a0 (wrap64 (a1 + x9_1)) t169 _ A7.out).mono ?_); rintro e w' ⟨rfl, ⟨nd, rfl⟩⟩; refine ⟨_, rfl, ?_⟩))
          go_roundg k1
          case measure => have := HK1.out; omega
          case rel => exact ⟨(IntKind.u64.wrap ((IntKind.u64.wrap (2 * x8_1)) + t169)), (wrap64 (x9_1 - 1)), (by first | rfl | (simp; done) | (simp [*]; done)), (by first | rfl | (simp; done) | (simp [*]; done)), H', ⟨by have := HK1.out; omega⟩, by repeat (first | exact Drawn0.refl _ | apply Drawn0.step)⟩
        · rw [if_neg c6] at H
          have c6b0 : decide (0 ≤ x9_1) = false := decide_eq_false c6
          clear c6
          obtain rfl := Option.some.inj H
          go_wp2
          go_ret
          exact ⟨by first | rfl | (simp; done) | (simp [*]; done), by repeat (first | exact Drawn0.refl _ | apply Drawn0.step)⟩
      · replace c5 := Bool.eq_false_iff.mpr c5
        subst c5
        have H1 : (some x8_1) = some r := by rw [if_neg (show ¬ (false = true) by decide)] at H; exact H
        clear H
        have H := H1
        clear H1
        obtain rfl := Option.some.inj H
        go_wp2
        go_ret
        exact ⟨by first | rfl | (simp; done) | (simp [*]; done), by repeat (first | exact Drawn0.refl _ | apply Drawn0.step)⟩

end Go.Proofs.Ytecbngibhobgbaa.QTteRound
