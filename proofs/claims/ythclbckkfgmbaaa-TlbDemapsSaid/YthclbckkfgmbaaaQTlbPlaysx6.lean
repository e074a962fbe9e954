-- Printed by a program of this session (wip/print/myprint.py) out of the translation; Lean checks it.
import Derived.Test.YthclbckkfgmbaaaQTlbPlaysx0
import Derived.Test.YthclbckkfgmbaaaQTlbPlaysx3
import Derived.Test.YthclbckkfgmbaaaQTlbPlaysx5
namespace Go.Proofs.Ythclbckkfgmbaaa.QTlbPlays
open Go.RowKit Go.Proofs.YthclbckkfgmbaaaW.PrintWords Go.Proofs.YthclbckkfgmbaaaW.PrintLast Go.Proofs.YthclbckkfgmbaaaW.PrintMore
attribute [local go_sem] max2_int min2_int max_two min_two max_three min_three max_four min_four   -- for this text's walks alone
set_option linter.unusedVariables false
set_option linter.unusedSimpArgs false
theorem cy11_6 {W : World} {g : Nat} {t : TypeId} {a0 a1 a2 a3 a4 a5 a6 a7 a8 a9 a10 : Value} {l : List Value} (h : W.heap[g]? = some (.cells (Array.mk (a0 :: a1 :: a2 :: a3 :: a4 :: a5 :: a6 :: a7 :: a8 :: a9 :: a10 :: l)) t (0, 0))) : W.cell? ⟨g, 0, none⟩ = some a0 ∧ W.cell? ⟨g, 1, none⟩ = some a1 ∧ W.cell? ⟨g, 2, none⟩ = some a2 ∧ W.cell? ⟨g, 3, none⟩ = some a3 ∧ W.cell? ⟨g, 4, none⟩ = some a4 ∧ W.cell? ⟨g, 5, none⟩ = some a5 ∧ W.cell? ⟨g, 6, none⟩ = some a6 ∧ W.cell? ⟨g, 7, none⟩ = some a7 ∧ W.cell? ⟨g, 8, none⟩ = some a8 ∧ W.cell? ⟨g, 9, none⟩ = some a9 ∧ W.cell? ⟨g, 10, none⟩ = some a10 := ⟨(blk_cell h 0).trans rfl, (blk_cell h 1).trans rfl, (blk_cell h 2).trans rfl, (blk_cell h 3).trans rfl, (blk_cell h 4).trans rfl, (blk_cell h 5).trans rfl, (blk_cell h 6).trans rfl, (blk_cell h 7).trans rfl, (blk_cell h 8).trans rfl, (blk_cell h 9).trans rfl, (blk_cell h 10).trans rfl⟩

/-! ### lookasideref03_May: function 92 -/
def lookasideref03_May.j0 : Nat → Bool → Int → Int → Int → Int → Bool → Bool → Bool → Bool → Bool → Bool → Bool → Option (Bool)
  | 0, _, _, _, _, _, _, _, _, _, _, _, _ => none
  | k + 1, x40, x178000, x178001, x178002, x178003, x178004, x178005, x178006, x178007, x178008, x178009, x178010 => if x40 = true then (some false) else ((lookasideref02_Bytes.f x178000).bind fun t180 => (if t180 = 0 then (none) else (if (Int.tmod x178002 t180) = 0 then (if (Int.tmod x178003 t180) = 0 then (some (decide (x178003 < 2199023255552))) else (some false)) else (some false))))
def lookasideref03_May.f (k : Nat) (a0_0 : Int) (a0_1 : Int) (a0_2 : Int) (a0_3 : Int) (a0_4 : Bool) (a0_5 : Bool) (a0_6 : Bool) (a0_7 : Bool) (a0_8 : Bool) (a0_9 : Bool) (a0_10 : Bool) : Option (Bool) := (lookasideref02_May.f a0_0).bind fun t178 => ((lookasideref02_Hole.f k a0_2).bind fun t179 => (if a0_10 = true then (if t178 = true then (if a0_1 < 0 then (lookasideref03_May.j0 k true a0_0 a0_1 a0_2 a0_3 a0_4 a0_5 a0_6 a0_7 a0_8 a0_9 a0_10) else (if a0_1 > 8191 then (lookasideref03_May.j0 k true a0_0 a0_1 a0_2 a0_3 a0_4 a0_5 a0_6 a0_7 a0_8 a0_9 a0_10) else (if t179 = true then (lookasideref03_May.j0 k true a0_0 a0_1 a0_2 a0_3 a0_4 a0_5 a0_6 a0_7 a0_8 a0_9 a0_10) else (if a0_8 = true then (lookasideref03_May.j0 k (a0_1 != 0) a0_0 a0_1 a0_2 a0_3 a0_4 a0_5 a0_6 a0_7 a0_8 a0_9 a0_10) else (lookasideref03_May.j0 k false a0_0 a0_1 a0_2 a0_3 a0_4 a0_5 a0_6 a0_7 a0_8 a0_9 a0_10))))) else (lookasideref03_May.j0 k true a0_0 a0_1 a0_2 a0_3 a0_4 a0_5 a0_6 a0_7 a0_8 a0_9 a0_10)) else (lookasideref03_May.j0 k true a0_0 a0_1 a0_2 a0_3 a0_4 a0_5 a0_6 a0_7 a0_8 a0_9 a0_10)))
theorem lookasideref03_May.mono_l : ∀ k, (∀ y0 y1 y2 y3 y4 y5 y6 y7 y8 y9 y10 y11, LeO (lookasideref03_May.j0 k y0 y1 y2 y3 y4 y5 y6 y7 y8 y9 y10 y11) (lookasideref03_May.j0 (k + 1) y0 y1 y2 y3 y4 y5 y6 y7 y8 y9 y10 y11))
  | 0 => fun _ _ _ _ _ _ _ _ _ _ _ _ r h => by simp [lookasideref03_May.j0] at h
  | k + 1 => by
    have ih0 := lookasideref03_May.mono_l k
    · intro y0 y1 y2 y3 y4 y5 y6 y7 y8 y9 y10 y11
      unfold lookasideref03_May.j0
      repeat' first
      | (with_reducible exact ih0 _ _ _ _ _ _ _ _ _ _ _ _)
      | (with_reducible exact lookasideref02_Hole.mono _ _)
      | (with_reducible exact LeO.refl _)
      | (with_reducible exact LeO.none _)
      | (with_reducible refine LeO.ite ?_ ?_)
      | (with_reducible refine LeO.bind ?_ (fun _ => ?_))
      | exact ih0 _ _ _ _ _ _ _ _ _ _ _ _
      | exact lookasideref02_Hole.mono _ _
      | exact LeO.none _
      | refine LeO.ite ?_ ?_
      | refine LeO.bind ?_ (fun _ => ?_)
theorem lookasideref03_May.mono : ∀ a0 a1 a2 a3 a4 a5 a6 a7 a8 a9 a10 k, LeO (lookasideref03_May.f k a0 a1 a2 a3 a4 a5 a6 a7 a8 a9 a10) (lookasideref03_May.f (k + 1) a0 a1 a2 a3 a4 a5 a6 a7 a8 a9 a10) := by
  intro a0 a1 a2 a3 a4 a5 a6 a7 a8 a9 a10 k
  have ih0 := lookasideref03_May.mono_l k
  unfold lookasideref03_May.f
  repeat' first
      | (with_reducible exact ih0 _ _ _ _ _ _ _ _ _ _ _ _)
      | (with_reducible exact lookasideref02_Hole.mono _ _)
      | (with_reducible exact LeO.refl _)
      | (with_reducible exact LeO.none _)
      | (with_reducible refine LeO.ite ?_ ?_)
      | (with_reducible refine LeO.bind ?_ (fun _ => ?_))
      | exact ih0 _ _ _ _ _ _ _ _ _ _ _ _
      | exact lookasideref02_Hole.mono _ _
      | exact LeO.none _
      | refine LeO.ite ?_ ?_
      | refine LeO.bind ?_ (fun _ => ?_)
set_option maxHeartbeats 8000000 in
set_option maxRecDepth 100000 in
theorem lookasideref03_May.calls (k : Nat) (a0_0 : Int) (a0_1 : Int) (a0_2 : Int) (a0_3 : Int) (a0_4 : Bool) (a0_5 : Bool) (a0_6 : Bool) (a0_7 : Bool) (a0_8 : Bool) (a0_9 : Bool) (a0_10 : Bool) (r : Bool) (w : World) (h : lookasideref03_May.f k a0_0 a0_1 a0_2 a0_3 a0_4 a0_5 a0_6 a0_7 a0_8 a0_9 a0_10 = some r) :
    Calls Try.prog 92 #[.agg #[.int .i64 a0_0, .int .i64 a0_1, .int .u64 a0_2, .int .u64 a0_3, .bool a0_4, .bool a0_5, .bool a0_6, .bool a0_7, .bool a0_8, .bool a0_9, .bool a0_10]] w fun e w' => e = .returned (.bool r) ∧ Below w.heap.size w w' := by
  have hu26 := Try.underlying26
  have HB := Aside0.mk (Below.refl w.heap.size w)
  have H : ((lookasideref02_May.f a0_0).bind fun t178 => ((lookasideref02_Hole.f k a0_2).bind fun t179 => (if a0_10 = true then (if t178 = true then (if a0_1 < 0 then (lookasideref03_May.j0 k true a0_0 a0_1 a0_2 a0_3 a0_4 a0_5 a0_6 a0_7 a0_8 a0_9 a0_10) else (if a0_1 > 8191 then (lookasideref03_May.j0 k true a0_0 a0_1 a0_2 a0_3 a0_4 a0_5 a0_6 a0_7 a0_8 a0_9 a0_10) else (if t179 = true then (lookasideref03_May.j0 k true a0_0 a0_1 a0_2 a0_3 a0_4 a0_5 a0_6 a0_7 a0_8 a0_9 a0_10) else (if a0_8 = true then (lookasideref03_May.j0 k (a0_1 != 0) a0_0 a0_1 a0_2 a0_3 a0_4 a0_5 a0_6 a0_7 a0_8 a0_9 a0_10) else (lookasideref03_May.j0 k false a0_0 a0_1 a0_2 a0_3 a0_4 a0_5 a0_6 a0_7 a0_8 a0_9 a0_10))))) else (lookasideref03_May.j0 k true a0_0 a0_1 a0_2 a0_3 a0_4 a0_5 a0_6 a0_7 a0_8 a0_9 a0_10)) else (lookasideref03_May.j0 k true a0_0 a0_1 a0_2 a0_3 a0_4 a0_5 a0_6 a0_7 a0_8 a0_9 a0_10)))) = some r := h
  clear h
  replace H := Option.bind_eq_some_iff.mp H
  obtain ⟨t178, A20, H⟩ := H
  replace H : ((lookasideref02_Hole.f k a0_2).bind fun t179 => (if a0_10 = true then (if t178 = true then (if a0_1 < 0 then (lookasideref03_May.j0 k true a0_0 a0_1 a0_2 a0_3 a0_4 a0_5 a0_6 a0_7 a0_8 a0_9 a0_10) else (if a0_1 > 8191 then (lookasideref03_May.j0 k true a0_0 a0_1 a0_2 a0_3 a0_4 a0_5 a0_6 a0_7 a0_8 a0_9 a0_10) else (if t179 = true then (lookasideref03_May.j0 k true a0_0 a0_1 a0_2 a0_3 a0_4 a0_5 a0_6 a0_7 a0_8 a0_9 a0_10) else (if a0_8 = true then (lookasideref03_May.j0 k (a0_1 != 0) a0_0 a0_1 a0_2 a0_3 a0_4 a0_5 a0_6 a0_7 a0_8 a0_9 a0_10) else (lookasideref03_May.j0 k false a0_0 a0_1 a0_2 a0_3 a0_4 a0_5 a0_6 a0_7 a0_8 a0_9 a0_10))))) else (lookasideref03_May.j0 k true a0_0 a0_1 a0_2 a0_3 a0_4 a0_5 a0_6 a0_7 a0_8 a0_9 a0_10)) else (lookasideref03_May.j0 k true a0_0 a0_1 a0_2 a0_3 a0_4 a0_5 a0_6 a0_7 a0_8 a0_9 a0_10))) = some r := H
  have A2 := Aside0.mk A20
  clear A20
  replace H := Option.bind_eq_some_iff.mp H
  obtain ⟨t179, A30, H⟩ := H
  replace H : (if a0_10 = true then (if t178 = true then (if a0_1 < 0 then (lookasideref03_May.j0 k true a0_0 a0_1 a0_2 a0_3 a0_4 a0_5 a0_6 a0_7 a0_8 a0_9 a0_10) else (if a0_1 > 8191 then (lookasideref03_May.j0 k true a0_0 a0_1 a0_2 a0_3 a0_4 a0_5 a0_6 a0_7 a0_8 a0_9 a0_10) else (if t179 = true then (lookasideref03_May.j0 k true a0_0 a0_1 a0_2 a0_3 a0_4 a0_5 a0_6 a0_7 a0_8 a0_9 a0_10) else (if a0_8 = true then (lookasideref03_May.j0 k (a0_1 != 0) a0_0 a0_1 a0_2 a0_3 a0_4 a0_5 a0_6 a0_7 a0_8 a0_9 a0_10) else (lookasideref03_May.j0 k false a0_0 a0_1 a0_2 a0_3 a0_4 a0_5 a0_6 a0_7 a0_8 a0_9 a0_10))))) else (lookasideref03_May.j0 k true a0_0 a0_1 a0_2 a0_3 a0_4 a0_5 a0_6 a0_7 a0_8 a0_9 a0_10)) else (lookasideref03_May.j0 k true a0_0 a0_1 a0_2 a0_3 a0_4 a0_5 a0_6 a0_7 a0_8 a0_9 a0_10)) = some r := H
  have A3 := Aside0.mk A30
  clear A30
  have HC4 := Aside0.mk H
  clear H
  go_enter Try.func92, Try.ntmps92
  go_upto_region 3 with (first | ((with_reducible refine gate_dst (N := 1) rfl ?_); refine box_event ?hg (N := 1) ?hd (cs := #[.int .i64 a0_0, .int .i64 a0_1, .int .u64 a0_2, .int .u64 a0_3, .bool a0_4, .bool a0_5, .bool a0_6, .bool a0_7, .bool a0_8, .bool a0_9, .bool a0_10]) (t := 26) ?hr ?_; (case hd => rfl); (case hg => rfl); (case hr => first | (go_simp; done) | (go_simp; rfl)); intro gb177 hg w5 hbox hb; have n0_ := Aside0.mk (below_step (by repeat (first | (with_reducible first | exact HB.out | apply below_alloc | apply pw_below_drewN | apply below_drew1) | exact HB.out)) hb); have n1_ := Aside0.mk (hbox); have n2_ := Aside0.mk ((by rw [hg]; exact (below_size (by repeat (first | (with_reducible first | exact HB.out | apply below_alloc | apply pw_below_drewN | apply below_drew1) | exact HB.out))) : w.heap.size ≤ gb177)); have n3_ := Aside0.mk ((by rw [hg]; exact (below_size (by repeat (first | (with_reducible first | exact HB.out | apply below_alloc | apply pw_below_drewN | apply below_drew1) | exact HB.out))) : w.heap.size ≤ gb177)); clear HB; have HB := n0_; have BK177 := n1_; have GW177 := n2_; have GE177 := n3_; clear n0_ n1_ n2_ n3_; clear hb hbox hg; obtain ⟨hcz6_0, hcz6_1, hcz6_2, hcz6_3, hcz6_4, hcz6_5, hcz6_6, hcz6_7, hcz6_8, hcz6_9, hcz6_10⟩ := cy11_6 BK177.out; have hfz6_0 := blk_frozen BK177.out 0; have hfz6_1 := blk_frozen BK177.out 1; have hfz6_2 := blk_frozen BK177.out 2; have hfz6_3 := blk_frozen BK177.out 3; have hfz6_4 := blk_frozen BK177.out 4; have hfz6_5 := blk_frozen BK177.out 5; have hfz6_6 := blk_frozen BK177.out 6; have hfz6_7 := blk_frozen BK177.out 7; have hfz6_8 := blk_frozen BK177.out 8; have hfz6_9 := blk_frozen BK177.out 9; have hfz6_10 := blk_frozen BK177.out 10) | (go_at_call 48; (with_reducible refine (lookasideref02_May.calls a0_0 t178 _ A2.out).mono ?_); rintro e w' ⟨rfl, ⟨nd, rfl⟩⟩; (try first | exact ⟨rfl, _, World.drewN_drewN _ _ _⟩ | exact ⟨rfl, _, Eq.trans (World.drewN_drewN _ _ _) (congrArg (World.drewN _) (Nat.add_assoc _ _ _))⟩)) | (go_at_call 107; (with_reducible refine (lookasideref02_Hole.calls k a0_2 t179 _ A3.out).mono ?_); rintro e w' ⟨rfl, ⟨nd, rfl⟩⟩; (try first | exact ⟨rfl, _, World.drewN_drewN _ _ _⟩ | exact ⟨rfl, _, Eq.trans (World.drewN_drewN _ _ _) (congrArg (World.drewN _) (Nat.add_assoc _ _ _))⟩)))
  repeat (go_quiet (first | ((with_reducible refine gate_dst (N := 1) rfl ?_); refine box_event ?hg (N := 1) ?hd (cs := #[.int .i64 a0_0, .int .i64 a0_1, .int .u64 a0_2, .int .u64 a0_3, .bool a0_4, .bool a0_5, .bool a0_6, .bool a0_7, .bool a0_8, .bool a0_9, .bool a0_10]) (t := 26) ?hr ?_; (case hd => rfl); (case hg => rfl); (case hr => first | (go_simp; done) | (go_simp; rfl)); intro gb177 hg w5 hbox hb; have n0_ := Aside0.mk (below_step (by repeat (first | (with_reducible first | exact HB.out | apply below_alloc | apply pw_below_drewN | apply below_drew1) | exact HB.out)) hb); have n1_ := Aside0.mk (hbox); have n2_ := Aside0.mk ((by rw [hg]; exact (below_size (by repeat (first | (with_reducible first | exact HB.out | apply below_alloc | apply pw_below_drewN | apply below_drew1) | exact HB.out))) : w.heap.size ≤ gb177)); have n3_ := Aside0.mk ((by rw [hg]; exact (below_size (by repeat (first | (with_reducible first | exact HB.out | apply below_alloc | apply pw_below_drewN | apply below_drew1) | exact HB.out))) : w.heap.size ≤ gb177)); clear HB; have HB := n0_; have BK177 := n1_; have GW177 := n2_; have GE177 := n3_; clear n0_ n1_ n2_ n3_; clear hb hbox hg; obtain ⟨hcz6_0, hcz6_1, hcz6_2, hcz6_3, hcz6_4, hcz6_5, hcz6_6, hcz6_7, hcz6_8, hcz6_9, hcz6_10⟩ := cy11_6 BK177.out; have hfz6_0 := blk_frozen BK177.out 0; have hfz6_1 := blk_frozen BK177.out 1; have hfz6_2 := blk_frozen BK177.out 2; have hfz6_3 := blk_frozen BK177.out 3; have hfz6_4 := blk_frozen BK177.out 4; have hfz6_5 := blk_frozen BK177.out 5; have hfz6_6 := blk_frozen BK177.out 6; have hfz6_7 := blk_frozen BK177.out 7; have hfz6_8 := blk_frozen BK177.out 8; have hfz6_9 := blk_frozen BK177.out 9; have hfz6_10 := blk_frozen BK177.out 10) | (go_at_call 48; (with_reducible refine (lookasideref02_May.calls a0_0 t178 _ A2.out).mono ?_); rintro e w' ⟨rfl, ⟨nd, rfl⟩⟩; (try first | exact ⟨rfl, _, World.drewN_drewN _ _ _⟩ | exact ⟨rfl, _, Eq.trans (World.drewN_drewN _ _ _) (congrArg (World.drewN _) (Nat.add_assoc _ _ _))⟩)) | (go_at_call 107; (with_reducible refine (lookasideref02_Hole.calls k a0_2 t179 _ A3.out).mono ?_); rintro e w' ⟨rfl, ⟨nd, rfl⟩⟩; (try first | exact ⟨rfl, _, World.drewN_drewN _ _ _⟩ | exact ⟨rfl, _, Eq.trans (World.drewN_drewN _ _ _) (congrArg (World.drewN _) (Nat.add_assoc _ _ _))⟩))); go_upto_region 3 with (first | ((with_reducible refine gate_dst (N := 1) rfl ?_); refine box_event ?hg (N := 1) ?hd (cs := #[.int .i64 a0_0, .int .i64 a0_1, .int .u64 a0_2, .int .u64 a0_3, .bool a0_4, .bool a0_5, .bool a0_6, .bool a0_7, .bool a0_8, .bool a0_9, .bool a0_10]) (t := 26) ?hr ?_; (case hd => rfl); (case hg => rfl); (case hr => first | (go_simp; done) | (go_simp; rfl)); intro gb177 hg w5 hbox hb; have n0_ := Aside0.mk (below_step (by repeat (first | (with_reducible first | exact HB.out | apply below_alloc | apply pw_below_drewN | apply below_drew1) | exact HB.out)) hb); have n1_ := Aside0.mk (hbox); have n2_ := Aside0.mk ((by rw [hg]; exact (below_size (by repeat (first | (with_reducible first | exact HB.out | apply below_alloc | apply pw_below_drewN | apply below_drew1) | exact HB.out))) : w.heap.size ≤ gb177)); have n3_ := Aside0.mk ((by rw [hg]; exact (below_size (by repeat (first | (with_reducible first | exact HB.out | apply below_alloc | apply pw_below_drewN | apply below_drew1) | exact HB.out))) : w.heap.size ≤ gb177)); clear HB; have HB := n0_; have BK177 := n1_; have GW177 := n2_; have GE177 := n3_; clear n0_ n1_ n2_ n3_; clear hb hbox hg; obtain ⟨hcz6_0, hcz6_1, hcz6_2, hcz6_3, hcz6_4, hcz6_5, hcz6_6, hcz6_7, hcz6_8, hcz6_9, hcz6_10⟩ := cy11_6 BK177.out; have hfz6_0 := blk_frozen BK177.out 0; have hfz6_1 := blk_frozen BK177.out 1; have hfz6_2 := blk_frozen BK177.out 2; have hfz6_3 := blk_frozen BK177.out 3; have hfz6_4 := blk_frozen BK177.out 4; have hfz6_5 := blk_frozen BK177.out 5; have hfz6_6 := blk_frozen BK177.out 6; have hfz6_7 := blk_frozen BK177.out 7; have hfz6_8 := blk_frozen BK177.out 8; have hfz6_9 := blk_frozen BK177.out 9; have hfz6_10 := blk_frozen BK177.out 10) | (go_at_call 48; (with_reducible refine (lookasideref02_May.calls a0_0 t178 _ A2.out).mono ?_); rintro e w' ⟨rfl, ⟨nd, rfl⟩⟩; (try first | exact ⟨rfl, _, World.drewN_drewN _ _ _⟩ | exact ⟨rfl, _, Eq.trans (World.drewN_drewN _ _ _) (congrArg (World.drewN _) (Nat.add_assoc _ _ _))⟩)) | (go_at_call 107; (with_reducible refine (lookasideref02_Hole.calls k a0_2 t179 _ A3.out).mono ?_); rintro e w' ⟨rfl, ⟨nd, rfl⟩⟩; (try first | exact ⟨rfl, _, World.drewN_drewN _ _ _⟩ | exact ⟨rfl, _, Eq.trans (World.drewN_drewN _ _ _) (congrArg (World.drewN _) (Nat.add_assoc _ _ _))⟩))))
  (try simp only [Act.put, List.setIfInBounds_toArray, List.set_cons_zero, List.set_cons_succ])
  go_cut [40] (fun v40 wc => ∃ (kq : Nat) (x40_3 : Bool), v40 = .bool x40_3 ∧ Aside0 (lookasideref03_May.j0 kq x40_3 a0_0 a0_1 a0_2 a0_3 a0_4 a0_5 a0_6 a0_7 a0_8 a0_9 a0_10 = some r) ∧ Aside0 (kq ≤ k) ∧ Aside0 (wc.heap[gb177]? = some (.cells #[.int .i64 a0_0, .int .i64 a0_1, .int .u64 a0_2, .int .u64 a0_3, .bool a0_4, .bool a0_5, .bool a0_6, .bool a0_7, .bool a0_8, .bool a0_9, .bool a0_10] 26 (0, 0))) ∧ Aside0 (Below w.heap.size w wc))
  case first =>
    have H := HC4.out
    clear HC4
    by_cases c7 : a0_10 = true
    · subst c7
      have H1 : (if t178 = true then (if a0_1 < 0 then (lookasideref03_May.j0 k true a0_0 a0_1 a0_2 a0_3 a0_4 a0_5 a0_6 a0_7 a0_8 a0_9 true) else (if a0_1 > 8191 then (lookasideref03_May.j0 k true a0_0 a0_1 a0_2 a0_3 a0_4 a0_5 a0_6 a0_7 a0_8 a0_9 true) else (if t179 = true then (lookasideref03_May.j0 k true a0_0 a0_1 a0_2 a0_3 a0_4 a0_5 a0_6 a0_7 a0_8 a0_9 true) else (if a0_8 = true then (lookasideref03_May.j0 k (a0_1 != 0) a0_0 a0_1 a0_2 a0_3 a0_4 a0_5 a0_6 a0_7 a0_8 a0_9 true) else (lookasideref03_May.j0 k false a0_0 a0_1 a0_2 a0_3 a0_4 a0_5 a0_6 a0_7 a0_8 a0_9 true))))) else (lookasideref03_May.j0 k true a0_0 a0_1 a0_2 a0_3 a0_4 a0_5 a0_6 a0_7 a0_8 a0_9 true)) = some r := by rw [if_pos rfl] at H; exact H
      clear H
      have H := H1
      clear H1
      by_cases c8 : t178 = true
      · subst c8
        have H1 : (if a0_1 < 0 then (lookasideref03_May.j0 k true a0_0 a0_1 a0_2 a0_3 a0_4 a0_5 a0_6 a0_7 a0_8 a0_9 true) else (if a0_1 > 8191 then (lookasideref03_May.j0 k true a0_0 a0_1 a0_2 a0_3 a0_4 a0_5 a0_6 a0_7 a0_8 a0_9 true) else (if t179 = true then (lookasideref03_May.j0 k true a0_0 a0_1 a0_2 a0_3 a0_4 a0_5 a0_6 a0_7 a0_8 a0_9 true) else (if a0_8 = true then (lookasideref03_May.j0 k (a0_1 != 0) a0_0 a0_1 a0_2 a0_3 a0_4 a0_5 a0_6 a0_7 a0_8 a0_9 true) else (lookasideref03_May.j0 k false a0_0 a0_1 a0_2 a0_3 a0_4 a0_5 a0_6 a0_7 a0_8 a0_9 true))))) = some r := by rw [if_pos rfl] at H; exact H
        clear H
        have H := H1
        clear H1
        by_cases c9 : a0_1 < 0
        · rw [if_pos c9] at H
          have c9b0 : decide (a0_1 < 0) = true := decide_eq_true c9
          clear c9
          (first | rw [c9b0] | (simp only [i64_w, i32_w]; rw [c9b0]) | skip)
          have H' := Aside0.mk H
          clear H
          obtain ⟨hcz10_0, hcz10_1, hcz10_2, hcz10_3, hcz10_4, hcz10_5, hcz10_6, hcz10_7, hcz10_8, hcz10_9, hcz10_10⟩ := cy11_6 BK177.out
          have hfz10_0 := blk_frozen BK177.out 0
          have hfz10_1 := blk_frozen BK177.out 1
          have hfz10_2 := blk_frozen BK177.out 2
          have hfz10_3 := blk_frozen BK177.out 3
          have hfz10_4 := blk_frozen BK177.out 4
          have hfz10_5 := blk_frozen BK177.out 5
          have hfz10_6 := blk_frozen BK177.out 6
          have hfz10_7 := blk_frozen BK177.out 7
          have hfz10_8 := blk_frozen BK177.out 8
          have hfz10_9 := blk_frozen BK177.out 9
          have hfz10_10 := blk_frozen BK177.out 10
          go_wp2
          repeat (go_quiet (fail); try go_wp2)
          go_meet
          case rel => exact ⟨_, (true), (by first | rfl | (simp; done) | (simp [*]; done)), H', ⟨by first | omega | exact Nat.le_refl _⟩, ⟨by (with_reducible repeat (first | refine blk_drewN ?_ _ | refine blk_drew ?_ | refine blk_alloc ?_ _)); exact BK177.out⟩, ⟨by repeat (first | (with_reducible first | exact HB.out | apply below_alloc | apply pw_below_drewN | apply below_drew1 | refine below_set ?_ GE177.out) | exact HB.out)⟩⟩
        · rw [if_neg c9] at H
          have c9b0 : decide (a0_1 < 0) = false := decide_eq_false c9
          clear c9
          (first | rw [c9b0] | (simp only [i64_w, i32_w]; rw [c9b0]) | skip)
          by_cases c11 : a0_1 > 8191
          · rw [if_pos c11] at H
            have c11b0 : decide (8191 < a0_1) = true := decide_eq_true c11
            clear c11
            have H' := Aside0.mk H
            clear H
            obtain ⟨hcz12_0, hcz12_1, hcz12_2, hcz12_3, hcz12_4, hcz12_5, hcz12_6, hcz12_7, hcz12_8, hcz12_9, hcz12_10⟩ := cy11_6 BK177.out
            have hfz12_0 := blk_frozen BK177.out 0
            have hfz12_1 := blk_frozen BK177.out 1
            have hfz12_2 := blk_frozen BK177.out 2
            have hfz12_3 := blk_frozen BK177.out 3
            have hfz12_4 := blk_frozen BK177.out 4
            have hfz12_5 := blk_frozen BK177.out 5
            have hfz12_6 := blk_frozen BK177.out 6
            have hfz12_7 := blk_frozen BK177.out 7
            have hfz12_8 := blk_frozen BK177.out 8
            have hfz12_9 := blk_frozen BK177.out 9
            have hfz12_10 := blk_frozen BK177.out 10
            go_wp2
            repeat (go_quiet (fail); try go_wp2)
            go_meet
            case rel => exact ⟨_, (true), (by first | rfl | (simp; done) | (simp [*]; done)), H', ⟨by first | omega | exact Nat.le_refl _⟩, ⟨by (with_reducible repeat (first | refine blk_drewN ?_ _ | refine blk_drew ?_ | refine blk_alloc ?_ _)); exact BK177.out⟩, ⟨by repeat (first | (with_reducible first | exact HB.out | apply below_alloc | apply pw_below_drewN | apply below_drew1 | refine below_set ?_ GE177.out) | exact HB.out)⟩⟩
          · rw [if_neg c11] at H
            have c11b0 : decide (8191 < a0_1) = false := decide_eq_false c11
            clear c11
            by_cases c13 : t179 = true
            · subst c13
              have H1 : (lookasideref03_May.j0 k true a0_0 a0_1 a0_2 a0_3 a0_4 a0_5 a0_6 a0_7 a0_8 a0_9 true) = some r := by rw [if_pos rfl] at H; exact H
              clear H
              have H := H1
              clear H1
              have H' := Aside0.mk H
              clear H
              obtain ⟨hcz14_0, hcz14_1, hcz14_2, hcz14_3, hcz14_4, hcz14_5, hcz14_6, hcz14_7, hcz14_8, hcz14_9, hcz14_10⟩ := cy11_6 BK177.out
              have hfz14_0 := blk_frozen BK177.out 0
              have hfz14_1 := blk_frozen BK177.out 1
              have hfz14_2 := blk_frozen BK177.out 2
              have hfz14_3 := blk_frozen BK177.out 3
              have hfz14_4 := blk_frozen BK177.out 4
              have hfz14_5 := blk_frozen BK177.out 5
              have hfz14_6 := blk_frozen BK177.out 6
              have hfz14_7 := blk_frozen BK177.out 7
              have hfz14_8 := blk_frozen BK177.out 8
              have hfz14_9 := blk_frozen BK177.out 9
              have hfz14_10 := blk_frozen BK177.out 10
              go_wp2
              repeat (go_quiet (fail); try go_wp2)
              go_meet
              case rel => exact ⟨_, (true), (by first | rfl | (simp; done) | (simp [*]; done)), H', ⟨by first | omega | exact Nat.le_refl _⟩, ⟨by (with_reducible repeat (first | refine blk_drewN ?_ _ | refine blk_drew ?_ | refine blk_alloc ?_ _)); exact BK177.out⟩, ⟨by repeat (first | (with_reducible first | exact HB.out | apply below_alloc | apply pw_below_drewN | apply below_drew1 | refine below_set ?_ GE177.out) | exact HB.out)⟩⟩
            · replace c13 := Bool.eq_false_iff.mpr c13
              subst c13
              have H1 : (if a0_8 = true then (lookasideref03_May.j0 k (a0_1 != 0) a0_0 a0_1 a0_2 a0_3 a0_4 a0_5 a0_6 a0_7 a0_8 a0_9 true) else (lookasideref03_May.j0 k false a0_0 a0_1 a0_2 a0_3 a0_4 a0_5 a0_6 a0_7 a0_8 a0_9 true)) = some r := by rw [if_neg (show ¬ (false = true) by decide)] at H; exact H
              clear H
              have H := H1
              clear H1
              by_cases c15 : a0_8 = true
              · subst c15
                have H1 : (lookasideref03_May.j0 k (a0_1 != 0) a0_0 a0_1 a0_2 a0_3 a0_4 a0_5 a0_6 a0_7 true a0_9 true) = some r := by rw [if_pos rfl] at H; exact H
                clear H
                have H := H1
                clear H1
                have H' := Aside0.mk H
                clear H
                obtain ⟨hcz16_0, hcz16_1, hcz16_2, hcz16_3, hcz16_4, hcz16_5, hcz16_6, hcz16_7, hcz16_8, hcz16_9, hcz16_10⟩ := cy11_6 BK177.out
                have hfz16_0 := blk_frozen BK177.out 0
                have hfz16_1 := blk_frozen BK177.out 1
                have hfz16_2 := blk_frozen BK177.out 2
                have hfz16_3 := blk_frozen BK177.out 3
                have hfz16_4 := blk_frozen BK177.out 4
                have hfz16_5 := blk_frozen BK177.out 5
                have hfz16_6 := blk_frozen BK177.out 6
                have hfz16_7 := blk_frozen BK177.out 7
                have hfz16_8 := blk_frozen BK177.out 8
                have hfz16_9 := blk_frozen BK177.out 9
                have hfz16_10 := blk_frozen BK177.out 10
                go_wp2
                repeat (go_quiet (fail); try go_wp2)
                go_meet
                case rel => exact ⟨_, ((a0_1 != 0)), (by first | rfl | (simp; done) | (simp [*]; done)), H', ⟨by first | omega | exact Nat.le_refl _⟩, ⟨by (with_reducible repeat (first | refine blk_drewN ?_ _ | refine blk_drew ?_ | refine blk_alloc ?_ _)); exact BK177.out⟩, ⟨by repeat (first | (with_reducible first | exact HB.out | apply below_alloc | apply pw_below_drewN | apply below_drew1 | refine below_set ?_ GE177.out) | exact HB.out)⟩⟩
              · replace c15 := Bool.eq_false_iff.mpr c15
                subst c15
                have H1 : (lookasideref03_May.j0 k false a0_0 a0_1 a0_2 a0_3 a0_4 a0_5 a0_6 a0_7 false a0_9 true) = some r := by rw [if_neg (show ¬ (false = true) by decide)] at H; exact H
                clear H
                have H := H1
                clear H1
                have H' := Aside0.mk H
                clear H
                obtain ⟨hcz17_0, hcz17_1, hcz17_2, hcz17_3, hcz17_4, hcz17_5, hcz17_6, hcz17_7, hcz17_8, hcz17_9, hcz17_10⟩ := cy11_6 BK177.out
                have hfz17_0 := blk_frozen BK177.out 0
                have hfz17_1 := blk_frozen BK177.out 1
                have hfz17_2 := blk_frozen BK177.out 2
                have hfz17_3 := blk_frozen BK177.out 3
                have hfz17_4 := blk_frozen BK177.out 4
                have hfz17_5 := blk_frozen BK177.out 5
                have hfz17_6 := blk_frozen BK177.out 6
                have hfz17_7 := blk_frozen BK177.out 7
                have hfz17_8 := blk_frozen BK177.out 8
                have hfz17_9 := blk_frozen BK177.out 9
                have hfz17_10 := blk_frozen BK177.out 10
                go_wp2
                repeat (go_quiet (fail); try go_wp2)
                go_meet
                case rel => exact ⟨_, (false), (by first | rfl | (simp; done) | (simp [*]; done)), H', ⟨by first | omega | exact Nat.le_refl _⟩, ⟨by (with_reducible repeat (first | refine blk_drewN ?_ _ | refine blk_drew ?_ | refine blk_alloc ?_ _)); exact BK177.out⟩, ⟨by repeat (first | (with_reducible first | exact HB.out | apply below_alloc | apply pw_below_drewN | apply below_drew1 | refine below_set ?_ GE177.out) | exact HB.out)⟩⟩
      · replace c8 := Bool.eq_false_iff.mpr c8
        subst c8
        have H1 : (lookasideref03_May.j0 k true a0_0 a0_1 a0_2 a0_3 a0_4 a0_5 a0_6 a0_7 a0_8 a0_9 true) = some r := by rw [if_neg (show ¬ (false = true) by decide)] at H; exact H
        clear H
        have H := H1
        clear H1
        have H' := Aside0.mk H
        clear H
        obtain ⟨hcz18_0, hcz18_1, hcz18_2, hcz18_3, hcz18_4, hcz18_5, hcz18_6, hcz18_7, hcz18_8, hcz18_9, hcz18_10⟩ := cy11_6 BK177.out
        have hfz18_0 := blk_frozen BK177.out 0
        have hfz18_1 := blk_frozen BK177.out 1
        have hfz18_2 := blk_frozen BK177.out 2
        have hfz18_3 := blk_frozen BK177.out 3
        have hfz18_4 := blk_frozen BK177.out 4
        have hfz18_5 := blk_frozen BK177.out 5
        have hfz18_6 := blk_frozen BK177.out 6
        have hfz18_7 := blk_frozen BK177.out 7
        have hfz18_8 := blk_frozen BK177.out 8
        have hfz18_9 := blk_frozen BK177.out 9
        have hfz18_10 := blk_frozen BK177.out 10
        go_wp2
        repeat (go_quiet (fail); try go_wp2)
        go_meet
        case rel => exact ⟨_, (true), (by first | rfl | (simp; done) | (simp [*]; done)), H', ⟨by first | omega | exact Nat.le_refl _⟩, ⟨by (with_reducible repeat (first | refine blk_drewN ?_ _ | refine blk_drew ?_ | refine blk_alloc ?_ _)); exact BK177.out⟩, ⟨by repeat (first | (with_reducible first | exact HB.out | apply below_alloc | apply pw_below_drewN | apply below_drew1 | refine below_set ?_ GE177.out) | exact HB.out)⟩⟩
    · replace c7 := Bool.eq_false_iff.mpr c7
      subst c7
      have H1 : (lookasideref03_May.j0 k true a0_0 a0_1 a0_2 a0_3 a0_4 a0_5 a0_6 a0_7 a0_8 a0_9 false) = some r := by rw [if_neg (show ¬ (false = true) by decide)] at H; exact H
      clear H
      have H := H1
      clear H1
      have H' := Aside0.mk H
      clear H
      obtain ⟨hcz19_0, hcz19_1, hcz19_2, hcz19_3, hcz19_4, hcz19_5, hcz19_6, hcz19_7, hcz19_8, hcz19_9, hcz19_10⟩ := cy11_6 BK177.out
      have hfz19_0 := blk_frozen BK177.out 0
      have hfz19_1 := blk_frozen BK177.out 1
      have hfz19_2 := blk_frozen BK177.out 2
      have hfz19_3 := blk_frozen BK177.out 3
      have hfz19_4 := blk_frozen BK177.out 4
      have hfz19_5 := blk_frozen BK177.out 5
      have hfz19_6 := blk_frozen BK177.out 6
      have hfz19_7 := blk_frozen BK177.out 7
      have hfz19_8 := blk_frozen BK177.out 8
      have hfz19_9 := blk_frozen BK177.out 9
      have hfz19_10 := blk_frozen BK177.out 10
      go_wp2
      repeat (go_quiet (fail); try go_wp2)
      go_meet
      case rel => exact ⟨_, (true), (by first | rfl | (simp; done) | (simp [*]; done)), H', ⟨by first | omega | exact Nat.le_refl _⟩, ⟨by (with_reducible repeat (first | refine blk_drewN ?_ _ | refine blk_drew ?_ | refine blk_alloc ?_ _)); exact BK177.out⟩, ⟨by repeat (first | (with_reducible first | exact HB.out | apply below_alloc | apply pw_below_drewN | apply below_drew1 | refine below_set ?_ GE177.out) | exact HB.out)⟩⟩
  case rest =>
    clear HC4
    try clear c1
    try clear p2
    try clear c7
    try clear c8
    try clear c9
    try clear c9b0
    try clear c11
    try clear c11b0
    try clear c13
    try clear c15
    try clear hcz10_0
    try clear hcz10_1
    try clear hcz10_10
    try clear hcz10_2
    try clear hcz10_3
    try clear hcz10_4
    try clear hcz10_5
    try clear hcz10_6
    try clear hcz10_7
    try clear hcz10_8
    try clear hcz10_9
    try clear hcz12_0
    try clear hcz12_1
    try clear hcz12_10
    try clear hcz12_2
    try clear hcz12_3
    try clear hcz12_4
    try clear hcz12_5
    try clear hcz12_6
    try clear hcz12_7
    try clear hcz12_8
    try clear hcz12_9
    try clear hcz14_0
    try clear hcz14_1
    try clear hcz14_10
    try clear hcz14_2
    try clear hcz14_3
    try clear hcz14_4
    try clear hcz14_5
    try clear hcz14_6
    try clear hcz14_7
    try clear hcz14_8
    try clear hcz14_9
    try clear hcz16_0
    try clear hcz16_1
    try clear hcz16_10
    try clear hcz16_2
    try clear hcz16_3
    try clear hcz16_4
    try clear hcz16_5
    try clear hcz16_6
    try clear hcz16_7
    try clear hcz16_8
    try clear hcz16_9
    try clear hcz17_0
    try clear hcz17_1
    try clear hcz17_10
    try clear hcz17_2
    try clear hcz17_3
    try clear hcz17_4
    try clear hcz17_5
    try clear hcz17_6
    try clear hcz17_7
    try clear hcz17_8
    try clear hcz17_9
    try clear hcz18_0
    try clear hcz18_1
    try clear hcz18_10
    try clear hcz18_2
    try clear hcz18_3
    try clear hcz18_4
    try clear hcz18_5
    try clear hcz18_6
    try clear hcz18_7
    try clear hcz18_8
    try clear hcz18_9
    try clear hcz19_0
    try clear hcz19_1
    try clear hcz19_10
    try clear hcz19_2
    try clear hcz19_3
    try clear hcz19_4
    try clear hcz19_5
    try clear hcz19_6
    try clear hcz19_7
    try clear hcz19_8
    try clear hcz19_9
    try clear hcz6_0
    try clear hcz6_1
    try clear hcz6_10
    try clear hcz6_2
    try clear hcz6_3
    try clear hcz6_4
    try clear hcz6_5
    try clear hcz6_6
    try clear hcz6_7
    try clear hcz6_8
    try clear hcz6_9
    try clear hfz10_0
    try clear hfz10_1
    try clear hfz10_10
    try clear hfz10_2
    try clear hfz10_3
    try clear hfz10_4
    try clear hfz10_5
    try clear hfz10_6
    try clear hfz10_7
    try clear hfz10_8
    try clear hfz10_9
    try clear hfz12_0
    try clear hfz12_1
    try clear hfz12_10
    try clear hfz12_2
    try clear hfz12_3
    try clear hfz12_4
    try clear hfz12_5
    try clear hfz12_6
    try clear hfz12_7
    try clear hfz12_8
    try clear hfz12_9
    try clear hfz14_0
    try clear hfz14_1
    try clear hfz14_10
    try clear hfz14_2
    try clear hfz14_3
    try clear hfz14_4
    try clear hfz14_5
    try clear hfz14_6
    try clear hfz14_7
    try clear hfz14_8
    try clear hfz14_9
    try clear hfz16_0
    try clear hfz16_1
    try clear hfz16_10
    try clear hfz16_2
    try clear hfz16_3
    try clear hfz16_4
    try clear hfz16_5
    try clear hfz16_6
    try clear hfz16_7
    try clear hfz16_8
    try clear hfz16_9
    try clear hfz17_0
    try clear hfz17_1
    try clear hfz17_10
    try clear hfz17_2
    try clear hfz17_3
    try clear hfz17_4
    try clear hfz17_5
    try clear hfz17_6
    try clear hfz17_7
    try clear hfz17_8
    try clear hfz17_9
    try clear hfz18_0
    try clear hfz18_1
    try clear hfz18_10
    try clear hfz18_2
    try clear hfz18_3
    try clear hfz18_4
    try clear hfz18_5
    try clear hfz18_6
    try clear hfz18_7
    try clear hfz18_8
    try clear hfz18_9
    try clear hfz19_0
    try clear hfz19_1
    try clear hfz19_10
    try clear hfz19_2
    try clear hfz19_3
    try clear hfz19_4
    try clear hfz19_5
    try clear hfz19_6
    try clear hfz19_7
    try clear hfz19_8
    try clear hfz19_9
    try clear hfz6_0
    try clear hfz6_1
    try clear hfz6_10
    try clear hfz6_2
    try clear hfz6_3
    try clear hfz6_4
    try clear hfz6_5
    try clear hfz6_6
    try clear hfz6_7
    try clear hfz6_8
    try clear hfz6_9
    obtain ⟨kq, x40_3, rfl, HA, HJ3, BK177, HB⟩ := hcut
    cases kq with
    | zero => exact absurd HA.out (by simp [lookasideref03_May.j0])
    | succ kj3 =>
      have H := HA.out
      clear HA
      simp only [lookasideref03_May.j0] at H
      by_cases c20 : x40_3 = true
      · subst c20
        have H1 : (some false) = some r := by rw [if_pos rfl] at H; exact H
        clear H
        have H := H1
        clear H1
        obtain rfl := Option.some.inj H
        go_wp2
        repeat (go_quiet (fail); try go_wp2)
        go_ret
        exact ⟨by first | rfl | (simp [errW_none, errW_some] <;> rfl) | (simp [*, errW_none, errW_some] <;> rfl), by repeat (first | (with_reducible first | exact HB.out | apply below_alloc | apply pw_below_drewN | apply below_drew1 | refine below_set ?_ GE177.out) | exact HB.out)⟩
      · replace c20 := Bool.eq_false_iff.mpr c20
        subst c20
        have H1 : ((lookasideref02_Bytes.f a0_0).bind fun t180 => (if t180 = 0 then (none) else (if (Int.tmod a0_2 t180) = 0 then (if (Int.tmod a0_3 t180) = 0 then (some (decide (a0_3 < 2199023255552))) else (some false)) else (some false)))) = some r := by rw [if_neg (show ¬ (false = true) by decide)] at H; exact H
        clear H
        have H := H1
        clear H1
        replace H := Option.bind_eq_some_iff.mp H
        obtain ⟨t180, A210, H⟩ := H
        replace H : (if t180 = 0 then (none) else (if (Int.tmod a0_2 t180) = 0 then (if (Int.tmod a0_3 t180) = 0 then (some (decide (a0_3 < 2199023255552))) else (some false)) else (some false))) = some r := H
        have A21 := Aside0.mk A210
        clear A210
        by_cases c22 : t180 = 0
        · rw [if_pos c22] at H
          exact absurd H (by simp)
        · rw [if_neg c22] at H
          have c22b0 : (t180 == 0) = false := beq_eq_false_iff_ne.mpr c22
          have c22b1 : (t180 != 0) = true := bne_iff_ne.mpr c22
          by_cases c23 : (Int.tmod a0_2 t180) = 0
          · rw [if_pos c23] at H
            have c23b0 : ((Int.tmod a0_2 t180) == 0) = true := beq_iff_eq.mpr c23
            have c23b1 : ((Int.tmod a0_2 t180) != 0) = false := bne_eq_false_iff_eq.mpr c23
            clear c23
            by_cases c24 : (Int.tmod a0_3 t180) = 0
            · rw [if_pos c24] at H
              have c24b0 : ((Int.tmod a0_3 t180) == 0) = true := beq_iff_eq.mpr c24
              have c24b1 : ((Int.tmod a0_3 t180) != 0) = false := bne_eq_false_iff_eq.mpr c24
              clear c24
              obtain rfl := Option.some.inj H
              obtain ⟨hcz25_0, hcz25_1, hcz25_2, hcz25_3, hcz25_4, hcz25_5, hcz25_6, hcz25_7, hcz25_8, hcz25_9, hcz25_10⟩ := cy11_6 BK177.out
              have hfz25_0 := blk_frozen BK177.out 0
              have hfz25_1 := blk_frozen BK177.out 1
              have hfz25_2 := blk_frozen BK177.out 2
              have hfz25_3 := blk_frozen BK177.out 3
              have hfz25_4 := blk_frozen BK177.out 4
              have hfz25_5 := blk_frozen BK177.out 5
              have hfz25_6 := blk_frozen BK177.out 6
              have hfz25_7 := blk_frozen BK177.out 7
              have hfz25_8 := blk_frozen BK177.out 8
              have hfz25_9 := blk_frozen BK177.out 9
              have hfz25_10 := blk_frozen BK177.out 10
              go_wp2_with (first | (go_at_call 58; (with_reducible refine (lookasideref02_Bytes.calls a0_0 t180 _ A21.out).mono ?_); rintro e w' ⟨rfl, ⟨nd, rfl⟩⟩; (try first | exact ⟨rfl, _, World.drewN_drewN _ _ _⟩ | exact ⟨rfl, _, Eq.trans (World.drewN_drewN _ _ _) (congrArg (World.drewN _) (Nat.add_assoc _ _ _))⟩)))
              repeat (go_quiet (first | (go_at_call 58; (with_reducible refine (lookasideref02_Bytes.calls a0_0 t180 _ A21.out).mono ?_); rintro e w' ⟨rfl, ⟨nd, rfl⟩⟩; (try first | exact ⟨rfl, _, World.drewN_drewN _ _ _⟩ | exact ⟨rfl, _, Eq.trans (World.drewN_drewN _ _ _) (congrArg (World.drewN _) (Nat.add_assoc _ _ _))⟩))); try go_wp2_with (first | (go_at_call 58; (with_reducible refine (lookasideref02_Bytes.calls a0_0 t180 _ A21.out).mono ?_); rintro e w' ⟨rfl, ⟨nd, rfl⟩⟩; (try first | exact ⟨rfl, _, World.drewN_drewN _ _ _⟩ | exact ⟨rfl, _, Eq.trans (World.drewN_drewN _ _ _) (congrArg (World.drewN _) (Nat.add_assoc _ _ _))⟩))))
              go_ret
              exact ⟨by first | rfl | (simp [errW_none, errW_some] <;> rfl) | (simp [*, errW_none, errW_some] <;> rfl), by repeat (first | (with_reducible first | exact HB.out | apply below_alloc | apply pw_below_drewN | apply below_drew1 | refine below_set ?_ GE177.out) | exact HB.out)⟩
            · rw [if_neg c24] at H
              have c24b0 : ((Int.tmod a0_3 t180) == 0) = false := beq_eq_false_iff_ne.mpr c24
              have c24b1 : ((Int.tmod a0_3 t180) != 0) = true := bne_iff_ne.mpr c24
              obtain rfl := Option.some.inj H
              obtain ⟨hcz26_0, hcz26_1, hcz26_2, hcz26_3, hcz26_4, hcz26_5, hcz26_6, hcz26_7, hcz26_8, hcz26_9, hcz26_10⟩ := cy11_6 BK177.out
              have hfz26_0 := blk_frozen BK177.out 0
              have hfz26_1 := blk_frozen BK177.out 1
              have hfz26_2 := blk_frozen BK177.out 2
              have hfz26_3 := blk_frozen BK177.out 3
              have hfz26_4 := blk_frozen BK177.out 4
              have hfz26_5 := blk_frozen BK177.out 5
              have hfz26_6 := blk_frozen BK177.out 6
              have hfz26_7 := blk_frozen BK177.out 7
              have hfz26_8 := blk_frozen BK177.out 8
              have hfz26_9 := blk_frozen BK177.out 9
              have hfz26_10 := blk_frozen BK177.out 10
              go_wp2_with (first | (go_at_call 58; (with_reducible refine (lookasideref02_Bytes.calls a0_0 t180 _ A21.out).mono ?_); rintro e w' ⟨rfl, ⟨nd, rfl⟩⟩; (try first | exact ⟨rfl, _, World.drewN_drewN _ _ _⟩ | exact ⟨rfl, _, Eq.trans (World.drewN_drewN _ _ _) (congrArg (World.drewN _) (Nat.add_assoc _ _ _))⟩)))
              repeat (go_quiet (first | (go_at_call 58; (with_reducible refine (lookasideref02_Bytes.calls a0_0 t180 _ A21.out).mono ?_); rintro e w' ⟨rfl, ⟨nd, rfl⟩⟩; (try first | exact ⟨rfl, _, World.drewN_drewN _ _ _⟩ | exact ⟨rfl, _, Eq.trans (World.drewN_drewN _ _ _) (congrArg (World.drewN _) (Nat.add_assoc _ _ _))⟩))); try go_wp2_with (first | (go_at_call 58; (with_reducible refine (lookasideref02_Bytes.calls a0_0 t180 _ A21.out).mono ?_); rintro e w' ⟨rfl, ⟨nd, rfl⟩⟩; (try first | exact ⟨rfl, _, World.drewN_drewN _ _ _⟩ | exact ⟨rfl, _, Eq.trans (World.drewN_drewN _ _ _) (congrArg (World.drewN _) (Nat.add_assoc _ _ _))⟩))))
              go_ret
              exact ⟨by first | rfl | (simp [errW_none, errW_some] <;> rfl) | (simp [*, errW_none, errW_some] <;> rfl), by repeat (first | (with_reducible first | exact HB.out | apply below_alloc | apply pw_below_drewN | apply below_drew1 | refine below_set ?_ GE177.out) | exact HB.out)⟩
          · rw [if_neg c23] at H
            have c23b0 : ((Int.tmod a0_2 t180) == 0) = false := beq_eq_false_iff_ne.mpr c23
            have c23b1 : ((Int.tmod a0_2 t180) != 0) = true := bne_iff_ne.mpr c23
            obtain rfl := Option.some.inj H
            obtain ⟨hcz27_0, hcz27_1, hcz27_2, hcz27_3, hcz27_4, hcz27_5, hcz27_6, hcz27_7, hcz27_8, hcz27_9, hcz27_10⟩ := cy11_6 BK177.out
            have hfz27_0 := blk_frozen BK177.out 0
            have hfz27_1 := blk_frozen BK177.out 1
            have hfz27_2 := blk_frozen BK177.out 2
            have hfz27_3 := blk_frozen BK177.out 3
            have hfz27_4 := blk_frozen BK177.out 4
            have hfz27_5 := blk_frozen BK177.out 5
            have hfz27_6 := blk_frozen BK177.out 6
            have hfz27_7 := blk_frozen BK177.out 7
            have hfz27_8 := blk_frozen BK177.out 8
            have hfz27_9 := blk_frozen BK177.out 9
            have hfz27_10 := blk_frozen BK177.out 10
            go_wp2_with (first | (go_at_call 58; (with_reducible refine (lookasideref02_Bytes.calls a0_0 t180 _ A21.out).mono ?_); rintro e w' ⟨rfl, ⟨nd, rfl⟩⟩; (try first | exact ⟨rfl, _, World.drewN_drewN _ _ _⟩ | exact ⟨rfl, _, Eq.trans (World.drewN_drewN _ _ _) (congrArg (World.drewN _) (Nat.add_assoc _ _ _))⟩)))
            repeat (go_quiet (first | (go_at_call 58; (with_reducible refine (lookasideref02_Bytes.calls a0_0 t180 _ A21.out).mono ?_); rintro e w' ⟨rfl, ⟨nd, rfl⟩⟩; (try first | exact ⟨rfl, _, World.drewN_drewN _ _ _⟩ | exact ⟨rfl, _, Eq.trans (World.drewN_drewN _ _ _) (congrArg (World.drewN _) (Nat.add_assoc _ _ _))⟩))); try go_wp2_with (first | (go_at_call 58; (with_reducible refine (lookasideref02_Bytes.calls a0_0 t180 _ A21.out).mono ?_); rintro e w' ⟨rfl, ⟨nd, rfl⟩⟩; (try first | exact ⟨rfl, _, World.drewN_drewN _ _ _⟩ | exact ⟨rfl, _, Eq.trans (World.drewN_drewN _ _ _) (congrArg (World.drewN _) (Nat.add_assoc _ _ _))⟩))))
            go_ret
            exact ⟨by first | rfl | (simp [errW_none, errW_some] <;> rfl) | (simp [*, errW_none, errW_some] <;> rfl), by repeat (first | (with_reducible first | exact HB.out | apply below_alloc | apply pw_below_drewN | apply below_drew1 | refine below_set ?_ GE177.out) | exact HB.out)⟩

/-! ### lookasideref06_with: function 93 -/
def lookasideref06_with.f (l0 : List (S26)) (a1 : Int) (a2_0 : Int) (a2_1 : Int) (a2_2 : Int) (a2_3 : Int) (a2_4 : Bool) (a2_5 : Bool) (a2_6 : Bool) (a2_7 : Bool) (a2_8 : Bool) (a2_9 : Bool) (a2_10 : Bool) : Option ((List (S26))) := if ([] : List (S26)).length + l0.length < 3518437208883 then ((some (([] : List (S26)) ++ l0 : List (S26))).bind fun y182 => (if 0 ≤ a1 then (if a1 < (y182.length : Int) then (some (y182.set (a1 : Int).toNat (⟨a2_0, a2_1, a2_2, a2_3, (⟨a2_4, a2_5, a2_6, a2_7, a2_8, a2_9⟩ : S24), a2_10⟩ : S26))) else (none)) else (none))) else (none)
set_option maxHeartbeats 8000000 in
set_option maxRecDepth 100000 in
theorem lookasideref06_with.calls (A0 : Option Addr) (c0 : Nat) (l0 : List (S26)) (a1 : Int) (a2_0 : Int) (a2_1 : Int) (a2_2 : Int) (a2_3 : Int) (a2_4 : Bool) (a2_5 : Bool) (a2_6 : Bool) (a2_7 : Bool) (a2_8 : Bool) (a2_9 : Bool) (a2_10 : Bool) (r : List (S26)) (w : World) (hr0 : Kd.C k26 w A0 l0.length l0) (hc0 : l0.length ≤ c0) (h : lookasideref06_with.f l0 a1 a2_0 a2_1 a2_2 a2_3 a2_4 a2_5 a2_6 a2_7 a2_8 a2_9 a2_10 = some r) :
    Calls Try.prog 93 #[.slice A0 l0.length c0, .int .i64 a1, .agg #[.int .i64 a2_0, .int .i64 a2_1, .int .u64 a2_2, .int .u64 a2_3, .bool a2_4, .bool a2_5, .bool a2_6, .bool a2_7, .bool a2_8, .bool a2_9, .bool a2_10]] w fun e w' => ∃ v0_ : Value, e = .returned (v0_) ∧ Kd.R k26 26 w' w.heap.size (fun _ => True) v0_ r ∧ Below w.heap.size w w' := by
  have hu26 := Try.underlying26
  have HR0 := Aside0.mk hr0
  have HC0 := Aside0.mk hc0
  clear hr0 hc0
  have HB := Aside0.mk (Below.refl w.heap.size w)
  have H : (if ([] : List (S26)).length + l0.length < 3518437208883 then ((some (([] : List (S26)) ++ l0 : List (S26))).bind fun y182 => (if 0 ≤ a1 then (if a1 < (y182.length : Int) then (some (y182.set (a1 : Int).toNat (⟨a2_0, a2_1, a2_2, a2_3, (⟨a2_4, a2_5, a2_6, a2_7, a2_8, a2_9⟩ : S24), a2_10⟩ : S26))) else (none)) else (none))) else (none)) = some r := h
  clear h
  by_cases c4 : ([] : List (S26)).length + l0.length < 3518437208883
  · rw [if_pos c4] at H
    have LMc4 := Aside0.mk c4
    clear c4
    obtain ⟨y182, hy182⟩ : ∃ y_ : List (S26), y_ = (([] : List (S26)) ++ l0) := ⟨_, rfl⟩
    replace H : (if 0 ≤ a1 then (if a1 < (y182.length : Int) then (some (y182.set (a1 : Int).toNat (⟨a2_0, a2_1, a2_2, a2_3, (⟨a2_4, a2_5, a2_6, a2_7, a2_8, a2_9⟩ : S24), a2_10⟩ : S26))) else (none)) else (none)) = some r := by first | (rw [hy182]; with_reducible exact H) | (have H2_ := (Option.bind_some _ _).symm.trans H; rw [hy182]; with_reducible exact H2_) | (have H2_ := (Option.bind_some _ _).symm.trans H; with_reducible exact H2_) | with_reducible exact H | (rw [hy182]; exact H) | exact H
    have Ny182 := Aside0.mk hy182
    clear hy182
    by_cases c5 : 0 ≤ a1
    · rw [if_pos c5] at H
      have c5b0 : decide (0 ≤ a1) = true := decide_eq_true c5
      clear c5
      by_cases c6 : a1 < (y182.length : Int)
      · rw [if_pos c6] at H
        have c6b0 : decide (a1 < (y182.length : Int)) = true := decide_eq_true c6
        clear c6
        obtain ⟨y185, hy185⟩ : ∃ y_ : List (S26), y_ = (y182.set (a1 : Int).toNat (⟨a2_0, a2_1, a2_2, a2_3, (⟨a2_4, a2_5, a2_6, a2_7, a2_8, a2_9⟩ : S24), a2_10⟩ : S26)) := ⟨_, rfl⟩
        replace H : (some y185) = some r := by first | (rw [hy185]; with_reducible exact H) | (have H2_ := (Option.bind_some _ _).symm.trans H; rw [hy185]; with_reducible exact H2_) | (have H2_ := (Option.bind_some _ _).symm.trans H; with_reducible exact H2_) | with_reducible exact H | (rw [hy185]; exact H) | exact H
        have Ny185 := Aside0.mk hy185
        clear hy185
        obtain rfl := Option.some.inj H
        go_enter Try.func93, Try.ntmps93
        go_wp2_with (first | ((with_reducible refine gate_dst (N := 5) rfl ?_); refine box_event ?hg (N := 5) ?hd (cs := #[.int .i64 a2_0, .int .i64 a2_1, .int .u64 a2_2, .int .u64 a2_3, .bool a2_4, .bool a2_5, .bool a2_6, .bool a2_7, .bool a2_8, .bool a2_9, .bool a2_10]) (t := 26) ?hr ?_; (case hd => rfl); (case hg => rfl); (case hr => first | (go_simp; done) | (go_simp; rfl)); intro gb181 hg w8 hbox hb; have n0_ := Aside0.mk (below_step (by repeat (first | (with_reducible first | exact HB.out | apply below_alloc | apply pw_below_drewN | apply below_drew1) | exact HB.out)) hb); have n1_ := Aside0.mk (hbox); have n2_ := Aside0.mk ((by rw [hg]; exact (below_size (by repeat (first | (with_reducible first | exact HB.out | apply below_alloc | apply pw_below_drewN | apply below_drew1) | exact HB.out))) : w.heap.size ≤ gb181)); have n3_ := Aside0.mk ((by rw [hg]; exact (below_size (by repeat (first | (with_reducible first | exact HB.out | apply below_alloc | apply pw_below_drewN | apply below_drew1) | exact HB.out))) : w.heap.size ≤ gb181)); clear HB; have HB := n0_; have BK181 := n1_; have GW181 := n2_; have GE181 := n3_; clear n0_ n1_ n2_ n3_; clear hb hbox hg) | ((with_reducible refine gate_builtin (b := .append) (xs := #[.tmp 8, .tmp 9]) rfl ?_); at_builtin; refine Kd.R_append_rows k26 (w0 := w) w.heap.size rfl (.tmp 8) (.tmp 9) 33 26 (.agg #[(.int .i64 0), (.int .i64 0), (.int .u64 0), (.int .u64 0), (.bool false), (.bool false), (.bool false), (.bool false), (.bool false), (.bool false), (.bool false)]) 40 rfl Try.underlying33 info26 rfl (by decide) (by omega) (.slice none 0 0) ([] : List (S26)) l0 _ _ _ (fun k_ => k_ ≠ gb181) (fun _ => False) rfl rfl ?aO ?aR (fun _ _ h => h) (fun _ h => h.elim) ?aF ?aB ?aS ?aL ?_; (case aR => repeat (first | exact (Kd.C_below HR0.out HB.out) | (with_reducible refine Kd.C_alloc ?_ _) | (with_reducible refine Kd.C_drewN ?_ _) | (with_reducible refine Kd.C_drew ?_))); (case aB => exact (by repeat (first | (with_reducible first | exact HB.out | apply below_alloc | apply pw_below_drewN | apply below_drew1 | refine below_set ?_ GE181.out) | exact HB.out))); (case aF => exact (fun k_ hk => Kd.freshB (g := gb181) (o := .cells #[.int .i64 a2_0, .int .i64 a2_1, .int .u64 a2_2, .int .u64 a2_3, .bool a2_4, .bool a2_5, .bool a2_6, .bool a2_7, .bool a2_8, .bool a2_9, .bool a2_10] 26 (0, 0)) (by (with_reducible repeat (first | refine blk_drewN ?_ _ | refine blk_drew ?_ | refine blk_alloc ?_ _)); exact BK181.out) k_ hk)); (case aO => exact ((Kd.R_nil _ _ _ _ (fun k_ => k_ ≠ gb181)))); (case aS => exact (below_size (by repeat (first | (with_reducible first | exact HB.out | apply below_alloc | apply pw_below_drewN | apply below_drew1 | refine below_set ?_ GE181.out) | exact HB.out)))); (case aL => have := LMc4.out; omega); intro v183 w9 ho hb hg hat; rw [← Ny182.out] at ho; have n0_ := Aside0.mk (blk_grown (g := gb181) (o := .cells #[.int .i64 a2_0, .int .i64 a2_1, .int .u64 a2_2, .int .u64 a2_3, .bool a2_4, .bool a2_5, .bool a2_6, .bool a2_7, .bool a2_8, .bool a2_9, .bool a2_10] 26 (0, 0)) (by (with_reducible repeat (first | refine blk_drewN ?_ _ | refine blk_drew ?_ | refine blk_alloc ?_ _)); exact BK181.out) hg (by simp [Value.ownBlock])); have n1_ := Aside0.mk (hb); have n2_ := Aside0.mk (ho); clear BK181; clear HB; have BK181 := n0_; have HB := n1_; have HO184 := n2_; clear n0_ n1_ n2_; clear ho hb hg hat; obtain ⟨hcz10_0, hcz10_1, hcz10_2, hcz10_3, hcz10_4, hcz10_5, hcz10_6, hcz10_7, hcz10_8, hcz10_9, hcz10_10⟩ := cy11_6 BK181.out; have hfz10_0 := blk_frozen BK181.out 0; have hfz10_1 := blk_frozen BK181.out 1; have hfz10_2 := blk_frozen BK181.out 2; have hfz10_3 := blk_frozen BK181.out 3; have hfz10_4 := blk_frozen BK181.out 4; have hfz10_5 := blk_frozen BK181.out 5; have hfz10_6 := blk_frozen BK181.out 6; have hfz10_7 := blk_frozen BK181.out 7; have hfz10_8 := blk_frozen BK181.out 8; have hfz10_9 := blk_frozen BK181.out 9; have hfz10_10 := blk_frozen BK181.out 10; have p7 : 0 ≤ (a1 : Int) := of_decide_eq_true (by first | (with_reducible assumption) | assumption); have q7 : (a1 : Int) < ((y182.length : Int) : Int) := of_decide_eq_true (by first | (with_reducible assumption) | assumption); obtain ⟨go7, co7, eo7, gb7, gl7, cl7, HG7⟩ := Kd.R_form HO184.out (by omega); (first | cases eo7 | (injection eo7 with ea_ en_ ec_; (first | subst ea_ | (injection ea_ with ea_; subst ea_)); subst ec_; clear en_)); have GB7 := Aside0.mk gb7; have GG7 := Aside0.mk HG7; clear gb7 gl7 HG7; obtain ⟨ce7, hcl7, hM7, hcc7, hfr7⟩ := Kd.R_elem HO184.out z26 (a1 : Int) p7 q7; obtain rfl := k26_openM hM7; have hx7_0 : w9.cell? ⟨go7, (a1 : Int).toNat * 11, none⟩ = some (.int .i64 ((rd_T26 y182 a1).f0)) := hcc7 0 _ rfl; have hx7_1 : w9.cell? ⟨go7, (a1 : Int).toNat * 11 + 1, none⟩ = some (.int .i64 ((rd_T26 y182 a1).f1)) := hcc7 1 _ rfl; have hx7_2 : w9.cell? ⟨go7, (a1 : Int).toNat * 11 + 2, none⟩ = some (.int .u64 ((rd_T26 y182 a1).f2)) := hcc7 2 _ rfl; have hx7_3 : w9.cell? ⟨go7, (a1 : Int).toNat * 11 + 3, none⟩ = some (.int .u64 ((rd_T26 y182 a1).f3)) := hcc7 3 _ rfl; have hx7_4 : w9.cell? ⟨go7, (a1 : Int).toNat * 11 + 4, none⟩ = some (.bool ((rd_T26 y182 a1).f4.f0)) := hcc7 4 _ rfl; have hx7_5 : w9.cell? ⟨go7, (a1 : Int).toNat * 11 + 5, none⟩ = some (.bool ((rd_T26 y182 a1).f4.f1)) := hcc7 5 _ rfl; have hx7_6 : w9.cell? ⟨go7, (a1 : Int).toNat * 11 + 6, none⟩ = some (.bool ((rd_T26 y182 a1).f4.f2)) := hcc7 6 _ rfl; have hx7_7 : w9.cell? ⟨go7, (a1 : Int).toNat * 11 + 7, none⟩ = some (.bool ((rd_T26 y182 a1).f4.f3)) := hcc7 7 _ rfl; have hx7_8 : w9.cell? ⟨go7, (a1 : Int).toNat * 11 + 8, none⟩ = some (.bool ((rd_T26 y182 a1).f4.f4)) := hcc7 8 _ rfl; have hx7_9 : w9.cell? ⟨go7, (a1 : Int).toNat * 11 + 9, none⟩ = some (.bool ((rd_T26 y182 a1).f4.f5)) := hcc7 9 _ rfl; have hx7_10 : w9.cell? ⟨go7, (a1 : Int).toNat * 11 + 10, none⟩ = some (.bool ((rd_T26 y182 a1).f5)) := hcc7 10 _ rfl; have hf7_0 : w9.frozen? ⟨go7, (a1 : Int).toNat * 11, none⟩ = false := hfr7 0; have hf7_1 : w9.frozen? ⟨go7, (a1 : Int).toNat * 11 + 1, none⟩ = false := hfr7 1; have hf7_2 : w9.frozen? ⟨go7, (a1 : Int).toNat * 11 + 2, none⟩ = false := hfr7 2; have hf7_3 : w9.frozen? ⟨go7, (a1 : Int).toNat * 11 + 3, none⟩ = false := hfr7 3; have hf7_4 : w9.frozen? ⟨go7, (a1 : Int).toNat * 11 + 4, none⟩ = false := hfr7 4; have hf7_5 : w9.frozen? ⟨go7, (a1 : Int).toNat * 11 + 5, none⟩ = false := hfr7 5; have hf7_6 : w9.frozen? ⟨go7, (a1 : Int).toNat * 11 + 6, none⟩ = false := hfr7 6; have hf7_7 : w9.frozen? ⟨go7, (a1 : Int).toNat * 11 + 7, none⟩ = false := hfr7 7; have hf7_8 : w9.frozen? ⟨go7, (a1 : Int).toNat * 11 + 8, none⟩ = false := hfr7 8; have hf7_9 : w9.frozen? ⟨go7, (a1 : Int).toNat * 11 + 9, none⟩ = false := hfr7 9; have hf7_10 : w9.frozen? ⟨go7, (a1 : Int).toNat * 11 + 10, none⟩ = false := hfr7 10; clear hcl7 hcc7 hfr7 hM7; replace p7 := eq_true p7; replace q7 := eq_true q7; have HX11 := Aside0.mk (show Kd.R k26 26 w9 w.heap.size (fun k_ => k_ ≠ gb181) (.slice (some ⟨go7, 0, none⟩) y182.length co7) y182 from (by (with_reducible repeat (first | apply Kd.R_alloc | apply Kd.R_drewN | apply Kd.R_drew)); exact HO184.out)); obtain ⟨ce11, hcl11, hM11, hcc11, hfr11⟩ := Kd.R_elem HX11.out z26 (a1 : Int) (of_decide_eq_true (by first | (with_reducible assumption) | assumption)) (by have h_ : (a1 : Int) < ((y182.length : Int) : Int) := of_decide_eq_true (by first | (with_reducible assumption) | assumption); first | exact h_ | (have e_ := (Kd.R_reads' HO184.out).1; omega) | simpa using h_); obtain rfl := k26_openM hM11; have HP11 := Kd.R_seg HX11.out (a1 : Int) (of_decide_eq_true (by first | (with_reducible assumption) | assumption)) (by have h_ : (a1 : Int) < ((y182.length : Int) : Int) := of_decide_eq_true (by first | (with_reducible assumption) | assumption); first | exact h_ | (have e_ := (Kd.R_reads' HO184.out).1; omega) | simpa using h_) (seg := [.int .i64 a2_0, .int .i64 a2_1, .int .u64 a2_2, .int .u64 a2_3, .bool a2_4, .bool a2_5, .bool a2_6, .bool a2_7, .bool a2_8, .bool a2_9, .bool a2_10]) (j := 0) hcl11 hcc11 (show 11 ≤ 11 from by decide) (x' := (⟨a2_0, a2_1, a2_2, a2_3, (⟨a2_4, a2_5, a2_6, a2_7, a2_8, a2_9⟩ : S24), a2_10⟩ : S26)) (k26_mkM _ _ _ (⟨a2_0, a2_1, a2_2, a2_3, (⟨a2_4, a2_5, a2_6, a2_7, a2_8, a2_9⟩ : S24), a2_10⟩ : S26) ) (fun _ hk => hk); have hx11_0 := hcc11 0 _ rfl; (try simp only [show (k26).sz = 11 from rfl, Nat.mul_one, Nat.add_zero] at hx11_0); have hf11_0 := hfr11 0; (try simp only [show (k26).sz = 11 from rfl, Nat.mul_one, Nat.add_zero] at hf11_0); have hx11_1 := hcc11 1 _ rfl; (try simp only [show (k26).sz = 11 from rfl, Nat.mul_one, Nat.add_zero] at hx11_1); have hf11_1 := hfr11 1; (try simp only [show (k26).sz = 11 from rfl, Nat.mul_one, Nat.add_zero] at hf11_1); have hx11_2 := hcc11 2 _ rfl; (try simp only [show (k26).sz = 11 from rfl, Nat.mul_one, Nat.add_zero] at hx11_2); have hf11_2 := hfr11 2; (try simp only [show (k26).sz = 11 from rfl, Nat.mul_one, Nat.add_zero] at hf11_2); have hx11_3 := hcc11 3 _ rfl; (try simp only [show (k26).sz = 11 from rfl, Nat.mul_one, Nat.add_zero] at hx11_3); have hf11_3 := hfr11 3; (try simp only [show (k26).sz = 11 from rfl, Nat.mul_one, Nat.add_zero] at hf11_3); have hx11_4 := hcc11 4 _ rfl; (try simp only [show (k26).sz = 11 from rfl, Nat.mul_one, Nat.add_zero] at hx11_4); have hf11_4 := hfr11 4; (try simp only [show (k26).sz = 11 from rfl, Nat.mul_one, Nat.add_zero] at hf11_4); have hx11_5 := hcc11 5 _ rfl; (try simp only [show (k26).sz = 11 from rfl, Nat.mul_one, Nat.add_zero] at hx11_5); have hf11_5 := hfr11 5; (try simp only [show (k26).sz = 11 from rfl, Nat.mul_one, Nat.add_zero] at hf11_5); have hx11_6 := hcc11 6 _ rfl; (try simp only [show (k26).sz = 11 from rfl, Nat.mul_one, Nat.add_zero] at hx11_6); have hf11_6 := hfr11 6; (try simp only [show (k26).sz = 11 from rfl, Nat.mul_one, Nat.add_zero] at hf11_6); have hx11_7 := hcc11 7 _ rfl; (try simp only [show (k26).sz = 11 from rfl, Nat.mul_one, Nat.add_zero] at hx11_7); have hf11_7 := hfr11 7; (try simp only [show (k26).sz = 11 from rfl, Nat.mul_one, Nat.add_zero] at hf11_7); have hx11_8 := hcc11 8 _ rfl; (try simp only [show (k26).sz = 11 from rfl, Nat.mul_one, Nat.add_zero] at hx11_8); have hf11_8 := hfr11 8; (try simp only [show (k26).sz = 11 from rfl, Nat.mul_one, Nat.add_zero] at hf11_8); have hx11_9 := hcc11 9 _ rfl; (try simp only [show (k26).sz = 11 from rfl, Nat.mul_one, Nat.add_zero] at hx11_9); have hf11_9 := hfr11 9; (try simp only [show (k26).sz = 11 from rfl, Nat.mul_one, Nat.add_zero] at hf11_9); have hx11_10 := hcc11 10 _ rfl; (try simp only [show (k26).sz = 11 from rfl, Nat.mul_one, Nat.add_zero] at hx11_10); have hf11_10 := hfr11 10; (try simp only [show (k26).sz = 11 from rfl, Nat.mul_one, Nat.add_zero] at hf11_10); clear hcl11 hcc11 hfr11 hM11) | ((with_reducible refine gate_store (t := 26) (p := 14) rfl ?_); refine store_event (t := 26) (p := 14) (v := ?vo_w12) (w1 := (((((((((((w9.setCell ⟨go7, (a1 : Int).toNat * 11, none⟩ (.int .i64 a2_0)).setCell ⟨go7, (a1 : Int).toNat * 11 + 1, none⟩ (.int .i64 a2_1)).setCell ⟨go7, (a1 : Int).toNat * 11 + 2, none⟩ (.int .u64 a2_2)).setCell ⟨go7, (a1 : Int).toNat * 11 + 3, none⟩ (.int .u64 a2_3)).setCell ⟨go7, (a1 : Int).toNat * 11 + 4, none⟩ (.bool a2_4)).setCell ⟨go7, (a1 : Int).toNat * 11 + 5, none⟩ (.bool a2_5)).setCell ⟨go7, (a1 : Int).toNat * 11 + 6, none⟩ (.bool a2_6)).setCell ⟨go7, (a1 : Int).toNat * 11 + 7, none⟩ (.bool a2_7)).setCell ⟨go7, (a1 : Int).toNat * 11 + 8, none⟩ (.bool a2_8)).setCell ⟨go7, (a1 : Int).toNat * 11 + 9, none⟩ (.bool a2_9)).setCell ⟨go7, (a1 : Int).toNat * 11 + 10, none⟩ (.bool a2_10))) ?hg ?ho ?hn ?hr ?_; (case ho => rfl); (case hg => rfl); (case hn => rfl); (case hr => first | (go_simp; done) | (go_simp; rfl)); intro w12 hw; have hg : w9.grownBy w12 (some go7) := (by rw [hw]; exact HP11.2); have hp_ : Kd.R k26 26 w12 w.heap.size (fun k_ => k_ ≠ gb181) (.slice (some ⟨go7, 0, none⟩) y182.length co7) y185 := (by rw [hw, Ny185.out]; exact HP11.1); clear HP11; have n0_ := Aside0.mk (blk_grown (g := gb181) (o := .cells #[.int .i64 a2_0, .int .i64 a2_1, .int .u64 a2_2, .int .u64 a2_3, .bool a2_4, .bool a2_5, .bool a2_6, .bool a2_7, .bool a2_8, .bool a2_9, .bool a2_10] 26 (0, 0)) (by (with_reducible repeat (first | refine blk_drewN ?_ _ | refine blk_drew ?_ | refine blk_alloc ?_ _)); exact BK181.out) hg (Kd.R_away HO184.out (fun _ hk => hk))); have n1_ := Aside0.mk (hp_); have n2_ := Aside0.mk ((by rw [hw]; exact below_set (below_set (below_set (below_set (below_set (below_set (below_set (below_set (below_set (below_set (below_set (HB.out) GB7.out) GB7.out) GB7.out) GB7.out) GB7.out) GB7.out) GB7.out) GB7.out) GB7.out) GB7.out) GB7.out : Below w.heap.size w w12)); clear BK181; clear HO184; clear HB; have BK181 := n0_; have HO184 := n1_; have HB := n2_; clear n0_ n1_ n2_; clear hg hw hp_))
        go_ret
        exact ⟨_, by first | rfl | (simp [errW_none, errW_some] <;> rfl) | (simp [*, errW_none, errW_some] <;> rfl), by (with_reducible repeat (first | apply Kd.R_alloc | apply Kd.R_drewN | apply Kd.R_drew)); exact Kd.R_mono HO184.out (fun _ hk => trivial), by repeat (first | (with_reducible first | exact HB.out | apply below_alloc | apply pw_below_drewN | apply below_drew1 | refine below_set ?_ GE181.out) | exact HB.out)⟩
      · rw [if_neg c6] at H
        exact absurd H (by simp)
    · rw [if_neg c5] at H
      exact absurd H (by simp)
  · rw [if_neg c4] at H
    exact absurd H (by simp)

end Go.Proofs.Ythclbckkfgmbaaa.QTlbPlays
