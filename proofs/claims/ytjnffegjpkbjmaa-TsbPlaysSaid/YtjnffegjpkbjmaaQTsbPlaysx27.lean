-- Taken out of a text that a program of this session printed (wip/print/myprint.py, wip/print/take.py); Lean checks it.
import Derived.Test.YtjnffegjpkbjmaaQTsbPlaysx25
namespace Go.Proofs.Ytjnffegjpkbjmaa.QTsbPlays
open Go.RowKit Go.Proofs.YtjnffegjpkbjmaaW.PrintWords Go.Proofs.YtjnffegjpkbjmaaW.PrintLast Go.Proofs.YtjnffegjpkbjmaaW.PrintMore
attribute [local go_sem] max2_int min2_int max_two min_two max_three min_three max_four min_four   -- for this text's walks alone
set_option linter.unusedVariables false
set_option linter.unusedSimpArgs false
theorem cy11_27 {W : World} {g : Nat} {t : TypeId} {a0 a1 a2 a3 a4 a5 a6 a7 a8 a9 a10 : Value} {l : List Value} (h : W.heap[g]? = some (.cells (Array.mk (a0 :: a1 :: a2 :: a3 :: a4 :: a5 :: a6 :: a7 :: a8 :: a9 :: a10 :: l)) t (0, 0))) : W.cell? ⟨g, 0, none⟩ = some a0 ∧ W.cell? ⟨g, 1, none⟩ = some a1 ∧ W.cell? ⟨g, 2, none⟩ = some a2 ∧ W.cell? ⟨g, 3, none⟩ = some a3 ∧ W.cell? ⟨g, 4, none⟩ = some a4 ∧ W.cell? ⟨g, 5, none⟩ = some a5 ∧ W.cell? ⟨g, 6, none⟩ = some a6 ∧ W.cell? ⟨g, 7, none⟩ = some a7 ∧ W.cell? ⟨g, 8, none⟩ = some a8 ∧ W.cell? ⟨g, 9, none⟩ = some a9 ∧ W.cell? ⟨g, 10, none⟩ = some a10 := ⟨(blk_cell h 0).trans rfl, (blk_cell h 1).trans rfl, (blk_cell h 2).trans rfl, (blk_cell h 3).trans rfl, (blk_cell h 4).trans rfl, (blk_cell h 5).trans rfl, (blk_cell h 6).trans rfl, (blk_cell h 7).trans rfl, (blk_cell h 8).trans rfl, (blk_cell h 9).trans rfl, (blk_cell h 10).trans rfl⟩
/-! ### lookasideref02_Hole: function 124 -/
def lookasideref02_Hole.l0 : Nat → Int → Int → Option (Bool)
 | 0, _, _ => none
 | k + 1, x0, x3 => if x3 < 64 then ((lookasideref01_Bit.f k x0 x3).bind fun t198 => ((lookasideref01_Bit.f k x0 43).bind fun t199 => (if t198 = t199 then (lookasideref02_Hole.l0 k x0 (wrap64 (x3 + 1))) else (some true)))) else (some false)
def lookasideref02_Hole.f (k : Nat) (a0 : Int) : Option (Bool) := lookasideref02_Hole.l0 k a0 44
set_option maxHeartbeats 8000000 in
set_option maxRecDepth 100000 in
theorem lookasideref02_Hole.calls (k : Nat) (a0 : Int) (r : Bool) (w : World) (h : lookasideref02_Hole.f k a0 = some r) :
  Calls Try.prog 124 #[.int .u64 a0] w fun e w' => e = .returned (.bool r) ∧ Drawn0 w w' := by
 have H : (lookasideref02_Hole.l0 k a0 44) = some r := h
 clear h
 have H' := Aside0.mk H
 clear H
 go_enter Try.func124, Try.ntmps124
 go_wp2
 go_loopg [3] k (fun kq v3 w' => ∃ (x3_1 : Int), v3 = .int .i64 x3_1 ∧ Aside0 (lookasideref02_Hole.l0 kq a0 x3_1 = some r) ∧ Aside0 (kq ≤ k) ∧ Drawn0 w w')
 case atStart => exact ⟨(44), (by first | rfl | (simp; done) | (simp [*]; done)), H', ⟨Nat.le_refl _⟩, by repeat (first | exact Drawn0.refl _ | apply Drawn0.step)⟩
 case round =>
  clear H'
  try clear c1
  obtain ⟨x3_1, rfl, HA, HK1, ⟨m1, rfl⟩⟩ := hrel
  cases gk with
  | zero => exact absurd HA.out (by simp [lookasideref02_Hole.l0])
  | succ k1 =>
   have H := HA.out
   clear HA
   simp only [lookasideref02_Hole.l0] at H
   by_cases c2 : x3_1 < 64
   ·rw [if_pos c2] at H
    have c2b0 : decide (x3_1 < 64) = true := decide_eq_true c2
    clear c2
    replace H := Option.bind_eq_some_iff.mp H
    obtain ⟨t198, A30, H⟩ := H
    replace H : ((lookasideref01_Bit.f k1 a0 43).bind fun t199 => (if t198 = t199 then (lookasideref02_Hole.l0 k1 a0 (wrap64 (x3_1 + 1))) else (some true))) = some r := H
    have A3 := Aside0.mk A30
    clear A30
    replace H := Option.bind_eq_some_iff.mp H
    obtain ⟨t199, A40, H⟩ := H
    replace H : (if t198 = t199 then (lookasideref02_Hole.l0 k1 a0 (wrap64 (x3_1 + 1))) else (some true)) = some r := H
    have A4 := Aside0.mk A40
    clear A40
    by_cases c5 : t198 = t199
    ·rw [if_pos c5] at H
     have c5b0 : (t198 == t199) = true := beq_iff_eq.mpr c5
     have c5b1 : (t198 != t199) = false := bne_eq_false_iff_eq.mpr c5
     clear c5
     have H' := Aside0.mk H
     clear H
     go_wp2_with (first | ((with_reducible refine gate_callee (f := 113) rfl ?_); refine goesL_ (some 10) rfl rfl Try.func113 (by kernel_rfl) rfl #[.int .u64 a0, .int .i64 x3_1] rfl (by (try simp only [List.map_toArray, List.map_cons, List.map_nil]); first | done | rfl | (simp only [List.length_drop, List.length_take]; rfl)) ?_; (with_reducible refine (lookasideref01_Bit.calls k1 a0 x3_1 t198 _ A3.out).mono ?_); rintro e w' ⟨rfl, ⟨nd, rfl⟩⟩; refine ⟨_, rfl, ?_⟩) | ((with_reducible refine gate_callee (f := 113) rfl ?_); refine goesL_ (some 12) rfl rfl Try.func113 (by kernel_rfl) rfl #[.int .u64 a0, .int .i64 43] rfl (by (try simp only [List.map_toArray, List.map_cons, List.map_nil]); first | done | rfl | (simp only [List.length_drop, List.length_take]; rfl)) ?_; (with_reducible refine (lookasideref01_Bit.calls k1 a0 43 t199 _ A4.out).mono ?_); rintro e w' ⟨rfl, ⟨nd, rfl⟩⟩; refine ⟨_, rfl, ?_⟩))
     go_roundg k1
     case measure => have := HK1.out; omega
     case rel => exact ⟨(wrap64 (x3_1 + 1)), (by first | rfl | (simp; done) | (simp [*]; done)), H', ⟨by have := HK1.out; omega⟩, by repeat (first | exact Drawn0.refl _ | apply Drawn0.step)⟩
    ·rw [if_neg c5] at H
     have c5b0 : (t198 == t199) = false := beq_eq_false_iff_ne.mpr c5
     have c5b1 : (t198 != t199) = true := bne_iff_ne.mpr c5
     obtain rfl := Option.some.inj H
     go_wp2_with (first | ((with_reducible refine gate_callee (f := 113) rfl ?_); refine goesL_ (some 10) rfl rfl Try.func113 (by kernel_rfl) rfl #[.int .u64 a0, .int .i64 x3_1] rfl (by (try simp only [List.map_toArray, List.map_cons, List.map_nil]); first | done | rfl | (simp only [List.length_drop, List.length_take]; rfl)) ?_; (with_reducible refine (lookasideref01_Bit.calls k1 a0 x3_1 t198 _ A3.out).mono ?_); rintro e w' ⟨rfl, ⟨nd, rfl⟩⟩; refine ⟨_, rfl, ?_⟩) | ((with_reducible refine gate_callee (f := 113) rfl ?_); refine goesL_ (some 12) rfl rfl Try.func113 (by kernel_rfl) rfl #[.int .u64 a0, .int .i64 43] rfl (by (try simp only [List.map_toArray, List.map_cons, List.map_nil]); first | done | rfl | (simp only [List.length_drop, List.length_take]; rfl)) ?_; (with_reducible refine (lookasideref01_Bit.calls k1 a0 43 t199 _ A4.out).mono ?_); rintro e w' ⟨rfl, ⟨nd, rfl⟩⟩; refine ⟨_, rfl, ?_⟩))
     go_ret
     exact ⟨by first | rfl | (simp; done) | (simp [*]; done), by repeat (first | exact Drawn0.refl _ | apply Drawn0.step)⟩
   ·rw [if_neg c2] at H
    have c2b0 : decide (x3_1 < 64) = false := decide_eq_false c2
    clear c2
    obtain rfl := Option.some.inj H
    go_wp2
    go_ret
    exact ⟨by first | rfl | (simp; done) | (simp [*]; done), by repeat (first | exact Drawn0.refl _ | apply Drawn0.step)⟩
/-! ### lookasideref03_May: function 104 -/
def lookasideref03_May.j0 : Nat → Bool → Int → Int → Int → Int → Bool → Bool → Bool → Bool → Bool → Bool → Bool → Option (Bool)
 | 0, _, _, _, _, _, _, _, _, _, _, _, _ => none
 | k + 1, x40, x201000, x201001, x201002, x201003, x201004, x201005, x201006, x201007, x201008, x201009, x201010 => if x40 = true then (some false) else ((lookasideref02_Bytes.f x201000).bind fun t203 => (if t203 = 0 then (none) else (if (Int.tmod x201002 t203) = 0 then (if (Int.tmod x201003 t203) = 0 then (some (decide (x201003 < 2199023255552))) else (some false)) else (some false))))
def lookasideref03_May.f (k : Nat) (a0_0 : Int) (a0_1 : Int) (a0_2 : Int) (a0_3 : Int) (a0_4 : Bool) (a0_5 : Bool) (a0_6 : Bool) (a0_7 : Bool) (a0_8 : Bool) (a0_9 : Bool) (a0_10 : Bool) : Option (Bool) := (lookasideref02_May.f a0_0).bind fun t201 => ((lookasideref02_Hole.f k a0_2).bind fun t202 => (if a0_10 = true then (if t201 = true then (if a0_1 < 0 then (lookasideref03_May.j0 k true a0_0 a0_1 a0_2 a0_3 a0_4 a0_5 a0_6 a0_7 a0_8 a0_9 a0_10) else (if a0_1 > 8191 then (lookasideref03_May.j0 k true a0_0 a0_1 a0_2 a0_3 a0_4 a0_5 a0_6 a0_7 a0_8 a0_9 a0_10) else (if t202 = true then (lookasideref03_May.j0 k true a0_0 a0_1 a0_2 a0_3 a0_4 a0_5 a0_6 a0_7 a0_8 a0_9 a0_10) else (if a0_8 = true then (lookasideref03_May.j0 k (a0_1 != 0) a0_0 a0_1 a0_2 a0_3 a0_4 a0_5 a0_6 a0_7 a0_8 a0_9 a0_10) else (lookasideref03_May.j0 k false a0_0 a0_1 a0_2 a0_3 a0_4 a0_5 a0_6 a0_7 a0_8 a0_9 a0_10))))) else (lookasideref03_May.j0 k true a0_0 a0_1 a0_2 a0_3 a0_4 a0_5 a0_6 a0_7 a0_8 a0_9 a0_10)) else (lookasideref03_May.j0 k true a0_0 a0_1 a0_2 a0_3 a0_4 a0_5 a0_6 a0_7 a0_8 a0_9 a0_10)))
set_option maxHeartbeats 8000000 in
set_option maxRecDepth 100000 in
theorem lookasideref03_May.calls (k : Nat) (a0_0 : Int) (a0_1 : Int) (a0_2 : Int) (a0_3 : Int) (a0_4 : Bool) (a0_5 : Bool) (a0_6 : Bool) (a0_7 : Bool) (a0_8 : Bool) (a0_9 : Bool) (a0_10 : Bool) (r : Bool) (w : World) (h : lookasideref03_May.f k a0_0 a0_1 a0_2 a0_3 a0_4 a0_5 a0_6 a0_7 a0_8 a0_9 a0_10 = some r) :
  Calls Try.prog 104 #[.agg #[.int .i64 a0_0, .int .i64 a0_1, .int .u64 a0_2, .int .u64 a0_3, .bool a0_4, .bool a0_5, .bool a0_6, .bool a0_7, .bool a0_8, .bool a0_9, .bool a0_10]] w fun e w' => e = .returned (.bool r) ∧ Below w.heap.size w w' := by
 have hu50 := Try.underlying50
 have HB := Aside0.mk (Below.refl w.heap.size w)
 have H : ((lookasideref02_May.f a0_0).bind fun t201 => ((lookasideref02_Hole.f k a0_2).bind fun t202 => (if a0_10 = true then (if t201 = true then (if a0_1 < 0 then (lookasideref03_May.j0 k true a0_0 a0_1 a0_2 a0_3 a0_4 a0_5 a0_6 a0_7 a0_8 a0_9 a0_10) else (if a0_1 > 8191 then (lookasideref03_May.j0 k true a0_0 a0_1 a0_2 a0_3 a0_4 a0_5 a0_6 a0_7 a0_8 a0_9 a0_10) else (if t202 = true then (lookasideref03_May.j0 k true a0_0 a0_1 a0_2 a0_3 a0_4 a0_5 a0_6 a0_7 a0_8 a0_9 a0_10) else (if a0_8 = true then (lookasideref03_May.j0 k (a0_1 != 0) a0_0 a0_1 a0_2 a0_3 a0_4 a0_5 a0_6 a0_7 a0_8 a0_9 a0_10) else (lookasideref03_May.j0 k false a0_0 a0_1 a0_2 a0_3 a0_4 a0_5 a0_6 a0_7 a0_8 a0_9 a0_10))))) else (lookasideref03_May.j0 k true a0_0 a0_1 a0_2 a0_3 a0_4 a0_5 a0_6 a0_7 a0_8 a0_9 a0_10)) else (lookasideref03_May.j0 k true a0_0 a0_1 a0_2 a0_3 a0_4 a0_5 a0_6 a0_7 a0_8 a0_9 a0_10)))) = some r := h
 clear h
 replace H := Option.bind_eq_some_iff.mp H
 obtain ⟨t201, A20, H⟩ := H
 replace H : ((lookasideref02_Hole.f k a0_2).bind fun t202 => (if a0_10 = true then (if t201 = true then (if a0_1 < 0 then (lookasideref03_May.j0 k true a0_0 a0_1 a0_2 a0_3 a0_4 a0_5 a0_6 a0_7 a0_8 a0_9 a0_10) else (if a0_1 > 8191 then (lookasideref03_May.j0 k true a0_0 a0_1 a0_2 a0_3 a0_4 a0_5 a0_6 a0_7 a0_8 a0_9 a0_10) else (if t202 = true then (lookasideref03_May.j0 k true a0_0 a0_1 a0_2 a0_3 a0_4 a0_5 a0_6 a0_7 a0_8 a0_9 a0_10) else (if a0_8 = true then (lookasideref03_May.j0 k (a0_1 != 0) a0_0 a0_1 a0_2 a0_3 a0_4 a0_5 a0_6 a0_7 a0_8 a0_9 a0_10) else (lookasideref03_May.j0 k false a0_0 a0_1 a0_2 a0_3 a0_4 a0_5 a0_6 a0_7 a0_8 a0_9 a0_10))))) else (lookasideref03_May.j0 k true a0_0 a0_1 a0_2 a0_3 a0_4 a0_5 a0_6 a0_7 a0_8 a0_9 a0_10)) else (lookasideref03_May.j0 k true a0_0 a0_1 a0_2 a0_3 a0_4 a0_5 a0_6 a0_7 a0_8 a0_9 a0_10))) = some r := H
 have A2 := Aside0.mk A20
 clear A20
 replace H := Option.bind_eq_some_iff.mp H
 obtain ⟨t202, A30, H⟩ := H
 replace H : (if a0_10 = true then (if t201 = true then (if a0_1 < 0 then (lookasideref03_May.j0 k true a0_0 a0_1 a0_2 a0_3 a0_4 a0_5 a0_6 a0_7 a0_8 a0_9 a0_10) else (if a0_1 > 8191 then (lookasideref03_May.j0 k true a0_0 a0_1 a0_2 a0_3 a0_4 a0_5 a0_6 a0_7 a0_8 a0_9 a0_10) else (if t202 = true then (lookasideref03_May.j0 k true a0_0 a0_1 a0_2 a0_3 a0_4 a0_5 a0_6 a0_7 a0_8 a0_9 a0_10) else (if a0_8 = true then (lookasideref03_May.j0 k (a0_1 != 0) a0_0 a0_1 a0_2 a0_3 a0_4 a0_5 a0_6 a0_7 a0_8 a0_9 a0_10) else (lookasideref03_May.j0 k false a0_0 a0_1 a0_2 a0_3 a0_4 a0_5 a0_6 a0_7 a0_8 a0_9 a0_10))))) else (lookasideref03_May.j0 k true a0_0 a0_1 a0_2 a0_3 a0_4 a0_5 a0_6 a0_7 a0_8 a0_9 a0_10)) else (lookasideref03_May.j0 k true a0_0 a0_1 a0_2 a0_3 a0_4 a0_5 a0_6 a0_7 a0_8 a0_9 a0_10)) = some r := H
 have A3 := Aside0.mk A30
 clear A30
 have HC4 := Aside0.mk H
 clear H
 go_enter Try.func104, Try.ntmps104
 go_upto_region 3 with (first | ((with_reducible refine gate_dst (N := 1) rfl ?_); refine box_event ?hg (N := 1) ?hd (cs := #[.int .i64 a0_0, .int .i64 a0_1, .int .u64 a0_2, .int .u64 a0_3, .bool a0_4, .bool a0_5, .bool a0_6, .bool a0_7, .bool a0_8, .bool a0_9, .bool a0_10]) (t := 50) ?hr ?_; (case hd => rfl); (case hg => rfl); (case hr => first | (go_simp; done) | (go_simp; rfl)); intro gb200 hg w5 hbox hb; have n0_ := Aside0.mk (below_step (by repeat (first | (with_reducible first | exact HB.out | apply below_alloc | apply pw_below_drewN | apply below_drew1) | exact HB.out)) hb); have n1_ := Aside0.mk (hbox); have n2_ := Aside0.mk ((by rw [hg]; exact (below_size (by repeat (first | (with_reducible first | exact HB.out | apply below_alloc | apply pw_below_drewN | apply below_drew1) | exact HB.out))) : w.heap.size ≤ gb200)); have n3_ := Aside0.mk ((by rw [hg]; exact (below_size (by repeat (first | (with_reducible first | exact HB.out | apply below_alloc | apply pw_below_drewN | apply below_drew1) | exact HB.out))) : w.heap.size ≤ gb200)); clear HB; have HB := n0_; have BK200 := n1_; have GW200 := n2_; have GE200 := n3_; clear n0_ n1_ n2_ n3_; clear hb hbox hg; obtain ⟨hcz6_0, hcz6_1, hcz6_2, hcz6_3, hcz6_4, hcz6_5, hcz6_6, hcz6_7, hcz6_8, hcz6_9, hcz6_10⟩ := cy11_27 BK200.out; have hfz6_0 := blk_frozen BK200.out 0; have hfz6_1 := blk_frozen BK200.out 1; have hfz6_2 := blk_frozen BK200.out 2; have hfz6_3 := blk_frozen BK200.out 3; have hfz6_4 := blk_frozen BK200.out 4; have hfz6_5 := blk_frozen BK200.out 5; have hfz6_6 := blk_frozen BK200.out 6; have hfz6_7 := blk_frozen BK200.out 7; have hfz6_8 := blk_frozen BK200.out 8; have hfz6_9 := blk_frozen BK200.out 9; have hfz6_10 := blk_frozen BK200.out 10) | (go_at_call 61; (with_reducible refine (lookasideref02_May.calls a0_0 t201 _ A2.out).mono ?_); rintro e w' ⟨rfl, ⟨nd, rfl⟩⟩; (try first | exact ⟨rfl, _, World.drewN_drewN _ _ _⟩ | exact ⟨rfl, _, Eq.trans (World.drewN_drewN _ _ _) (congrArg (World.drewN _) (Nat.add_assoc _ _ _))⟩)) | (go_at_call 124; (with_reducible refine (lookasideref02_Hole.calls k a0_2 t202 _ A3.out).mono ?_); rintro e w' ⟨rfl, ⟨nd, rfl⟩⟩; (try first | exact ⟨rfl, _, World.drewN_drewN _ _ _⟩ | exact ⟨rfl, _, Eq.trans (World.drewN_drewN _ _ _) (congrArg (World.drewN _) (Nat.add_assoc _ _ _))⟩)))
 repeat (go_quiet (fail); go_upto_region 3 with (fail))
 (try simp only [Act.put, List.setIfInBounds_toArray, List.set_cons_zero, List.set_cons_succ])
 go_cut [40] (fun v40 wc => ∃ (kq : Nat) (x40_3 : Bool), v40 = .bool x40_3 ∧ Aside0 (lookasideref03_May.j0 kq x40_3 a0_0 a0_1 a0_2 a0_3 a0_4 a0_5 a0_6 a0_7 a0_8 a0_9 a0_10 = some r) ∧ Aside0 (kq ≤ k) ∧ Aside0 (wc.heap[gb200]? = some (.cells #[.int .i64 a0_0, .int .i64 a0_1, .int .u64 a0_2, .int .u64 a0_3, .bool a0_4, .bool a0_5, .bool a0_6, .bool a0_7, .bool a0_8, .bool a0_9, .bool a0_10] 50 (0, 0))) ∧ Aside0 (Below w.heap.size w wc))
 case first =>
  have H := HC4.out
  clear HC4
  by_cases c7 : a0_10 = true
  ·subst c7
   have H1 : (if t201 = true then (if a0_1 < 0 then (lookasideref03_May.j0 k true a0_0 a0_1 a0_2 a0_3 a0_4 a0_5 a0_6 a0_7 a0_8 a0_9 true) else (if a0_1 > 8191 then (lookasideref03_May.j0 k true a0_0 a0_1 a0_2 a0_3 a0_4 a0_5 a0_6 a0_7 a0_8 a0_9 true) else (if t202 = true then (lookasideref03_May.j0 k true a0_0 a0_1 a0_2 a0_3 a0_4 a0_5 a0_6 a0_7 a0_8 a0_9 true) else (if a0_8 = true then (lookasideref03_May.j0 k (a0_1 != 0) a0_0 a0_1 a0_2 a0_3 a0_4 a0_5 a0_6 a0_7 a0_8 a0_9 true) else (lookasideref03_May.j0 k false a0_0 a0_1 a0_2 a0_3 a0_4 a0_5 a0_6 a0_7 a0_8 a0_9 true))))) else (lookasideref03_May.j0 k true a0_0 a0_1 a0_2 a0_3 a0_4 a0_5 a0_6 a0_7 a0_8 a0_9 true)) = some r := by rw [if_pos rfl] at H; exact H
   clear H
   have H := H1
   clear H1
   by_cases c8 : t201 = true
   ·subst c8
    have H1 : (if a0_1 < 0 then (lookasideref03_May.j0 k true a0_0 a0_1 a0_2 a0_3 a0_4 a0_5 a0_6 a0_7 a0_8 a0_9 true) else (if a0_1 > 8191 then (lookasideref03_May.j0 k true a0_0 a0_1 a0_2 a0_3 a0_4 a0_5 a0_6 a0_7 a0_8 a0_9 true) else (if t202 = true then (lookasideref03_May.j0 k true a0_0 a0_1 a0_2 a0_3 a0_4 a0_5 a0_6 a0_7 a0_8 a0_9 true) else (if a0_8 = true then (lookasideref03_May.j0 k (a0_1 != 0) a0_0 a0_1 a0_2 a0_3 a0_4 a0_5 a0_6 a0_7 a0_8 a0_9 true) else (lookasideref03_May.j0 k false a0_0 a0_1 a0_2 a0_3 a0_4 a0_5 a0_6 a0_7 a0_8 a0_9 true))))) = some r := by rw [if_pos rfl] at H; exact H
    clear H
    have H := H1
    clear H1
    by_cases c9 : a0_1 < 0
    ·rw [if_pos c9] at H
     have c9b0 : decide (a0_1 < 0) = true := decide_eq_true c9
     clear c9
     (first | rw [c9b0] | (simp only [i64_w, i32_w]; rw [c9b0]) | skip)
     have H' := Aside0.mk H
     clear H
     obtain ⟨hcz10_0, hcz10_1, hcz10_2, hcz10_3, hcz10_4, hcz10_5, hcz10_6, hcz10_7, hcz10_8, hcz10_9, hcz10_10⟩ := cy11_27 BK200.out
     have hfz10_0 := blk_frozen BK200.out 0
     have hfz10_1 := blk_frozen BK200.out 1
     have hfz10_2 := blk_frozen BK200.out 2
     have hfz10_3 := blk_frozen BK200.out 3
     have hfz10_4 := blk_frozen BK200.out 4
     have hfz10_5 := blk_frozen BK200.out 5
     have hfz10_6 := blk_frozen BK200.out 6
     have hfz10_7 := blk_frozen BK200.out 7
     have hfz10_8 := blk_frozen BK200.out 8
     have hfz10_9 := blk_frozen BK200.out 9
     have hfz10_10 := blk_frozen BK200.out 10
     go_wp2
     repeat (go_quiet (fail); try go_wp2)
     go_meet
     case rel => exact ⟨_, (true), (by first | rfl | (simp; done) | (simp [*]; done)), H', ⟨by first | omega | exact Nat.le_refl _⟩, ⟨by (with_reducible repeat (first | refine blk_drewN ?_ _ | refine blk_drew ?_ | refine blk_alloc ?_ _)); exact BK200.out⟩, ⟨by repeat (first | (with_reducible first | exact HB.out | apply below_alloc | apply pw_below_drewN | apply below_drew1 | refine below_set ?_ GE200.out) | exact HB.out)⟩⟩
    ·rw [if_neg c9] at H
     have c9b0 : decide (a0_1 < 0) = false := decide_eq_false c9
     clear c9
     (first | rw [c9b0] | (simp only [i64_w, i32_w]; rw [c9b0]) | skip)
     by_cases c11 : a0_1 > 8191
     ·rw [if_pos c11] at H
      have c11b0 : decide (8191 < a0_1) = true := decide_eq_true c11
      clear c11
      have H' := Aside0.mk H
      clear H
      obtain ⟨hcz12_0, hcz12_1, hcz12_2, hcz12_3, hcz12_4, hcz12_5, hcz12_6, hcz12_7, hcz12_8, hcz12_9, hcz12_10⟩ := cy11_27 BK200.out
      have hfz12_0 := blk_frozen BK200.out 0
      have hfz12_1 := blk_frozen BK200.out 1
      have hfz12_2 := blk_frozen BK200.out 2
      have hfz12_3 := blk_frozen BK200.out 3
      have hfz12_4 := blk_frozen BK200.out 4
      have hfz12_5 := blk_frozen BK200.out 5
      have hfz12_6 := blk_frozen BK200.out 6
      have hfz12_7 := blk_frozen BK200.out 7
      have hfz12_8 := blk_frozen BK200.out 8
      have hfz12_9 := blk_frozen BK200.out 9
      have hfz12_10 := blk_frozen BK200.out 10
      go_wp2
      repeat (go_quiet (fail); try go_wp2)
      go_meet
      case rel => exact ⟨_, (true), (by first | rfl | (simp; done) | (simp [*]; done)), H', ⟨by first | omega | exact Nat.le_refl _⟩, ⟨by (with_reducible repeat (first | refine blk_drewN ?_ _ | refine blk_drew ?_ | refine blk_alloc ?_ _)); exact BK200.out⟩, ⟨by repeat (first | (with_reducible first | exact HB.out | apply below_alloc | apply pw_below_drewN | apply below_drew1 | refine below_set ?_ GE200.out) | exact HB.out)⟩⟩
     ·rw [if_neg c11] at H
      have c11b0 : decide (8191 < a0_1) = false := decide_eq_false c11
      clear c11
      by_cases c13 : t202 = true
      ·subst c13
       have H1 : (lookasideref03_May.j0 k true a0_0 a0_1 a0_2 a0_3 a0_4 a0_5 a0_6 a0_7 a0_8 a0_9 true) = some r := by rw [if_pos rfl] at H; exact H
       clear H
       have H := H1
       clear H1
       have H' := Aside0.mk H
       clear H
       obtain ⟨hcz14_0, hcz14_1, hcz14_2, hcz14_3, hcz14_4, hcz14_5, hcz14_6, hcz14_7, hcz14_8, hcz14_9, hcz14_10⟩ := cy11_27 BK200.out
       have hfz14_0 := blk_frozen BK200.out 0
       have hfz14_1 := blk_frozen BK200.out 1
       have hfz14_2 := blk_frozen BK200.out 2
       have hfz14_3 := blk_frozen BK200.out 3
       have hfz14_4 := blk_frozen BK200.out 4
       have hfz14_5 := blk_frozen BK200.out 5
       have hfz14_6 := blk_frozen BK200.out 6
       have hfz14_7 := blk_frozen BK200.out 7
       have hfz14_8 := blk_frozen BK200.out 8
       have hfz14_9 := blk_frozen BK200.out 9
       have hfz14_10 := blk_frozen BK200.out 10
       go_wp2
       repeat (go_quiet (fail); try go_wp2)
       go_meet
       case rel => exact ⟨_, (true), (by first | rfl | (simp; done) | (simp [*]; done)), H', ⟨by first | omega | exact Nat.le_refl _⟩, ⟨by (with_reducible repeat (first | refine blk_drewN ?_ _ | refine blk_drew ?_ | refine blk_alloc ?_ _)); exact BK200.out⟩, ⟨by repeat (first | (with_reducible first | exact HB.out | apply below_alloc | apply pw_below_drewN | apply below_drew1 | refine below_set ?_ GE200.out) | exact HB.out)⟩⟩
      ·replace c13 := Bool.eq_false_iff.mpr c13
       subst c13
       have H1 : (if a0_8 = true then (lookasideref03_May.j0 k (a0_1 != 0) a0_0 a0_1 a0_2 a0_3 a0_4 a0_5 a0_6 a0_7 a0_8 a0_9 true) else (lookasideref03_May.j0 k false a0_0 a0_1 a0_2 a0_3 a0_4 a0_5 a0_6 a0_7 a0_8 a0_9 true)) = some r := by rw [if_neg (show ¬ (false = true) by decide)] at H; exact H
       clear H
       have H := H1
       clear H1
       by_cases c15 : a0_8 = true
       ·subst c15
        have H1 : (lookasideref03_May.j0 k (a0_1 != 0) a0_0 a0_1 a0_2 a0_3 a0_4 a0_5 a0_6 a0_7 true a0_9 true) = some r := by rw [if_pos rfl] at H; exact H
        clear H
        have H := H1
        clear H1
        have H' := Aside0.mk H
        clear H
        obtain ⟨hcz16_0, hcz16_1, hcz16_2, hcz16_3, hcz16_4, hcz16_5, hcz16_6, hcz16_7, hcz16_8, hcz16_9, hcz16_10⟩ := cy11_27 BK200.out
        have hfz16_0 := blk_frozen BK200.out 0
        have hfz16_1 := blk_frozen BK200.out 1
        have hfz16_2 := blk_frozen BK200.out 2
        have hfz16_3 := blk_frozen BK200.out 3
        have hfz16_4 := blk_frozen BK200.out 4
        have hfz16_5 := blk_frozen BK200.out 5
        have hfz16_6 := blk_frozen BK200.out 6
        have hfz16_7 := blk_frozen BK200.out 7
        have hfz16_8 := blk_frozen BK200.out 8
        have hfz16_9 := blk_frozen BK200.out 9
        have hfz16_10 := blk_frozen BK200.out 10
        go_wp2
        repeat (go_quiet (fail); try go_wp2)
        go_meet
        case rel => exact ⟨_, ((a0_1 != 0)), (by first | rfl | (simp; done) | (simp [*]; done)), H', ⟨by first | omega | exact Nat.le_refl _⟩, ⟨by (with_reducible repeat (first | refine blk_drewN ?_ _ | refine blk_drew ?_ | refine blk_alloc ?_ _)); exact BK200.out⟩, ⟨by repeat (first | (with_reducible first | exact HB.out | apply below_alloc | apply pw_below_drewN | apply below_drew1 | refine below_set ?_ GE200.out) | exact HB.out)⟩⟩
       ·replace c15 := Bool.eq_false_iff.mpr c15
        subst c15
        have H1 : (lookasideref03_May.j0 k false a0_0 a0_1 a0_2 a0_3 a0_4 a0_5 a0_6 a0_7 false a0_9 true) = some r := by rw [if_neg (show ¬ (false = true) by decide)] at H; exact H
        clear H
        have H := H1
        clear H1
        have H' := Aside0.mk H
        clear H
        obtain ⟨hcz17_0, hcz17_1, hcz17_2, hcz17_3, hcz17_4, hcz17_5, hcz17_6, hcz17_7, hcz17_8, hcz17_9, hcz17_10⟩ := cy11_27 BK200.out
        have hfz17_0 := blk_frozen BK200.out 0
        have hfz17_1 := blk_frozen BK200.out 1
        have hfz17_2 := blk_frozen BK200.out 2
        have hfz17_3 := blk_frozen BK200.out 3
        have hfz17_4 := blk_frozen BK200.out 4
        have hfz17_5 := blk_frozen BK200.out 5
        have hfz17_6 := blk_frozen BK200.out 6
        have hfz17_7 := blk_frozen BK200.out 7
        have hfz17_8 := blk_frozen BK200.out 8
        have hfz17_9 := blk_frozen BK200.out 9
        have hfz17_10 := blk_frozen BK200.out 10
        go_wp2
        repeat (go_quiet (fail); try go_wp2)
        go_meet
        case rel => exact ⟨_, (false), (by first | rfl | (simp; done) | (simp [*]; done)), H', ⟨by first | omega | exact Nat.le_refl _⟩, ⟨by (with_reducible repeat (first | refine blk_drewN ?_ _ | refine blk_drew ?_ | refine blk_alloc ?_ _)); exact BK200.out⟩, ⟨by repeat (first | (with_reducible first | exact HB.out | apply below_alloc | apply pw_below_drewN | apply below_drew1 | refine below_set ?_ GE200.out) | exact HB.out)⟩⟩
   ·replace c8 := Bool.eq_false_iff.mpr c8
    subst c8
    have H1 : (lookasideref03_May.j0 k true a0_0 a0_1 a0_2 a0_3 a0_4 a0_5 a0_6 a0_7 a0_8 a0_9 true) = some r := by rw [if_neg (show ¬ (false = true) by decide)] at H; exact H
    clear H
    have H := H1
    clear H1
    have H' := Aside0.mk H
    clear H
    obtain ⟨hcz18_0, hcz18_1, hcz18_2, hcz18_3, hcz18_4, hcz18_5, hcz18_6, hcz18_7, hcz18_8, hcz18_9, hcz18_10⟩ := cy11_27 BK200.out
    have hfz18_0 := blk_frozen BK200.out 0
    have hfz18_1 := blk_frozen BK200.out 1
    have hfz18_2 := blk_frozen BK200.out 2
    have hfz18_3 := blk_frozen BK200.out 3
    have hfz18_4 := blk_frozen BK200.out 4
    have hfz18_5 := blk_frozen BK200.out 5
    have hfz18_6 := blk_frozen BK200.out 6
    have hfz18_7 := blk_frozen BK200.out 7
    have hfz18_8 := blk_frozen BK200.out 8
    have hfz18_9 := blk_frozen BK200.out 9
    have hfz18_10 := blk_frozen BK200.out 10
    go_wp2
    repeat (go_quiet (fail); try go_wp2)
    go_meet
    case rel => exact ⟨_, (true), (by first | rfl | (simp; done) | (simp [*]; done)), H', ⟨by first | omega | exact Nat.le_refl _⟩, ⟨by (with_reducible repeat (first | refine blk_drewN ?_ _ | refine blk_drew ?_ | refine blk_alloc ?_ _)); exact BK200.out⟩, ⟨by repeat (first | (with_reducible first | exact HB.out | apply below_alloc | apply pw_below_drewN | apply below_drew1 | refine below_set ?_ GE200.out) | exact HB.out)⟩⟩
  ·replace c7 := Bool.eq_false_iff.mpr c7
   subst c7
   have H1 : (lookasideref03_May.j0 k true a0_0 a0_1 a0_2 a0_3 a0_4 a0_5 a0_6 a0_7 a0_8 a0_9 false) = some r := by rw [if_neg (show ¬ (false = true) by decide)] at H; exact H
   clear H
   have H := H1
   clear H1
   have H' := Aside0.mk H
   clear H
   obtain ⟨hcz19_0, hcz19_1, hcz19_2, hcz19_3, hcz19_4, hcz19_5, hcz19_6, hcz19_7, hcz19_8, hcz19_9, hcz19_10⟩ := cy11_27 BK200.out
   have hfz19_0 := blk_frozen BK200.out 0
   have hfz19_1 := blk_frozen BK200.out 1
   have hfz19_2 := blk_frozen BK200.out 2
   have hfz19_3 := blk_frozen BK200.out 3
   have hfz19_4 := blk_frozen BK200.out 4
   have hfz19_5 := blk_frozen BK200.out 5
   have hfz19_6 := blk_frozen BK200.out 6
   have hfz19_7 := blk_frozen BK200.out 7
   have hfz19_8 := blk_frozen BK200.out 8
   have hfz19_9 := blk_frozen BK200.out 9
   have hfz19_10 := blk_frozen BK200.out 10
   go_wp2
   repeat (go_quiet (fail); try go_wp2)
   go_meet
   case rel => exact ⟨_, (true), (by first | rfl | (simp; done) | (simp [*]; done)), H', ⟨by first | omega | exact Nat.le_refl _⟩, ⟨by (with_reducible repeat (first | refine blk_drewN ?_ _ | refine blk_drew ?_ | refine blk_alloc ?_ _)); exact BK200.out⟩, ⟨by repeat (first | (with_reducible first | exact HB.out | apply below_alloc | apply pw_below_drewN | apply below_drew1 | refine below_set ?_ GE200.out) | exact HB.out)⟩⟩
 case rest =>
  clear HC4
  try clear c1
  try clear p2
  try clear c7
  try clear c8
  try clear c9
  try clear c9b0
  try clear c10
  try clear c11
  try clear c11b0
  try clear c13
  try clear c15
  try clear hcz10_0
  try clear hcz10_1
  try clear hcz10_10
  try clear hcz10_2
  try clear hcz10_3
  try clear hcz10_4
  try clear hcz10_5
  try clear hcz10_6
  try clear hcz10_7
  try clear hcz10_8
  try clear hcz10_9
  try clear hcz12_0
  try clear hcz12_1
  try clear hcz12_10
  try clear hcz12_2
  try clear hcz12_3
  try clear hcz12_4
  try clear hcz12_5
  try clear hcz12_6
  try clear hcz12_7
  try clear hcz12_8
  try clear hcz12_9
  try clear hcz14_0
  try clear hcz14_1
  try clear hcz14_10
  try clear hcz14_2
  try clear hcz14_3
  try clear hcz14_4
  try clear hcz14_5
  try clear hcz14_6
  try clear hcz14_7
  try clear hcz14_8
  try clear hcz14_9
  try clear hcz16_0
  try clear hcz16_1
  try clear hcz16_10
  try clear hcz16_2
  try clear hcz16_3
  try clear hcz16_4
  try clear hcz16_5
  try clear hcz16_6
  try clear hcz16_7
  try clear hcz16_8
  try clear hcz16_9
  try clear hcz17_0
  try clear hcz17_1
  try clear hcz17_10
  try clear hcz17_2
  try clear hcz17_3
  try clear hcz17_4
  try clear hcz17_5
  try clear hcz17_6
  try clear hcz17_7
  try clear hcz17_8
  try clear hcz17_9
  try clear hcz18_0
  try clear hcz18_1
  try clear hcz18_10
  try clear hcz18_2
  try clear hcz18_3
  try clear hcz18_4
  try clear hcz18_5
  try clear hcz18_6
  try clear hcz18_7
  try clear hcz18_8
  try clear hcz18_9
  try clear hcz19_0
  try clear hcz19_1
  try clear hcz19_10
  try clear hcz19_2
  try clear hcz19_3
  try clear hcz19_4
  try clear hcz19_5
  try clear hcz19_6
  try clear hcz19_7
  try clear hcz19_8
  try clear hcz19_9
  try clear hcz6_0
  try clear hcz6_1
  try clear hcz6_10
  try clear hcz6_2
  try clear hcz6_3
  try clear hcz6_4
  try clear hcz6_5
  try clear hcz6_6
  try clear hcz6_7
  try clear hcz6_8
  try clear hcz6_9
  try clear hfz10_0
  try clear hfz10_1
  try clear hfz10_10
  try clear hfz10_2
  try clear hfz10_3
  try clear hfz10_4
  try clear hfz10_5
  try clear hfz10_6
  try clear hfz10_7
  try clear hfz10_8
  try clear hfz10_9
  try clear hfz12_0
  try clear hfz12_1
  try clear hfz12_10
  try clear hfz12_2
  try clear hfz12_3
  try clear hfz12_4
  try clear hfz12_5
  try clear hfz12_6
  try clear hfz12_7
  try clear hfz12_8
  try clear hfz12_9
  try clear hfz14_0
  try clear hfz14_1
  try clear hfz14_10
  try clear hfz14_2
  try clear hfz14_3
  try clear hfz14_4
  try clear hfz14_5
  try clear hfz14_6
  try clear hfz14_7
  try clear hfz14_8
  try clear hfz14_9
  try clear hfz16_0
  try clear hfz16_1
  try clear hfz16_10
  try clear hfz16_2
  try clear hfz16_3
  try clear hfz16_4
  try clear hfz16_5
  try clear hfz16_6
  try clear hfz16_7
  try clear hfz16_8
  try clear hfz16_9
  try clear hfz17_0
  try clear hfz17_1
  try clear hfz17_10
  try clear hfz17_2
  try clear hfz17_3
  try clear hfz17_4
  try clear hfz17_5
  try clear hfz17_6
  try clear hfz17_7
  try clear hfz17_8
  try clear hfz17_9
  try clear hfz18_0
  try clear hfz18_1
  try clear hfz18_10
  try clear hfz18_2
  try clear hfz18_3
  try clear hfz18_4
  try clear hfz18_5
  try clear hfz18_6
  try clear hfz18_7
  try clear hfz18_8
  try clear hfz18_9
  try clear hfz19_0
  try clear hfz19_1
  try clear hfz19_10
  try clear hfz19_2
  try clear hfz19_3
  try clear hfz19_4
  try clear hfz19_5
  try clear hfz19_6
  try clear hfz19_7
  try clear hfz19_8
  try clear hfz19_9
  try clear hfz6_0
  try clear hfz6_1
  try clear hfz6_10
  try clear hfz6_2
  try clear hfz6_3
  try clear hfz6_4
  try clear hfz6_5
  try clear hfz6_6
  try clear hfz6_7
  try clear hfz6_8
  try clear hfz6_9
  obtain ⟨kq, x40_3, rfl, HA, HJ3, BK200, HB⟩ := hcut
  cases kq with
  | zero => exact absurd HA.out (by simp [lookasideref03_May.j0])
  | succ kj3 =>
   have H := HA.out
   clear HA
   simp only [lookasideref03_May.j0] at H
   by_cases c20 : x40_3 = true
   ·subst c20
    have H1 : (some false) = some r := by rw [if_pos rfl] at H; exact H
    clear H
    have H := H1
    clear H1
    obtain rfl := Option.some.inj H
    go_wp2
    repeat (go_quiet (fail); try go_wp2)
    go_ret
    exact ⟨by first | rfl | (simp [errW_none, errW_some] <;> rfl) | (simp [*, errW_none, errW_some] <;> rfl), by repeat (first | (with_reducible first | exact HB.out | apply below_alloc | apply pw_below_drewN | apply below_drew1 | refine below_set ?_ GE200.out) | exact HB.out)⟩
   ·replace c20 := Bool.eq_false_iff.mpr c20
    subst c20
    have H1 : ((lookasideref02_Bytes.f a0_0).bind fun t203 => (if t203 = 0 then (none) else (if (Int.tmod a0_2 t203) = 0 then (if (Int.tmod a0_3 t203) = 0 then (some (decide (a0_3 < 2199023255552))) else (some false)) else (some false)))) = some r := by rw [if_neg (show ¬ (false = true) by decide)] at H; exact H
    clear H
    have H := H1
    clear H1
    replace H := Option.bind_eq_some_iff.mp H
    obtain ⟨t203, A210, H⟩ := H
    replace H : (if t203 = 0 then (none) else (if (Int.tmod a0_2 t203) = 0 then (if (Int.tmod a0_3 t203) = 0 then (some (decide (a0_3 < 2199023255552))) else (some false)) else (some false))) = some r := H
    have A21 := Aside0.mk A210
    clear A210
    by_cases c22 : t203 = 0
    ·rw [if_pos c22] at H
     exact absurd H (by simp)
    ·rw [if_neg c22] at H
     have c22b0 : (t203 == 0) = false := beq_eq_false_iff_ne.mpr c22
     have c22b1 : (t203 != 0) = true := bne_iff_ne.mpr c22
     by_cases c23 : (Int.tmod a0_2 t203) = 0
     ·rw [if_pos c23] at H
      have c23b0 : ((Int.tmod a0_2 t203) == 0) = true := beq_iff_eq.mpr c23
      have c23b1 : ((Int.tmod a0_2 t203) != 0) = false := bne_eq_false_iff_eq.mpr c23
      clear c23
      by_cases c24 : (Int.tmod a0_3 t203) = 0
      ·rw [if_pos c24] at H
       have c24b0 : ((Int.tmod a0_3 t203) == 0) = true := beq_iff_eq.mpr c24
       have c24b1 : ((Int.tmod a0_3 t203) != 0) = false := bne_eq_false_iff_eq.mpr c24
       clear c24
       obtain rfl := Option.some.inj H
       obtain ⟨hcz25_0, hcz25_1, hcz25_2, hcz25_3, hcz25_4, hcz25_5, hcz25_6, hcz25_7, hcz25_8, hcz25_9, hcz25_10⟩ := cy11_27 BK200.out
       have hfz25_0 := blk_frozen BK200.out 0
       have hfz25_1 := blk_frozen BK200.out 1
       have hfz25_2 := blk_frozen BK200.out 2
       have hfz25_3 := blk_frozen BK200.out 3
       have hfz25_4 := blk_frozen BK200.out 4
       have hfz25_5 := blk_frozen BK200.out 5
       have hfz25_6 := blk_frozen BK200.out 6
       have hfz25_7 := blk_frozen BK200.out 7
       have hfz25_8 := blk_frozen BK200.out 8
       have hfz25_9 := blk_frozen BK200.out 9
       have hfz25_10 := blk_frozen BK200.out 10
       go_wp2_with (fail)
       repeat (go_quiet ((go_at_call 57; (with_reducible refine (lookasideref02_Bytes.calls a0_0 t203 _ A21.out).mono ?_); rintro e w' ⟨rfl, ⟨nd, rfl⟩⟩; (try first | exact ⟨rfl, _, World.drewN_drewN _ _ _⟩ | exact ⟨rfl, _, Eq.trans (World.drewN_drewN _ _ _) (congrArg (World.drewN _) (Nat.add_assoc _ _ _))⟩))); try go_wp2_with (fail))
       go_ret
       exact ⟨by first | rfl | (simp [errW_none, errW_some] <;> rfl) | (simp [*, errW_none, errW_some] <;> rfl), by repeat (first | (with_reducible first | exact HB.out | apply below_alloc | apply pw_below_drewN | apply below_drew1 | refine below_set ?_ GE200.out) | exact HB.out)⟩
      ·rw [if_neg c24] at H
       have c24b0 : ((Int.tmod a0_3 t203) == 0) = false := beq_eq_false_iff_ne.mpr c24
       have c24b1 : ((Int.tmod a0_3 t203) != 0) = true := bne_iff_ne.mpr c24
       obtain rfl := Option.some.inj H
       obtain ⟨hcz26_0, hcz26_1, hcz26_2, hcz26_3, hcz26_4, hcz26_5, hcz26_6, hcz26_7, hcz26_8, hcz26_9, hcz26_10⟩ := cy11_27 BK200.out
       have hfz26_0 := blk_frozen BK200.out 0
       have hfz26_1 := blk_frozen BK200.out 1
       have hfz26_2 := blk_frozen BK200.out 2
       have hfz26_3 := blk_frozen BK200.out 3
       have hfz26_4 := blk_frozen BK200.out 4
       have hfz26_5 := blk_frozen BK200.out 5
       have hfz26_6 := blk_frozen BK200.out 6
       have hfz26_7 := blk_frozen BK200.out 7
       have hfz26_8 := blk_frozen BK200.out 8
       have hfz26_9 := blk_frozen BK200.out 9
       have hfz26_10 := blk_frozen BK200.out 10
       go_wp2_with (fail)
       repeat (go_quiet ((go_at_call 57; (with_reducible refine (lookasideref02_Bytes.calls a0_0 t203 _ A21.out).mono ?_); rintro e w' ⟨rfl, ⟨nd, rfl⟩⟩; (try first | exact ⟨rfl, _, World.drewN_drewN _ _ _⟩ | exact ⟨rfl, _, Eq.trans (World.drewN_drewN _ _ _) (congrArg (World.drewN _) (Nat.add_assoc _ _ _))⟩))); try go_wp2_with (fail))
       go_ret
       exact ⟨by first | rfl | (simp [errW_none, errW_some] <;> rfl) | (simp [*, errW_none, errW_some] <;> rfl), by repeat (first | (with_reducible first | exact HB.out | apply below_alloc | apply pw_below_drewN | apply below_drew1 | refine below_set ?_ GE200.out) | exact HB.out)⟩
     ·rw [if_neg c23] at H
      have c23b0 : ((Int.tmod a0_2 t203) == 0) = false := beq_eq_false_iff_ne.mpr c23
      have c23b1 : ((Int.tmod a0_2 t203) != 0) = true := bne_iff_ne.mpr c23
      obtain rfl := Option.some.inj H
      obtain ⟨hcz27_0, hcz27_1, hcz27_2, hcz27_3, hcz27_4, hcz27_5, hcz27_6, hcz27_7, hcz27_8, hcz27_9, hcz27_10⟩ := cy11_27 BK200.out
      have hfz27_0 := blk_frozen BK200.out 0
      have hfz27_1 := blk_frozen BK200.out 1
      have hfz27_2 := blk_frozen BK200.out 2
      have hfz27_3 := blk_frozen BK200.out 3
      have hfz27_4 := blk_frozen BK200.out 4
      have hfz27_5 := blk_frozen BK200.out 5
      have hfz27_6 := blk_frozen BK200.out 6
      have hfz27_7 := blk_frozen BK200.out 7
      have hfz27_8 := blk_frozen BK200.out 8
      have hfz27_9 := blk_frozen BK200.out 9
      have hfz27_10 := blk_frozen BK200.out 10
      go_wp2_with (fail)
      repeat (go_quiet ((go_at_call 57; (with_reducible refine (lookasideref02_Bytes.calls a0_0 t203 _ A21.out).mono ?_); rintro e w' ⟨rfl, ⟨nd, rfl⟩⟩; (try first | exact ⟨rfl, _, World.drewN_drewN _ _ _⟩ | exact ⟨rfl, _, Eq.trans (World.drewN_drewN _ _ _) (congrArg (World.drewN _) (Nat.add_assoc _ _ _))⟩))); try go_wp2_with (fail))
      go_ret
      exact ⟨by first | rfl | (simp [errW_none, errW_some] <;> rfl) | (simp [*, errW_none, errW_some] <;> rfl), by repeat (first | (with_reducible first | exact HB.out | apply below_alloc | apply pw_below_drewN | apply below_drew1 | refine below_set ?_ GE200.out) | exact HB.out)⟩
/-! ### lookasideref01_May: function 135 -/
def lookasideref01_May.f (a0 : Int) (a1 : Int) : Option (Bool) := if a0 ≥ 0 then (if a0 < 64 then (if a1 ≥ 1 then (if a1 ≤ 64 then (some (decide ((wrap64 (a0 + a1)) ≤ 64))) else (some false)) else (some false)) else (some false)) else (some false)
set_option maxHeartbeats 8000000 in
set_option maxRecDepth 100000 in
theorem lookasideref01_May.calls (a0 : Int) (a1 : Int) (r : Bool) (w : World) (h : lookasideref01_May.f a0 a1 = some r) :
  Calls Try.prog 135 #[.int .i64 a0, .int .i64 a1] w fun e w' => e = .returned (.bool r) ∧ Drawn0 w w' := by
 have H : (if a0 ≥ 0 then (if a0 < 64 then (if a1 ≥ 1 then (if a1 ≤ 64 then (some (decide ((wrap64 (a0 + a1)) ≤ 64))) else (some false)) else (some false)) else (some false)) else (some false)) = some r := h
 clear h
 by_cases c3 : a0 ≥ 0
 ·rw [if_pos c3] at H
  have c3b0 : decide (0 ≤ a0) = true := decide_eq_true c3
  clear c3
  by_cases c4 : a0 < 64
  ·rw [if_pos c4] at H
   have c4b0 : decide (a0 < 64) = true := decide_eq_true c4
   clear c4
   by_cases c5 : a1 ≥ 1
   ·rw [if_pos c5] at H
    have c5b0 : decide (1 ≤ a1) = true := decide_eq_true c5
    clear c5
    by_cases c6 : a1 ≤ 64
    ·rw [if_pos c6] at H
     have c6b0 : decide (a1 ≤ 64) = true := decide_eq_true c6
     clear c6
     obtain rfl := Option.some.inj H
     go_enter Try.func135, Try.ntmps135
     go_wp2
     go_ret
     exact ⟨by first | rfl | (simp; done) | (simp [*]; done), by repeat (first | exact Drawn0.refl _ | apply Drawn0.step)⟩
    ·rw [if_neg c6] at H
     have c6b0 : decide (a1 ≤ 64) = false := decide_eq_false c6
     clear c6
     obtain rfl := Option.some.inj H
     go_enter Try.func135, Try.ntmps135
     go_wp2
     go_ret
     exact ⟨by first | rfl | (simp; done) | (simp [*]; done), by repeat (first | exact Drawn0.refl _ | apply Drawn0.step)⟩
   ·rw [if_neg c5] at H
    have c5b0 : decide (1 ≤ a1) = false := decide_eq_false c5
    clear c5
    obtain rfl := Option.some.inj H
    go_enter Try.func135, Try.ntmps135
    go_wp2
    go_ret
    exact ⟨by first | rfl | (simp; done) | (simp [*]; done), by repeat (first | exact Drawn0.refl _ | apply Drawn0.step)⟩
  ·rw [if_neg c4] at H
   have c4b0 : decide (a0 < 64) = false := decide_eq_false c4
   clear c4
   obtain rfl := Option.some.inj H
   go_enter Try.func135, Try.ntmps135
   go_wp2
   go_ret
   exact ⟨by first | rfl | (simp; done) | (simp [*]; done), by repeat (first | exact Drawn0.refl _ | apply Drawn0.step)⟩
 ·rw [if_neg c3] at H
  have c3b0 : decide (0 ≤ a0) = false := decide_eq_false c3
  clear c3
  obtain rfl := Option.some.inj H
  go_enter Try.func135, Try.ntmps135
  go_wp2
  go_ret
  exact ⟨by first | rfl | (simp; done) | (simp [*]; done), by repeat (first | exact Drawn0.refl _ | apply Drawn0.step)⟩
/-! ### lookasideref01_Get: function 131 -/
def lookasideref01_Get.l0 : Nat → Int → Int → Bool → Int → Int → Option (Int)
 | 0, _, _, _, _, _ => none
 | k + 1, x0, x1, x7, x8, x9 => if x7 = true then (if x9 ≥ 0 then ((lookasideref01_Bit.f k x0 (wrap64 (x1 + x9))).bind fun t205 => (lookasideref01_Get.l0 k x0 x1 x7 (IntKind.u64.wrap ((IntKind.u64.wrap (2 * x8)) + t205)) (wrap64 (x9 - 1)))) else (some x8)) else (some x8)
def lookasideref01_Get.f (k : Nat) (a0 : Int) (a1 : Int) (a2 : Int) : Option (Int) := (lookasideref01_May.f a1 a2).bind fun t204 => (lookasideref01_Get.l0 k a0 a1 t204 0 (wrap64 (a2 - 1)))
set_option maxHeartbeats 8000000 in
set_option maxRecDepth 100000 in
theorem lookasideref01_Get.calls (k : Nat) (a0 : Int) (a1 : Int) (a2 : Int) (r : Int) (w : World) (h : lookasideref01_Get.f k a0 a1 a2 = some r) :
  Calls Try.prog 131 #[.int .u64 a0, .int .i64 a1, .int .i64 a2] w fun e w' => e = .returned (.int .u64 r) ∧ Drawn0 w w' := by
 have H : ((lookasideref01_May.f a1 a2).bind fun t204 => (lookasideref01_Get.l0 k a0 a1 t204 0 (wrap64 (a2 - 1)))) = some r := h
 clear h
 replace H := Option.bind_eq_some_iff.mp H
 obtain ⟨t204, A40, H⟩ := H
 replace H : (lookasideref01_Get.l0 k a0 a1 t204 0 (wrap64 (a2 - 1))) = some r := H
 have A4 := Aside0.mk A40
 clear A40
 have H' := Aside0.mk H
 clear H
 go_enter Try.func131, Try.ntmps131
 go_wp2_with (((with_reducible refine gate_callee (f := 135) rfl ?_); refine goesL_ (some 12) rfl rfl Try.func135 (by kernel_rfl) rfl #[.int .i64 a1, .int .i64 a2] rfl (by (try simp only [List.map_toArray, List.map_cons, List.map_nil]); first | done | rfl | (simp only [List.length_drop, List.length_take]; rfl)) ?_; (with_reducible refine (lookasideref01_May.calls a1 a2 t204 _ A4.out).mono ?_); rintro e w' ⟨rfl, ⟨nd, rfl⟩⟩; refine ⟨_, rfl, ?_⟩))
 go_loopg [8, 9] k (fun kq v8 v9 w' => ∃ (x8_1 : Int) (x9_1 : Int), v8 = .int .u64 x8_1 ∧ v9 = .int .i64 x9_1 ∧ Aside0 (lookasideref01_Get.l0 kq a0 a1 t204 x8_1 x9_1 = some r) ∧ Aside0 (kq ≤ k) ∧ Drawn0 w w')
 case atStart => exact ⟨(0), (wrap64 (a2 - 1)), (by first | rfl | (simp; done) | (simp [*]; done)), (by first | rfl | (simp; done) | (simp [*]; done)), H', ⟨Nat.le_refl _⟩, by repeat (first | exact Drawn0.refl _ | apply Drawn0.step)⟩
 case round =>
  clear H'
  try clear c1
  try clear p2
  obtain ⟨x8_1, x9_1, rfl, rfl, HA, HK1, ⟨m1, rfl⟩⟩ := hrel
  cases gk with
  | zero => exact absurd HA.out (by simp [lookasideref01_Get.l0])
  | succ k1 =>
   have H := HA.out
   clear HA
   simp only [lookasideref01_Get.l0] at H
   by_cases c5 : t204 = true
   ·subst c5
    have H1 : (if x9_1 ≥ 0 then ((lookasideref01_Bit.f k1 a0 (wrap64 (a1 + x9_1))).bind fun t205 => (lookasideref01_Get.l0 k1 a0 a1 true (IntKind.u64.wrap ((IntKind.u64.wrap (2 * x8_1)) + t205)) (wrap64 (x9_1 - 1)))) else (some x8_1)) = some r := by rw [if_pos rfl] at H; exact H
    clear H
    have H := H1
    clear H1
    by_cases c6 : x9_1 ≥ 0
    ·rw [if_pos c6] at H
     have c6b0 : decide (0 ≤ x9_1) = true := decide_eq_true c6
     clear c6
     replace H := Option.bind_eq_some_iff.mp H
     obtain ⟨t205, A70, H⟩ := H
     replace H : (lookasideref01_Get.l0 k1 a0 a1 true (IntKind.u64.wrap ((IntKind.u64.wrap (2 * x8_1)) + t205)) (wrap64 (x9_1 - 1))) = some r := H
     have A7 := Aside0.mk A70
     clear A70
     have H' := Aside0.mk H
     clear H
     go_wp2_with (((with_reducible refine gate_callee (f := 113) rfl ?_); refine goesL_ (some 28) rfl rfl Try.func113 (by kernel_rfl) rfl #[.int .u64 a0, .int .i64 (wrap64 (a1 + x9_1))] rfl (by (try simp only [List.map_toArray, List.map_cons, List.map_nil]); first | done | rfl | (simp only [List.length_drop, List.length_take]; rfl)) ?_; (with_reducible refine (lookasideref01_Bit.calls k1 a0 (wrap64 (a1 + x9_1)) t205 _ A7.out).mono ?_); rintro e w' ⟨rfl, ⟨nd, rfl⟩⟩; refine ⟨_, rfl, ?_⟩))
     go_roundg k1
     case measure => have := HK1.out; omega
     case rel => exact ⟨(IntKind.u64.wrap ((IntKind.u64.wrap (2 * x8_1)) + t205)), (wrap64 (x9_1 - 1)), (by first | rfl | (simp; done) | (simp [*]; done)), (by first | rfl | (simp; done) | (simp [*]; done)), H', ⟨by have := HK1.out; omega⟩, by repeat (first | exact Drawn0.refl _ | apply Drawn0.step)⟩
    ·rw [if_neg c6] at H
     have c6b0 : decide (0 ≤ x9_1) = false := decide_eq_false c6
     clear c6
     obtain rfl := Option.some.inj H
     go_wp2
     go_ret
     exact ⟨by first | rfl | (simp; done) | (simp [*]; done), by repeat (first | exact Drawn0.refl _ | apply Drawn0.step)⟩
   ·replace c5 := Bool.eq_false_iff.mpr c5
    subst c5
    have H1 : (some x8_1) = some r := by rw [if_neg (show ¬ (false = true) by decide)] at H; exact H
    clear H
    have H := H1
    clear H1
    obtain rfl := Option.some.inj H
    go_wp2
    go_ret
    exact ⟨by first | rfl | (simp; done) | (simp [*]; done), by repeat (first | exact Drawn0.refl _ | apply Drawn0.step)⟩
end Go.Proofs.Ytjnffegjpkbjmaa.QTsbPlays
-- halved
