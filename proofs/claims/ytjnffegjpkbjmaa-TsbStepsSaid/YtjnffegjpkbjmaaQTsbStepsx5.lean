-- Printed by a program of this session (wip/print/myprint.py) out of the translation; Lean checks it.
import Derived.Test.YtjnffegjpkbjmaaQTsbStepsx0
import Derived.Test.YtjnffegjpkbjmaaQTsbStepsx1
import Derived.Test.YtjnffegjpkbjmaaQTsbStepsx3
import Derived.Test.YtjnffegjpkbjmaaQTsbStepsx4
namespace Go.Proofs.Ytjnffegjpkbjmaa.QTsbSteps
open Go.RowKit Go.Proofs.YtjnffegjpkbjmaaW.PrintWords Go.Proofs.YtjnffegjpkbjmaaW.PrintLast Go.Proofs.YtjnffegjpkbjmaaW.PrintMore
attribute [local go_sem] max2_int min2_int max_two min_two max_three min_three max_four min_four   -- for this text's walks alone
set_option linter.unusedVariables false
set_option linter.unusedSimpArgs false
theorem cy11_5 {W : World} {g : Nat} {t : TypeId} {a0 a1 a2 a3 a4 a5 a6 a7 a8 a9 a10 : Value} {l : List Value} (h : W.heap[g]? = some (.cells (Array.mk (a0 :: a1 :: a2 :: a3 :: a4 :: a5 :: a6 :: a7 :: a8 :: a9 :: a10 :: l)) t (0, 0))) : W.cell? ⟨g, 0, none⟩ = some a0 ∧ W.cell? ⟨g, 1, none⟩ = some a1 ∧ W.cell? ⟨g, 2, none⟩ = some a2 ∧ W.cell? ⟨g, 3, none⟩ = some a3 ∧ W.cell? ⟨g, 4, none⟩ = some a4 ∧ W.cell? ⟨g, 5, none⟩ = some a5 ∧ W.cell? ⟨g, 6, none⟩ = some a6 ∧ W.cell? ⟨g, 7, none⟩ = some a7 ∧ W.cell? ⟨g, 8, none⟩ = some a8 ∧ W.cell? ⟨g, 9, none⟩ = some a9 ∧ W.cell? ⟨g, 10, none⟩ = some a10 := ⟨(blk_cell h 0).trans rfl, (blk_cell h 1).trans rfl, (blk_cell h 2).trans rfl, (blk_cell h 3).trans rfl, (blk_cell h 4).trans rfl, (blk_cell h 5).trans rfl, (blk_cell h 6).trans rfl, (blk_cell h 7).trans rfl, (blk_cell h 8).trans rfl, (blk_cell h 9).trans rfl, (blk_cell h 10).trans rfl⟩
theorem cz2_5 {W : World} {g : Nat} {t : TypeId} {a0 a1 : Value} (h : W.heap[g]? = some (.cells #[a0, a1] t (0, 0))) : W.cell? ⟨g, 0, none⟩ = some a0 ∧ W.cell? ⟨g, 1, none⟩ = some a1 := ⟨(blk_cell h 0).trans rfl, (blk_cell h 1).trans rfl⟩

/-! ### tte_Tag: function 66 -/
def tte_Tag.f (a0_0 : Int) (a0_1 : Int) (a0_2 : Int) (a0_3 : Int) (a0_4 : Bool) (a0_5 : Bool) (a0_6 : Bool) (a0_7 : Bool) (a0_8 : Bool) (a0_9 : Bool) (a0_10 : Bool) : Option (Int) := (tte_Target.f a0_2 a0_1).bind fun t166 => ((field_Set.f t166 63 a0_8).bind fun t167 => (some t167))
set_option maxHeartbeats 8000000 in
set_option maxRecDepth 100000 in
theorem tte_Tag.calls (a0_0 : Int) (a0_1 : Int) (a0_2 : Int) (a0_3 : Int) (a0_4 : Bool) (a0_5 : Bool) (a0_6 : Bool) (a0_7 : Bool) (a0_8 : Bool) (a0_9 : Bool) (a0_10 : Bool) (r : Int) (w : World) (h : tte_Tag.f a0_0 a0_1 a0_2 a0_3 a0_4 a0_5 a0_6 a0_7 a0_8 a0_9 a0_10 = some r) :
    Calls Try.prog 66 #[.agg #[.int .i64 a0_0, .int .i64 a0_1, .int .u64 a0_2, .int .u64 a0_3, .bool a0_4, .bool a0_5, .bool a0_6, .bool a0_7, .bool a0_8, .bool a0_9, .bool a0_10]] w fun e w' => e = .returned (.int .u64 r) ∧ Below w.heap.size w w' := by
  have hu50 := Try.underlying50
  have HB := Aside0.mk (Below.refl w.heap.size w)
  have H : ((tte_Target.f a0_2 a0_1).bind fun t166 => ((field_Set.f t166 63 a0_8).bind fun t167 => (some t167))) = some r := h
  clear h
  replace H := Option.bind_eq_some_iff.mp H
  obtain ⟨t166, A20, H⟩ := H
  replace H : ((field_Set.f t166 63 a0_8).bind fun t167 => (some t167)) = some r := H
  have A2 := Aside0.mk A20
  clear A20
  replace H := Option.bind_eq_some_iff.mp H
  obtain ⟨t167, A30, H⟩ := H
  replace H : (some t167) = some r := H
  have A3 := Aside0.mk A30
  clear A30
  obtain rfl := Option.some.inj H
  go_enter Try.func66, Try.ntmps66
  go_wp2_with (first | ((with_reducible refine gate_dst (N := 1) rfl ?_); refine box_event ?hg (N := 1) ?hd (cs := #[.int .i64 a0_0, .int .i64 a0_1, .int .u64 a0_2, .int .u64 a0_3, .bool a0_4, .bool a0_5, .bool a0_6, .bool a0_7, .bool a0_8, .bool a0_9, .bool a0_10]) (t := 50) ?hr ?_; (case hd => rfl); (case hg => rfl); (case hr => first | (go_simp; done) | (go_simp; rfl)); intro gb165 hg w4 hbox hb; have n0_ := Aside0.mk (below_step (by repeat (first | (with_reducible first | exact HB.out | apply below_alloc | apply pw_below_drewN | apply below_drew1) | exact HB.out)) hb); have n1_ := Aside0.mk (hbox); have n2_ := Aside0.mk ((by rw [hg]; exact (below_size (by repeat (first | (with_reducible first | exact HB.out | apply below_alloc | apply pw_below_drewN | apply below_drew1) | exact HB.out))) : w.heap.size ≤ gb165)); have n3_ := Aside0.mk ((by rw [hg]; exact (below_size (by repeat (first | (with_reducible first | exact HB.out | apply below_alloc | apply pw_below_drewN | apply below_drew1) | exact HB.out))) : w.heap.size ≤ gb165)); clear HB; have HB := n0_; have BK165 := n1_; have GW165 := n2_; have GE165 := n3_; clear n0_ n1_ n2_ n3_; clear hb hbox hg; obtain ⟨hcz5_0, hcz5_1, hcz5_2, hcz5_3, hcz5_4, hcz5_5, hcz5_6, hcz5_7, hcz5_8, hcz5_9, hcz5_10⟩ := cy11_5 BK165.out; have hfz5_0 := blk_frozen BK165.out 0; have hfz5_1 := blk_frozen BK165.out 1; have hfz5_2 := blk_frozen BK165.out 2; have hfz5_3 := blk_frozen BK165.out 3; have hfz5_4 := blk_frozen BK165.out 4; have hfz5_5 := blk_frozen BK165.out 5; have hfz5_6 := blk_frozen BK165.out 6; have hfz5_7 := blk_frozen BK165.out 7; have hfz5_8 := blk_frozen BK165.out 8; have hfz5_9 := blk_frozen BK165.out 9; have hfz5_10 := blk_frozen BK165.out 10) | (go_at_call 98; (with_reducible refine (tte_Target.calls a0_2 a0_1 t166 _ A2.out).mono ?_); rintro e w' ⟨rfl, ⟨nd, rfl⟩⟩; (try first | exact ⟨rfl, _, World.drewN_drewN _ _ _⟩ | exact ⟨rfl, _, Eq.trans (World.drewN_drewN _ _ _) (congrArg (World.drewN _) (Nat.add_assoc _ _ _))⟩)) | (go_at_call 95; (with_reducible refine (field_Set.calls t166 63 a0_8 t167 _ A3.out).mono ?_); rintro e w' ⟨rfl, ⟨nd, rfl⟩⟩; (try first | exact ⟨rfl, _, World.drewN_drewN _ _ _⟩ | exact ⟨rfl, _, Eq.trans (World.drewN_drewN _ _ _) (congrArg (World.drewN _) (Nat.add_assoc _ _ _))⟩)))
  repeat (go_quiet (first | ((with_reducible refine gate_dst (N := 1) rfl ?_); refine box_event ?hg (N := 1) ?hd (cs := #[.int .i64 a0_0, .int .i64 a0_1, .int .u64 a0_2, .int .u64 a0_3, .bool a0_4, .bool a0_5, .bool a0_6, .bool a0_7, .bool a0_8, .bool a0_9, .bool a0_10]) (t := 50) ?hr ?_; (case hd => rfl); (case hg => rfl); (case hr => first | (go_simp; done) | (go_simp; rfl)); intro gb165 hg w4 hbox hb; have n0_ := Aside0.mk (below_step (by repeat (first | (with_reducible first | exact HB.out | apply below_alloc | apply pw_below_drewN | apply below_drew1) | exact HB.out)) hb); have n1_ := Aside0.mk (hbox); have n2_ := Aside0.mk ((by rw [hg]; exact (below_size (by repeat (first | (with_reducible first | exact HB.out | apply below_alloc | apply pw_below_drewN | apply below_drew1) | exact HB.out))) : w.heap.size ≤ gb165)); have n3_ := Aside0.mk ((by rw [hg]; exact (below_size (by repeat (first | (with_reducible first | exact HB.out | apply below_alloc | apply pw_below_drewN | apply below_drew1) | exact HB.out))) : w.heap.size ≤ gb165)); clear HB; have HB := n0_; have BK165 := n1_; have GW165 := n2_; have GE165 := n3_; clear n0_ n1_ n2_ n3_; clear hb hbox hg; obtain ⟨hcz5_0, hcz5_1, hcz5_2, hcz5_3, hcz5_4, hcz5_5, hcz5_6, hcz5_7, hcz5_8, hcz5_9, hcz5_10⟩ := cy11_5 BK165.out; have hfz5_0 := blk_frozen BK165.out 0; have hfz5_1 := blk_frozen BK165.out 1; have hfz5_2 := blk_frozen BK165.out 2; have hfz5_3 := blk_frozen BK165.out 3; have hfz5_4 := blk_frozen BK165.out 4; have hfz5_5 := blk_frozen BK165.out 5; have hfz5_6 := blk_frozen BK165.out 6; have hfz5_7 := blk_frozen BK165.out 7; have hfz5_8 := blk_frozen BK165.out 8; have hfz5_9 := blk_frozen BK165.out 9; have hfz5_10 := blk_frozen BK165.out 10) | (go_at_call 98; (with_reducible refine (tte_Target.calls a0_2 a0_1 t166 _ A2.out).mono ?_); rintro e w' ⟨rfl, ⟨nd, rfl⟩⟩; (try first | exact ⟨rfl, _, World.drewN_drewN _ _ _⟩ | exact ⟨rfl, _, Eq.trans (World.drewN_drewN _ _ _) (congrArg (World.drewN _) (Nat.add_assoc _ _ _))⟩)) | (go_at_call 95; (with_reducible refine (field_Set.calls t166 63 a0_8 t167 _ A3.out).mono ?_); rintro e w' ⟨rfl, ⟨nd, rfl⟩⟩; (try first | exact ⟨rfl, _, World.drewN_drewN _ _ _⟩ | exact ⟨rfl, _, Eq.trans (World.drewN_drewN _ _ _) (congrArg (World.drewN _) (Nat.add_assoc _ _ _))⟩))); try go_wp2_with (first | ((with_reducible refine gate_dst (N := 1) rfl ?_); refine box_event ?hg (N := 1) ?hd (cs := #[.int .i64 a0_0, .int .i64 a0_1, .int .u64 a0_2, .int .u64 a0_3, .bool a0_4, .bool a0_5, .bool a0_6, .bool a0_7, .bool a0_8, .bool a0_9, .bool a0_10]) (t := 50) ?hr ?_; (case hd => rfl); (case hg => rfl); (case hr => first | (go_simp; done) | (go_simp; rfl)); intro gb165 hg w4 hbox hb; have n0_ := Aside0.mk (below_step (by repeat (first | (with_reducible first | exact HB.out | apply below_alloc | apply pw_below_drewN | apply below_drew1) | exact HB.out)) hb); have n1_ := Aside0.mk (hbox); have n2_ := Aside0.mk ((by rw [hg]; exact (below_size (by repeat (first | (with_reducible first | exact HB.out | apply below_alloc | apply pw_below_drewN | apply below_drew1) | exact HB.out))) : w.heap.size ≤ gb165)); have n3_ := Aside0.mk ((by rw [hg]; exact (below_size (by repeat (first | (with_reducible first | exact HB.out | apply below_alloc | apply pw_below_drewN | apply below_drew1) | exact HB.out))) : w.heap.size ≤ gb165)); clear HB; have HB := n0_; have BK165 := n1_; have GW165 := n2_; have GE165 := n3_; clear n0_ n1_ n2_ n3_; clear hb hbox hg; obtain ⟨hcz5_0, hcz5_1, hcz5_2, hcz5_3, hcz5_4, hcz5_5, hcz5_6, hcz5_7, hcz5_8, hcz5_9, hcz5_10⟩ := cy11_5 BK165.out; have hfz5_0 := blk_frozen BK165.out 0; have hfz5_1 := blk_frozen BK165.out 1; have hfz5_2 := blk_frozen BK165.out 2; have hfz5_3 := blk_frozen BK165.out 3; have hfz5_4 := blk_frozen BK165.out 4; have hfz5_5 := blk_frozen BK165.out 5; have hfz5_6 := blk_frozen BK165.out 6; have hfz5_7 := blk_frozen BK165.out 7; have hfz5_8 := blk_frozen BK165.out 8; have hfz5_9 := blk_frozen BK165.out 9; have hfz5_10 := blk_frozen BK165.out 10) | (go_at_call 98; (with_reducible refine (tte_Target.calls a0_2 a0_1 t166 _ A2.out).mono ?_); rintro e w' ⟨rfl, ⟨nd, rfl⟩⟩; (try first | exact ⟨rfl, _, World.drewN_drewN _ _ _⟩ | exact ⟨rfl, _, Eq.trans (World.drewN_drewN _ _ _) (congrArg (World.drewN _) (Nat.add_assoc _ _ _))⟩)) | (go_at_call 95; (with_reducible refine (field_Set.calls t166 63 a0_8 t167 _ A3.out).mono ?_); rintro e w' ⟨rfl, ⟨nd, rfl⟩⟩; (try first | exact ⟨rfl, _, World.drewN_drewN _ _ _⟩ | exact ⟨rfl, _, Eq.trans (World.drewN_drewN _ _ _) (congrArg (World.drewN _) (Nat.add_assoc _ _ _))⟩))))
  go_ret
  exact ⟨by first | rfl | (simp [errW_none, errW_some] <;> rfl) | (simp [*, errW_none, errW_some] <;> rfl), by repeat (first | (with_reducible first | exact HB.out | apply below_alloc | apply pw_below_drewN | apply below_drew1 | refine below_set ?_ GE165.out) | exact HB.out)⟩

-- NOT PRINTED: function 29 (tsb_Tsb_PutTag)

-- NOT PRINTED: function 22 (tsb_Tsb_Insert)

-- NOT PRINTED: function 89 (memory_Memory_Pair)

/-! ### field_Bit: function 107 -/
def field_Bit.f (a0 : Int) (a1 : Int) : Option (Bool) := (field_Get.f a0 a1 1).bind fun t168 => (some (t168 == 1))
set_option maxHeartbeats 8000000 in
set_option maxRecDepth 100000 in
theorem field_Bit.calls (a0 : Int) (a1 : Int) (r : Bool) (w : World) (h : field_Bit.f a0 a1 = some r) :
    Calls Try.prog 107 #[.int .u64 a0, .int .i64 a1] w fun e w' => e = .returned (.bool r) ∧ Drawn0 w w' := by
  have H : ((field_Get.f a0 a1 1).bind fun t168 => (some (t168 == 1))) = some r := h
  clear h
  replace H := Option.bind_eq_some_iff.mp H
  obtain ⟨t168, A30, H⟩ := H
  replace H : (some (t168 == 1)) = some r := H
  have A3 := Aside0.mk A30
  clear A30
  obtain rfl := Option.some.inj H
  go_enter Try.func107, Try.ntmps107
  go_wp2_with (first | ((with_reducible refine gate_callee (f := 106) rfl ?_); refine goesL_ (some 7) rfl rfl Try.func106 (by kernel_rfl) rfl #[.int .u64 a0, .int .i64 a1, .int .i64 1] rfl (by (try simp only [List.map_toArray, List.map_cons, List.map_nil]); first | done | rfl | (simp only [List.length_drop, List.length_take]; rfl)) ?_; (with_reducible refine (field_Get.calls a0 a1 1 t168 _ A3.out).mono ?_); rintro e w' ⟨rfl, ⟨nd, rfl⟩⟩; refine ⟨_, rfl, ?_⟩))
  go_ret
  exact ⟨by first | rfl | (simp; done) | (simp [*]; done), by repeat (first | exact Drawn0.refl _ | apply Drawn0.step)⟩

/-! ### tte_Valid: function 117 -/
def tte_Valid.f (a0 : Int) : Option (Bool) := (field_Bit.f a0 63).bind fun t169 => (some t169)
set_option maxHeartbeats 8000000 in
set_option maxRecDepth 100000 in
theorem tte_Valid.calls (a0 : Int) (r : Bool) (w : World) (h : tte_Valid.f a0 = some r) :
    Calls Try.prog 117 #[.int .u64 a0] w fun e w' => e = .returned (.bool r) ∧ Drawn0 w w' := by
  have H : ((field_Bit.f a0 63).bind fun t169 => (some t169)) = some r := h
  clear h
  replace H := Option.bind_eq_some_iff.mp H
  obtain ⟨t169, A20, H⟩ := H
  replace H : (some t169) = some r := H
  have A2 := Aside0.mk A20
  clear A20
  obtain rfl := Option.some.inj H
  go_enter Try.func117, Try.ntmps117
  go_wp2_with (first | ((with_reducible refine gate_callee (f := 107) rfl ?_); refine goesL_ (some 4) rfl rfl Try.func107 (by kernel_rfl) rfl #[.int .u64 a0, .int .i64 63] rfl (by (try simp only [List.map_toArray, List.map_cons, List.map_nil]); first | done | rfl | (simp only [List.length_drop, List.length_take]; rfl)) ?_; (with_reducible refine (field_Bit.calls a0 63 t169 _ A2.out).mono ?_); rintro e w' ⟨rfl, ⟨nd, rfl⟩⟩; refine ⟨_, rfl, ?_⟩))
  go_ret
  exact ⟨by first | rfl | (simp; done) | (simp [*]; done), by repeat (first | exact Drawn0.refl _ | apply Drawn0.step)⟩

/-! ### page_Base: function 118 -/
def page_Base.f (a0 : Int) (a1 : Int) : Option (Int) := (page_May.f a1).bind fun t170 => (if t170 = true then ((page_Offset.f a0 a1).bind fun t171 => (some (IntKind.u64.wrap (a0 - t171)))) else (some 0))
set_option maxHeartbeats 8000000 in
set_option maxRecDepth 100000 in
theorem page_Base.calls (a0 : Int) (a1 : Int) (r : Int) (w : World) (h : page_Base.f a0 a1 = some r) :
    Calls Try.prog 118 #[.int .u64 a0, .int .i64 a1] w fun e w' => e = .returned (.int .u64 r) ∧ Drawn0 w w' := by
  have H : ((page_May.f a1).bind fun t170 => (if t170 = true then ((page_Offset.f a0 a1).bind fun t171 => (some (IntKind.u64.wrap (a0 - t171)))) else (some 0))) = some r := h
  clear h
  replace H := Option.bind_eq_some_iff.mp H
  obtain ⟨t170, A30, H⟩ := H
  replace H : (if t170 = true then ((page_Offset.f a0 a1).bind fun t171 => (some (IntKind.u64.wrap (a0 - t171)))) else (some 0)) = some r := H
  have A3 := Aside0.mk A30
  clear A30
  by_cases c4 : t170 = true
  · subst c4
    have H1 : ((page_Offset.f a0 a1).bind fun t171 => (some (IntKind.u64.wrap (a0 - t171)))) = some r := by rw [if_pos rfl] at H; exact H
    clear H
    have H := H1
    clear H1
    replace H := Option.bind_eq_some_iff.mp H
    obtain ⟨t171, A50, H⟩ := H
    replace H : (some (IntKind.u64.wrap (a0 - t171))) = some r := H
    have A5 := Aside0.mk A50
    clear A50
    obtain rfl := Option.some.inj H
    go_enter Try.func118, Try.ntmps118
    go_wp2_with (first | ((with_reducible refine gate_callee (f := 75) rfl ?_); refine goesL_ (some 6) rfl rfl Try.func75 (by kernel_rfl) rfl #[.int .i64 a1] rfl (by (try simp only [List.map_toArray, List.map_cons, List.map_nil]); first | done | rfl | (simp only [List.length_drop, List.length_take]; rfl)) ?_; (with_reducible refine (page_May.calls a1 true _ A3.out).mono ?_); rintro e w' ⟨rfl, ⟨nd, rfl⟩⟩; refine ⟨_, rfl, ?_⟩) | ((with_reducible refine gate_callee (f := 130) rfl ?_); refine goesL_ (some 11) rfl rfl Try.func130 (by kernel_rfl) rfl #[.int .u64 a0, .int .i64 a1] rfl (by (try simp only [List.map_toArray, List.map_cons, List.map_nil]); first | done | rfl | (simp only [List.length_drop, List.length_take]; rfl)) ?_; (with_reducible refine (page_Offset.calls a0 a1 t171 _ A5.out).mono ?_); rintro e w' ⟨rfl, ⟨nd, rfl⟩⟩; refine ⟨_, rfl, ?_⟩))
    go_ret
    exact ⟨by first | rfl | (simp; done) | (simp [*]; done), by repeat (first | exact Drawn0.refl _ | apply Drawn0.step)⟩
  · replace c4 := Bool.eq_false_iff.mpr c4
    subst c4
    have H1 : (some 0) = some r := by rw [if_neg (show ¬ (false = true) by decide)] at H; exact H
    clear H
    have H := H1
    clear H1
    obtain rfl := Option.some.inj H
    go_enter Try.func118, Try.ntmps118
    go_wp2_with (first | ((with_reducible refine gate_callee (f := 75) rfl ?_); refine goesL_ (some 6) rfl rfl Try.func75 (by kernel_rfl) rfl #[.int .i64 a1] rfl (by (try simp only [List.map_toArray, List.map_cons, List.map_nil]); first | done | rfl | (simp only [List.length_drop, List.length_take]; rfl)) ?_; (with_reducible refine (page_May.calls a1 false _ A3.out).mono ?_); rintro e w' ⟨rfl, ⟨nd, rfl⟩⟩; refine ⟨_, rfl, ?_⟩))
    go_ret
    exact ⟨by first | rfl | (simp; done) | (simp [*]; done), by repeat (first | exact Drawn0.refl _ | apply Drawn0.step)⟩

/-! ### tte_Read: function 90 -/
theorem tte_Read.cz2 {W : World} {g : Nat} {t : TypeId} {a0 a1 : Value} (h : W.heap[g]? = some (.cells #[a0, a1] t (0, 0))) : W.cell? ⟨g, 0, none⟩ = some a0 ∧ W.cell? ⟨g, 1, none⟩ = some a1 := ⟨(blk_cell h 0).trans rfl, (blk_cell h 1).trans rfl⟩
theorem tte_Read.cz11 {W : World} {g : Nat} {t : TypeId} {a0 a1 a2 a3 a4 a5 a6 a7 a8 a9 a10 : Value} (h : W.heap[g]? = some (.cells #[a0, a1, a2, a3, a4, a5, a6, a7, a8, a9, a10] t (0, 0))) : W.cell? ⟨g, 0, none⟩ = some a0 ∧ W.cell? ⟨g, 1, none⟩ = some a1 ∧ W.cell? ⟨g, 2, none⟩ = some a2 ∧ W.cell? ⟨g, 3, none⟩ = some a3 ∧ W.cell? ⟨g, 4, none⟩ = some a4 ∧ W.cell? ⟨g, 5, none⟩ = some a5 ∧ W.cell? ⟨g, 6, none⟩ = some a6 ∧ W.cell? ⟨g, 7, none⟩ = some a7 ∧ W.cell? ⟨g, 8, none⟩ = some a8 ∧ W.cell? ⟨g, 9, none⟩ = some a9 ∧ W.cell? ⟨g, 10, none⟩ = some a10 := ⟨(blk_cell h 0).trans rfl, (blk_cell h 1).trans rfl, (blk_cell h 2).trans rfl, (blk_cell h 3).trans rfl, (blk_cell h 4).trans rfl, (blk_cell h 5).trans rfl, (blk_cell h 6).trans rfl, (blk_cell h 7).trans rfl, (blk_cell h 8).trans rfl, (blk_cell h 9).trans rfl, (blk_cell h 10).trans rfl⟩
/-- What the last line answers, of the entry that was read. -/
def tte_Read.e (k : Nat) (a0 a1 s c V P : Int) (v p x l g q : Bool) : Option (Int × Int × Int × Int × Bool × Bool × Bool × Bool × Bool × Bool × Bool × Int) :=
  (tte_May.f k s c V P v p x l g q true).bind fun m => if m = true then (tte_Tag.f s c V P v p x l g q true).bind fun tg => if tg = a0 then (tte_Data.f s c V P v p x l g q true).bind fun d => if d = a1 then some (s, c, V, P, v, p, x, l, g, q, true, 0) else some (0, 0, 0, 0, false, false, false, false, false, false, false, 2) else some (0, 0, 0, 0, false, false, false, false, false, false, false, 2) else some (0, 0, 0, 0, false, false, false, false, false, false, false, 2)
def tte_Read.f (k : Nat) (a0 a1 a2 : Int) : Option (Int × Int × Int × Int × Bool × Bool × Bool × Bool × Bool × Bool × Bool × Int) := (page_Hole.f a2).bind fun b1 => if b1 = true then some (0, 0, 0, 0, false, false, false, false, false, false, false, 3) else (tte_Valid.f a1).bind fun b2 => if b2 = true then (field_Get.f a1 61 2).bind fun t1 => (field_Get.f a0 48 13).bind fun t2 => (page_Base.f a2 (wrap64 t1)).bind fun t3 => (field_Get.f a1 13 28).bind fun t4 => (field_Bit.f a1 60).bind fun q => (field_Bit.f a1 6).bind fun l => (field_Bit.f a1 3).bind fun x => (field_Bit.f a1 2).bind fun p => (field_Bit.f a1 1).bind fun v => (field_Bit.f a1 0).bind fun g => tte_Read.e k a0 a1 (wrap64 t1) (wrap64 t2) t3 (IntKind.u64.wrap (t4 * 8192)) v p x l g q else some (0, 0, 0, 0, false, false, false, false, false, false, false, 11)
theorem tte_Read.mono : ∀ a0 a1 a2 k, LeO (tte_Read.f k a0 a1 a2) (tte_Read.f (k + 1) a0 a1 a2) := by
  intro a0 a1 a2 k
  unfold tte_Read.f tte_Read.e
  repeat' first
      | (with_reducible exact LeO.refl _)
      | (with_reducible exact tte_May.mono _ _ _ _ _ _ _ _ _ _ _ _)
      | (with_reducible refine LeO.ite ?_ ?_)
      | (with_reducible refine LeO.bind ?_ (fun _ => ?_))
set_option maxHeartbeats 8000000 in
set_option maxRecDepth 100000 in
theorem tte_Read.hole (a0 a1 a2 : Int) (w : World) (h0 : page_Hole.f a2 = some true) :
    Calls Try.prog 90 #[.int .u64 a0, .int .u64 a1, .int .u64 a2] w fun e w' => e = .returned (.tuple #[.agg #[.int .i64 0, .int .i64 0, .int .u64 0, .int .u64 0, .bool false, .bool false, .bool false, .bool false, .bool false, .bool false, .bool false], .int .i64 3]) ∧ Below w.heap.size w w' := by
  have A0 := Aside0.mk h0
  clear h0
  have HB := Aside0.mk (Below.refl w.heap.size w)
  have hu26 := Try.underlying50
  go_enter Try.func90, Try.ntmps90
  go_wp2_with (first | ((with_reducible refine gate_dst (N := 6) rfl ?_); refine box_event ?hg (N := 6) ?hd (cs := #[.int .i64 0, .int .i64 0, .int .u64 0, .int .u64 0, .bool false, .bool false, .bool false, .bool false, .bool false, .bool false, .bool false]) (t := 50) ?hr ?_; (case hd => rfl); (case hg => rfl); (case hr => first | (go_simp; done) | (go_simp; rfl)); intro g6 hgb w1 hbox0 hb; have GE6 := Aside0.mk (Nat.le_trans HB.out.size (Nat.le_of_eq hgb.symm)); have H6 := Aside0.mk hbox0; have m_HB := Aside0.mk (show Below w.heap.size w w1 from below_step HB.out hb); clear HB; have HB := m_HB; clear m_HB; clear hgb hbox0 hb) | ((with_reducible refine gate_callee (f := 114) rfl ?_); refine goesL_ (some 13) rfl rfl Try.func114 (by kernel_rfl) rfl #[.int .u64 a2] rfl (by (try simp only [List.map_toArray, List.map_cons, List.map_nil]); first | done | rfl | (simp only [List.length_drop, List.length_take]; rfl)) ?_; (with_reducible refine (page_Hole.calls a2 _ _ A0.out).mono ?_); rintro e wn ⟨rfl, hdr⟩; refine ⟨_, rfl, ?_⟩; have m_H6 := Aside0.mk (show wn.heap[g6]? = some _ from by obtain ⟨nd, rfl⟩ := hdr; exact blk_drewN H6.out _); have m_HB := Aside0.mk (show Below w.heap.size w wn from by obtain ⟨nd, rfl⟩ := hdr; exact pw_below_drewN HB.out _); clear H6 HB; have H6 := m_H6; have HB := m_HB; clear m_H6 m_HB; clear hdr) | ((with_reducible refine gate_store (t := 50) (p := 6) rfl ?_); refine wpList_store_row rfl 50 (.tmp 6) (.tmp 14) rfl g6 #[.int .i64 0, .int .i64 0, .int .u64 0, .int .u64 0, .bool false, .bool false, .bool false, .bool false, .bool false, .bool false, .bool false] rfl rfl 50 _ H6.out (by kernel_rfl) rfl (by kernel_rfl) ?_; have n1 := Aside0.mk (setRow_heap _ g6 _ #[.int .i64 0, .int .i64 0, .int .u64 0, .int .u64 0, .bool false, .bool false, .bool false, .bool false, .bool false, .bool false, .bool false] _ _ H6.out); have n2 := Aside0.mk (below_setRow HB.out GE6.out #[.int .i64 0, .int .i64 0, .int .u64 0, .int .u64 0, .bool false, .bool false, .bool false, .bool false, .bool false, .bool false, .bool false]); generalize World.setRow _ g6 #[.int .i64 0, .int .i64 0, .int .u64 0, .int .u64 0, .bool false, .bool false, .bool false, .bool false, .bool false, .bool false, .bool false] = w3 at n1 n2 ⊢; clear H6 HB; have H6 := n1; have HB := n2; clear n1 n2; obtain ⟨qH6_0, qH6_1, qH6_2, qH6_3, qH6_4, qH6_5, qH6_6, qH6_7, qH6_8, qH6_9, qH6_10⟩ := tte_Read.cz11 H6.out))
  (try simp only [Exit.inBlock, Exit.then]); refine bodyPost_ret (results_ct rfl _ _ g6 50 #[.int .i64 0, .int .i64 0, .int .u64 0, .int .u64 0, .bool false, .bool false, .bool false, .bool false, .bool false, .bool false, .bool false] (0, 0) _ rfl H6.out hu26 rfl (by kernel_rfl)) rfl ?_; exact ⟨rfl, HB.out⟩
set_option maxHeartbeats 8000000 in
set_option maxRecDepth 100000 in
theorem tte_Read.state (a0 a1 a2 : Int) (w : World) (h0 : page_Hole.f a2 = some false) (h1 : tte_Valid.f a1 = some false) :
    Calls Try.prog 90 #[.int .u64 a0, .int .u64 a1, .int .u64 a2] w fun e w' => e = .returned (.tuple #[.agg #[.int .i64 0, .int .i64 0, .int .u64 0, .int .u64 0, .bool false, .bool false, .bool false, .bool false, .bool false, .bool false, .bool false], .int .i64 11]) ∧ Below w.heap.size w w' := by
  have A0 := Aside0.mk h0
  clear h0
  have A1 := Aside0.mk h1
  clear h1
  have HB := Aside0.mk (Below.refl w.heap.size w)
  have hu26 := Try.underlying50
  go_enter Try.func90, Try.ntmps90
  go_wp2_with (first | ((with_reducible refine gate_dst (N := 6) rfl ?_); refine box_event ?hg (N := 6) ?hd (cs := #[.int .i64 0, .int .i64 0, .int .u64 0, .int .u64 0, .bool false, .bool false, .bool false, .bool false, .bool false, .bool false, .bool false]) (t := 50) ?hr ?_; (case hd => rfl); (case hg => rfl); (case hr => first | (go_simp; done) | (go_simp; rfl)); intro g6 hgb w1 hbox0 hb; have GE6 := Aside0.mk (Nat.le_trans HB.out.size (Nat.le_of_eq hgb.symm)); have H6 := Aside0.mk hbox0; have m_HB := Aside0.mk (show Below w.heap.size w w1 from below_step HB.out hb); clear HB; have HB := m_HB; clear m_HB; clear hgb hbox0 hb) | ((with_reducible refine gate_callee (f := 114) rfl ?_); refine goesL_ (some 13) rfl rfl Try.func114 (by kernel_rfl) rfl #[.int .u64 a2] rfl (by (try simp only [List.map_toArray, List.map_cons, List.map_nil]); first | done | rfl | (simp only [List.length_drop, List.length_take]; rfl)) ?_; (with_reducible refine (page_Hole.calls a2 _ _ A0.out).mono ?_); rintro e wn ⟨rfl, hdr⟩; refine ⟨_, rfl, ?_⟩; have m_H6 := Aside0.mk (show wn.heap[g6]? = some _ from by obtain ⟨nd, rfl⟩ := hdr; exact blk_drewN H6.out _); have m_HB := Aside0.mk (show Below w.heap.size w wn from by obtain ⟨nd, rfl⟩ := hdr; exact pw_below_drewN HB.out _); clear H6 HB; have H6 := m_H6; have HB := m_HB; clear m_H6 m_HB; clear hdr) | ((with_reducible refine gate_callee (f := 117) rfl ?_); refine goesL_ (some 17) rfl rfl Try.func117 (by kernel_rfl) rfl #[.int .u64 a1] rfl (by (try simp only [List.map_toArray, List.map_cons, List.map_nil]); first | done | rfl | (simp only [List.length_drop, List.length_take]; rfl)) ?_; (with_reducible refine (tte_Valid.calls a1 _ _ A1.out).mono ?_); rintro e wn ⟨rfl, hdr⟩; refine ⟨_, rfl, ?_⟩; have m_H6 := Aside0.mk (show wn.heap[g6]? = some _ from by obtain ⟨nd, rfl⟩ := hdr; exact blk_drewN H6.out _); have m_HB := Aside0.mk (show Below w.heap.size w wn from by obtain ⟨nd, rfl⟩ := hdr; exact pw_below_drewN HB.out _); clear H6 HB; have H6 := m_H6; have HB := m_HB; clear m_H6 m_HB; clear hdr) | ((with_reducible refine gate_store (t := 50) (p := 6) rfl ?_); refine wpList_store_row rfl 50 (.tmp 6) (.tmp 19) rfl g6 #[.int .i64 0, .int .i64 0, .int .u64 0, .int .u64 0, .bool false, .bool false, .bool false, .bool false, .bool false, .bool false, .bool false] rfl rfl 50 _ H6.out (by kernel_rfl) rfl (by kernel_rfl) ?_; have n1 := Aside0.mk (setRow_heap _ g6 _ #[.int .i64 0, .int .i64 0, .int .u64 0, .int .u64 0, .bool false, .bool false, .bool false, .bool false, .bool false, .bool false, .bool false] _ _ H6.out); have n2 := Aside0.mk (below_setRow HB.out GE6.out #[.int .i64 0, .int .i64 0, .int .u64 0, .int .u64 0, .bool false, .bool false, .bool false, .bool false, .bool false, .bool false, .bool false]); generalize World.setRow _ g6 #[.int .i64 0, .int .i64 0, .int .u64 0, .int .u64 0, .bool false, .bool false, .bool false, .bool false, .bool false, .bool false, .bool false] = w3 at n1 n2 ⊢; clear H6 HB; have H6 := n1; have HB := n2; clear n1 n2; obtain ⟨qH6_0, qH6_1, qH6_2, qH6_3, qH6_4, qH6_5, qH6_6, qH6_7, qH6_8, qH6_9, qH6_10⟩ := tte_Read.cz11 H6.out))
  (try simp only [Exit.inBlock, Exit.then]); refine bodyPost_ret (results_ct rfl _ _ g6 50 #[.int .i64 0, .int .i64 0, .int .u64 0, .int .u64 0, .bool false, .bool false, .bool false, .bool false, .bool false, .bool false, .bool false] (0, 0) _ rfl H6.out hu26 rfl (by kernel_rfl)) rfl ?_; exact ⟨rfl, HB.out⟩
noncomputable def tte_Read.T11 : Bool × List (List Nat × List Nat) := rtab .any (opsOf Try.f90 11)
def tte_Read.B11 : List Nat := [0, 1, 0, 0, 8, 28, 63, 127]
theorem tte_Read.tab11 : rtab .any (opsOf Try.f90 11) = tte_Read.T11 := rfl
theorem tte_Read.bits11 : waitsOk tte_Read.T11.2 tte_Read.B11 = true := by kernel_rfl
/-- What the entry is behind k rounds. -/
def tte_Read.At (t1 t2 t3 t4 : Int) (q l x p v g : Bool) (g8 k : Nat) (W : World) : Prop := (k = 0 ∧ W.heap[g8]? = some (.cells #[.int .i64 (wrap64 t1), .int .i64 (wrap64 t2), .int .u64 t3, .int .u64 (IntKind.u64.wrap (t4 * 8192)), .bool false, .bool false, .bool false, .bool false, .bool false, .bool false, .bool true] 50 (0, 0))) ∨ (k = 1 ∧ W.heap[g8]? = some (.cells #[.int .i64 (wrap64 t1), .int .i64 (wrap64 t2), .int .u64 t3, .int .u64 (IntKind.u64.wrap (t4 * 8192)), .bool false, .bool false, .bool false, .bool false, .bool false, .bool q, .bool true] 50 (0, 0))) ∨ (k = 2 ∧ W.heap[g8]? = some (.cells #[.int .i64 (wrap64 t1), .int .i64 (wrap64 t2), .int .u64 t3, .int .u64 (IntKind.u64.wrap (t4 * 8192)), .bool false, .bool false, .bool false, .bool l, .bool false, .bool q, .bool true] 50 (0, 0))) ∨ (k = 3 ∧ W.heap[g8]? = some (.cells #[.int .i64 (wrap64 t1), .int .i64 (wrap64 t2), .int .u64 t3, .int .u64 (IntKind.u64.wrap (t4 * 8192)), .bool false, .bool false, .bool x, .bool l, .bool false, .bool q, .bool true] 50 (0, 0))) ∨ (k = 4 ∧ W.heap[g8]? = some (.cells #[.int .i64 (wrap64 t1), .int .i64 (wrap64 t2), .int .u64 t3, .int .u64 (IntKind.u64.wrap (t4 * 8192)), .bool false, .bool p, .bool x, .bool l, .bool false, .bool q, .bool true] 50 (0, 0))) ∨ (k = 5 ∧ W.heap[g8]? = some (.cells #[.int .i64 (wrap64 t1), .int .i64 (wrap64 t2), .int .u64 t3, .int .u64 (IntKind.u64.wrap (t4 * 8192)), .bool v, .bool p, .bool x, .bool l, .bool false, .bool q, .bool true] 50 (0, 0))) ∨ (k = 6 ∧ W.heap[g8]? = some (.cells #[.int .i64 (wrap64 t1), .int .i64 (wrap64 t2), .int .u64 t3, .int .u64 (IntKind.u64.wrap (t4 * 8192)), .bool v, .bool p, .bool x, .bool l, .bool g, .bool q, .bool true] 50 (0, 0)))
set_option maxHeartbeats 8000000 in
set_option maxRecDepth 100000 in
theorem tte_Read.core (k : Nat) (a0 a1 a2 t1 t2 t3 t4 : Int) (q l x p v g : Bool) (r0 r1 r2 r3 : Int) (r4 r5 r6 r7 r8 r9 r10 : Bool) (r11 : Int) (w : World) (h0 : page_Hole.f a2 = some false) (h1 : tte_Valid.f a1 = some true) (h2 : field_Get.f a1 61 2 = some t1) (h3 : field_Get.f a0 48 13 = some t2) (h4 : page_Base.f a2 (wrap64 t1) = some t3) (h5 : field_Get.f a1 13 28 = some t4) (h6 : field_Bit.f a1 60 = some q) (h7 : field_Bit.f a1 6 = some l) (h8 : field_Bit.f a1 3 = some x) (h9 : field_Bit.f a1 2 = some p) (h10 : field_Bit.f a1 1 = some v) (h11 : field_Bit.f a1 0 = some g) (hE : tte_Read.e k a0 a1 (wrap64 t1) (wrap64 t2) t3 (IntKind.u64.wrap (t4 * 8192)) v p x l g q = some (r0, r1, r2, r3, r4, r5, r6, r7, r8, r9, r10, r11)) :
    Calls Try.prog 90 #[.int .u64 a0, .int .u64 a1, .int .u64 a2] w fun e w' => e = .returned (.tuple #[.agg #[.int .i64 r0, .int .i64 r1, .int .u64 r2, .int .u64 r3, .bool r4, .bool r5, .bool r6, .bool r7, .bool r8, .bool r9, .bool r10], .int .i64 r11]) ∧ Below w.heap.size w w' := by
  have A0 := Aside0.mk h0
  clear h0
  have A1 := Aside0.mk h1
  clear h1
  have A2 := Aside0.mk h2
  clear h2
  have A3 := Aside0.mk h3
  clear h3
  have A4 := Aside0.mk h4
  clear h4
  have A5 := Aside0.mk h5
  clear h5
  have A6 := Aside0.mk h6
  clear h6
  have A7 := Aside0.mk h7
  clear h7
  have A8 := Aside0.mk h8
  clear h8
  have A9 := Aside0.mk h9
  clear h9
  have A10 := Aside0.mk h10
  clear h10
  have A11 := Aside0.mk h11
  clear h11
  have AE := Aside0.mk hE
  clear hE
  have j0 : ∀ (b : Nat) (W : World), (Instr.index 141 (.agg (tte_flags.fl b)) (.int .i64 0)).run Try.prog W = .ok (.agg #[.int .i64 60, .pointer (some ⟨b, 9, none⟩)]) W := fun _ _ => by kernel_rfl
  have j1 : ∀ (b : Nat) (W : World), (Instr.index 141 (.agg (tte_flags.fl b)) (.int .i64 1)).run Try.prog W = .ok (.agg #[.int .i64 6, .pointer (some ⟨b, 7, none⟩)]) W := fun _ _ => by kernel_rfl
  have j2 : ∀ (b : Nat) (W : World), (Instr.index 141 (.agg (tte_flags.fl b)) (.int .i64 2)).run Try.prog W = .ok (.agg #[.int .i64 3, .pointer (some ⟨b, 6, none⟩)]) W := fun _ _ => by kernel_rfl
  have j3 : ∀ (b : Nat) (W : World), (Instr.index 141 (.agg (tte_flags.fl b)) (.int .i64 3)).run Try.prog W = .ok (.agg #[.int .i64 2, .pointer (some ⟨b, 5, none⟩)]) W := fun _ _ => by kernel_rfl
  have j4 : ∀ (b : Nat) (W : World), (Instr.index 141 (.agg (tte_flags.fl b)) (.int .i64 4)).run Try.prog W = .ok (.agg #[.int .i64 1, .pointer (some ⟨b, 4, none⟩)]) W := fun _ _ => by kernel_rfl
  have j5 : ∀ (b : Nat) (W : World), (Instr.index 141 (.agg (tte_flags.fl b)) (.int .i64 5)).run Try.prog W = .ok (.agg #[.int .i64 0, .pointer (some ⟨b, 8, none⟩)]) W := fun _ _ => by kernel_rfl
  have HB := Aside0.mk (Below.refl w.heap.size w)
  have hu26 := Try.underlying50
  have hu61 := Try.underlying140
  go_enter Try.func90, Try.ntmps90
  go_wp2_with (first | ((with_reducible refine gate_dst (N := 6) rfl ?_); refine box_event ?hg (N := 6) ?hd (cs := #[.int .i64 0, .int .i64 0, .int .u64 0, .int .u64 0, .bool false, .bool false, .bool false, .bool false, .bool false, .bool false, .bool false]) (t := 50) ?hr ?_; (case hd => rfl); (case hg => rfl); (case hr => first | (go_simp; done) | (go_simp; rfl)); intro g6 hgb w1 hbox0 hb; have GE6 := Aside0.mk (Nat.le_trans HB.out.size (Nat.le_of_eq hgb.symm)); have H6 := Aside0.mk hbox0; have m_HB := Aside0.mk (show Below w.heap.size w w1 from below_step HB.out hb); clear HB; have HB := m_HB; clear m_HB; clear hgb hbox0 hb) | ((with_reducible refine gate_callee (f := 114) rfl ?_); refine goesL_ (some 13) rfl rfl Try.func114 (by kernel_rfl) rfl #[.int .u64 a2] rfl (by (try simp only [List.map_toArray, List.map_cons, List.map_nil]); first | done | rfl | (simp only [List.length_drop, List.length_take]; rfl)) ?_; (with_reducible refine (page_Hole.calls a2 _ _ A0.out).mono ?_); rintro e wn ⟨rfl, hdr⟩; refine ⟨_, rfl, ?_⟩; have m_H6 := Aside0.mk (show wn.heap[g6]? = some _ from by obtain ⟨nd, rfl⟩ := hdr; exact blk_drewN H6.out _); have m_HB := Aside0.mk (show Below w.heap.size w wn from by obtain ⟨nd, rfl⟩ := hdr; exact pw_below_drewN HB.out _); clear H6 HB; have H6 := m_H6; have HB := m_HB; clear m_H6 m_HB; clear hdr) | ((with_reducible refine gate_callee (f := 117) rfl ?_); refine goesL_ (some 17) rfl rfl Try.func117 (by kernel_rfl) rfl #[.int .u64 a1] rfl (by (try simp only [List.map_toArray, List.map_cons, List.map_nil]); first | done | rfl | (simp only [List.length_drop, List.length_take]; rfl)) ?_; (with_reducible refine (tte_Valid.calls a1 _ _ A1.out).mono ?_); rintro e wn ⟨rfl, hdr⟩; refine ⟨_, rfl, ?_⟩; have m_H6 := Aside0.mk (show wn.heap[g6]? = some _ from by obtain ⟨nd, rfl⟩ := hdr; exact blk_drewN H6.out _); have m_HB := Aside0.mk (show Below w.heap.size w wn from by obtain ⟨nd, rfl⟩ := hdr; exact pw_below_drewN HB.out _); clear H6 HB; have H6 := m_H6; have HB := m_HB; clear m_H6 m_HB; clear hdr) | ((with_reducible refine gate_callee (f := 106) rfl ?_); refine goesL_ (some 21) rfl rfl Try.func106 (by kernel_rfl) rfl #[.int .u64 a1, .int .i64 61, .int .i64 2] rfl (by (try simp only [List.map_toArray, List.map_cons, List.map_nil]); first | done | rfl | (simp only [List.length_drop, List.length_take]; rfl)) ?_; (with_reducible refine (field_Get.calls a1 61 2 _ _ A2.out).mono ?_); rintro e wn ⟨rfl, hdr⟩; refine ⟨_, rfl, ?_⟩; have m_H6 := Aside0.mk (show wn.heap[g6]? = some _ from by obtain ⟨nd, rfl⟩ := hdr; exact blk_drewN H6.out _); have m_HB := Aside0.mk (show Below w.heap.size w wn from by obtain ⟨nd, rfl⟩ := hdr; exact pw_below_drewN HB.out _); clear H6 HB; have H6 := m_H6; have HB := m_HB; clear m_H6 m_HB; clear hdr) | ((with_reducible refine gate_callee (f := 106) rfl ?_); refine goesL_ (some 24) rfl rfl Try.func106 (by kernel_rfl) rfl #[.int .u64 a0, .int .i64 48, .int .i64 13] rfl (by (try simp only [List.map_toArray, List.map_cons, List.map_nil]); first | done | rfl | (simp only [List.length_drop, List.length_take]; rfl)) ?_; (with_reducible refine (field_Get.calls a0 48 13 _ _ A3.out).mono ?_); rintro e wn ⟨rfl, hdr⟩; refine ⟨_, rfl, ?_⟩; have m_H6 := Aside0.mk (show wn.heap[g6]? = some _ from by obtain ⟨nd, rfl⟩ := hdr; exact blk_drewN H6.out _); have m_HB := Aside0.mk (show Below w.heap.size w wn from by obtain ⟨nd, rfl⟩ := hdr; exact pw_below_drewN HB.out _); clear H6 HB; have H6 := m_H6; have HB := m_HB; clear m_H6 m_HB; clear hdr) | ((with_reducible refine gate_dst (N := 8) rfl ?_); refine box_event ?hg (N := 8) ?hd (cs := #[.int .i64 0, .int .i64 0, .int .u64 0, .int .u64 0, .bool false, .bool false, .bool false, .bool false, .bool false, .bool false, .bool false]) (t := 50) ?hr ?_; (case hd => rfl); (case hg => rfl); (case hr => first | (go_simp; done) | (go_simp; rfl)); intro g8 hgb w3 hbox0 hb; have GE8 := Aside0.mk (Nat.le_trans HB.out.size (Nat.le_of_eq hgb.symm)); have NE_g6_g8 := Aside0.mk (Nat.ne_of_lt (Nat.lt_of_lt_of_le (blk_lt H6.out) (Nat.le_of_eq hgb.symm))); have H8 := Aside0.mk hbox0; have m_H6 := Aside0.mk (show w3.heap[g6]? = some _ from blk_below H6.out hb); have m_HB := Aside0.mk (show Below w.heap.size w w3 from below_step HB.out hb); clear H6 HB; have H6 := m_H6; have HB := m_HB; clear m_H6 m_HB; clear hgb hbox0 hb) | ((with_reducible refine gate_store (t := 50) (p := 8) rfl ?_); refine wpList_store_row rfl 50 (.tmp 8) (.tmp 26) rfl g8 #[.int .i64 (wrap64 t1), .int .i64 (wrap64 t2), .int .u64 0, .int .u64 0, .bool false, .bool false, .bool false, .bool false, .bool false, .bool false, .bool true] rfl rfl 50 _ H8.out (by kernel_rfl) rfl (by kernel_rfl) ?_; have n1 := Aside0.mk (setRow_heap _ g8 _ #[.int .i64 (wrap64 t1), .int .i64 (wrap64 t2), .int .u64 0, .int .u64 0, .bool false, .bool false, .bool false, .bool false, .bool false, .bool false, .bool true] _ _ H8.out); have n2 := Aside0.mk (below_setRow HB.out GE8.out #[.int .i64 (wrap64 t1), .int .i64 (wrap64 t2), .int .u64 0, .int .u64 0, .bool false, .bool false, .bool false, .bool false, .bool false, .bool false, .bool true]); have k_H6 := Aside0.mk (tte_Data.row_other (cs := #[.int .i64 (wrap64 t1), .int .i64 (wrap64 t2), .int .u64 0, .int .u64 0, .bool false, .bool false, .bool false, .bool false, .bool false, .bool false, .bool true]) H6.out (.inr NE_g6_g8.out)); generalize World.setRow _ g8 #[.int .i64 (wrap64 t1), .int .i64 (wrap64 t2), .int .u64 0, .int .u64 0, .bool false, .bool false, .bool false, .bool false, .bool false, .bool false, .bool true] = w4 at n1 n2 k_H6 ⊢; clear H8 HB; have H8 := n1; have HB := n2; clear n1 n2; clear H6; have H6 := k_H6; clear k_H6; obtain ⟨qH8_0, qH8_1, qH8_2, qH8_3, qH8_4, qH8_5, qH8_6, qH8_7, qH8_8, qH8_9, qH8_10⟩ := tte_Read.cz11 H8.out) | ((with_reducible refine gate_callee (f := 118) rfl ?_); refine goesL_ (some 30) rfl rfl Try.func118 (by kernel_rfl) rfl #[.int .u64 a2, .int .i64 (wrap64 t1)] rfl (by (try simp only [List.map_toArray, List.map_cons, List.map_nil]); first | done | rfl | (simp only [List.length_drop, List.length_take]; rfl)) ?_; (with_reducible refine (page_Base.calls a2 (wrap64 t1) _ _ A4.out).mono ?_); rintro e wn ⟨rfl, hdr⟩; refine ⟨_, rfl, ?_⟩; have m_H6 := Aside0.mk (show wn.heap[g6]? = some _ from by obtain ⟨nd, rfl⟩ := hdr; exact blk_drewN H6.out _); have m_H8 := Aside0.mk (show wn.heap[g8]? = some _ from by obtain ⟨nd, rfl⟩ := hdr; exact blk_drewN H8.out _); have m_HB := Aside0.mk (show Below w.heap.size w wn from by obtain ⟨nd, rfl⟩ := hdr; exact pw_below_drewN HB.out _); clear H6 H8 HB; have H6 := m_H6; have H8 := m_H8; have HB := m_HB; clear m_H6 m_H8 m_HB; clear hdr; obtain ⟨qH8_0, qH8_1, qH8_2, qH8_3, qH8_4, qH8_5, qH8_6, qH8_7, qH8_8, qH8_9, qH8_10⟩ := tte_Read.cz11 H8.out; have fH8 := blk_frozen H8.out 2) | ((with_reducible refine gate_store (t := 38) (p := 31) rfl ?_); refine store_event rfl rfl rfl (w1 := wn.setCell ⟨g8, 2, none⟩ (.int .u64 t3)) ?hr ?_; (case hr => first | (go_simp; done) | (go_simp; rfl)); intro w6 hw; have m_H8 := Aside0.mk (show w6.heap[g8]? = some (.cells #[.int .i64 (wrap64 t1), .int .i64 (wrap64 t2), .int .u64 t3, .int .u64 0, .bool false, .bool false, .bool false, .bool false, .bool false, .bool false, .bool true] 50 (0, 0)) from by rw [hw]; exact blk_put H8.out 2 _ rfl); have m_H6 := Aside0.mk (show w6.heap[g6]? = some _ from by rw [hw]; exact blk_far H6.out NE_g6_g8.out _); have m_HB := Aside0.mk (show Below w.heap.size w w6 from by rw [hw]; exact below_set HB.out GE8.out); clear hw HB H8 H6; have H8 := m_H8; have HB := m_HB; have H6 := m_H6; clear m_H6; clear m_HB m_H8; obtain ⟨qH8_0, qH8_1, qH8_2, qH8_3, qH8_4, qH8_5, qH8_6, qH8_7, qH8_8, qH8_9, qH8_10⟩ := tte_Read.cz11 H8.out) | ((with_reducible refine gate_callee (f := 106) rfl ?_); refine goesL_ (some 33) rfl rfl Try.func106 (by kernel_rfl) rfl #[.int .u64 a1, .int .i64 13, .int .i64 28] rfl (by (try simp only [List.map_toArray, List.map_cons, List.map_nil]); first | done | rfl | (simp only [List.length_drop, List.length_take]; rfl)) ?_; (with_reducible refine (field_Get.calls a1 13 28 _ _ A5.out).mono ?_); rintro e wn ⟨rfl, hdr⟩; refine ⟨_, rfl, ?_⟩; have m_H6 := Aside0.mk (show wn.heap[g6]? = some _ from by obtain ⟨nd, rfl⟩ := hdr; exact blk_drewN H6.out _); have m_H8 := Aside0.mk (show wn.heap[g8]? = some _ from by obtain ⟨nd, rfl⟩ := hdr; exact blk_drewN H8.out _); have m_HB := Aside0.mk (show Below w.heap.size w wn from by obtain ⟨nd, rfl⟩ := hdr; exact pw_below_drewN HB.out _); clear H6 H8 HB; have H6 := m_H6; have H8 := m_H8; have HB := m_HB; clear m_H6 m_H8 m_HB; clear hdr; obtain ⟨qH8_0, qH8_1, qH8_2, qH8_3, qH8_4, qH8_5, qH8_6, qH8_7, qH8_8, qH8_9, qH8_10⟩ := tte_Read.cz11 H8.out; have fH8 := blk_frozen H8.out 3) | ((with_reducible refine gate_store (t := 38) (p := 35) rfl ?_); refine store_event rfl rfl rfl (w1 := wn.setCell ⟨g8, 3, none⟩ (.int .u64 (IntKind.u64.wrap (t4 * 8192)))) ?hr ?_; (case hr => first | (go_simp; done) | (go_simp; rfl)); intro w7 hw; have m_H8 := Aside0.mk (show w7.heap[g8]? = some (.cells #[.int .i64 (wrap64 t1), .int .i64 (wrap64 t2), .int .u64 t3, .int .u64 (IntKind.u64.wrap (t4 * 8192)), .bool false, .bool false, .bool false, .bool false, .bool false, .bool false, .bool true] 50 (0, 0)) from by rw [hw]; exact blk_put H8.out 3 _ rfl); have m_H6 := Aside0.mk (show w7.heap[g6]? = some _ from by rw [hw]; exact blk_far H6.out NE_g6_g8.out _); have m_HB := Aside0.mk (show Below w.heap.size w w7 from by rw [hw]; exact below_set HB.out GE8.out); clear hw HB H8 H6; have H8 := m_H8; have HB := m_HB; have H6 := m_H6; clear m_H6; clear m_HB m_H8; obtain ⟨qH8_0, qH8_1, qH8_2, qH8_3, qH8_4, qH8_5, qH8_6, qH8_7, qH8_8, qH8_9, qH8_10⟩ := tte_Read.cz11 H8.out) | (go_at_call 97; refine (tte_flags.calls4 g8 _).mono ?_; rintro e w8 ⟨rfl, hb⟩; have m_H6 := Aside0.mk (show w8.heap[g6]? = some _ from blk_below H6.out hb); have m_H8 := Aside0.mk (show w8.heap[g8]? = some _ from blk_below H8.out hb); have m_HB := Aside0.mk (show Below w.heap.size w w8 from below_step HB.out hb); clear H6 H8 HB; have H6 := m_H6; have H8 := m_H8; have HB := m_HB; clear m_H6 m_H8 m_HB; clear hb))
  go_loopw [38] (fun v38 wr => ∃ k_ : Nat, v38 = .int .i64 k_ ∧ Aside0 (tte_Read.At t1 t2 t3 t4 q l x p v g g8 k_ wr) ∧ Aside0 (wr.heap[g6]? = some (.cells #[.int .i64 0, .int .i64 0, .int .u64 0, .int .u64 0, .bool false, .bool false, .bool false, .bool false, .bool false, .bool false, .bool false] 50 (0, 0))) ∧ Aside0 (Below w.heap.size w wr)) (fun v38 _ => 6 - (intOf v38).toNat)
  case atStart => exact ⟨0, rfl, ⟨.inl ⟨rfl, H8.out⟩⟩, H6, HB⟩
  case round =>
    clear H6 H8 HB
    obtain ⟨k_, rfl, hAt, H6, HB⟩ := hrel
    have hAt := hAt.out
    rcases hAt with ⟨rfl, h8⟩ | ⟨rfl, h8⟩ | ⟨rfl, h8⟩ | ⟨rfl, h8⟩ | ⟨rfl, h8⟩ | ⟨rfl, h8⟩ | ⟨rfl, h8⟩
    · have H8 := Aside0.mk h8
      clear h8
      have i0 := j0 g8
      go_wp2_with (first | ((with_reducible refine gate_dst (N := 10) rfl ?_); refine box_event ?hg (N := 10) ?hd (cs := #[.int .i64 0, .pointer none]) (t := 140) ?hr ?_; (case hd => rfl); (case hg => rfl); (case hr => first | (go_simp; done) | (go_simp; rfl)); intro g10 hgb w9 hbox0 hb; have GE10 := Aside0.mk (Nat.le_trans HB.out.size (Nat.le_of_eq hgb.symm)); have NE_g6_g10 := Aside0.mk (Nat.ne_of_lt (Nat.lt_of_lt_of_le (blk_lt H6.out) (Nat.le_of_eq hgb.symm))); have NE_g8_g10 := Aside0.mk (Nat.ne_of_lt (Nat.lt_of_lt_of_le (blk_lt H8.out) (Nat.le_of_eq hgb.symm))); have H10 := Aside0.mk hbox0; have m_H6 := Aside0.mk (show w9.heap[g6]? = some _ from blk_below H6.out hb); have m_H8 := Aside0.mk (show w9.heap[g8]? = some _ from blk_below H8.out hb); have m_HB := Aside0.mk (show Below w.heap.size w w9 from below_step HB.out hb); clear H6 H8 HB; have H6 := m_H6; have H8 := m_H8; have HB := m_HB; clear m_H6 m_H8 m_HB; clear hgb hbox0 hb) | ((with_reducible refine gate_store (t := 140) (p := 10) rfl ?_); refine wpList_store_row rfl 140 (.tmp 10) (.tmp 40) rfl g10 #[.int .i64 60, .pointer (some ⟨g8, 9, none⟩)] rfl rfl 140 _ H10.out (by kernel_rfl) rfl (by kernel_rfl) ?_; have n1 := Aside0.mk (setRow_heap _ g10 _ #[.int .i64 60, .pointer (some ⟨g8, 9, none⟩)] _ _ H10.out); have n2 := Aside0.mk (below_setRow HB.out GE10.out #[.int .i64 60, .pointer (some ⟨g8, 9, none⟩)]); have k_H6 := Aside0.mk (tte_Data.row_other (cs := #[.int .i64 60, .pointer (some ⟨g8, 9, none⟩)]) H6.out (.inr NE_g6_g10.out)); have k_H8 := Aside0.mk (tte_Data.row_other (cs := #[.int .i64 60, .pointer (some ⟨g8, 9, none⟩)]) H8.out (.inr NE_g8_g10.out)); generalize World.setRow _ g10 #[.int .i64 60, .pointer (some ⟨g8, 9, none⟩)] = w10 at n1 n2 k_H6 k_H8 ⊢; clear H10 HB; have H10 := n1; have HB := n2; clear n1 n2; clear H6; have H6 := k_H6; clear k_H6; clear H8; have H8 := k_H8; clear k_H8; obtain ⟨qH10_0, qH10_1⟩ := tte_Read.cz2 H10.out))
      refine start_ (n := 8) (S := fun w' => w'.cell? ⟨g10, 0, none⟩ = some (.int .i64 60) ∧ w'.cell? ⟨g10, 1, none⟩ = some (.pointer (some ⟨g8, 9, none⟩))) (ds := [7]) #[false, false, false, false, false, false, false, false] (by kernel_rfl) rfl rfl (cz2_5 H10.out) (fun hHeld => ?_)
      refine with_tabW tte_Read.tab11 tte_Read.bits11 (fun HT_ HW_ => ?_)
      have m_H6 := Aside0.mk (show w10.drew.heap[g6]? = some _ from blk_drew H6.out)
      have m_H8 := Aside0.mk (show w10.drew.heap[g8]? = some _ from blk_drew H8.out)
      have m_HB := Aside0.mk (show Below w.heap.size w w10.drew from Below.drew HB.out)
      have m_H10 := Aside0.mk (show w10.drew.heap[g10]? = some _ from blk_drew H10.out)
      clear H6 H8 HB H10
      have H6 := m_H6
      have H8 := m_H8
      have HB := m_HB
      have H10 := m_H10
      clear m_H6 m_H8 m_HB m_H10
      generalize w10.drew = w11 at H6 H8 H10 HB hHeld ⊢
      refine pure_ (i := 0) (N := some 41) (v := ?_) (a' := ?_) #[true, false, false, false, false, false, false, false] rfl rfl (any_of HT_.out (by kernel_rfl)) (fun _ _ _ h => h) (Or.inl ⟨by rfl, ?_⟩) ?_ ?_
      rotate_left
      · intro w'
        go_simp
        with_reducible rfl
      rotate_left
      · simp only [Act.put, List.setIfInBounds_toArray, List.set_cons_zero, List.set_cons_succ, i64_w, i32_w]
        rfl
      refine take_ (i := 1) (N := some 42) (v := ?_) (a' := ?_) #[true, true, false, false, false, false, false, false] rfl rfl (take_ofW HT_.out HW_.out (by kernel_rfl)) (fun _ _ _ h => h) (Or.inl ⟨by rfl, ?_⟩) hHeld ?_ ?_
      rotate_left
      · rintro w' ⟨s0, s1⟩
        go_simp
        with_reducible rfl
      rotate_left
      · simp only [Act.put, List.setIfInBounds_toArray, List.set_cons_zero, List.set_cons_succ, i64_w, i32_w]
        rfl
      refine pure_ (i := 2) (N := some 43) (v := ?_) (a' := ?_) #[true, true, true, false, false, false, false, false] rfl rfl (any_of HT_.out (by kernel_rfl)) (fun _ _ _ h => h) (Or.inl ⟨by rfl, ?_⟩) ?_ ?_
      rotate_left
      · intro w'
        go_simp
        with_reducible rfl
      rotate_left
      · simp only [Act.put, List.setIfInBounds_toArray, List.set_cons_zero, List.set_cons_succ, i64_w, i32_w]
        rfl
      refine pure_ (i := 3) (N := some 44) (v := ?_) (a' := ?_) #[true, true, true, true, false, false, false, false] rfl rfl (any_of HT_.out (by kernel_rfl)) (fun _ _ _ h => h) (Or.inl ⟨by rfl, ?_⟩) ?_ ?_
      rotate_left
      · intro w'
        go_simp
        with_reducible rfl
      rotate_left
      · simp only [Act.put, List.setIfInBounds_toArray, List.set_cons_zero, List.set_cons_succ, i64_w, i32_w]
        rfl
      refine take_ (i := 4) (N := some 45) (v := ?_) (a' := ?_) #[true, true, true, true, true, false, false, false] rfl rfl (take_ofW HT_.out HW_.out (by kernel_rfl)) (fun _ _ _ h => h) (Or.inl ⟨by rfl, ?_⟩) hHeld ?_ ?_
      rotate_left
      · rintro w' ⟨s0, s1⟩
        go_simp
        with_reducible rfl
      rotate_left
      · simp only [Act.put, List.setIfInBounds_toArray, List.set_cons_zero, List.set_cons_succ, i64_w, i32_w]
        rfl
      refine one_ (i := 5) (N := some 46) #[true, true, true, true, true, true, false, false] rfl rfl (one_of HT_.out (by kernel_rfl)) (by decide) (fun K hK => ?_)
      refine goes_ Try.func107 (by kernel_rfl) rfl #[.int .u64 a1, .int .i64 60] (by rfl) rfl rfl (by (try simp only [List.map_toArray, List.map_cons, List.map_nil]); first | done | rfl) ?_
      with_reducible refine (field_Bit.calls a1 60 q _ A6.out).mono ?_
      rintro e wn ⟨rfl, hdr⟩
      refine ⟨_, rfl, ?_⟩
      have m_H6 := Aside0.mk (show wn.heap[g6]? = some _ from by obtain ⟨nd, rfl⟩ := hdr; exact blk_drewN H6.out _)
      have m_H8 := Aside0.mk (show wn.heap[g8]? = some _ from by obtain ⟨nd, rfl⟩ := hdr; exact blk_drewN H8.out _)
      have m_HB := Aside0.mk (show Below w.heap.size w wn from by obtain ⟨nd, rfl⟩ := hdr; exact pw_below_drewN HB.out _)
      have m_H10 := Aside0.mk (show wn.heap[g10]? = some _ from by obtain ⟨nd, rfl⟩ := hdr; exact blk_drewN H10.out _)
      clear H6 H8 HB H10
      have H6 := m_H6
      have H8 := m_H8
      have HB := m_HB
      have H10 := m_H10
      clear m_H6 m_H8 m_HB m_H10
      clear hdr
      refine hK.out _ _ (cz2_5 H10.out) (fun hHeld => ?_)
      clear hK K
      refine norm_ (a' := ?_) ?_ ?_
      rotate_left
      · show Act.put _ (some 46) _ = _
        simp only [Act.put, List.setIfInBounds_toArray, List.set_cons_zero, List.set_cons_succ, i64_w, i32_w]
        rfl
      refine pure_ (i := 6) (N := some 47) (v := ?_) (a' := ?_) #[true, true, true, true, true, true, true, false] rfl rfl (any_of HT_.out (by kernel_rfl)) (fun _ _ _ h => h) (Or.inl ⟨by rfl, ?_⟩) ?_ ?_
      rotate_left
      · intro w'
        go_simp
        with_reducible rfl
      rotate_left
      · simp only [Act.put, List.setIfInBounds_toArray, List.set_cons_zero, List.set_cons_succ, i64_w, i32_w]
        rfl
      have qs : wn.cell? ⟨g8, 9, none⟩ = some (.bool false) := blk_cell H8.out 9
      have fs := blk_frozen H8.out 9
      refine last_ (i := 7) (N := none) #[true, true, true, true, true, true, true, true] rfl rfl (one_of HT_.out (by kernel_rfl)) (by decide) (fun K hK => ?_)
      refine skip_ (w1 := ?_) (by rfl) rfl ?_ ?_
      rotate_left
      · go_simp
        rfl
      refine hK.out _ _ ?_
      clear hK K
      refine done_ (done_of HT_.out (by kernel_rfl)) ?_
      go_wp2
      go_roundw
      case rel => exact ⟨1, by go_num, ⟨.inr (.inl ⟨rfl, blk_put H8.out 9 _ rfl⟩)⟩, ⟨blk_far H6.out NE_g6_g8.out _⟩, ⟨below_set HB.out GE8.out⟩⟩
      case measure => simp [intOf]
    · have H8 := Aside0.mk h8
      clear h8
      have i1 := j1 g8
      go_wp2_with (first | ((with_reducible refine gate_dst (N := 10) rfl ?_); refine box_event ?hg (N := 10) ?hd (cs := #[.int .i64 0, .pointer none]) (t := 140) ?hr ?_; (case hd => rfl); (case hg => rfl); (case hr => first | (go_simp; done) | (go_simp; rfl)); intro g10 hgb w9 hbox0 hb; have GE10 := Aside0.mk (Nat.le_trans HB.out.size (Nat.le_of_eq hgb.symm)); have NE_g6_g10 := Aside0.mk (Nat.ne_of_lt (Nat.lt_of_lt_of_le (blk_lt H6.out) (Nat.le_of_eq hgb.symm))); have NE_g8_g10 := Aside0.mk (Nat.ne_of_lt (Nat.lt_of_lt_of_le (blk_lt H8.out) (Nat.le_of_eq hgb.symm))); have H10 := Aside0.mk hbox0; have m_H6 := Aside0.mk (show w9.heap[g6]? = some _ from blk_below H6.out hb); have m_H8 := Aside0.mk (show w9.heap[g8]? = some _ from blk_below H8.out hb); have m_HB := Aside0.mk (show Below w.heap.size w w9 from below_step HB.out hb); clear H6 H8 HB; have H6 := m_H6; have H8 := m_H8; have HB := m_HB; clear m_H6 m_H8 m_HB; clear hgb hbox0 hb) | ((with_reducible refine gate_store (t := 140) (p := 10) rfl ?_); refine wpList_store_row rfl 140 (.tmp 10) (.tmp 40) rfl g10 #[.int .i64 6, .pointer (some ⟨g8, 7, none⟩)] rfl rfl 140 _ H10.out (by kernel_rfl) rfl (by kernel_rfl) ?_; have n1 := Aside0.mk (setRow_heap _ g10 _ #[.int .i64 6, .pointer (some ⟨g8, 7, none⟩)] _ _ H10.out); have n2 := Aside0.mk (below_setRow HB.out GE10.out #[.int .i64 6, .pointer (some ⟨g8, 7, none⟩)]); have k_H6 := Aside0.mk (tte_Data.row_other (cs := #[.int .i64 6, .pointer (some ⟨g8, 7, none⟩)]) H6.out (.inr NE_g6_g10.out)); have k_H8 := Aside0.mk (tte_Data.row_other (cs := #[.int .i64 6, .pointer (some ⟨g8, 7, none⟩)]) H8.out (.inr NE_g8_g10.out)); generalize World.setRow _ g10 #[.int .i64 6, .pointer (some ⟨g8, 7, none⟩)] = w10 at n1 n2 k_H6 k_H8 ⊢; clear H10 HB; have H10 := n1; have HB := n2; clear n1 n2; clear H6; have H6 := k_H6; clear k_H6; clear H8; have H8 := k_H8; clear k_H8; obtain ⟨qH10_0, qH10_1⟩ := tte_Read.cz2 H10.out))
      refine start_ (n := 8) (S := fun w' => w'.cell? ⟨g10, 0, none⟩ = some (.int .i64 6) ∧ w'.cell? ⟨g10, 1, none⟩ = some (.pointer (some ⟨g8, 7, none⟩))) (ds := [7]) #[false, false, false, false, false, false, false, false] (by kernel_rfl) rfl rfl (cz2_5 H10.out) (fun hHeld => ?_)
      refine with_tabW tte_Read.tab11 tte_Read.bits11 (fun HT_ HW_ => ?_)
      have m_H6 := Aside0.mk (show w10.drew.heap[g6]? = some _ from blk_drew H6.out)
      have m_H8 := Aside0.mk (show w10.drew.heap[g8]? = some _ from blk_drew H8.out)
      have m_HB := Aside0.mk (show Below w.heap.size w w10.drew from Below.drew HB.out)
      have m_H10 := Aside0.mk (show w10.drew.heap[g10]? = some _ from blk_drew H10.out)
      clear H6 H8 HB H10
      have H6 := m_H6
      have H8 := m_H8
      have HB := m_HB
      have H10 := m_H10
      clear m_H6 m_H8 m_HB m_H10
      generalize w10.drew = w11 at H6 H8 H10 HB hHeld ⊢
      refine pure_ (i := 0) (N := some 41) (v := ?_) (a' := ?_) #[true, false, false, false, false, false, false, false] rfl rfl (any_of HT_.out (by kernel_rfl)) (fun _ _ _ h => h) (Or.inl ⟨by rfl, ?_⟩) ?_ ?_
      rotate_left
      · intro w'
        go_simp
        with_reducible rfl
      rotate_left
      · simp only [Act.put, List.setIfInBounds_toArray, List.set_cons_zero, List.set_cons_succ, i64_w, i32_w]
        rfl
      refine take_ (i := 1) (N := some 42) (v := ?_) (a' := ?_) #[true, true, false, false, false, false, false, false] rfl rfl (take_ofW HT_.out HW_.out (by kernel_rfl)) (fun _ _ _ h => h) (Or.inl ⟨by rfl, ?_⟩) hHeld ?_ ?_
      rotate_left
      · rintro w' ⟨s0, s1⟩
        go_simp
        with_reducible rfl
      rotate_left
      · simp only [Act.put, List.setIfInBounds_toArray, List.set_cons_zero, List.set_cons_succ, i64_w, i32_w]
        rfl
      refine pure_ (i := 2) (N := some 43) (v := ?_) (a' := ?_) #[true, true, true, false, false, false, false, false] rfl rfl (any_of HT_.out (by kernel_rfl)) (fun _ _ _ h => h) (Or.inl ⟨by rfl, ?_⟩) ?_ ?_
      rotate_left
      · intro w'
        go_simp
        with_reducible rfl
      rotate_left
      · simp only [Act.put, List.setIfInBounds_toArray, List.set_cons_zero, List.set_cons_succ, i64_w, i32_w]
        rfl
      refine pure_ (i := 3) (N := some 44) (v := ?_) (a' := ?_) #[true, true, true, true, false, false, false, false] rfl rfl (any_of HT_.out (by kernel_rfl)) (fun _ _ _ h => h) (Or.inl ⟨by rfl, ?_⟩) ?_ ?_
      rotate_left
      · intro w'
        go_simp
        with_reducible rfl
      rotate_left
      · simp only [Act.put, List.setIfInBounds_toArray, List.set_cons_zero, List.set_cons_succ, i64_w, i32_w]
        rfl
      refine take_ (i := 4) (N := some 45) (v := ?_) (a' := ?_) #[true, true, true, true, true, false, false, false] rfl rfl (take_ofW HT_.out HW_.out (by kernel_rfl)) (fun _ _ _ h => h) (Or.inl ⟨by rfl, ?_⟩) hHeld ?_ ?_
      rotate_left
      · rintro w' ⟨s0, s1⟩
        go_simp
        with_reducible rfl
      rotate_left
      · simp only [Act.put, List.setIfInBounds_toArray, List.set_cons_zero, List.set_cons_succ, i64_w, i32_w]
        rfl
      refine one_ (i := 5) (N := some 46) #[true, true, true, true, true, true, false, false] rfl rfl (one_of HT_.out (by kernel_rfl)) (by decide) (fun K hK => ?_)
      refine goes_ Try.func107 (by kernel_rfl) rfl #[.int .u64 a1, .int .i64 6] (by rfl) rfl rfl (by (try simp only [List.map_toArray, List.map_cons, List.map_nil]); first | done | rfl) ?_
      with_reducible refine (field_Bit.calls a1 6 l _ A7.out).mono ?_
      rintro e wn ⟨rfl, hdr⟩
      refine ⟨_, rfl, ?_⟩
      have m_H6 := Aside0.mk (show wn.heap[g6]? = some _ from by obtain ⟨nd, rfl⟩ := hdr; exact blk_drewN H6.out _)
      have m_H8 := Aside0.mk (show wn.heap[g8]? = some _ from by obtain ⟨nd, rfl⟩ := hdr; exact blk_drewN H8.out _)
      have m_HB := Aside0.mk (show Below w.heap.size w wn from by obtain ⟨nd, rfl⟩ := hdr; exact pw_below_drewN HB.out _)
      have m_H10 := Aside0.mk (show wn.heap[g10]? = some _ from by obtain ⟨nd, rfl⟩ := hdr; exact blk_drewN H10.out _)
      clear H6 H8 HB H10
      have H6 := m_H6
      have H8 := m_H8
      have HB := m_HB
      have H10 := m_H10
      clear m_H6 m_H8 m_HB m_H10
      clear hdr
      refine hK.out _ _ (cz2_5 H10.out) (fun hHeld => ?_)
      clear hK K
      refine norm_ (a' := ?_) ?_ ?_
      rotate_left
      · show Act.put _ (some 46) _ = _
        simp only [Act.put, List.setIfInBounds_toArray, List.set_cons_zero, List.set_cons_succ, i64_w, i32_w]
        rfl
      refine pure_ (i := 6) (N := some 47) (v := ?_) (a' := ?_) #[true, true, true, true, true, true, true, false] rfl rfl (any_of HT_.out (by kernel_rfl)) (fun _ _ _ h => h) (Or.inl ⟨by rfl, ?_⟩) ?_ ?_
      rotate_left
      · intro w'
        go_simp
        with_reducible rfl
      rotate_left
      · simp only [Act.put, List.setIfInBounds_toArray, List.set_cons_zero, List.set_cons_succ, i64_w, i32_w]
        rfl
      have qs : wn.cell? ⟨g8, 7, none⟩ = some (.bool false) := blk_cell H8.out 7
      have fs := blk_frozen H8.out 7
      refine last_ (i := 7) (N := none) #[true, true, true, true, true, true, true, true] rfl rfl (one_of HT_.out (by kernel_rfl)) (by decide) (fun K hK => ?_)
      refine skip_ (w1 := ?_) (by rfl) rfl ?_ ?_
      rotate_left
      · go_simp
        rfl
      refine hK.out _ _ ?_
      clear hK K
      refine done_ (done_of HT_.out (by kernel_rfl)) ?_
      go_wp2
      go_roundw
      case rel => exact ⟨2, by go_num, ⟨.inr (.inr (.inl ⟨rfl, blk_put H8.out 7 _ rfl⟩))⟩, ⟨blk_far H6.out NE_g6_g8.out _⟩, ⟨below_set HB.out GE8.out⟩⟩
      case measure => simp [intOf]
    · have H8 := Aside0.mk h8
      clear h8
      have i2 := j2 g8
      go_wp2_with (first | ((with_reducible refine gate_dst (N := 10) rfl ?_); refine box_event ?hg (N := 10) ?hd (cs := #[.int .i64 0, .pointer none]) (t := 140) ?hr ?_; (case hd => rfl); (case hg => rfl); (case hr => first | (go_simp; done) | (go_simp; rfl)); intro g10 hgb w9 hbox0 hb; have GE10 := Aside0.mk (Nat.le_trans HB.out.size (Nat.le_of_eq hgb.symm)); have NE_g6_g10 := Aside0.mk (Nat.ne_of_lt (Nat.lt_of_lt_of_le (blk_lt H6.out) (Nat.le_of_eq hgb.symm))); have NE_g8_g10 := Aside0.mk (Nat.ne_of_lt (Nat.lt_of_lt_of_le (blk_lt H8.out) (Nat.le_of_eq hgb.symm))); have H10 := Aside0.mk hbox0; have m_H6 := Aside0.mk (show w9.heap[g6]? = some _ from blk_below H6.out hb); have m_H8 := Aside0.mk (show w9.heap[g8]? = some _ from blk_below H8.out hb); have m_HB := Aside0.mk (show Below w.heap.size w w9 from below_step HB.out hb); clear H6 H8 HB; have H6 := m_H6; have H8 := m_H8; have HB := m_HB; clear m_H6 m_H8 m_HB; clear hgb hbox0 hb) | ((with_reducible refine gate_store (t := 140) (p := 10) rfl ?_); refine wpList_store_row rfl 140 (.tmp 10) (.tmp 40) rfl g10 #[.int .i64 3, .pointer (some ⟨g8, 6, none⟩)] rfl rfl 140 _ H10.out (by kernel_rfl) rfl (by kernel_rfl) ?_; have n1 := Aside0.mk (setRow_heap _ g10 _ #[.int .i64 3, .pointer (some ⟨g8, 6, none⟩)] _ _ H10.out); have n2 := Aside0.mk (below_setRow HB.out GE10.out #[.int .i64 3, .pointer (some ⟨g8, 6, none⟩)]); have k_H6 := Aside0.mk (tte_Data.row_other (cs := #[.int .i64 3, .pointer (some ⟨g8, 6, none⟩)]) H6.out (.inr NE_g6_g10.out)); have k_H8 := Aside0.mk (tte_Data.row_other (cs := #[.int .i64 3, .pointer (some ⟨g8, 6, none⟩)]) H8.out (.inr NE_g8_g10.out)); generalize World.setRow _ g10 #[.int .i64 3, .pointer (some ⟨g8, 6, none⟩)] = w10 at n1 n2 k_H6 k_H8 ⊢; clear H10 HB; have H10 := n1; have HB := n2; clear n1 n2; clear H6; have H6 := k_H6; clear k_H6; clear H8; have H8 := k_H8; clear k_H8; obtain ⟨qH10_0, qH10_1⟩ := tte_Read.cz2 H10.out))
      refine start_ (n := 8) (S := fun w' => w'.cell? ⟨g10, 0, none⟩ = some (.int .i64 3) ∧ w'.cell? ⟨g10, 1, none⟩ = some (.pointer (some ⟨g8, 6, none⟩))) (ds := [7]) #[false, false, false, false, false, false, false, false] (by kernel_rfl) rfl rfl (cz2_5 H10.out) (fun hHeld => ?_)
      refine with_tabW tte_Read.tab11 tte_Read.bits11 (fun HT_ HW_ => ?_)
      have m_H6 := Aside0.mk (show w10.drew.heap[g6]? = some _ from blk_drew H6.out)
      have m_H8 := Aside0.mk (show w10.drew.heap[g8]? = some _ from blk_drew H8.out)
      have m_HB := Aside0.mk (show Below w.heap.size w w10.drew from Below.drew HB.out)
      have m_H10 := Aside0.mk (show w10.drew.heap[g10]? = some _ from blk_drew H10.out)
      clear H6 H8 HB H10
      have H6 := m_H6
      have H8 := m_H8
      have HB := m_HB
      have H10 := m_H10
      clear m_H6 m_H8 m_HB m_H10
      generalize w10.drew = w11 at H6 H8 H10 HB hHeld ⊢
      refine pure_ (i := 0) (N := some 41) (v := ?_) (a' := ?_) #[true, false, false, false, false, false, false, false] rfl rfl (any_of HT_.out (by kernel_rfl)) (fun _ _ _ h => h) (Or.inl ⟨by rfl, ?_⟩) ?_ ?_
      rotate_left
      · intro w'
        go_simp
        with_reducible rfl
      rotate_left
      · simp only [Act.put, List.setIfInBounds_toArray, List.set_cons_zero, List.set_cons_succ, i64_w, i32_w]
        rfl
      refine take_ (i := 1) (N := some 42) (v := ?_) (a' := ?_) #[true, true, false, false, false, false, false, false] rfl rfl (take_ofW HT_.out HW_.out (by kernel_rfl)) (fun _ _ _ h => h) (Or.inl ⟨by rfl, ?_⟩) hHeld ?_ ?_
      rotate_left
      · rintro w' ⟨s0, s1⟩
        go_simp
        with_reducible rfl
      rotate_left
      · simp only [Act.put, List.setIfInBounds_toArray, List.set_cons_zero, List.set_cons_succ, i64_w, i32_w]
        rfl
      refine pure_ (i := 2) (N := some 43) (v := ?_) (a' := ?_) #[true, true, true, false, false, false, false, false] rfl rfl (any_of HT_.out (by kernel_rfl)) (fun _ _ _ h => h) (Or.inl ⟨by rfl, ?_⟩) ?_ ?_
      rotate_left
      · intro w'
        go_simp
        with_reducible rfl
      rotate_left
      · simp only [Act.put, List.setIfInBounds_toArray, List.set_cons_zero, List.set_cons_succ, i64_w, i32_w]
        rfl
      refine pure_ (i := 3) (N := some 44) (v := ?_) (a' := ?_) #[true, true, true, true, false, false, false, false] rfl rfl (any_of HT_.out (by kernel_rfl)) (fun _ _ _ h => h) (Or.inl ⟨by rfl, ?_⟩) ?_ ?_
      rotate_left
      · intro w'
        go_simp
        with_reducible rfl
      rotate_left
      · simp only [Act.put, List.setIfInBounds_toArray, List.set_cons_zero, List.set_cons_succ, i64_w, i32_w]
        rfl
      refine take_ (i := 4) (N := some 45) (v := ?_) (a' := ?_) #[true, true, true, true, true, false, false, false] rfl rfl (take_ofW HT_.out HW_.out (by kernel_rfl)) (fun _ _ _ h => h) (Or.inl ⟨by rfl, ?_⟩) hHeld ?_ ?_
      rotate_left
      · rintro w' ⟨s0, s1⟩
        go_simp
        with_reducible rfl
      rotate_left
      · simp only [Act.put, List.setIfInBounds_toArray, List.set_cons_zero, List.set_cons_succ, i64_w, i32_w]
        rfl
      refine one_ (i := 5) (N := some 46) #[true, true, true, true, true, true, false, false] rfl rfl (one_of HT_.out (by kernel_rfl)) (by decide) (fun K hK => ?_)
      refine goes_ Try.func107 (by kernel_rfl) rfl #[.int .u64 a1, .int .i64 3] (by rfl) rfl rfl (by (try simp only [List.map_toArray, List.map_cons, List.map_nil]); first | done | rfl) ?_
      with_reducible refine (field_Bit.calls a1 3 x _ A8.out).mono ?_
      rintro e wn ⟨rfl, hdr⟩
      refine ⟨_, rfl, ?_⟩
      have m_H6 := Aside0.mk (show wn.heap[g6]? = some _ from by obtain ⟨nd, rfl⟩ := hdr; exact blk_drewN H6.out _)
      have m_H8 := Aside0.mk (show wn.heap[g8]? = some _ from by obtain ⟨nd, rfl⟩ := hdr; exact blk_drewN H8.out _)
      have m_HB := Aside0.mk (show Below w.heap.size w wn from by obtain ⟨nd, rfl⟩ := hdr; exact pw_below_drewN HB.out _)
      have m_H10 := Aside0.mk (show wn.heap[g10]? = some _ from by obtain ⟨nd, rfl⟩ := hdr; exact blk_drewN H10.out _)
      clear H6 H8 HB H10
      have H6 := m_H6
      have H8 := m_H8
      have HB := m_HB
      have H10 := m_H10
      clear m_H6 m_H8 m_HB m_H10
      clear hdr
      refine hK.out _ _ (cz2_5 H10.out) (fun hHeld => ?_)
      clear hK K
      refine norm_ (a' := ?_) ?_ ?_
      rotate_left
      · show Act.put _ (some 46) _ = _
        simp only [Act.put, List.setIfInBounds_toArray, List.set_cons_zero, List.set_cons_succ, i64_w, i32_w]
        rfl
      refine pure_ (i := 6) (N := some 47) (v := ?_) (a' := ?_) #[true, true, true, true, true, true, true, false] rfl rfl (any_of HT_.out (by kernel_rfl)) (fun _ _ _ h => h) (Or.inl ⟨by rfl, ?_⟩) ?_ ?_
      rotate_left
      · intro w'
        go_simp
        with_reducible rfl
      rotate_left
      · simp only [Act.put, List.setIfInBounds_toArray, List.set_cons_zero, List.set_cons_succ, i64_w, i32_w]
        rfl
      have qs : wn.cell? ⟨g8, 6, none⟩ = some (.bool false) := blk_cell H8.out 6
      have fs := blk_frozen H8.out 6
      refine last_ (i := 7) (N := none) #[true, true, true, true, true, true, true, true] rfl rfl (one_of HT_.out (by kernel_rfl)) (by decide) (fun K hK => ?_)
      refine skip_ (w1 := ?_) (by rfl) rfl ?_ ?_
      rotate_left
      · go_simp
        rfl
      refine hK.out _ _ ?_
      clear hK K
      refine done_ (done_of HT_.out (by kernel_rfl)) ?_
      go_wp2
      go_roundw
      case rel => exact ⟨3, by go_num, ⟨.inr (.inr (.inr (.inl ⟨rfl, blk_put H8.out 6 _ rfl⟩)))⟩, ⟨blk_far H6.out NE_g6_g8.out _⟩, ⟨below_set HB.out GE8.out⟩⟩
      case measure => simp [intOf]
    · have H8 := Aside0.mk h8
      clear h8
      have i3 := j3 g8
      go_wp2_with (first | ((with_reducible refine gate_dst (N := 10) rfl ?_); refine box_event ?hg (N := 10) ?hd (cs := #[.int .i64 0, .pointer none]) (t := 140) ?hr ?_; (case hd => rfl); (case hg => rfl); (case hr => first | (go_simp; done) | (go_simp; rfl)); intro g10 hgb w9 hbox0 hb; have GE10 := Aside0.mk (Nat.le_trans HB.out.size (Nat.le_of_eq hgb.symm)); have NE_g6_g10 := Aside0.mk (Nat.ne_of_lt (Nat.lt_of_lt_of_le (blk_lt H6.out) (Nat.le_of_eq hgb.symm))); have NE_g8_g10 := Aside0.mk (Nat.ne_of_lt (Nat.lt_of_lt_of_le (blk_lt H8.out) (Nat.le_of_eq hgb.symm))); have H10 := Aside0.mk hbox0; have m_H6 := Aside0.mk (show w9.heap[g6]? = some _ from blk_below H6.out hb); have m_H8 := Aside0.mk (show w9.heap[g8]? = some _ from blk_below H8.out hb); have m_HB := Aside0.mk (show Below w.heap.size w w9 from below_step HB.out hb); clear H6 H8 HB; have H6 := m_H6; have H8 := m_H8; have HB := m_HB; clear m_H6 m_H8 m_HB; clear hgb hbox0 hb) | ((with_reducible refine gate_store (t := 140) (p := 10) rfl ?_); refine wpList_store_row rfl 140 (.tmp 10) (.tmp 40) rfl g10 #[.int .i64 2, .pointer (some ⟨g8, 5, none⟩)] rfl rfl 140 _ H10.out (by kernel_rfl) rfl (by kernel_rfl) ?_; have n1 := Aside0.mk (setRow_heap _ g10 _ #[.int .i64 2, .pointer (some ⟨g8, 5, none⟩)] _ _ H10.out); have n2 := Aside0.mk (below_setRow HB.out GE10.out #[.int .i64 2, .pointer (some ⟨g8, 5, none⟩)]); have k_H6 := Aside0.mk (tte_Data.row_other (cs := #[.int .i64 2, .pointer (some ⟨g8, 5, none⟩)]) H6.out (.inr NE_g6_g10.out)); have k_H8 := Aside0.mk (tte_Data.row_other (cs := #[.int .i64 2, .pointer (some ⟨g8, 5, none⟩)]) H8.out (.inr NE_g8_g10.out)); generalize World.setRow _ g10 #[.int .i64 2, .pointer (some ⟨g8, 5, none⟩)] = w10 at n1 n2 k_H6 k_H8 ⊢; clear H10 HB; have H10 := n1; have HB := n2; clear n1 n2; clear H6; have H6 := k_H6; clear k_H6; clear H8; have H8 := k_H8; clear k_H8; obtain ⟨qH10_0, qH10_1⟩ := tte_Read.cz2 H10.out))
      refine start_ (n := 8) (S := fun w' => w'.cell? ⟨g10, 0, none⟩ = some (.int .i64 2) ∧ w'.cell? ⟨g10, 1, none⟩ = some (.pointer (some ⟨g8, 5, none⟩))) (ds := [7]) #[false, false, false, false, false, false, false, false] (by kernel_rfl) rfl rfl (cz2_5 H10.out) (fun hHeld => ?_)
      refine with_tabW tte_Read.tab11 tte_Read.bits11 (fun HT_ HW_ => ?_)
      have m_H6 := Aside0.mk (show w10.drew.heap[g6]? = some _ from blk_drew H6.out)
      have m_H8 := Aside0.mk (show w10.drew.heap[g8]? = some _ from blk_drew H8.out)
      have m_HB := Aside0.mk (show Below w.heap.size w w10.drew from Below.drew HB.out)
      have m_H10 := Aside0.mk (show w10.drew.heap[g10]? = some _ from blk_drew H10.out)
      clear H6 H8 HB H10
      have H6 := m_H6
      have H8 := m_H8
      have HB := m_HB
      have H10 := m_H10
      clear m_H6 m_H8 m_HB m_H10
      generalize w10.drew = w11 at H6 H8 H10 HB hHeld ⊢
      refine pure_ (i := 0) (N := some 41) (v := ?_) (a' := ?_) #[true, false, false, false, false, false, false, false] rfl rfl (any_of HT_.out (by kernel_rfl)) (fun _ _ _ h => h) (Or.inl ⟨by rfl, ?_⟩) ?_ ?_
      rotate_left
      · intro w'
        go_simp
        with_reducible rfl
      rotate_left
      · simp only [Act.put, List.setIfInBounds_toArray, List.set_cons_zero, List.set_cons_succ, i64_w, i32_w]
        rfl
      refine take_ (i := 1) (N := some 42) (v := ?_) (a' := ?_) #[true, true, false, false, false, false, false, false] rfl rfl (take_ofW HT_.out HW_.out (by kernel_rfl)) (fun _ _ _ h => h) (Or.inl ⟨by rfl, ?_⟩) hHeld ?_ ?_
      rotate_left
      · rintro w' ⟨s0, s1⟩
        go_simp
        with_reducible rfl
      rotate_left
      · simp only [Act.put, List.setIfInBounds_toArray, List.set_cons_zero, List.set_cons_succ, i64_w, i32_w]
        rfl
      refine pure_ (i := 2) (N := some 43) (v := ?_) (a' := ?_) #[true, true, true, false, false, false, false, false] rfl rfl (any_of HT_.out (by kernel_rfl)) (fun _ _ _ h => h) (Or.inl ⟨by rfl, ?_⟩) ?_ ?_
      rotate_left
      · intro w'
        go_simp
        with_reducible rfl
      rotate_left
      · simp only [Act.put, List.setIfInBounds_toArray, List.set_cons_zero, List.set_cons_succ, i64_w, i32_w]
        rfl
      refine pure_ (i := 3) (N := some 44) (v := ?_) (a' := ?_) #[true, true, true, true, false, false, false, false] rfl rfl (any_of HT_.out (by kernel_rfl)) (fun _ _ _ h => h) (Or.inl ⟨by rfl, ?_⟩) ?_ ?_
      rotate_left
      · intro w'
        go_simp
        with_reducible rfl
      rotate_left
      · simp only [Act.put, List.setIfInBounds_toArray, List.set_cons_zero, List.set_cons_succ, i64_w, i32_w]
        rfl
      refine take_ (i := 4) (N := some 45) (v := ?_) (a' := ?_) #[true, true, true, true, true, false, false, false] rfl rfl (take_ofW HT_.out HW_.out (by kernel_rfl)) (fun _ _ _ h => h) (Or.inl ⟨by rfl, ?_⟩) hHeld ?_ ?_
      rotate_left
      · rintro w' ⟨s0, s1⟩
        go_simp
        with_reducible rfl
      rotate_left
      · simp only [Act.put, List.setIfInBounds_toArray, List.set_cons_zero, List.set_cons_succ, i64_w, i32_w]
        rfl
      refine one_ (i := 5) (N := some 46) #[true, true, true, true, true, true, false, false] rfl rfl (one_of HT_.out (by kernel_rfl)) (by decide) (fun K hK => ?_)
      refine goes_ Try.func107 (by kernel_rfl) rfl #[.int .u64 a1, .int .i64 2] (by rfl) rfl rfl (by (try simp only [List.map_toArray, List.map_cons, List.map_nil]); first | done | rfl) ?_
      with_reducible refine (field_Bit.calls a1 2 p _ A9.out).mono ?_
      rintro e wn ⟨rfl, hdr⟩
      refine ⟨_, rfl, ?_⟩
      have m_H6 := Aside0.mk (show wn.heap[g6]? = some _ from by obtain ⟨nd, rfl⟩ := hdr; exact blk_drewN H6.out _)
      have m_H8 := Aside0.mk (show wn.heap[g8]? = some _ from by obtain ⟨nd, rfl⟩ := hdr; exact blk_drewN H8.out _)
      have m_HB := Aside0.mk (show Below w.heap.size w wn from by obtain ⟨nd, rfl⟩ := hdr; exact pw_below_drewN HB.out _)
      have m_H10 := Aside0.mk (show wn.heap[g10]? = some _ from by obtain ⟨nd, rfl⟩ := hdr; exact blk_drewN H10.out _)
      clear H6 H8 HB H10
      have H6 := m_H6
      have H8 := m_H8
      have HB := m_HB
      have H10 := m_H10
      clear m_H6 m_H8 m_HB m_H10
      clear hdr
      refine hK.out _ _ (cz2_5 H10.out) (fun hHeld => ?_)
      clear hK K
      refine norm_ (a' := ?_) ?_ ?_
      rotate_left
      · show Act.put _ (some 46) _ = _
        simp only [Act.put, List.setIfInBounds_toArray, List.set_cons_zero, List.set_cons_succ, i64_w, i32_w]
        rfl
      refine pure_ (i := 6) (N := some 47) (v := ?_) (a' := ?_) #[true, true, true, true, true, true, true, false] rfl rfl (any_of HT_.out (by kernel_rfl)) (fun _ _ _ h => h) (Or.inl ⟨by rfl, ?_⟩) ?_ ?_
      rotate_left
      · intro w'
        go_simp
        with_reducible rfl
      rotate_left
      · simp only [Act.put, List.setIfInBounds_toArray, List.set_cons_zero, List.set_cons_succ, i64_w, i32_w]
        rfl
      have qs : wn.cell? ⟨g8, 5, none⟩ = some (.bool false) := blk_cell H8.out 5
      have fs := blk_frozen H8.out 5
      refine last_ (i := 7) (N := none) #[true, true, true, true, true, true, true, true] rfl rfl (one_of HT_.out (by kernel_rfl)) (by decide) (fun K hK => ?_)
      refine skip_ (w1 := ?_) (by rfl) rfl ?_ ?_
      rotate_left
      · go_simp
        rfl
      refine hK.out _ _ ?_
      clear hK K
      refine done_ (done_of HT_.out (by kernel_rfl)) ?_
      go_wp2
      go_roundw
      case rel => exact ⟨4, by go_num, ⟨.inr (.inr (.inr (.inr (.inl ⟨rfl, blk_put H8.out 5 _ rfl⟩))))⟩, ⟨blk_far H6.out NE_g6_g8.out _⟩, ⟨below_set HB.out GE8.out⟩⟩
      case measure => simp [intOf]
    · have H8 := Aside0.mk h8
      clear h8
      have i4 := j4 g8
      go_wp2_with (first | ((with_reducible refine gate_dst (N := 10) rfl ?_); refine box_event ?hg (N := 10) ?hd (cs := #[.int .i64 0, .pointer none]) (t := 140) ?hr ?_; (case hd => rfl); (case hg => rfl); (case hr => first | (go_simp; done) | (go_simp; rfl)); intro g10 hgb w9 hbox0 hb; have GE10 := Aside0.mk (Nat.le_trans HB.out.size (Nat.le_of_eq hgb.symm)); have NE_g6_g10 := Aside0.mk (Nat.ne_of_lt (Nat.lt_of_lt_of_le (blk_lt H6.out) (Nat.le_of_eq hgb.symm))); have NE_g8_g10 := Aside0.mk (Nat.ne_of_lt (Nat.lt_of_lt_of_le (blk_lt H8.out) (Nat.le_of_eq hgb.symm))); have H10 := Aside0.mk hbox0; have m_H6 := Aside0.mk (show w9.heap[g6]? = some _ from blk_below H6.out hb); have m_H8 := Aside0.mk (show w9.heap[g8]? = some _ from blk_below H8.out hb); have m_HB := Aside0.mk (show Below w.heap.size w w9 from below_step HB.out hb); clear H6 H8 HB; have H6 := m_H6; have H8 := m_H8; have HB := m_HB; clear m_H6 m_H8 m_HB; clear hgb hbox0 hb) | ((with_reducible refine gate_store (t := 140) (p := 10) rfl ?_); refine wpList_store_row rfl 140 (.tmp 10) (.tmp 40) rfl g10 #[.int .i64 1, .pointer (some ⟨g8, 4, none⟩)] rfl rfl 140 _ H10.out (by kernel_rfl) rfl (by kernel_rfl) ?_; have n1 := Aside0.mk (setRow_heap _ g10 _ #[.int .i64 1, .pointer (some ⟨g8, 4, none⟩)] _ _ H10.out); have n2 := Aside0.mk (below_setRow HB.out GE10.out #[.int .i64 1, .pointer (some ⟨g8, 4, none⟩)]); have k_H6 := Aside0.mk (tte_Data.row_other (cs := #[.int .i64 1, .pointer (some ⟨g8, 4, none⟩)]) H6.out (.inr NE_g6_g10.out)); have k_H8 := Aside0.mk (tte_Data.row_other (cs := #[.int .i64 1, .pointer (some ⟨g8, 4, none⟩)]) H8.out (.inr NE_g8_g10.out)); generalize World.setRow _ g10 #[.int .i64 1, .pointer (some ⟨g8, 4, none⟩)] = w10 at n1 n2 k_H6 k_H8 ⊢; clear H10 HB; have H10 := n1; have HB := n2; clear n1 n2; clear H6; have H6 := k_H6; clear k_H6; clear H8; have H8 := k_H8; clear k_H8; obtain ⟨qH10_0, qH10_1⟩ := tte_Read.cz2 H10.out))
      refine start_ (n := 8) (S := fun w' => w'.cell? ⟨g10, 0, none⟩ = some (.int .i64 1) ∧ w'.cell? ⟨g10, 1, none⟩ = some (.pointer (some ⟨g8, 4, none⟩))) (ds := [7]) #[false, false, false, false, false, false, false, false] (by kernel_rfl) rfl rfl (cz2_5 H10.out) (fun hHeld => ?_)
      refine with_tabW tte_Read.tab11 tte_Read.bits11 (fun HT_ HW_ => ?_)
      have m_H6 := Aside0.mk (show w10.drew.heap[g6]? = some _ from blk_drew H6.out)
      have m_H8 := Aside0.mk (show w10.drew.heap[g8]? = some _ from blk_drew H8.out)
      have m_HB := Aside0.mk (show Below w.heap.size w w10.drew from Below.drew HB.out)
      have m_H10 := Aside0.mk (show w10.drew.heap[g10]? = some _ from blk_drew H10.out)
      clear H6 H8 HB H10
      have H6 := m_H6
      have H8 := m_H8
      have HB := m_HB
      have H10 := m_H10
      clear m_H6 m_H8 m_HB m_H10
      generalize w10.drew = w11 at H6 H8 H10 HB hHeld ⊢
      refine pure_ (i := 0) (N := some 41) (v := ?_) (a' := ?_) #[true, false, false, false, false, false, false, false] rfl rfl (any_of HT_.out (by kernel_rfl)) (fun _ _ _ h => h) (Or.inl ⟨by rfl, ?_⟩) ?_ ?_
      rotate_left
      · intro w'
        go_simp
        with_reducible rfl
      rotate_left
      · simp only [Act.put, List.setIfInBounds_toArray, List.set_cons_zero, List.set_cons_succ, i64_w, i32_w]
        rfl
      refine take_ (i := 1) (N := some 42) (v := ?_) (a' := ?_) #[true, true, false, false, false, false, false, false] rfl rfl (take_ofW HT_.out HW_.out (by kernel_rfl)) (fun _ _ _ h => h) (Or.inl ⟨by rfl, ?_⟩) hHeld ?_ ?_
      rotate_left
      · rintro w' ⟨s0, s1⟩
        go_simp
        with_reducible rfl
      rotate_left
      · simp only [Act.put, List.setIfInBounds_toArray, List.set_cons_zero, List.set_cons_succ, i64_w, i32_w]
        rfl
      refine pure_ (i := 2) (N := some 43) (v := ?_) (a' := ?_) #[true, true, true, false, false, false, false, false] rfl rfl (any_of HT_.out (by kernel_rfl)) (fun _ _ _ h => h) (Or.inl ⟨by rfl, ?_⟩) ?_ ?_
      rotate_left
      · intro w'
        go_simp
        with_reducible rfl
      rotate_left
      · simp only [Act.put, List.setIfInBounds_toArray, List.set_cons_zero, List.set_cons_succ, i64_w, i32_w]
        rfl
      refine pure_ (i := 3) (N := some 44) (v := ?_) (a' := ?_) #[true, true, true, true, false, false, false, false] rfl rfl (any_of HT_.out (by kernel_rfl)) (fun _ _ _ h => h) (Or.inl ⟨by rfl, ?_⟩) ?_ ?_
      rotate_left
      · intro w'
        go_simp
        with_reducible rfl
      rotate_left
      · simp only [Act.put, List.setIfInBounds_toArray, List.set_cons_zero, List.set_cons_succ, i64_w, i32_w]
        rfl
      refine take_ (i := 4) (N := some 45) (v := ?_) (a' := ?_) #[true, true, true, true, true, false, false, false] rfl rfl (take_ofW HT_.out HW_.out (by kernel_rfl)) (fun _ _ _ h => h) (Or.inl ⟨by rfl, ?_⟩) hHeld ?_ ?_
      rotate_left
      · rintro w' ⟨s0, s1⟩
        go_simp
        with_reducible rfl
      rotate_left
      · simp only [Act.put, List.setIfInBounds_toArray, List.set_cons_zero, List.set_cons_succ, i64_w, i32_w]
        rfl
      refine one_ (i := 5) (N := some 46) #[true, true, true, true, true, true, false, false] rfl rfl (one_of HT_.out (by kernel_rfl)) (by decide) (fun K hK => ?_)
      refine goes_ Try.func107 (by kernel_rfl) rfl #[.int .u64 a1, .int .i64 1] (by rfl) rfl rfl (by (try simp only [List.map_toArray, List.map_cons, List.map_nil]); first | done | rfl) ?_
      with_reducible refine (field_Bit.calls a1 1 v _ A10.out).mono ?_
      rintro e wn ⟨rfl, hdr⟩
      refine ⟨_, rfl, ?_⟩
      have m_H6 := Aside0.mk (show wn.heap[g6]? = some _ from by obtain ⟨nd, rfl⟩ := hdr; exact blk_drewN H6.out _)
      have m_H8 := Aside0.mk (show wn.heap[g8]? = some _ from by obtain ⟨nd, rfl⟩ := hdr; exact blk_drewN H8.out _)
      have m_HB := Aside0.mk (show Below w.heap.size w wn from by obtain ⟨nd, rfl⟩ := hdr; exact pw_below_drewN HB.out _)
      have m_H10 := Aside0.mk (show wn.heap[g10]? = some _ from by obtain ⟨nd, rfl⟩ := hdr; exact blk_drewN H10.out _)
      clear H6 H8 HB H10
      have H6 := m_H6
      have H8 := m_H8
      have HB := m_HB
      have H10 := m_H10
      clear m_H6 m_H8 m_HB m_H10
      clear hdr
      refine hK.out _ _ (cz2_5 H10.out) (fun hHeld => ?_)
      clear hK K
      refine norm_ (a' := ?_) ?_ ?_
      rotate_left
      · show Act.put _ (some 46) _ = _
        simp only [Act.put, List.setIfInBounds_toArray, List.set_cons_zero, List.set_cons_succ, i64_w, i32_w]
        rfl
      refine pure_ (i := 6) (N := some 47) (v := ?_) (a' := ?_) #[true, true, true, true, true, true, true, false] rfl rfl (any_of HT_.out (by kernel_rfl)) (fun _ _ _ h => h) (Or.inl ⟨by rfl, ?_⟩) ?_ ?_
      rotate_left
      · intro w'
        go_simp
        with_reducible rfl
      rotate_left
      · simp only [Act.put, List.setIfInBounds_toArray, List.set_cons_zero, List.set_cons_succ, i64_w, i32_w]
        rfl
      have qs : wn.cell? ⟨g8, 4, none⟩ = some (.bool false) := blk_cell H8.out 4
      have fs := blk_frozen H8.out 4
      refine last_ (i := 7) (N := none) #[true, true, true, true, true, true, true, true] rfl rfl (one_of HT_.out (by kernel_rfl)) (by decide) (fun K hK => ?_)
      refine skip_ (w1 := ?_) (by rfl) rfl ?_ ?_
      rotate_left
      · go_simp
        rfl
      refine hK.out _ _ ?_
      clear hK K
      refine done_ (done_of HT_.out (by kernel_rfl)) ?_
      go_wp2
      go_roundw
      case rel => exact ⟨5, by go_num, ⟨.inr (.inr (.inr (.inr (.inr (.inl ⟨rfl, blk_put H8.out 4 _ rfl⟩)))))⟩, ⟨blk_far H6.out NE_g6_g8.out _⟩, ⟨below_set HB.out GE8.out⟩⟩
      case measure => simp [intOf]
    · have H8 := Aside0.mk h8
      clear h8
      have i5 := j5 g8
      go_wp2_with (first | ((with_reducible refine gate_dst (N := 10) rfl ?_); refine box_event ?hg (N := 10) ?hd (cs := #[.int .i64 0, .pointer none]) (t := 140) ?hr ?_; (case hd => rfl); (case hg => rfl); (case hr => first | (go_simp; done) | (go_simp; rfl)); intro g10 hgb w9 hbox0 hb; have GE10 := Aside0.mk (Nat.le_trans HB.out.size (Nat.le_of_eq hgb.symm)); have NE_g6_g10 := Aside0.mk (Nat.ne_of_lt (Nat.lt_of_lt_of_le (blk_lt H6.out) (Nat.le_of_eq hgb.symm))); have NE_g8_g10 := Aside0.mk (Nat.ne_of_lt (Nat.lt_of_lt_of_le (blk_lt H8.out) (Nat.le_of_eq hgb.symm))); have H10 := Aside0.mk hbox0; have m_H6 := Aside0.mk (show w9.heap[g6]? = some _ from blk_below H6.out hb); have m_H8 := Aside0.mk (show w9.heap[g8]? = some _ from blk_below H8.out hb); have m_HB := Aside0.mk (show Below w.heap.size w w9 from below_step HB.out hb); clear H6 H8 HB; have H6 := m_H6; have H8 := m_H8; have HB := m_HB; clear m_H6 m_H8 m_HB; clear hgb hbox0 hb) | ((with_reducible refine gate_store (t := 140) (p := 10) rfl ?_); refine wpList_store_row rfl 140 (.tmp 10) (.tmp 40) rfl g10 #[.int .i64 0, .pointer (some ⟨g8, 8, none⟩)] rfl rfl 140 _ H10.out (by kernel_rfl) rfl (by kernel_rfl) ?_; have n1 := Aside0.mk (setRow_heap _ g10 _ #[.int .i64 0, .pointer (some ⟨g8, 8, none⟩)] _ _ H10.out); have n2 := Aside0.mk (below_setRow HB.out GE10.out #[.int .i64 0, .pointer (some ⟨g8, 8, none⟩)]); have k_H6 := Aside0.mk (tte_Data.row_other (cs := #[.int .i64 0, .pointer (some ⟨g8, 8, none⟩)]) H6.out (.inr NE_g6_g10.out)); have k_H8 := Aside0.mk (tte_Data.row_other (cs := #[.int .i64 0, .pointer (some ⟨g8, 8, none⟩)]) H8.out (.inr NE_g8_g10.out)); generalize World.setRow _ g10 #[.int .i64 0, .pointer (some ⟨g8, 8, none⟩)] = w10 at n1 n2 k_H6 k_H8 ⊢; clear H10 HB; have H10 := n1; have HB := n2; clear n1 n2; clear H6; have H6 := k_H6; clear k_H6; clear H8; have H8 := k_H8; clear k_H8; obtain ⟨qH10_0, qH10_1⟩ := tte_Read.cz2 H10.out))
      refine start_ (n := 8) (S := fun w' => w'.cell? ⟨g10, 0, none⟩ = some (.int .i64 0) ∧ w'.cell? ⟨g10, 1, none⟩ = some (.pointer (some ⟨g8, 8, none⟩))) (ds := [7]) #[false, false, false, false, false, false, false, false] (by kernel_rfl) rfl rfl (cz2_5 H10.out) (fun hHeld => ?_)
      refine with_tabW tte_Read.tab11 tte_Read.bits11 (fun HT_ HW_ => ?_)
      have m_H6 := Aside0.mk (show w10.drew.heap[g6]? = some _ from blk_drew H6.out)
      have m_H8 := Aside0.mk (show w10.drew.heap[g8]? = some _ from blk_drew H8.out)
      have m_HB := Aside0.mk (show Below w.heap.size w w10.drew from Below.drew HB.out)
      have m_H10 := Aside0.mk (show w10.drew.heap[g10]? = some _ from blk_drew H10.out)
      clear H6 H8 HB H10
      have H6 := m_H6
      have H8 := m_H8
      have HB := m_HB
      have H10 := m_H10
      clear m_H6 m_H8 m_HB m_H10
      generalize w10.drew = w11 at H6 H8 H10 HB hHeld ⊢
      refine pure_ (i := 0) (N := some 41) (v := ?_) (a' := ?_) #[true, false, false, false, false, false, false, false] rfl rfl (any_of HT_.out (by kernel_rfl)) (fun _ _ _ h => h) (Or.inl ⟨by rfl, ?_⟩) ?_ ?_
      rotate_left
      · intro w'
        go_simp
        with_reducible rfl
      rotate_left
      · simp only [Act.put, List.setIfInBounds_toArray, List.set_cons_zero, List.set_cons_succ, i64_w, i32_w]
        rfl
      refine take_ (i := 1) (N := some 42) (v := ?_) (a' := ?_) #[true, true, false, false, false, false, false, false] rfl rfl (take_ofW HT_.out HW_.out (by kernel_rfl)) (fun _ _ _ h => h) (Or.inl ⟨by rfl, ?_⟩) hHeld ?_ ?_
      rotate_left
      · rintro w' ⟨s0, s1⟩
        go_simp
        with_reducible rfl
      rotate_left
      · simp only [Act.put, List.setIfInBounds_toArray, List.set_cons_zero, List.set_cons_succ, i64_w, i32_w]
        rfl
      refine pure_ (i := 2) (N := some 43) (v := ?_) (a' := ?_) #[true, true, true, false, false, false, false, false] rfl rfl (any_of HT_.out (by kernel_rfl)) (fun _ _ _ h => h) (Or.inl ⟨by rfl, ?_⟩) ?_ ?_
      rotate_left
      · intro w'
        go_simp
        with_reducible rfl
      rotate_left
      · simp only [Act.put, List.setIfInBounds_toArray, List.set_cons_zero, List.set_cons_succ, i64_w, i32_w]
        rfl
      refine pure_ (i := 3) (N := some 44) (v := ?_) (a' := ?_) #[true, true, true, true, false, false, false, false] rfl rfl (any_of HT_.out (by kernel_rfl)) (fun _ _ _ h => h) (Or.inl ⟨by rfl, ?_⟩) ?_ ?_
      rotate_left
      · intro w'
        go_simp
        with_reducible rfl
      rotate_left
      · simp only [Act.put, List.setIfInBounds_toArray, List.set_cons_zero, List.set_cons_succ, i64_w, i32_w]
        rfl
      refine take_ (i := 4) (N := some 45) (v := ?_) (a' := ?_) #[true, true, true, true, true, false, false, false] rfl rfl (take_ofW HT_.out HW_.out (by kernel_rfl)) (fun _ _ _ h => h) (Or.inl ⟨by rfl, ?_⟩) hHeld ?_ ?_
      rotate_left
      · rintro w' ⟨s0, s1⟩
        go_simp
        with_reducible rfl
      rotate_left
      · simp only [Act.put, List.setIfInBounds_toArray, List.set_cons_zero, List.set_cons_succ, i64_w, i32_w]
        rfl
      refine one_ (i := 5) (N := some 46) #[true, true, true, true, true, true, false, false] rfl rfl (one_of HT_.out (by kernel_rfl)) (by decide) (fun K hK => ?_)
      refine goes_ Try.func107 (by kernel_rfl) rfl #[.int .u64 a1, .int .i64 0] (by rfl) rfl rfl (by (try simp only [List.map_toArray, List.map_cons, List.map_nil]); first | done | rfl) ?_
      with_reducible refine (field_Bit.calls a1 0 g _ A11.out).mono ?_
      rintro e wn ⟨rfl, hdr⟩
      refine ⟨_, rfl, ?_⟩
      have m_H6 := Aside0.mk (show wn.heap[g6]? = some _ from by obtain ⟨nd, rfl⟩ := hdr; exact blk_drewN H6.out _)
      have m_H8 := Aside0.mk (show wn.heap[g8]? = some _ from by obtain ⟨nd, rfl⟩ := hdr; exact blk_drewN H8.out _)
      have m_HB := Aside0.mk (show Below w.heap.size w wn from by obtain ⟨nd, rfl⟩ := hdr; exact pw_below_drewN HB.out _)
      have m_H10 := Aside0.mk (show wn.heap[g10]? = some _ from by obtain ⟨nd, rfl⟩ := hdr; exact blk_drewN H10.out _)
      clear H6 H8 HB H10
      have H6 := m_H6
      have H8 := m_H8
      have HB := m_HB
      have H10 := m_H10
      clear m_H6 m_H8 m_HB m_H10
      clear hdr
      refine hK.out _ _ (cz2_5 H10.out) (fun hHeld => ?_)
      clear hK K
      refine norm_ (a' := ?_) ?_ ?_
      rotate_left
      · show Act.put _ (some 46) _ = _
        simp only [Act.put, List.setIfInBounds_toArray, List.set_cons_zero, List.set_cons_succ, i64_w, i32_w]
        rfl
      refine pure_ (i := 6) (N := some 47) (v := ?_) (a' := ?_) #[true, true, true, true, true, true, true, false] rfl rfl (any_of HT_.out (by kernel_rfl)) (fun _ _ _ h => h) (Or.inl ⟨by rfl, ?_⟩) ?_ ?_
      rotate_left
      · intro w'
        go_simp
        with_reducible rfl
      rotate_left
      · simp only [Act.put, List.setIfInBounds_toArray, List.set_cons_zero, List.set_cons_succ, i64_w, i32_w]
        rfl
      have qs : wn.cell? ⟨g8, 8, none⟩ = some (.bool false) := blk_cell H8.out 8
      have fs := blk_frozen H8.out 8
      refine last_ (i := 7) (N := none) #[true, true, true, true, true, true, true, true] rfl rfl (one_of HT_.out (by kernel_rfl)) (by decide) (fun K hK => ?_)
      refine skip_ (w1 := ?_) (by rfl) rfl ?_ ?_
      rotate_left
      · go_simp
        rfl
      refine hK.out _ _ ?_
      clear hK K
      refine done_ (done_of HT_.out (by kernel_rfl)) ?_
      go_wp2
      go_roundw
      case rel => exact ⟨6, by go_num, ⟨.inr (.inr (.inr (.inr (.inr (.inr (⟨rfl, blk_put H8.out 8 _ rfl⟩))))))⟩, ⟨blk_far H6.out NE_g6_g8.out _⟩, ⟨below_set HB.out GE8.out⟩⟩
      case measure => simp [intOf]
    · have H8 := Aside0.mk h8
      clear h8
      have hE := AE.out
      unfold tte_Read.e at hE
      clear AE
      obtain ⟨m, hm, hE⟩ := Option.bind_eq_some_iff.mp hE
      have AM := Aside0.mk hm
      clear hm
      obtain ⟨qH8_0, qH8_1, qH8_2, qH8_3, qH8_4, qH8_5, qH8_6, qH8_7, qH8_8, qH8_9, qH8_10⟩ := tte_Read.cz11 H8.out
      cases m with
      | false =>
        rw [if_neg (by decide)] at hE
        have hE := Option.some.inj hE; simp only [Prod.mk.injEq] at hE; obtain ⟨rfl, rfl, rfl, rfl, rfl, rfl, rfl, rfl, rfl, rfl, rfl, rfl⟩ := hE
        go_wp2_with (first | ((with_reducible refine gate_callee (f := 88) rfl ?_); refine goesL_ (some 50) rfl rfl Try.func88 (by kernel_rfl) rfl #[.agg #[.int .i64 (wrap64 t1), .int .i64 (wrap64 t2), .int .u64 t3, .int .u64 (IntKind.u64.wrap (t4 * 8192)), .bool v, .bool p, .bool x, .bool l, .bool g, .bool q, .bool true]] rfl (by (try simp only [List.map_toArray, List.map_cons, List.map_nil]); first | done | rfl | (simp only [List.length_drop, List.length_take]; rfl)) ?_; (with_reducible refine (tte_May.calls k (wrap64 t1) (wrap64 t2) t3 (IntKind.u64.wrap (t4 * 8192)) v p x l g q true _ _ AM.out).mono ?_); rintro e wn ⟨rfl, hb⟩; refine ⟨_, rfl, ?_⟩; have m_H6 := Aside0.mk (show wn.heap[g6]? = some _ from blk_below H6.out hb); have m_H8 := Aside0.mk (show wn.heap[g8]? = some _ from blk_below H8.out hb); have m_HB := Aside0.mk (show Below w.heap.size w wn from below_step HB.out hb); clear H6 H8 HB; have H6 := m_H6; have H8 := m_H8; have HB := m_HB; clear m_H6 m_H8 m_HB; clear hb; obtain ⟨qH8_0, qH8_1, qH8_2, qH8_3, qH8_4, qH8_5, qH8_6, qH8_7, qH8_8, qH8_9, qH8_10⟩ := tte_Read.cz11 H8.out) | ((with_reducible refine gate_store (t := 50) (p := 6) rfl ?_); refine wpList_store_row rfl 50 (.tmp 6) (.tmp 64) rfl g6 #[.int .i64 0, .int .i64 0, .int .u64 0, .int .u64 0, .bool false, .bool false, .bool false, .bool false, .bool false, .bool false, .bool false] rfl rfl 50 _ H6.out (by kernel_rfl) rfl (by kernel_rfl) ?_; have n1 := Aside0.mk (setRow_heap _ g6 _ #[.int .i64 0, .int .i64 0, .int .u64 0, .int .u64 0, .bool false, .bool false, .bool false, .bool false, .bool false, .bool false, .bool false] _ _ H6.out); have n2 := Aside0.mk (below_setRow HB.out GE6.out #[.int .i64 0, .int .i64 0, .int .u64 0, .int .u64 0, .bool false, .bool false, .bool false, .bool false, .bool false, .bool false, .bool false]); generalize World.setRow _ g6 #[.int .i64 0, .int .i64 0, .int .u64 0, .int .u64 0, .bool false, .bool false, .bool false, .bool false, .bool false, .bool false, .bool false] = w20 at n1 n2 ⊢; clear H6 HB; have H6 := n1; have HB := n2; clear n1 n2; obtain ⟨qH6_0, qH6_1, qH6_2, qH6_3, qH6_4, qH6_5, qH6_6, qH6_7, qH6_8, qH6_9, qH6_10⟩ := tte_Read.cz11 H6.out))
        (try simp only [Exit.inBlock, Exit.then]); refine bodyPost_ret (results_ct rfl _ _ g6 50 #[.int .i64 0, .int .i64 0, .int .u64 0, .int .u64 0, .bool false, .bool false, .bool false, .bool false, .bool false, .bool false, .bool false] (0, 0) _ rfl H6.out hu26 rfl (by kernel_rfl)) rfl ?_; exact ⟨rfl, HB.out⟩
      | true =>
        rw [if_pos rfl] at hE
        obtain ⟨tg, hm, hE⟩ := Option.bind_eq_some_iff.mp hE
        have AT := Aside0.mk hm
        clear hm
        by_cases ht : tg = a0
        · rw [if_pos ht] at hE
          have ht1 : (tg != a0) = false := bne_eq_false_iff_eq.mpr ht
          clear ht
          obtain ⟨d, hm, hE⟩ := Option.bind_eq_some_iff.mp hE
          have AD := Aside0.mk hm
          clear hm
          by_cases hd : d = a1
          · rw [if_pos hd] at hE
            have hd1 : (d != a1) = false := bne_eq_false_iff_eq.mpr hd
            clear hd
            have hE := Option.some.inj hE; simp only [Prod.mk.injEq] at hE; obtain ⟨rfl, rfl, rfl, rfl, rfl, rfl, rfl, rfl, rfl, rfl, rfl, rfl⟩ := hE
            go_wp2_with (first | ((with_reducible refine gate_callee (f := 88) rfl ?_); refine goesL_ (some 50) rfl rfl Try.func88 (by kernel_rfl) rfl #[.agg #[.int .i64 (wrap64 t1), .int .i64 (wrap64 t2), .int .u64 t3, .int .u64 (IntKind.u64.wrap (t4 * 8192)), .bool v, .bool p, .bool x, .bool l, .bool g, .bool q, .bool true]] rfl (by (try simp only [List.map_toArray, List.map_cons, List.map_nil]); first | done | rfl | (simp only [List.length_drop, List.length_take]; rfl)) ?_; (with_reducible refine (tte_May.calls k (wrap64 t1) (wrap64 t2) t3 (IntKind.u64.wrap (t4 * 8192)) v p x l g q true _ _ AM.out).mono ?_); rintro e wn ⟨rfl, hb⟩; refine ⟨_, rfl, ?_⟩; have m_H6 := Aside0.mk (show wn.heap[g6]? = some _ from blk_below H6.out hb); have m_H8 := Aside0.mk (show wn.heap[g8]? = some _ from blk_below H8.out hb); have m_HB := Aside0.mk (show Below w.heap.size w wn from below_step HB.out hb); clear H6 H8 HB; have H6 := m_H6; have H8 := m_H8; have HB := m_HB; clear m_H6 m_H8 m_HB; clear hb; obtain ⟨qH8_0, qH8_1, qH8_2, qH8_3, qH8_4, qH8_5, qH8_6, qH8_7, qH8_8, qH8_9, qH8_10⟩ := tte_Read.cz11 H8.out) | (go_at_call 66; (with_reducible refine (tte_Tag.calls (wrap64 t1) (wrap64 t2) t3 (IntKind.u64.wrap (t4 * 8192)) v p x l g q true _ _ AT.out).mono ?_); rintro e wn ⟨rfl, hb⟩; have m_H6 := Aside0.mk (show wn.heap[g6]? = some _ from blk_below H6.out hb); have m_H8 := Aside0.mk (show wn.heap[g8]? = some _ from blk_below H8.out hb); have m_HB := Aside0.mk (show Below w.heap.size w wn from below_step HB.out hb); clear H6 H8 HB; have H6 := m_H6; have H8 := m_H8; have HB := m_HB; clear m_H6 m_H8 m_HB; clear hb; obtain ⟨qH8_0, qH8_1, qH8_2, qH8_3, qH8_4, qH8_5, qH8_6, qH8_7, qH8_8, qH8_9, qH8_10⟩ := tte_Read.cz11 H8.out) | (go_at_call 65; (with_reducible refine (tte_Data.calls (wrap64 t1) (wrap64 t2) t3 (IntKind.u64.wrap (t4 * 8192)) v p x l g q true _ _ AD.out).mono ?_); rintro e wn ⟨rfl, hb⟩; have m_H6 := Aside0.mk (show wn.heap[g6]? = some _ from blk_below H6.out hb); have m_H8 := Aside0.mk (show wn.heap[g8]? = some _ from blk_below H8.out hb); have m_HB := Aside0.mk (show Below w.heap.size w wn from below_step HB.out hb); clear H6 H8 HB; have H6 := m_H6; have H8 := m_H8; have HB := m_HB; clear m_H6 m_H8 m_HB; clear hb; obtain ⟨qH8_0, qH8_1, qH8_2, qH8_3, qH8_4, qH8_5, qH8_6, qH8_7, qH8_8, qH8_9, qH8_10⟩ := tte_Read.cz11 H8.out) | ((with_reducible refine gate_store (t := 50) (p := 6) rfl ?_); refine wpList_store_row rfl 50 (.tmp 6) (.tmp 65) rfl g6 #[.int .i64 (wrap64 t1), .int .i64 (wrap64 t2), .int .u64 t3, .int .u64 (IntKind.u64.wrap (t4 * 8192)), .bool v, .bool p, .bool x, .bool l, .bool g, .bool q, .bool true] rfl rfl 50 _ H6.out (by kernel_rfl) rfl (by kernel_rfl) ?_; have n1 := Aside0.mk (setRow_heap _ g6 _ #[.int .i64 (wrap64 t1), .int .i64 (wrap64 t2), .int .u64 t3, .int .u64 (IntKind.u64.wrap (t4 * 8192)), .bool v, .bool p, .bool x, .bool l, .bool g, .bool q, .bool true] _ _ H6.out); have n2 := Aside0.mk (below_setRow HB.out GE6.out #[.int .i64 (wrap64 t1), .int .i64 (wrap64 t2), .int .u64 t3, .int .u64 (IntKind.u64.wrap (t4 * 8192)), .bool v, .bool p, .bool x, .bool l, .bool g, .bool q, .bool true]); generalize World.setRow _ g6 #[.int .i64 (wrap64 t1), .int .i64 (wrap64 t2), .int .u64 t3, .int .u64 (IntKind.u64.wrap (t4 * 8192)), .bool v, .bool p, .bool x, .bool l, .bool g, .bool q, .bool true] = w20 at n1 n2 ⊢; clear H6 HB; have H6 := n1; have HB := n2; clear n1 n2; obtain ⟨qH6_0, qH6_1, qH6_2, qH6_3, qH6_4, qH6_5, qH6_6, qH6_7, qH6_8, qH6_9, qH6_10⟩ := tte_Read.cz11 H6.out))
            (try simp only [Exit.inBlock, Exit.then]); refine bodyPost_ret (results_ct rfl _ _ g6 50 #[.int .i64 (wrap64 t1), .int .i64 (wrap64 t2), .int .u64 t3, .int .u64 (IntKind.u64.wrap (t4 * 8192)), .bool v, .bool p, .bool x, .bool l, .bool g, .bool q, .bool true] (0, 0) _ rfl H6.out hu26 rfl (by kernel_rfl)) rfl ?_; exact ⟨rfl, HB.out⟩
          · rw [if_neg hd] at hE
            have hd1 : (d != a1) = true := bne_iff_ne.mpr hd
            clear hd
            have hE := Option.some.inj hE; simp only [Prod.mk.injEq] at hE; obtain ⟨rfl, rfl, rfl, rfl, rfl, rfl, rfl, rfl, rfl, rfl, rfl, rfl⟩ := hE
            go_wp2_with (first | ((with_reducible refine gate_callee (f := 88) rfl ?_); refine goesL_ (some 50) rfl rfl Try.func88 (by kernel_rfl) rfl #[.agg #[.int .i64 (wrap64 t1), .int .i64 (wrap64 t2), .int .u64 t3, .int .u64 (IntKind.u64.wrap (t4 * 8192)), .bool v, .bool p, .bool x, .bool l, .bool g, .bool q, .bool true]] rfl (by (try simp only [List.map_toArray, List.map_cons, List.map_nil]); first | done | rfl | (simp only [List.length_drop, List.length_take]; rfl)) ?_; (with_reducible refine (tte_May.calls k (wrap64 t1) (wrap64 t2) t3 (IntKind.u64.wrap (t4 * 8192)) v p x l g q true _ _ AM.out).mono ?_); rintro e wn ⟨rfl, hb⟩; refine ⟨_, rfl, ?_⟩; have m_H6 := Aside0.mk (show wn.heap[g6]? = some _ from blk_below H6.out hb); have m_H8 := Aside0.mk (show wn.heap[g8]? = some _ from blk_below H8.out hb); have m_HB := Aside0.mk (show Below w.heap.size w wn from below_step HB.out hb); clear H6 H8 HB; have H6 := m_H6; have H8 := m_H8; have HB := m_HB; clear m_H6 m_H8 m_HB; clear hb; obtain ⟨qH8_0, qH8_1, qH8_2, qH8_3, qH8_4, qH8_5, qH8_6, qH8_7, qH8_8, qH8_9, qH8_10⟩ := tte_Read.cz11 H8.out) | (go_at_call 66; (with_reducible refine (tte_Tag.calls (wrap64 t1) (wrap64 t2) t3 (IntKind.u64.wrap (t4 * 8192)) v p x l g q true _ _ AT.out).mono ?_); rintro e wn ⟨rfl, hb⟩; have m_H6 := Aside0.mk (show wn.heap[g6]? = some _ from blk_below H6.out hb); have m_H8 := Aside0.mk (show wn.heap[g8]? = some _ from blk_below H8.out hb); have m_HB := Aside0.mk (show Below w.heap.size w wn from below_step HB.out hb); clear H6 H8 HB; have H6 := m_H6; have H8 := m_H8; have HB := m_HB; clear m_H6 m_H8 m_HB; clear hb; obtain ⟨qH8_0, qH8_1, qH8_2, qH8_3, qH8_4, qH8_5, qH8_6, qH8_7, qH8_8, qH8_9, qH8_10⟩ := tte_Read.cz11 H8.out) | (go_at_call 65; (with_reducible refine (tte_Data.calls (wrap64 t1) (wrap64 t2) t3 (IntKind.u64.wrap (t4 * 8192)) v p x l g q true _ _ AD.out).mono ?_); rintro e wn ⟨rfl, hb⟩; have m_H6 := Aside0.mk (show wn.heap[g6]? = some _ from blk_below H6.out hb); have m_H8 := Aside0.mk (show wn.heap[g8]? = some _ from blk_below H8.out hb); have m_HB := Aside0.mk (show Below w.heap.size w wn from below_step HB.out hb); clear H6 H8 HB; have H6 := m_H6; have H8 := m_H8; have HB := m_HB; clear m_H6 m_H8 m_HB; clear hb; obtain ⟨qH8_0, qH8_1, qH8_2, qH8_3, qH8_4, qH8_5, qH8_6, qH8_7, qH8_8, qH8_9, qH8_10⟩ := tte_Read.cz11 H8.out) | ((with_reducible refine gate_store (t := 50) (p := 6) rfl ?_); refine wpList_store_row rfl 50 (.tmp 6) (.tmp 64) rfl g6 #[.int .i64 0, .int .i64 0, .int .u64 0, .int .u64 0, .bool false, .bool false, .bool false, .bool false, .bool false, .bool false, .bool false] rfl rfl 50 _ H6.out (by kernel_rfl) rfl (by kernel_rfl) ?_; have n1 := Aside0.mk (setRow_heap _ g6 _ #[.int .i64 0, .int .i64 0, .int .u64 0, .int .u64 0, .bool false, .bool false, .bool false, .bool false, .bool false, .bool false, .bool false] _ _ H6.out); have n2 := Aside0.mk (below_setRow HB.out GE6.out #[.int .i64 0, .int .i64 0, .int .u64 0, .int .u64 0, .bool false, .bool false, .bool false, .bool false, .bool false, .bool false, .bool false]); generalize World.setRow _ g6 #[.int .i64 0, .int .i64 0, .int .u64 0, .int .u64 0, .bool false, .bool false, .bool false, .bool false, .bool false, .bool false, .bool false] = w20 at n1 n2 ⊢; clear H6 HB; have H6 := n1; have HB := n2; clear n1 n2; obtain ⟨qH6_0, qH6_1, qH6_2, qH6_3, qH6_4, qH6_5, qH6_6, qH6_7, qH6_8, qH6_9, qH6_10⟩ := tte_Read.cz11 H6.out))
            (try simp only [Exit.inBlock, Exit.then]); refine bodyPost_ret (results_ct rfl _ _ g6 50 #[.int .i64 0, .int .i64 0, .int .u64 0, .int .u64 0, .bool false, .bool false, .bool false, .bool false, .bool false, .bool false, .bool false] (0, 0) _ rfl H6.out hu26 rfl (by kernel_rfl)) rfl ?_; exact ⟨rfl, HB.out⟩
        · rw [if_neg ht] at hE
          have ht1 : (tg != a0) = true := bne_iff_ne.mpr ht
          clear ht
          have hE := Option.some.inj hE; simp only [Prod.mk.injEq] at hE; obtain ⟨rfl, rfl, rfl, rfl, rfl, rfl, rfl, rfl, rfl, rfl, rfl, rfl⟩ := hE
          go_wp2_with (first | ((with_reducible refine gate_callee (f := 88) rfl ?_); refine goesL_ (some 50) rfl rfl Try.func88 (by kernel_rfl) rfl #[.agg #[.int .i64 (wrap64 t1), .int .i64 (wrap64 t2), .int .u64 t3, .int .u64 (IntKind.u64.wrap (t4 * 8192)), .bool v, .bool p, .bool x, .bool l, .bool g, .bool q, .bool true]] rfl (by (try simp only [List.map_toArray, List.map_cons, List.map_nil]); first | done | rfl | (simp only [List.length_drop, List.length_take]; rfl)) ?_; (with_reducible refine (tte_May.calls k (wrap64 t1) (wrap64 t2) t3 (IntKind.u64.wrap (t4 * 8192)) v p x l g q true _ _ AM.out).mono ?_); rintro e wn ⟨rfl, hb⟩; refine ⟨_, rfl, ?_⟩; have m_H6 := Aside0.mk (show wn.heap[g6]? = some _ from blk_below H6.out hb); have m_H8 := Aside0.mk (show wn.heap[g8]? = some _ from blk_below H8.out hb); have m_HB := Aside0.mk (show Below w.heap.size w wn from below_step HB.out hb); clear H6 H8 HB; have H6 := m_H6; have H8 := m_H8; have HB := m_HB; clear m_H6 m_H8 m_HB; clear hb; obtain ⟨qH8_0, qH8_1, qH8_2, qH8_3, qH8_4, qH8_5, qH8_6, qH8_7, qH8_8, qH8_9, qH8_10⟩ := tte_Read.cz11 H8.out) | (go_at_call 66; (with_reducible refine (tte_Tag.calls (wrap64 t1) (wrap64 t2) t3 (IntKind.u64.wrap (t4 * 8192)) v p x l g q true _ _ AT.out).mono ?_); rintro e wn ⟨rfl, hb⟩; have m_H6 := Aside0.mk (show wn.heap[g6]? = some _ from blk_below H6.out hb); have m_H8 := Aside0.mk (show wn.heap[g8]? = some _ from blk_below H8.out hb); have m_HB := Aside0.mk (show Below w.heap.size w wn from below_step HB.out hb); clear H6 H8 HB; have H6 := m_H6; have H8 := m_H8; have HB := m_HB; clear m_H6 m_H8 m_HB; clear hb; obtain ⟨qH8_0, qH8_1, qH8_2, qH8_3, qH8_4, qH8_5, qH8_6, qH8_7, qH8_8, qH8_9, qH8_10⟩ := tte_Read.cz11 H8.out) | ((with_reducible refine gate_store (t := 50) (p := 6) rfl ?_); refine wpList_store_row rfl 50 (.tmp 6) (.tmp 64) rfl g6 #[.int .i64 0, .int .i64 0, .int .u64 0, .int .u64 0, .bool false, .bool false, .bool false, .bool false, .bool false, .bool false, .bool false] rfl rfl 50 _ H6.out (by kernel_rfl) rfl (by kernel_rfl) ?_; have n1 := Aside0.mk (setRow_heap _ g6 _ #[.int .i64 0, .int .i64 0, .int .u64 0, .int .u64 0, .bool false, .bool false, .bool false, .bool false, .bool false, .bool false, .bool false] _ _ H6.out); have n2 := Aside0.mk (below_setRow HB.out GE6.out #[.int .i64 0, .int .i64 0, .int .u64 0, .int .u64 0, .bool false, .bool false, .bool false, .bool false, .bool false, .bool false, .bool false]); generalize World.setRow _ g6 #[.int .i64 0, .int .i64 0, .int .u64 0, .int .u64 0, .bool false, .bool false, .bool false, .bool false, .bool false, .bool false, .bool false] = w20 at n1 n2 ⊢; clear H6 HB; have H6 := n1; have HB := n2; clear n1 n2; obtain ⟨qH6_0, qH6_1, qH6_2, qH6_3, qH6_4, qH6_5, qH6_6, qH6_7, qH6_8, qH6_9, qH6_10⟩ := tte_Read.cz11 H6.out))
          (try simp only [Exit.inBlock, Exit.then]); refine bodyPost_ret (results_ct rfl _ _ g6 50 #[.int .i64 0, .int .i64 0, .int .u64 0, .int .u64 0, .bool false, .bool false, .bool false, .bool false, .bool false, .bool false, .bool false] (0, 0) _ rfl H6.out hu26 rfl (by kernel_rfl)) rfl ?_; exact ⟨rfl, HB.out⟩
theorem tte_Read.calls (k : Nat) (a0 a1 a2 : Int) (r0 r1 r2 r3 : Int) (r4 r5 r6 r7 r8 r9 r10 : Bool) (r11 : Int) (w : World) (h : tte_Read.f k a0 a1 a2 = some (r0, r1, r2, r3, r4, r5, r6, r7, r8, r9, r10, r11)) :
    Calls Try.prog 90 #[.int .u64 a0, .int .u64 a1, .int .u64 a2] w fun e w' => e = .returned (.tuple #[.agg #[.int .i64 r0, .int .i64 r1, .int .u64 r2, .int .u64 r3, .bool r4, .bool r5, .bool r6, .bool r7, .bool r8, .bool r9, .bool r10], .int .i64 r11]) ∧ Below w.heap.size w w' := by
  unfold tte_Read.f at h
  obtain ⟨b1, h0, h⟩ := Option.bind_eq_some_iff.mp h
  cases b1 with
  | true =>
    rw [if_pos rfl] at h
    have h := Option.some.inj h; simp only [Prod.mk.injEq] at h; obtain ⟨rfl, rfl, rfl, rfl, rfl, rfl, rfl, rfl, rfl, rfl, rfl, rfl⟩ := h
    exact tte_Read.hole a0 a1 a2 w h0
  | false =>
    rw [if_neg (by decide)] at h
    obtain ⟨b2, h1, h⟩ := Option.bind_eq_some_iff.mp h
    cases b2 with
    | false =>
      rw [if_neg (by decide)] at h
      have h := Option.some.inj h; simp only [Prod.mk.injEq] at h; obtain ⟨rfl, rfl, rfl, rfl, rfl, rfl, rfl, rfl, rfl, rfl, rfl, rfl⟩ := h
      exact tte_Read.state a0 a1 a2 w h0 h1
    | true =>
      rw [if_pos rfl] at h
      obtain ⟨t1, h2, h⟩ := Option.bind_eq_some_iff.mp h
      obtain ⟨t2, h3, h⟩ := Option.bind_eq_some_iff.mp h
      obtain ⟨t3, h4, h⟩ := Option.bind_eq_some_iff.mp h
      obtain ⟨t4, h5, h⟩ := Option.bind_eq_some_iff.mp h
      obtain ⟨q, h6, h⟩ := Option.bind_eq_some_iff.mp h
      obtain ⟨l, h7, h⟩ := Option.bind_eq_some_iff.mp h
      obtain ⟨x, h8, h⟩ := Option.bind_eq_some_iff.mp h
      obtain ⟨p, h9, h⟩ := Option.bind_eq_some_iff.mp h
      obtain ⟨v, h10, h⟩ := Option.bind_eq_some_iff.mp h
      obtain ⟨g, h11, h⟩ := Option.bind_eq_some_iff.mp h
      exact tte_Read.core k a0 a1 a2 t1 t2 t3 t4 q l x p v g r0 r1 r2 r3 r4 r5 r6 r7 r8 r9 r10 r11 w h0 h1 h2 h3 h4 h5 h6 h7 h8 h9 h10 h11 h


-- NOT PRINTED: function 58 (tsb_Tsb_read)

end Go.Proofs.Ytjnffegjpkbjmaa.QTsbSteps
