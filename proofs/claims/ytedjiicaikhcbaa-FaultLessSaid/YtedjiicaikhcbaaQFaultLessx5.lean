-- Printed by a program of this session (wip/print/myprint.py) out of the translation; Lean checks it.
import Derived.Test.YtedjiicaikhcbaaQFaultLessx0
import Derived.Test.YtedjiicaikhcbaaQFaultLessx1
import Derived.Test.YtedjiicaikhcbaaQFaultLessx2
import Derived.Test.YtedjiicaikhcbaaQFaultLessx4
namespace Go.Proofs.Ytedjiicaikhcbaa.QFaultLess
open Go.RowKit Go.Proofs.YtedjiicaikhcbaaW.PrintWords Go.Proofs.YtedjiicaikhcbaaW.PrintLast Go.Proofs.YtedjiicaikhcbaaW.PrintMore
attribute [local go_sem] max2_int min2_int max_two min_two max_three min_three max_four min_four   -- for this text's walks alone
set_option linter.unusedVariables false
set_option linter.unusedSimpArgs false

/-! ### lookasidelaw09_FaultLess: function 13 -/
def lookasidelaw09_FaultLess.j0 : Nat → Bool → Bool → Bool → Bool → Bool → Bool → Bool → Bool → Bool → Bool → Bool → Bool → Bool → Bool → Int → Bool → Int → Option (Bool)
  | 0, _, _, _, _, _, _, _, _, _, _, _, _, _, _, _, _, _ => none
  | k + 1, x9, x41, x140000, x140001, x140002, x140003, x140004, x140005, x141000, x141001, x141002, x141003, x141004, x141005, x143000, x143001, x143002 => if x41 = true then (some false) else (if x9 = true then ((fault_Judge.f k x140000 x140001 x140002 x140003 x140004 x140005 x143000 x143001 x143002).bind fun t151 => (if t151 = 0 then ((fault_Judge.f k x141000 x141001 x141002 x141003 x141004 x141005 x143000 x143001 x143002).bind fun t152 => (if t152 = 0 then ((lookasidelaw09_lives.f k).bind fun t153 => (some t153)) else (some false))) else ((lookasidelaw09_lives.f k).bind fun t154 => (some t154)))) else ((lookasidelaw09_lives.f k).bind fun t155 => (some t155)))
def lookasidelaw09_FaultLess.f (k : Nat) (a0_0 : Bool) (a0_1 : Bool) (a0_2 : Bool) (a0_3 : Bool) (a0_4 : Bool) (a0_5 : Bool) (a1_0 : Bool) (a1_1 : Bool) (a1_2 : Bool) (a1_3 : Bool) (a1_4 : Bool) (a1_5 : Bool) (a2_0 : Bool) (a2_1 : Bool) (a2_2 : Bool) (a2_3 : Bool) (a2_4 : Bool) (a2_5 : Bool) (a3_0 : Int) (a3_1 : Bool) (a3_2 : Int) : Option (Bool) := (lookasideref09_Good.f k a3_0 a3_1 a3_2 false).bind fun bt143 => ((fault_Less.f k a0_0 a0_1 a0_2 a0_3 a0_4 a0_5 a1_0 a1_1 a1_2 a1_3 a1_4 a1_5).bind fun t146 => ((fault_Less.f k a1_0 a1_1 a1_2 a1_3 a1_4 a1_5 a2_0 a2_1 a2_2 a2_3 a2_4 a2_5).bind fun t147 => ((lookasideref09_Less.f k a0_0 a0_1 a0_2 a0_3 a0_4 a0_5 a1_0 a1_1 a1_2 a1_3 a1_4 a1_5).bind fun t148 => (if (t146 != t148) = true then (lookasidelaw09_FaultLess.j0 k t146 true a0_0 a0_1 a0_2 a0_3 a0_4 a0_5 a1_0 a1_1 a1_2 a1_3 a1_4 a1_5 bt143.1 bt143.2.1 bt143.2.2) else ((fault_Less.f k a0_0 a0_1 a0_2 a0_3 a0_4 a0_5 a0_0 a0_1 a0_2 a0_3 a0_4 a0_5).bind fun t149 => (if t149 = true then (if t146 = true then (if t147 = true then ((fault_Less.f k a0_0 a0_1 a0_2 a0_3 a0_4 a0_5 a2_0 a2_1 a2_2 a2_3 a2_4 a2_5).bind fun t150 => (lookasidelaw09_FaultLess.j0 k t146 (!t150) a0_0 a0_1 a0_2 a0_3 a0_4 a0_5 a1_0 a1_1 a1_2 a1_3 a1_4 a1_5 bt143.1 bt143.2.1 bt143.2.2)) else (lookasidelaw09_FaultLess.j0 k t146 false a0_0 a0_1 a0_2 a0_3 a0_4 a0_5 a1_0 a1_1 a1_2 a1_3 a1_4 a1_5 bt143.1 bt143.2.1 bt143.2.2)) else (lookasidelaw09_FaultLess.j0 k t146 false a0_0 a0_1 a0_2 a0_3 a0_4 a0_5 a1_0 a1_1 a1_2 a1_3 a1_4 a1_5 bt143.1 bt143.2.1 bt143.2.2)) else (lookasidelaw09_FaultLess.j0 k t146 true a0_0 a0_1 a0_2 a0_3 a0_4 a0_5 a1_0 a1_1 a1_2 a1_3 a1_4 a1_5 bt143.1 bt143.2.1 bt143.2.2)))))))
theorem lookasidelaw09_FaultLess.mono_l : ∀ k, (∀ y0 y1 y2 y3 y4 y5 y6 y7 y8 y9 y10 y11 y12 y13 y14 y15 y16, LeO (lookasidelaw09_FaultLess.j0 k y0 y1 y2 y3 y4 y5 y6 y7 y8 y9 y10 y11 y12 y13 y14 y15 y16) (lookasidelaw09_FaultLess.j0 (k + 1) y0 y1 y2 y3 y4 y5 y6 y7 y8 y9 y10 y11 y12 y13 y14 y15 y16))
  | 0 => fun _ _ _ _ _ _ _ _ _ _ _ _ _ _ _ _ _ r h => by simp [lookasidelaw09_FaultLess.j0] at h
  | k + 1 => by
    have ih0 := lookasidelaw09_FaultLess.mono_l k
    · intro y0 y1 y2 y3 y4 y5 y6 y7 y8 y9 y10 y11 y12 y13 y14 y15 y16
      unfold lookasidelaw09_FaultLess.j0
      repeat' first
      | (with_reducible exact ih0 _ _ _ _ _ _ _ _ _ _ _ _ _ _ _ _ _)
      | (with_reducible exact fault_Judge.mono _ _ _ _ _ _ _ _ _ _)
      | (with_reducible exact fault_Less.mono _ _ _ _ _ _ _ _ _ _ _ _ _)
      | (with_reducible exact lookasidelaw09_lives.mono _)
      | (with_reducible exact lookasideref09_Good.mono _ _ _ _ _)
      | (with_reducible exact lookasideref09_Less.mono _ _ _ _ _ _ _ _ _ _ _ _ _)
      | (with_reducible exact LeO.refl _)
      | (with_reducible exact LeO.none _)
      | (with_reducible refine LeO.ite ?_ ?_)
      | (with_reducible refine LeO.bind ?_ (fun _ => ?_))
      | exact ih0 _ _ _ _ _ _ _ _ _ _ _ _ _ _ _ _ _
      | exact fault_Judge.mono _ _ _ _ _ _ _ _ _ _
      | exact fault_Less.mono _ _ _ _ _ _ _ _ _ _ _ _ _
      | exact lookasidelaw09_lives.mono _
      | exact lookasideref09_Good.mono _ _ _ _ _
      | exact lookasideref09_Less.mono _ _ _ _ _ _ _ _ _ _ _ _ _
      | exact LeO.none _
      | refine LeO.ite ?_ ?_
      | refine LeO.bind ?_ (fun _ => ?_)
theorem lookasidelaw09_FaultLess.mono : ∀ a0 a1 a2 a3 a4 a5 a6 a7 a8 a9 a10 a11 a12 a13 a14 a15 a16 a17 a18 a19 a20 k, LeO (lookasidelaw09_FaultLess.f k a0 a1 a2 a3 a4 a5 a6 a7 a8 a9 a10 a11 a12 a13 a14 a15 a16 a17 a18 a19 a20) (lookasidelaw09_FaultLess.f (k + 1) a0 a1 a2 a3 a4 a5 a6 a7 a8 a9 a10 a11 a12 a13 a14 a15 a16 a17 a18 a19 a20) := by
  intro a0 a1 a2 a3 a4 a5 a6 a7 a8 a9 a10 a11 a12 a13 a14 a15 a16 a17 a18 a19 a20 k
  have ih0 := lookasidelaw09_FaultLess.mono_l k
  unfold lookasidelaw09_FaultLess.f
  repeat' first
      | (with_reducible exact ih0 _ _ _ _ _ _ _ _ _ _ _ _ _ _ _ _ _)
      | (with_reducible exact fault_Judge.mono _ _ _ _ _ _ _ _ _ _)
      | (with_reducible exact fault_Less.mono _ _ _ _ _ _ _ _ _ _ _ _ _)
      | (with_reducible exact lookasidelaw09_lives.mono _)
      | (with_reducible exact lookasideref09_Good.mono _ _ _ _ _)
      | (with_reducible exact lookasideref09_Less.mono _ _ _ _ _ _ _ _ _ _ _ _ _)
      | (with_reducible exact LeO.refl _)
      | (with_reducible exact LeO.none _)
      | (with_reducible refine LeO.ite ?_ ?_)
      | (with_reducible refine LeO.bind ?_ (fun _ => ?_))
      | exact ih0 _ _ _ _ _ _ _ _ _ _ _ _ _ _ _ _ _
      | exact fault_Judge.mono _ _ _ _ _ _ _ _ _ _
      | exact fault_Less.mono _ _ _ _ _ _ _ _ _ _ _ _ _
      | exact lookasidelaw09_lives.mono _
      | exact lookasideref09_Good.mono _ _ _ _ _
      | exact lookasideref09_Less.mono _ _ _ _ _ _ _ _ _ _ _ _ _
      | exact LeO.none _
      | refine LeO.ite ?_ ?_
      | refine LeO.bind ?_ (fun _ => ?_)
set_option maxHeartbeats 8000000 in
set_option maxRecDepth 100000 in
theorem lookasidelaw09_FaultLess.calls (k : Nat) (a0_0 : Bool) (a0_1 : Bool) (a0_2 : Bool) (a0_3 : Bool) (a0_4 : Bool) (a0_5 : Bool) (a1_0 : Bool) (a1_1 : Bool) (a1_2 : Bool) (a1_3 : Bool) (a1_4 : Bool) (a1_5 : Bool) (a2_0 : Bool) (a2_1 : Bool) (a2_2 : Bool) (a2_3 : Bool) (a2_4 : Bool) (a2_5 : Bool) (a3_0 : Int) (a3_1 : Bool) (a3_2 : Int) (r : Bool) (w : World) (h : lookasidelaw09_FaultLess.f k a0_0 a0_1 a0_2 a0_3 a0_4 a0_5 a1_0 a1_1 a1_2 a1_3 a1_4 a1_5 a2_0 a2_1 a2_2 a2_3 a2_4 a2_5 a3_0 a3_1 a3_2 = some r) (hr0_ : r = true) :
    Calls Try.prog 13 #[.agg #[.bool a0_0, .bool a0_1, .bool a0_2, .bool a0_3, .bool a0_4, .bool a0_5], .agg #[.bool a1_0, .bool a1_1, .bool a1_2, .bool a1_3, .bool a1_4, .bool a1_5], .agg #[.bool a2_0, .bool a2_1, .bool a2_2, .bool a2_3, .bool a2_4, .bool a2_5], .agg #[.int .i64 a3_0, .bool a3_1, .int .u64 a3_2]] w fun e w' => e = .returned (.bool r) ∧ Below w.heap.size w w' := by
  have hu41 := Try.underlying41
  have hu43 := Try.underlying43
  have HB := Aside0.mk (Below.refl w.heap.size w)
  have H : ((lookasideref09_Good.f k a3_0 a3_1 a3_2 false).bind fun bt143 => ((fault_Less.f k a0_0 a0_1 a0_2 a0_3 a0_4 a0_5 a1_0 a1_1 a1_2 a1_3 a1_4 a1_5).bind fun t146 => ((fault_Less.f k a1_0 a1_1 a1_2 a1_3 a1_4 a1_5 a2_0 a2_1 a2_2 a2_3 a2_4 a2_5).bind fun t147 => ((lookasideref09_Less.f k a0_0 a0_1 a0_2 a0_3 a0_4 a0_5 a1_0 a1_1 a1_2 a1_3 a1_4 a1_5).bind fun t148 => (if (t146 != t148) = true then (lookasidelaw09_FaultLess.j0 k t146 true a0_0 a0_1 a0_2 a0_3 a0_4 a0_5 a1_0 a1_1 a1_2 a1_3 a1_4 a1_5 bt143.1 bt143.2.1 bt143.2.2) else ((fault_Less.f k a0_0 a0_1 a0_2 a0_3 a0_4 a0_5 a0_0 a0_1 a0_2 a0_3 a0_4 a0_5).bind fun t149 => (if t149 = true then (if t146 = true then (if t147 = true then ((fault_Less.f k a0_0 a0_1 a0_2 a0_3 a0_4 a0_5 a2_0 a2_1 a2_2 a2_3 a2_4 a2_5).bind fun t150 => (lookasidelaw09_FaultLess.j0 k t146 (!t150) a0_0 a0_1 a0_2 a0_3 a0_4 a0_5 a1_0 a1_1 a1_2 a1_3 a1_4 a1_5 bt143.1 bt143.2.1 bt143.2.2)) else (lookasidelaw09_FaultLess.j0 k t146 false a0_0 a0_1 a0_2 a0_3 a0_4 a0_5 a1_0 a1_1 a1_2 a1_3 a1_4 a1_5 bt143.1 bt143.2.1 bt143.2.2)) else (lookasidelaw09_FaultLess.j0 k t146 false a0_0 a0_1 a0_2 a0_3 a0_4 a0_5 a1_0 a1_1 a1_2 a1_3 a1_4 a1_5 bt143.1 bt143.2.1 bt143.2.2)) else (lookasidelaw09_FaultLess.j0 k t146 true a0_0 a0_1 a0_2 a0_3 a0_4 a0_5 a1_0 a1_1 a1_2 a1_3 a1_4 a1_5 bt143.1 bt143.2.1 bt143.2.2)))))))) = some r := h
  clear h
  have hr_ := Aside0.mk hr0_
  clear hr0_
  replace H := Option.bind_eq_some_iff.mp H
  obtain ⟨⟨t143, t144, t145⟩, A50, H⟩ := H
  replace H : ((fault_Less.f k a0_0 a0_1 a0_2 a0_3 a0_4 a0_5 a1_0 a1_1 a1_2 a1_3 a1_4 a1_5).bind fun t146 => ((fault_Less.f k a1_0 a1_1 a1_2 a1_3 a1_4 a1_5 a2_0 a2_1 a2_2 a2_3 a2_4 a2_5).bind fun t147 => ((lookasideref09_Less.f k a0_0 a0_1 a0_2 a0_3 a0_4 a0_5 a1_0 a1_1 a1_2 a1_3 a1_4 a1_5).bind fun t148 => (if (t146 != t148) = true then (lookasidelaw09_FaultLess.j0 k t146 true a0_0 a0_1 a0_2 a0_3 a0_4 a0_5 a1_0 a1_1 a1_2 a1_3 a1_4 a1_5 t143 t144 t145) else ((fault_Less.f k a0_0 a0_1 a0_2 a0_3 a0_4 a0_5 a0_0 a0_1 a0_2 a0_3 a0_4 a0_5).bind fun t149 => (if t149 = true then (if t146 = true then (if t147 = true then ((fault_Less.f k a0_0 a0_1 a0_2 a0_3 a0_4 a0_5 a2_0 a2_1 a2_2 a2_3 a2_4 a2_5).bind fun t150 => (lookasidelaw09_FaultLess.j0 k t146 (!t150) a0_0 a0_1 a0_2 a0_3 a0_4 a0_5 a1_0 a1_1 a1_2 a1_3 a1_4 a1_5 t143 t144 t145)) else (lookasidelaw09_FaultLess.j0 k t146 false a0_0 a0_1 a0_2 a0_3 a0_4 a0_5 a1_0 a1_1 a1_2 a1_3 a1_4 a1_5 t143 t144 t145)) else (lookasidelaw09_FaultLess.j0 k t146 false a0_0 a0_1 a0_2 a0_3 a0_4 a0_5 a1_0 a1_1 a1_2 a1_3 a1_4 a1_5 t143 t144 t145)) else (lookasidelaw09_FaultLess.j0 k t146 true a0_0 a0_1 a0_2 a0_3 a0_4 a0_5 a1_0 a1_1 a1_2 a1_3 a1_4 a1_5 t143 t144 t145))))))) = some r := H
  have A5 := Aside0.mk A50
  clear A50
  replace H := Option.bind_eq_some_iff.mp H
  obtain ⟨t146, A60, H⟩ := H
  replace H : ((fault_Less.f k a1_0 a1_1 a1_2 a1_3 a1_4 a1_5 a2_0 a2_1 a2_2 a2_3 a2_4 a2_5).bind fun t147 => ((lookasideref09_Less.f k a0_0 a0_1 a0_2 a0_3 a0_4 a0_5 a1_0 a1_1 a1_2 a1_3 a1_4 a1_5).bind fun t148 => (if (t146 != t148) = true then (lookasidelaw09_FaultLess.j0 k t146 true a0_0 a0_1 a0_2 a0_3 a0_4 a0_5 a1_0 a1_1 a1_2 a1_3 a1_4 a1_5 t143 t144 t145) else ((fault_Less.f k a0_0 a0_1 a0_2 a0_3 a0_4 a0_5 a0_0 a0_1 a0_2 a0_3 a0_4 a0_5).bind fun t149 => (if t149 = true then (if t146 = true then (if t147 = true then ((fault_Less.f k a0_0 a0_1 a0_2 a0_3 a0_4 a0_5 a2_0 a2_1 a2_2 a2_3 a2_4 a2_5).bind fun t150 => (lookasidelaw09_FaultLess.j0 k t146 (!t150) a0_0 a0_1 a0_2 a0_3 a0_4 a0_5 a1_0 a1_1 a1_2 a1_3 a1_4 a1_5 t143 t144 t145)) else (lookasidelaw09_FaultLess.j0 k t146 false a0_0 a0_1 a0_2 a0_3 a0_4 a0_5 a1_0 a1_1 a1_2 a1_3 a1_4 a1_5 t143 t144 t145)) else (lookasidelaw09_FaultLess.j0 k t146 false a0_0 a0_1 a0_2 a0_3 a0_4 a0_5 a1_0 a1_1 a1_2 a1_3 a1_4 a1_5 t143 t144 t145)) else (lookasidelaw09_FaultLess.j0 k t146 true a0_0 a0_1 a0_2 a0_3 a0_4 a0_5 a1_0 a1_1 a1_2 a1_3 a1_4 a1_5 t143 t144 t145)))))) = some r := H
  have A6 := Aside0.mk A60
  clear A60
  replace H := Option.bind_eq_some_iff.mp H
  obtain ⟨t147, A70, H⟩ := H
  replace H : ((lookasideref09_Less.f k a0_0 a0_1 a0_2 a0_3 a0_4 a0_5 a1_0 a1_1 a1_2 a1_3 a1_4 a1_5).bind fun t148 => (if (t146 != t148) = true then (lookasidelaw09_FaultLess.j0 k t146 true a0_0 a0_1 a0_2 a0_3 a0_4 a0_5 a1_0 a1_1 a1_2 a1_3 a1_4 a1_5 t143 t144 t145) else ((fault_Less.f k a0_0 a0_1 a0_2 a0_3 a0_4 a0_5 a0_0 a0_1 a0_2 a0_3 a0_4 a0_5).bind fun t149 => (if t149 = true then (if t146 = true then (if t147 = true then ((fault_Less.f k a0_0 a0_1 a0_2 a0_3 a0_4 a0_5 a2_0 a2_1 a2_2 a2_3 a2_4 a2_5).bind fun t150 => (lookasidelaw09_FaultLess.j0 k t146 (!t150) a0_0 a0_1 a0_2 a0_3 a0_4 a0_5 a1_0 a1_1 a1_2 a1_3 a1_4 a1_5 t143 t144 t145)) else (lookasidelaw09_FaultLess.j0 k t146 false a0_0 a0_1 a0_2 a0_3 a0_4 a0_5 a1_0 a1_1 a1_2 a1_3 a1_4 a1_5 t143 t144 t145)) else (lookasidelaw09_FaultLess.j0 k t146 false a0_0 a0_1 a0_2 a0_3 a0_4 a0_5 a1_0 a1_1 a1_2 a1_3 a1_4 a1_5 t143 t144 t145)) else (lookasidelaw09_FaultLess.j0 k t146 true a0_0 a0_1 a0_2 a0_3 a0_4 a0_5 a1_0 a1_1 a1_2 a1_3 a1_4 a1_5 t143 t144 t145))))) = some r := H
  have A7 := Aside0.mk A70
  clear A70
  have HC8 := Aside0.mk H
  clear H
  go_enter Try.func13, Try.ntmps13
  go_upto_region 4 with (first | ((with_reducible refine gate_dst (N := 4) rfl ?_); refine box_event ?hg (N := 4) ?hd (cs := #[.bool a0_0, .bool a0_1, .bool a0_2, .bool a0_3, .bool a0_4, .bool a0_5]) (t := 41) ?hr ?_; (case hd => rfl); (case hg => rfl); (case hr => first | (go_simp; done) | (go_simp; rfl)); intro gb139 hg w9 hbox hb; have n0_ := Aside0.mk (below_step (by repeat (first | (with_reducible first | exact HB.out | apply below_alloc | apply pw_below_drewN | apply below_drew1) | exact HB.out)) hb); have n1_ := Aside0.mk (hbox); have n2_ := Aside0.mk ((by rw [hg]; exact (below_size (by repeat (first | (with_reducible first | exact HB.out | apply below_alloc | apply pw_below_drewN | apply below_drew1) | exact HB.out))) : w.heap.size ≤ gb139)); have n3_ := Aside0.mk ((by rw [hg]; exact (below_size (by repeat (first | (with_reducible first | exact HB.out | apply below_alloc | apply pw_below_drewN | apply below_drew1) | exact HB.out))) : w.heap.size ≤ gb139)); clear HB; have HB := n0_; have BK139 := n1_; have GW139 := n2_; have GE139 := n3_; clear n0_ n1_ n2_ n3_; clear hb hbox hg) | ((with_reducible refine gate_dst (N := 5) rfl ?_); refine box_event ?hg (N := 5) ?hd (cs := #[.bool a1_0, .bool a1_1, .bool a1_2, .bool a1_3, .bool a1_4, .bool a1_5]) (t := 41) ?hr ?_; (case hd => rfl); (case hg => rfl); (case hr => first | (go_simp; done) | (go_simp; rfl)); intro gb140 hg w10 hbox hb; have n0_ := Aside0.mk (blk_below (g := gb139) (o := .cells #[.bool a0_0, .bool a0_1, .bool a0_2, .bool a0_3, .bool a0_4, .bool a0_5] 41 (0, 0)) (by (with_reducible repeat (first | refine blk_drewN ?_ _ | refine blk_drew ?_ | refine blk_alloc ?_ _)); exact BK139.out) hb); have n1_ := Aside0.mk (below_step (by repeat (first | (with_reducible first | exact HB.out | apply below_alloc | apply pw_below_drewN | apply below_drew1 | refine below_set ?_ GE139.out) | exact HB.out)) hb); have n2_ := Aside0.mk (hbox); have n3_ := Aside0.mk ((by rw [hg]; exact (below_size (by repeat (first | (with_reducible first | exact HB.out | apply below_alloc | apply pw_below_drewN | apply below_drew1 | refine below_set ?_ GE139.out) | exact HB.out))) : w.heap.size ≤ gb140)); have n4_ := Aside0.mk ((by rw [hg]; exact (below_size (by repeat (first | (with_reducible first | exact HB.out | apply below_alloc | apply pw_below_drewN | apply below_drew1 | refine below_set ?_ GE139.out) | exact HB.out))) : w.heap.size ≤ gb140)); have n5_ := Aside0.mk ((by rw [hg]; exact Nat.ne_of_lt (blk_lt (g := gb139) (o := .cells #[.bool a0_0, .bool a0_1, .bool a0_2, .bool a0_3, .bool a0_4, .bool a0_5] 41 (0, 0)) (by (with_reducible repeat (first | refine blk_drewN ?_ _ | refine blk_drew ?_ | refine blk_alloc ?_ _)); exact BK139.out)) : gb139 ≠ gb140)); have n6_ := Aside0.mk ((by rw [hg]; exact Nat.ne_of_gt (blk_lt (g := gb139) (o := .cells #[.bool a0_0, .bool a0_1, .bool a0_2, .bool a0_3, .bool a0_4, .bool a0_5] 41 (0, 0)) (by (with_reducible repeat (first | refine blk_drewN ?_ _ | refine blk_drew ?_ | refine blk_alloc ?_ _)); exact BK139.out)) : gb140 ≠ gb139)); clear BK139; clear HB; have BK139 := n0_; have HB := n1_; have BK140 := n2_; have GW140 := n3_; have GE140 := n4_; have NB139_140 := n5_; have NB140_139 := n6_; clear n0_ n1_ n2_ n3_ n4_ n5_ n6_; clear hb hbox hg) | ((with_reducible refine gate_dst (N := 6) rfl ?_); refine box_event ?hg (N := 6) ?hd (cs := #[.bool a2_0, .bool a2_1, .bool a2_2, .bool a2_3, .bool a2_4, .bool a2_5]) (t := 41) ?hr ?_; (case hd => rfl); (case hg => rfl); (case hr => first | (go_simp; done) | (go_simp; rfl)); intro gb141 hg w11 hbox hb; have n0_ := Aside0.mk (blk_below (g := gb139) (o := .cells #[.bool a0_0, .bool a0_1, .bool a0_2, .bool a0_3, .bool a0_4, .bool a0_5] 41 (0, 0)) (by (with_reducible repeat (first | refine blk_drewN ?_ _ | refine blk_drew ?_ | refine blk_alloc ?_ _)); exact BK139.out) hb); have n1_ := Aside0.mk (blk_below (g := gb140) (o := .cells #[.bool a1_0, .bool a1_1, .bool a1_2, .bool a1_3, .bool a1_4, .bool a1_5] 41 (0, 0)) (by (with_reducible repeat (first | refine blk_drewN ?_ _ | refine blk_drew ?_ | refine blk_alloc ?_ _)); exact BK140.out) hb); have n2_ := Aside0.mk (below_step (by repeat (first | (with_reducible first | exact HB.out | apply below_alloc | apply pw_below_drewN | apply below_drew1 | refine below_set ?_ GE139.out | refine below_set ?_ GE140.out) | exact HB.out)) hb); have n3_ := Aside0.mk (hbox); have n4_ := Aside0.mk ((by rw [hg]; exact (below_size (by repeat (first | (with_reducible first | exact HB.out | apply below_alloc | apply pw_below_drewN | apply below_drew1 | refine below_set ?_ GE139.out | refine below_set ?_ GE140.out) | exact HB.out))) : w.heap.size ≤ gb141)); have n5_ := Aside0.mk ((by rw [hg]; exact (below_size (by repeat (first | (with_reducible first | exact HB.out | apply below_alloc | apply pw_below_drewN | apply below_drew1 | refine below_set ?_ GE139.out | refine below_set ?_ GE140.out) | exact HB.out))) : w.heap.size ≤ gb141)); have n6_ := Aside0.mk ((by rw [hg]; exact Nat.ne_of_lt (blk_lt (g := gb139) (o := .cells #[.bool a0_0, .bool a0_1, .bool a0_2, .bool a0_3, .bool a0_4, .bool a0_5] 41 (0, 0)) (by (with_reducible repeat (first | refine blk_drewN ?_ _ | refine blk_drew ?_ | refine blk_alloc ?_ _)); exact BK139.out)) : gb139 ≠ gb141)); have n7_ := Aside0.mk ((by rw [hg]; exact Nat.ne_of_gt (blk_lt (g := gb139) (o := .cells #[.bool a0_0, .bool a0_1, .bool a0_2, .bool a0_3, .bool a0_4, .bool a0_5] 41 (0, 0)) (by (with_reducible repeat (first | refine blk_drewN ?_ _ | refine blk_drew ?_ | refine blk_alloc ?_ _)); exact BK139.out)) : gb141 ≠ gb139)); have n8_ := Aside0.mk ((by rw [hg]; exact Nat.ne_of_lt (blk_lt (g := gb140) (o := .cells #[.bool a1_0, .bool a1_1, .bool a1_2, .bool a1_3, .bool a1_4, .bool a1_5] 41 (0, 0)) (by (with_reducible repeat (first | refine blk_drewN ?_ _ | refine blk_drew ?_ | refine blk_alloc ?_ _)); exact BK140.out)) : gb140 ≠ gb141)); have n9_ := Aside0.mk ((by rw [hg]; exact Nat.ne_of_gt (blk_lt (g := gb140) (o := .cells #[.bool a1_0, .bool a1_1, .bool a1_2, .bool a1_3, .bool a1_4, .bool a1_5] 41 (0, 0)) (by (with_reducible repeat (first | refine blk_drewN ?_ _ | refine blk_drew ?_ | refine blk_alloc ?_ _)); exact BK140.out)) : gb141 ≠ gb140)); clear BK139; clear BK140; clear HB; have BK139 := n0_; have BK140 := n1_; have HB := n2_; have BK141 := n3_; have GW141 := n4_; have GE141 := n5_; have NB139_141 := n6_; have NB141_139 := n7_; have NB140_141 := n8_; have NB141_140 := n9_; clear n0_ n1_ n2_ n3_ n4_ n5_ n6_ n7_ n8_ n9_; clear hb hbox hg) | ((with_reducible refine gate_dst (N := 7) rfl ?_); refine box_event ?hg (N := 7) ?hd (cs := #[.int .i64 a3_0, .bool a3_1, .int .u64 a3_2]) (t := 43) ?hr ?_; (case hd => rfl); (case hg => rfl); (case hr => first | (go_simp; done) | (go_simp; rfl)); intro gb142 hg w12 hbox hb; have n0_ := Aside0.mk (blk_below (g := gb139) (o := .cells #[.bool a0_0, .bool a0_1, .bool a0_2, .bool a0_3, .bool a0_4, .bool a0_5] 41 (0, 0)) (by (with_reducible repeat (first | refine blk_drewN ?_ _ | refine blk_drew ?_ | refine blk_alloc ?_ _)); exact BK139.out) hb); have n1_ := Aside0.mk (blk_below (g := gb140) (o := .cells #[.bool a1_0, .bool a1_1, .bool a1_2, .bool a1_3, .bool a1_4, .bool a1_5] 41 (0, 0)) (by (with_reducible repeat (first | refine blk_drewN ?_ _ | refine blk_drew ?_ | refine blk_alloc ?_ _)); exact BK140.out) hb); have n2_ := Aside0.mk (blk_below (g := gb141) (o := .cells #[.bool a2_0, .bool a2_1, .bool a2_2, .bool a2_3, .bool a2_4, .bool a2_5] 41 (0, 0)) (by (with_reducible repeat (first | refine blk_drewN ?_ _ | refine blk_drew ?_ | refine blk_alloc ?_ _)); exact BK141.out) hb); have n3_ := Aside0.mk (below_step (by repeat (first | (with_reducible first | exact HB.out | apply below_alloc | apply pw_below_drewN | apply below_drew1 | refine below_set ?_ GE139.out | refine below_set ?_ GE140.out | refine below_set ?_ GE141.out) | exact HB.out)) hb); have n4_ := Aside0.mk (hbox); have n5_ := Aside0.mk ((by rw [hg]; exact (below_size (by repeat (first | (with_reducible first | exact HB.out | apply below_alloc | apply pw_below_drewN | apply below_drew1 | refine below_set ?_ GE139.out | refine below_set ?_ GE140.out | refine below_set ?_ GE141.out) | exact HB.out))) : w.heap.size ≤ gb142)); have n6_ := Aside0.mk ((by rw [hg]; exact (below_size (by repeat (first | (with_reducible first | exact HB.out | apply below_alloc | apply pw_below_drewN | apply below_drew1 | refine below_set ?_ GE139.out | refine below_set ?_ GE140.out | refine below_set ?_ GE141.out) | exact HB.out))) : w.heap.size ≤ gb142)); have n7_ := Aside0.mk ((by rw [hg]; exact Nat.ne_of_lt (blk_lt (g := gb139) (o := .cells #[.bool a0_0, .bool a0_1, .bool a0_2, .bool a0_3, .bool a0_4, .bool a0_5] 41 (0, 0)) (by (with_reducible repeat (first | refine blk_drewN ?_ _ | refine blk_drew ?_ | refine blk_alloc ?_ _)); exact BK139.out)) : gb139 ≠ gb142)); have n8_ := Aside0.mk ((by rw [hg]; exact Nat.ne_of_gt (blk_lt (g := gb139) (o := .cells #[.bool a0_0, .bool a0_1, .bool a0_2, .bool a0_3, .bool a0_4, .bool a0_5] 41 (0, 0)) (by (with_reducible repeat (first | refine blk_drewN ?_ _ | refine blk_drew ?_ | refine blk_alloc ?_ _)); exact BK139.out)) : gb142 ≠ gb139)); have n9_ := Aside0.mk ((by rw [hg]; exact Nat.ne_of_lt (blk_lt (g := gb140) (o := .cells #[.bool a1_0, .bool a1_1, .bool a1_2, .bool a1_3, .bool a1_4, .bool a1_5] 41 (0, 0)) (by (with_reducible repeat (first | refine blk_drewN ?_ _ | refine blk_drew ?_ | refine blk_alloc ?_ _)); exact BK140.out)) : gb140 ≠ gb142)); have n10_ := Aside0.mk ((by rw [hg]; exact Nat.ne_of_gt (blk_lt (g := gb140) (o := .cells #[.bool a1_0, .bool a1_1, .bool a1_2, .bool a1_3, .bool a1_4, .bool a1_5] 41 (0, 0)) (by (with_reducible repeat (first | refine blk_drewN ?_ _ | refine blk_drew ?_ | refine blk_alloc ?_ _)); exact BK140.out)) : gb142 ≠ gb140)); have n11_ := Aside0.mk ((by rw [hg]; exact Nat.ne_of_lt (blk_lt (g := gb141) (o := .cells #[.bool a2_0, .bool a2_1, .bool a2_2, .bool a2_3, .bool a2_4, .bool a2_5] 41 (0, 0)) (by (with_reducible repeat (first | refine blk_drewN ?_ _ | refine blk_drew ?_ | refine blk_alloc ?_ _)); exact BK141.out)) : gb141 ≠ gb142)); have n12_ := Aside0.mk ((by rw [hg]; exact Nat.ne_of_gt (blk_lt (g := gb141) (o := .cells #[.bool a2_0, .bool a2_1, .bool a2_2, .bool a2_3, .bool a2_4, .bool a2_5] 41 (0, 0)) (by (with_reducible repeat (first | refine blk_drewN ?_ _ | refine blk_drew ?_ | refine blk_alloc ?_ _)); exact BK141.out)) : gb142 ≠ gb141)); clear BK139; clear BK140; clear BK141; clear HB; have BK139 := n0_; have BK140 := n1_; have BK141 := n2_; have HB := n3_; have BK142 := n4_; have GW142 := n5_; have GE142 := n6_; have NB139_142 := n7_; have NB142_139 := n8_; have NB140_142 := n9_; have NB142_140 := n10_; have NB141_142 := n11_; have NB142_141 := n12_; clear n0_ n1_ n2_ n3_ n4_ n5_ n6_ n7_ n8_ n9_ n10_ n11_ n12_; clear hb hbox hg; have hnb13 := NB142_139.out; have hnc13 := NB139_142.out; have hnb14 := NB142_140.out; have hnc14 := NB140_142.out; have hnb15 := NB142_141.out; have hnc15 := NB141_142.out; have hcz16_0 : w12.cell? ⟨gb142, 0, none⟩ = some (.int .i64 a3_0) := (blk_cell BK142.out 0).trans rfl; have hcz16_1 : w12.cell? ⟨gb142, 1, none⟩ = some (.bool a3_1) := (blk_cell BK142.out 1).trans rfl; have hcz16_2 : w12.cell? ⟨gb142, 2, none⟩ = some (.int .u64 a3_2) := (blk_cell BK142.out 2).trans rfl; have hfz16_0 := blk_frozen BK142.out 0; have hfz16_1 := blk_frozen BK142.out 1; have hfz16_2 := blk_frozen BK142.out 2) | ((with_reducible refine gate_callee (f := 40) rfl ?_); refine goesL_ (some 12) rfl rfl Try.func40 (by kernel_rfl) rfl #[.agg #[.int .i64 a3_0, .bool a3_1, .int .u64 a3_2], .bool false] rfl (by (try simp only [List.map_toArray, List.map_cons, List.map_nil]); first | done | rfl | (simp only [List.length_drop, List.length_take]; rfl)) ?_; (with_reducible refine (lookasideref09_Good.calls k a3_0 a3_1 a3_2 false t143 t144 t145 _ A5.out).mono ?_); rintro e w17 ⟨rfl, hb⟩; refine ⟨_, rfl, ?_⟩; have n0_ := Aside0.mk (blk_below (g := gb139) (o := .cells #[.bool a0_0, .bool a0_1, .bool a0_2, .bool a0_3, .bool a0_4, .bool a0_5] 41 (0, 0)) (by (with_reducible repeat (first | refine blk_drewN ?_ _ | refine blk_drew ?_ | refine blk_alloc ?_ _)); exact BK139.out) hb); have n1_ := Aside0.mk (blk_below (g := gb140) (o := .cells #[.bool a1_0, .bool a1_1, .bool a1_2, .bool a1_3, .bool a1_4, .bool a1_5] 41 (0, 0)) (by (with_reducible repeat (first | refine blk_drewN ?_ _ | refine blk_drew ?_ | refine blk_alloc ?_ _)); exact BK140.out) hb); have n2_ := Aside0.mk (blk_below (g := gb141) (o := .cells #[.bool a2_0, .bool a2_1, .bool a2_2, .bool a2_3, .bool a2_4, .bool a2_5] 41 (0, 0)) (by (with_reducible repeat (first | refine blk_drewN ?_ _ | refine blk_drew ?_ | refine blk_alloc ?_ _)); exact BK141.out) hb); have n3_ := Aside0.mk (blk_below (g := gb142) (o := .cells #[.int .i64 a3_0, .bool a3_1, .int .u64 a3_2] 43 (0, 0)) (by (with_reducible repeat (first | refine blk_drewN ?_ _ | refine blk_drew ?_ | refine blk_alloc ?_ _)); exact BK142.out) hb); have n4_ := Aside0.mk (below_step (by repeat (first | (with_reducible first | exact HB.out | apply below_alloc | apply pw_below_drewN | apply below_drew1 | refine below_set ?_ GE139.out | refine below_set ?_ GE140.out | refine below_set ?_ GE141.out | refine below_set ?_ GE142.out) | exact HB.out)) hb); clear BK139; clear BK140; clear BK141; clear BK142; clear HB; have BK139 := n0_; have BK140 := n1_; have BK141 := n2_; have BK142 := n3_; have HB := n4_; clear n0_ n1_ n2_ n3_ n4_; (try clear hb); (try clear hb2); (try clear hk); (try clear hi); have hcz18_0 : w17.cell? ⟨gb142, 0, none⟩ = some (.int .i64 a3_0) := (blk_cell BK142.out 0).trans rfl; have hcz18_1 : w17.cell? ⟨gb142, 1, none⟩ = some (.bool a3_1) := (blk_cell BK142.out 1).trans rfl; have hcz18_2 : w17.cell? ⟨gb142, 2, none⟩ = some (.int .u64 a3_2) := (blk_cell BK142.out 2).trans rfl; have hfz18_0 := blk_frozen BK142.out 0; have hfz18_1 := blk_frozen BK142.out 1; have hfz18_2 := blk_frozen BK142.out 2; have hnb19 := NB139_140.out; have hnc19 := NB140_139.out; have hnb20 := NB139_141.out; have hnc20 := NB141_139.out; have hcz21_0 : w17.cell? ⟨gb139, 0, none⟩ = some (.bool a0_0) := (blk_cell BK139.out 0).trans rfl; have hcz21_1 : w17.cell? ⟨gb139, 1, none⟩ = some (.bool a0_1) := (blk_cell BK139.out 1).trans rfl; have hcz21_2 : w17.cell? ⟨gb139, 2, none⟩ = some (.bool a0_2) := (blk_cell BK139.out 2).trans rfl; have hcz21_3 : w17.cell? ⟨gb139, 3, none⟩ = some (.bool a0_3) := (blk_cell BK139.out 3).trans rfl; have hcz21_4 : w17.cell? ⟨gb139, 4, none⟩ = some (.bool a0_4) := (blk_cell BK139.out 4).trans rfl; have hcz21_5 : w17.cell? ⟨gb139, 5, none⟩ = some (.bool a0_5) := (blk_cell BK139.out 5).trans rfl; have hfz21_0 := blk_frozen BK139.out 0; have hfz21_1 := blk_frozen BK139.out 1; have hfz21_2 := blk_frozen BK139.out 2; have hfz21_3 := blk_frozen BK139.out 3; have hfz21_4 := blk_frozen BK139.out 4; have hfz21_5 := blk_frozen BK139.out 5; have hnb22 := NB140_141.out; have hnc22 := NB141_140.out; have hcz23_0 : w17.cell? ⟨gb140, 0, none⟩ = some (.bool a1_0) := (blk_cell BK140.out 0).trans rfl; have hcz23_1 : w17.cell? ⟨gb140, 1, none⟩ = some (.bool a1_1) := (blk_cell BK140.out 1).trans rfl; have hcz23_2 : w17.cell? ⟨gb140, 2, none⟩ = some (.bool a1_2) := (blk_cell BK140.out 2).trans rfl; have hcz23_3 : w17.cell? ⟨gb140, 3, none⟩ = some (.bool a1_3) := (blk_cell BK140.out 3).trans rfl; have hcz23_4 : w17.cell? ⟨gb140, 4, none⟩ = some (.bool a1_4) := (blk_cell BK140.out 4).trans rfl; have hcz23_5 : w17.cell? ⟨gb140, 5, none⟩ = some (.bool a1_5) := (blk_cell BK140.out 5).trans rfl; have hfz23_0 := blk_frozen BK140.out 0; have hfz23_1 := blk_frozen BK140.out 1; have hfz23_2 := blk_frozen BK140.out 2; have hfz23_3 := blk_frozen BK140.out 3; have hfz23_4 := blk_frozen BK140.out 4; have hfz23_5 := blk_frozen BK140.out 5) | ((with_reducible refine gate_callee (f := 51) rfl ?_); refine goesL_ (some 15) rfl rfl Try.func51 (by kernel_rfl) rfl #[.agg #[.bool a0_0, .bool a0_1, .bool a0_2, .bool a0_3, .bool a0_4, .bool a0_5], .agg #[.bool a1_0, .bool a1_1, .bool a1_2, .bool a1_3, .bool a1_4, .bool a1_5]] rfl (by (try simp only [List.map_toArray, List.map_cons, List.map_nil]); first | done | rfl | (simp only [List.length_drop, List.length_take]; rfl)) ?_; (with_reducible refine (fault_Less.calls k a0_0 a0_1 a0_2 a0_3 a0_4 a0_5 a1_0 a1_1 a1_2 a1_3 a1_4 a1_5 t146 _ A6.out).mono ?_); rintro e w24 ⟨rfl, hb⟩; refine ⟨_, rfl, ?_⟩; have n0_ := Aside0.mk (blk_below (g := gb139) (o := .cells #[.bool a0_0, .bool a0_1, .bool a0_2, .bool a0_3, .bool a0_4, .bool a0_5] 41 (0, 0)) (by (with_reducible repeat (first | refine blk_drewN ?_ _ | refine blk_drew ?_ | refine blk_alloc ?_ _)); refine blk_far ?_ NB139_142.out _; (with_reducible repeat (first | refine blk_drewN ?_ _ | refine blk_drew ?_ | refine blk_alloc ?_ _)); refine blk_far ?_ NB139_142.out _; (with_reducible repeat (first | refine blk_drewN ?_ _ | refine blk_drew ?_ | refine blk_alloc ?_ _)); refine blk_far ?_ NB139_142.out _; (with_reducible repeat (first | refine blk_drewN ?_ _ | refine blk_drew ?_ | refine blk_alloc ?_ _)); exact BK139.out) hb); have n1_ := Aside0.mk (blk_below (g := gb140) (o := .cells #[.bool a1_0, .bool a1_1, .bool a1_2, .bool a1_3, .bool a1_4, .bool a1_5] 41 (0, 0)) (by (with_reducible repeat (first | refine blk_drewN ?_ _ | refine blk_drew ?_ | refine blk_alloc ?_ _)); refine blk_far ?_ NB140_142.out _; (with_reducible repeat (first | refine blk_drewN ?_ _ | refine blk_drew ?_ | refine blk_alloc ?_ _)); refine blk_far ?_ NB140_142.out _; (with_reducible repeat (first | refine blk_drewN ?_ _ | refine blk_drew ?_ | refine blk_alloc ?_ _)); refine blk_far ?_ NB140_142.out _; (with_reducible repeat (first | refine blk_drewN ?_ _ | refine blk_drew ?_ | refine blk_alloc ?_ _)); exact BK140.out) hb); have n2_ := Aside0.mk (blk_below (g := gb141) (o := .cells #[.bool a2_0, .bool a2_1, .bool a2_2, .bool a2_3, .bool a2_4, .bool a2_5] 41 (0, 0)) (by (with_reducible repeat (first | refine blk_drewN ?_ _ | refine blk_drew ?_ | refine blk_alloc ?_ _)); refine blk_far ?_ NB141_142.out _; (with_reducible repeat (first | refine blk_drewN ?_ _ | refine blk_drew ?_ | refine blk_alloc ?_ _)); refine blk_far ?_ NB141_142.out _; (with_reducible repeat (first | refine blk_drewN ?_ _ | refine blk_drew ?_ | refine blk_alloc ?_ _)); refine blk_far ?_ NB141_142.out _; (with_reducible repeat (first | refine blk_drewN ?_ _ | refine blk_drew ?_ | refine blk_alloc ?_ _)); exact BK141.out) hb); have n3_ := Aside0.mk (blk_below (g := gb142) (o := .cells #[.int .i64 t143, .bool t144, .int .u64 t145] 43 (0, 0)) (by (with_reducible repeat (first | refine blk_drewN ?_ _ | refine blk_drew ?_ | refine blk_alloc ?_ _)); refine blk_put (cs := #[.int .i64 t143, .bool t144, .int .u64 a3_2]) ?_ 2 _ rfl; (with_reducible repeat (first | refine blk_drewN ?_ _ | refine blk_drew ?_ | refine blk_alloc ?_ _)); refine blk_put (cs := #[.int .i64 t143, .bool a3_1, .int .u64 a3_2]) ?_ 1 _ rfl; (with_reducible repeat (first | refine blk_drewN ?_ _ | refine blk_drew ?_ | refine blk_alloc ?_ _)); refine blk_put (cs := #[.int .i64 a3_0, .bool a3_1, .int .u64 a3_2]) ?_ 0 _ rfl; (with_reducible repeat (first | refine blk_drewN ?_ _ | refine blk_drew ?_ | refine blk_alloc ?_ _)); exact BK142.out) hb); have n4_ := Aside0.mk (below_step (by repeat (first | (with_reducible first | exact HB.out | apply below_alloc | apply pw_below_drewN | apply below_drew1 | refine below_set ?_ GE139.out | refine below_set ?_ GE140.out | refine below_set ?_ GE141.out | refine below_set ?_ GE142.out) | exact HB.out)) hb); clear BK139; clear BK140; clear BK141; clear BK142; clear HB; have BK139 := n0_; have BK140 := n1_; have BK141 := n2_; have BK142 := n3_; have HB := n4_; clear n0_ n1_ n2_ n3_ n4_; (try clear hb); (try clear hb2); (try clear hk); (try clear hi); have hcz25_0 : w24.cell? ⟨gb140, 0, none⟩ = some (.bool a1_0) := (blk_cell BK140.out 0).trans rfl; have hcz25_1 : w24.cell? ⟨gb140, 1, none⟩ = some (.bool a1_1) := (blk_cell BK140.out 1).trans rfl; have hcz25_2 : w24.cell? ⟨gb140, 2, none⟩ = some (.bool a1_2) := (blk_cell BK140.out 2).trans rfl; have hcz25_3 : w24.cell? ⟨gb140, 3, none⟩ = some (.bool a1_3) := (blk_cell BK140.out 3).trans rfl; have hcz25_4 : w24.cell? ⟨gb140, 4, none⟩ = some (.bool a1_4) := (blk_cell BK140.out 4).trans rfl; have hcz25_5 : w24.cell? ⟨gb140, 5, none⟩ = some (.bool a1_5) := (blk_cell BK140.out 5).trans rfl; have hfz25_0 := blk_frozen BK140.out 0; have hfz25_1 := blk_frozen BK140.out 1; have hfz25_2 := blk_frozen BK140.out 2; have hfz25_3 := blk_frozen BK140.out 3; have hfz25_4 := blk_frozen BK140.out 4; have hfz25_5 := blk_frozen BK140.out 5; have hcz26_0 : w24.cell? ⟨gb141, 0, none⟩ = some (.bool a2_0) := (blk_cell BK141.out 0).trans rfl; have hcz26_1 : w24.cell? ⟨gb141, 1, none⟩ = some (.bool a2_1) := (blk_cell BK141.out 1).trans rfl; have hcz26_2 : w24.cell? ⟨gb141, 2, none⟩ = some (.bool a2_2) := (blk_cell BK141.out 2).trans rfl; have hcz26_3 : w24.cell? ⟨gb141, 3, none⟩ = some (.bool a2_3) := (blk_cell BK141.out 3).trans rfl; have hcz26_4 : w24.cell? ⟨gb141, 4, none⟩ = some (.bool a2_4) := (blk_cell BK141.out 4).trans rfl; have hcz26_5 : w24.cell? ⟨gb141, 5, none⟩ = some (.bool a2_5) := (blk_cell BK141.out 5).trans rfl; have hfz26_0 := blk_frozen BK141.out 0; have hfz26_1 := blk_frozen BK141.out 1; have hfz26_2 := blk_frozen BK141.out 2; have hfz26_3 := blk_frozen BK141.out 3; have hfz26_4 := blk_frozen BK141.out 4; have hfz26_5 := blk_frozen BK141.out 5) | ((with_reducible refine gate_callee (f := 51) rfl ?_); refine goesL_ (some 18) rfl rfl Try.func51 (by kernel_rfl) rfl #[.agg #[.bool a1_0, .bool a1_1, .bool a1_2, .bool a1_3, .bool a1_4, .bool a1_5], .agg #[.bool a2_0, .bool a2_1, .bool a2_2, .bool a2_3, .bool a2_4, .bool a2_5]] rfl (by (try simp only [List.map_toArray, List.map_cons, List.map_nil]); first | done | rfl | (simp only [List.length_drop, List.length_take]; rfl)) ?_; (with_reducible refine (fault_Less.calls k a1_0 a1_1 a1_2 a1_3 a1_4 a1_5 a2_0 a2_1 a2_2 a2_3 a2_4 a2_5 t147 _ A7.out).mono ?_); rintro e w27 ⟨rfl, hb⟩; refine ⟨_, rfl, ?_⟩; have n0_ := Aside0.mk (blk_below (g := gb139) (o := .cells #[.bool a0_0, .bool a0_1, .bool a0_2, .bool a0_3, .bool a0_4, .bool a0_5] 41 (0, 0)) (by (with_reducible repeat (first | refine blk_drewN ?_ _ | refine blk_drew ?_ | refine blk_alloc ?_ _)); exact BK139.out) hb); have n1_ := Aside0.mk (blk_below (g := gb140) (o := .cells #[.bool a1_0, .bool a1_1, .bool a1_2, .bool a1_3, .bool a1_4, .bool a1_5] 41 (0, 0)) (by (with_reducible repeat (first | refine blk_drewN ?_ _ | refine blk_drew ?_ | refine blk_alloc ?_ _)); exact BK140.out) hb); have n2_ := Aside0.mk (blk_below (g := gb141) (o := .cells #[.bool a2_0, .bool a2_1, .bool a2_2, .bool a2_3, .bool a2_4, .bool a2_5] 41 (0, 0)) (by (with_reducible repeat (first | refine blk_drewN ?_ _ | refine blk_drew ?_ | refine blk_alloc ?_ _)); exact BK141.out) hb); have n3_ := Aside0.mk (blk_below (g := gb142) (o := .cells #[.int .i64 t143, .bool t144, .int .u64 t145] 43 (0, 0)) (by (with_reducible repeat (first | refine blk_drewN ?_ _ | refine blk_drew ?_ | refine blk_alloc ?_ _)); exact BK142.out) hb); have n4_ := Aside0.mk (below_step (by repeat (first | (with_reducible first | exact HB.out | apply below_alloc | apply pw_below_drewN | apply below_drew1 | refine below_set ?_ GE139.out | refine below_set ?_ GE140.out | refine below_set ?_ GE141.out | refine below_set ?_ GE142.out) | exact HB.out)) hb); clear BK139; clear BK140; clear BK141; clear BK142; clear HB; have BK139 := n0_; have BK140 := n1_; have BK141 := n2_; have BK142 := n3_; have HB := n4_; clear n0_ n1_ n2_ n3_ n4_; (try clear hb); (try clear hb2); (try clear hk); (try clear hi)))
  (try simp only [Act.put, List.setIfInBounds_toArray, List.set_cons_zero, List.set_cons_succ])
  go_cut [41] (fun v41 wc => ∃ (kq : Nat) (x41_7 : Bool), v41 = .bool x41_7 ∧ Aside0 (lookasidelaw09_FaultLess.j0 kq t146 x41_7 a0_0 a0_1 a0_2 a0_3 a0_4 a0_5 a1_0 a1_1 a1_2 a1_3 a1_4 a1_5 t143 t144 t145 = some r) ∧ Aside0 (kq ≤ k) ∧ Aside0 (wc.heap[gb139]? = some (.cells #[.bool a0_0, .bool a0_1, .bool a0_2, .bool a0_3, .bool a0_4, .bool a0_5] 41 (0, 0))) ∧ Aside0 (wc.heap[gb140]? = some (.cells #[.bool a1_0, .bool a1_1, .bool a1_2, .bool a1_3, .bool a1_4, .bool a1_5] 41 (0, 0))) ∧ Aside0 (wc.heap[gb141]? = some (.cells #[.bool a2_0, .bool a2_1, .bool a2_2, .bool a2_3, .bool a2_4, .bool a2_5] 41 (0, 0))) ∧ Aside0 (wc.heap[gb142]? = some (.cells #[.int .i64 t143, .bool t144, .int .u64 t145] 43 (0, 0))) ∧ Aside0 (Below w.heap.size w wc))
  case first =>
    have H := HC8.out
    clear HC8
    replace H := Option.bind_eq_some_iff.mp H
    obtain ⟨t148, A280, H⟩ := H
    replace H : (if (t146 != t148) = true then (lookasidelaw09_FaultLess.j0 k t146 true a0_0 a0_1 a0_2 a0_3 a0_4 a0_5 a1_0 a1_1 a1_2 a1_3 a1_4 a1_5 t143 t144 t145) else ((fault_Less.f k a0_0 a0_1 a0_2 a0_3 a0_4 a0_5 a0_0 a0_1 a0_2 a0_3 a0_4 a0_5).bind fun t149 => (if t149 = true then (if t146 = true then (if t147 = true then ((fault_Less.f k a0_0 a0_1 a0_2 a0_3 a0_4 a0_5 a2_0 a2_1 a2_2 a2_3 a2_4 a2_5).bind fun t150 => (lookasidelaw09_FaultLess.j0 k t146 (!t150) a0_0 a0_1 a0_2 a0_3 a0_4 a0_5 a1_0 a1_1 a1_2 a1_3 a1_4 a1_5 t143 t144 t145)) else (lookasidelaw09_FaultLess.j0 k t146 false a0_0 a0_1 a0_2 a0_3 a0_4 a0_5 a1_0 a1_1 a1_2 a1_3 a1_4 a1_5 t143 t144 t145)) else (lookasidelaw09_FaultLess.j0 k t146 false a0_0 a0_1 a0_2 a0_3 a0_4 a0_5 a1_0 a1_1 a1_2 a1_3 a1_4 a1_5 t143 t144 t145)) else (lookasidelaw09_FaultLess.j0 k t146 true a0_0 a0_1 a0_2 a0_3 a0_4 a0_5 a1_0 a1_1 a1_2 a1_3 a1_4 a1_5 t143 t144 t145)))) = some r := H
    have A28 := Aside0.mk A280
    clear A280
    by_cases c29 : (t146 != t148) = true
    · rw [if_pos c29] at H
      have c29b0 : (t146 != t148) = true := c29
      (try (have c29b1 : decide (t146 = t148) = false := by simpa using c29))
      (try (have c29b2 : (t146 == t148) = false := by simpa using c29))
      (try (have c29b3 : ¬ (t146 = t148) := by simpa using c29))
      clear c29
      (first | rw [c29b0] | (simp only [i64_w, i32_w]; rw [c29b0]) | skip)
      have H' := Aside0.mk H
      clear H
      have hnb30 := NB139_140.out
      have hnc30 := NB140_139.out
      have hnb31 := NB139_141.out
      have hnc31 := NB141_139.out
      have hnb32 := NB139_142.out
      have hnc32 := NB142_139.out
      have hcz33_0 : w27.cell? ⟨gb139, 0, none⟩ = some (.bool a0_0) := (blk_cell BK139.out 0).trans rfl
      have hcz33_1 : w27.cell? ⟨gb139, 1, none⟩ = some (.bool a0_1) := (blk_cell BK139.out 1).trans rfl
      have hcz33_2 : w27.cell? ⟨gb139, 2, none⟩ = some (.bool a0_2) := (blk_cell BK139.out 2).trans rfl
      have hcz33_3 : w27.cell? ⟨gb139, 3, none⟩ = some (.bool a0_3) := (blk_cell BK139.out 3).trans rfl
      have hcz33_4 : w27.cell? ⟨gb139, 4, none⟩ = some (.bool a0_4) := (blk_cell BK139.out 4).trans rfl
      have hcz33_5 : w27.cell? ⟨gb139, 5, none⟩ = some (.bool a0_5) := (blk_cell BK139.out 5).trans rfl
      have hfz33_0 := blk_frozen BK139.out 0
      have hfz33_1 := blk_frozen BK139.out 1
      have hfz33_2 := blk_frozen BK139.out 2
      have hfz33_3 := blk_frozen BK139.out 3
      have hfz33_4 := blk_frozen BK139.out 4
      have hfz33_5 := blk_frozen BK139.out 5
      have hnb34 := NB140_141.out
      have hnc34 := NB141_140.out
      have hnb35 := NB140_142.out
      have hnc35 := NB142_140.out
      have hcz36_0 : w27.cell? ⟨gb140, 0, none⟩ = some (.bool a1_0) := (blk_cell BK140.out 0).trans rfl
      have hcz36_1 : w27.cell? ⟨gb140, 1, none⟩ = some (.bool a1_1) := (blk_cell BK140.out 1).trans rfl
      have hcz36_2 : w27.cell? ⟨gb140, 2, none⟩ = some (.bool a1_2) := (blk_cell BK140.out 2).trans rfl
      have hcz36_3 : w27.cell? ⟨gb140, 3, none⟩ = some (.bool a1_3) := (blk_cell BK140.out 3).trans rfl
      have hcz36_4 : w27.cell? ⟨gb140, 4, none⟩ = some (.bool a1_4) := (blk_cell BK140.out 4).trans rfl
      have hcz36_5 : w27.cell? ⟨gb140, 5, none⟩ = some (.bool a1_5) := (blk_cell BK140.out 5).trans rfl
      have hfz36_0 := blk_frozen BK140.out 0
      have hfz36_1 := blk_frozen BK140.out 1
      have hfz36_2 := blk_frozen BK140.out 2
      have hfz36_3 := blk_frozen BK140.out 3
      have hfz36_4 := blk_frozen BK140.out 4
      have hfz36_5 := blk_frozen BK140.out 5
      go_wp2_with (first | ((with_reducible refine gate_callee (f := 52) rfl ?_); refine goesL_ (some 22) rfl rfl Try.func52 (by kernel_rfl) rfl #[.agg #[.bool a0_0, .bool a0_1, .bool a0_2, .bool a0_3, .bool a0_4, .bool a0_5], .agg #[.bool a1_0, .bool a1_1, .bool a1_2, .bool a1_3, .bool a1_4, .bool a1_5]] rfl (by (try simp only [List.map_toArray, List.map_cons, List.map_nil]); first | done | rfl | (simp only [List.length_drop, List.length_take]; rfl)) ?_; (with_reducible refine (lookasideref09_Less.calls k a0_0 a0_1 a0_2 a0_3 a0_4 a0_5 a1_0 a1_1 a1_2 a1_3 a1_4 a1_5 t148 _ A28.out).mono ?_); rintro e w37 ⟨rfl, hb⟩; refine ⟨_, rfl, ?_⟩; have n0_ := Aside0.mk (blk_below (g := gb139) (o := .cells #[.bool a0_0, .bool a0_1, .bool a0_2, .bool a0_3, .bool a0_4, .bool a0_5] 41 (0, 0)) (by (with_reducible repeat (first | refine blk_drewN ?_ _ | refine blk_drew ?_ | refine blk_alloc ?_ _)); exact BK139.out) hb); have n1_ := Aside0.mk (blk_below (g := gb140) (o := .cells #[.bool a1_0, .bool a1_1, .bool a1_2, .bool a1_3, .bool a1_4, .bool a1_5] 41 (0, 0)) (by (with_reducible repeat (first | refine blk_drewN ?_ _ | refine blk_drew ?_ | refine blk_alloc ?_ _)); exact BK140.out) hb); have n2_ := Aside0.mk (blk_below (g := gb141) (o := .cells #[.bool a2_0, .bool a2_1, .bool a2_2, .bool a2_3, .bool a2_4, .bool a2_5] 41 (0, 0)) (by (with_reducible repeat (first | refine blk_drewN ?_ _ | refine blk_drew ?_ | refine blk_alloc ?_ _)); exact BK141.out) hb); have n3_ := Aside0.mk (blk_below (g := gb142) (o := .cells #[.int .i64 t143, .bool t144, .int .u64 t145] 43 (0, 0)) (by (with_reducible repeat (first | refine blk_drewN ?_ _ | refine blk_drew ?_ | refine blk_alloc ?_ _)); exact BK142.out) hb); have n4_ := Aside0.mk (below_step (by repeat (first | (with_reducible first | exact HB.out | apply below_alloc | apply pw_below_drewN | apply below_drew1 | refine below_set ?_ GE139.out | refine below_set ?_ GE140.out | refine below_set ?_ GE141.out | refine below_set ?_ GE142.out) | exact HB.out)) hb); clear BK139; clear BK140; clear BK141; clear BK142; clear HB; have BK139 := n0_; have BK140 := n1_; have BK141 := n2_; have BK142 := n3_; have HB := n4_; clear n0_ n1_ n2_ n3_ n4_; (try clear hb); (try clear hb2); (try clear hk); (try clear hi)))
      go_meet
      case rel => exact ⟨_, (true), (by first | rfl | (simp; done) | (simp [*]; done)), H', ⟨by first | omega | exact Nat.le_refl _⟩, ⟨by (with_reducible repeat (first | refine blk_drewN ?_ _ | refine blk_drew ?_ | refine blk_alloc ?_ _)); exact BK139.out⟩, ⟨by (with_reducible repeat (first | refine blk_drewN ?_ _ | refine blk_drew ?_ | refine blk_alloc ?_ _)); exact BK140.out⟩, ⟨by (with_reducible repeat (first | refine blk_drewN ?_ _ | refine blk_drew ?_ | refine blk_alloc ?_ _)); exact BK141.out⟩, ⟨by (with_reducible repeat (first | refine blk_drewN ?_ _ | refine blk_drew ?_ | refine blk_alloc ?_ _)); exact BK142.out⟩, ⟨by repeat (first | (with_reducible first | exact HB.out | apply below_alloc | apply pw_below_drewN | apply below_drew1 | refine below_set ?_ GE139.out | refine below_set ?_ GE140.out | refine below_set ?_ GE141.out | refine below_set ?_ GE142.out) | exact HB.out)⟩⟩
    · rw [if_neg c29] at H
      have c29b0 : (t146 != t148) = false := by simpa using c29
      (try (have c29b1 : decide (t146 = t148) = true := by simpa using c29))
      (try (have c29b2 : (t146 == t148) = true := by simpa using c29))
      clear c29
      (first | rw [c29b0] | (simp only [i64_w, i32_w]; rw [c29b0]) | skip)
      replace H := Option.bind_eq_some_iff.mp H
      obtain ⟨t149, A380, H⟩ := H
      replace H : (if t149 = true then (if t146 = true then (if t147 = true then ((fault_Less.f k a0_0 a0_1 a0_2 a0_3 a0_4 a0_5 a2_0 a2_1 a2_2 a2_3 a2_4 a2_5).bind fun t150 => (lookasidelaw09_FaultLess.j0 k t146 (!t150) a0_0 a0_1 a0_2 a0_3 a0_4 a0_5 a1_0 a1_1 a1_2 a1_3 a1_4 a1_5 t143 t144 t145)) else (lookasidelaw09_FaultLess.j0 k t146 false a0_0 a0_1 a0_2 a0_3 a0_4 a0_5 a1_0 a1_1 a1_2 a1_3 a1_4 a1_5 t143 t144 t145)) else (lookasidelaw09_FaultLess.j0 k t146 false a0_0 a0_1 a0_2 a0_3 a0_4 a0_5 a1_0 a1_1 a1_2 a1_3 a1_4 a1_5 t143 t144 t145)) else (lookasidelaw09_FaultLess.j0 k t146 true a0_0 a0_1 a0_2 a0_3 a0_4 a0_5 a1_0 a1_1 a1_2 a1_3 a1_4 a1_5 t143 t144 t145)) = some r := H
      have A38 := Aside0.mk A380
      clear A380
      by_cases c39 : t149 = true
      · subst c39
        have H1 : (if t146 = true then (if t147 = true then ((fault_Less.f k a0_0 a0_1 a0_2 a0_3 a0_4 a0_5 a2_0 a2_1 a2_2 a2_3 a2_4 a2_5).bind fun t150 => (lookasidelaw09_FaultLess.j0 k t146 (!t150) a0_0 a0_1 a0_2 a0_3 a0_4 a0_5 a1_0 a1_1 a1_2 a1_3 a1_4 a1_5 t143 t144 t145)) else (lookasidelaw09_FaultLess.j0 k t146 false a0_0 a0_1 a0_2 a0_3 a0_4 a0_5 a1_0 a1_1 a1_2 a1_3 a1_4 a1_5 t143 t144 t145)) else (lookasidelaw09_FaultLess.j0 k t146 false a0_0 a0_1 a0_2 a0_3 a0_4 a0_5 a1_0 a1_1 a1_2 a1_3 a1_4 a1_5 t143 t144 t145)) = some r := by rw [if_pos rfl] at H; exact H
        clear H
        have H := H1
        clear H1
        by_cases c40 : t146 = true
        · subst c40
          have H1 : (if t147 = true then ((fault_Less.f k a0_0 a0_1 a0_2 a0_3 a0_4 a0_5 a2_0 a2_1 a2_2 a2_3 a2_4 a2_5).bind fun t150 => (lookasidelaw09_FaultLess.j0 k true (!t150) a0_0 a0_1 a0_2 a0_3 a0_4 a0_5 a1_0 a1_1 a1_2 a1_3 a1_4 a1_5 t143 t144 t145)) else (lookasidelaw09_FaultLess.j0 k true false a0_0 a0_1 a0_2 a0_3 a0_4 a0_5 a1_0 a1_1 a1_2 a1_3 a1_4 a1_5 t143 t144 t145)) = some r := by rw [if_pos rfl] at H; exact H
          clear H
          have H := H1
          clear H1
          by_cases c41 : t147 = true
          · subst c41
            have H1 : ((fault_Less.f k a0_0 a0_1 a0_2 a0_3 a0_4 a0_5 a2_0 a2_1 a2_2 a2_3 a2_4 a2_5).bind fun t150 => (lookasidelaw09_FaultLess.j0 k true (!t150) a0_0 a0_1 a0_2 a0_3 a0_4 a0_5 a1_0 a1_1 a1_2 a1_3 a1_4 a1_5 t143 t144 t145)) = some r := by rw [if_pos rfl] at H; exact H
            clear H
            have H := H1
            clear H1
            replace H := Option.bind_eq_some_iff.mp H
            obtain ⟨t150, A420, H⟩ := H
            replace H : (lookasidelaw09_FaultLess.j0 k true (!t150) a0_0 a0_1 a0_2 a0_3 a0_4 a0_5 a1_0 a1_1 a1_2 a1_3 a1_4 a1_5 t143 t144 t145) = some r := H
            have A42 := Aside0.mk A420
            clear A420
            have H' := Aside0.mk H
            clear H
            have hnb43 := NB139_140.out
            have hnc43 := NB140_139.out
            have hnb44 := NB139_141.out
            have hnc44 := NB141_139.out
            have hnb45 := NB139_142.out
            have hnc45 := NB142_139.out
            have hcz46_0 : w27.cell? ⟨gb139, 0, none⟩ = some (.bool a0_0) := (blk_cell BK139.out 0).trans rfl
            have hcz46_1 : w27.cell? ⟨gb139, 1, none⟩ = some (.bool a0_1) := (blk_cell BK139.out 1).trans rfl
            have hcz46_2 : w27.cell? ⟨gb139, 2, none⟩ = some (.bool a0_2) := (blk_cell BK139.out 2).trans rfl
            have hcz46_3 : w27.cell? ⟨gb139, 3, none⟩ = some (.bool a0_3) := (blk_cell BK139.out 3).trans rfl
            have hcz46_4 : w27.cell? ⟨gb139, 4, none⟩ = some (.bool a0_4) := (blk_cell BK139.out 4).trans rfl
            have hcz46_5 : w27.cell? ⟨gb139, 5, none⟩ = some (.bool a0_5) := (blk_cell BK139.out 5).trans rfl
            have hfz46_0 := blk_frozen BK139.out 0
            have hfz46_1 := blk_frozen BK139.out 1
            have hfz46_2 := blk_frozen BK139.out 2
            have hfz46_3 := blk_frozen BK139.out 3
            have hfz46_4 := blk_frozen BK139.out 4
            have hfz46_5 := blk_frozen BK139.out 5
            have hnb47 := NB140_141.out
            have hnc47 := NB141_140.out
            have hnb48 := NB140_142.out
            have hnc48 := NB142_140.out
            have hcz49_0 : w27.cell? ⟨gb140, 0, none⟩ = some (.bool a1_0) := (blk_cell BK140.out 0).trans rfl
            have hcz49_1 : w27.cell? ⟨gb140, 1, none⟩ = some (.bool a1_1) := (blk_cell BK140.out 1).trans rfl
            have hcz49_2 : w27.cell? ⟨gb140, 2, none⟩ = some (.bool a1_2) := (blk_cell BK140.out 2).trans rfl
            have hcz49_3 : w27.cell? ⟨gb140, 3, none⟩ = some (.bool a1_3) := (blk_cell BK140.out 3).trans rfl
            have hcz49_4 : w27.cell? ⟨gb140, 4, none⟩ = some (.bool a1_4) := (blk_cell BK140.out 4).trans rfl
            have hcz49_5 : w27.cell? ⟨gb140, 5, none⟩ = some (.bool a1_5) := (blk_cell BK140.out 5).trans rfl
            have hfz49_0 := blk_frozen BK140.out 0
            have hfz49_1 := blk_frozen BK140.out 1
            have hfz49_2 := blk_frozen BK140.out 2
            have hfz49_3 := blk_frozen BK140.out 3
            have hfz49_4 := blk_frozen BK140.out 4
            have hfz49_5 := blk_frozen BK140.out 5
            go_wp2_with (first | ((with_reducible refine gate_callee (f := 52) rfl ?_); refine goesL_ (some 22) rfl rfl Try.func52 (by kernel_rfl) rfl #[.agg #[.bool a0_0, .bool a0_1, .bool a0_2, .bool a0_3, .bool a0_4, .bool a0_5], .agg #[.bool a1_0, .bool a1_1, .bool a1_2, .bool a1_3, .bool a1_4, .bool a1_5]] rfl (by (try simp only [List.map_toArray, List.map_cons, List.map_nil]); first | done | rfl | (simp only [List.length_drop, List.length_take]; rfl)) ?_; (with_reducible refine (lookasideref09_Less.calls k a0_0 a0_1 a0_2 a0_3 a0_4 a0_5 a1_0 a1_1 a1_2 a1_3 a1_4 a1_5 t148 _ A28.out).mono ?_); rintro e w50 ⟨rfl, hb⟩; refine ⟨_, rfl, ?_⟩; have n0_ := Aside0.mk (blk_below (g := gb139) (o := .cells #[.bool a0_0, .bool a0_1, .bool a0_2, .bool a0_3, .bool a0_4, .bool a0_5] 41 (0, 0)) (by (with_reducible repeat (first | refine blk_drewN ?_ _ | refine blk_drew ?_ | refine blk_alloc ?_ _)); exact BK139.out) hb); have n1_ := Aside0.mk (blk_below (g := gb140) (o := .cells #[.bool a1_0, .bool a1_1, .bool a1_2, .bool a1_3, .bool a1_4, .bool a1_5] 41 (0, 0)) (by (with_reducible repeat (first | refine blk_drewN ?_ _ | refine blk_drew ?_ | refine blk_alloc ?_ _)); exact BK140.out) hb); have n2_ := Aside0.mk (blk_below (g := gb141) (o := .cells #[.bool a2_0, .bool a2_1, .bool a2_2, .bool a2_3, .bool a2_4, .bool a2_5] 41 (0, 0)) (by (with_reducible repeat (first | refine blk_drewN ?_ _ | refine blk_drew ?_ | refine blk_alloc ?_ _)); exact BK141.out) hb); have n3_ := Aside0.mk (blk_below (g := gb142) (o := .cells #[.int .i64 t143, .bool t144, .int .u64 t145] 43 (0, 0)) (by (with_reducible repeat (first | refine blk_drewN ?_ _ | refine blk_drew ?_ | refine blk_alloc ?_ _)); exact BK142.out) hb); have n4_ := Aside0.mk (below_step (by repeat (first | (with_reducible first | exact HB.out | apply below_alloc | apply pw_below_drewN | apply below_drew1 | refine below_set ?_ GE139.out | refine below_set ?_ GE140.out | refine below_set ?_ GE141.out | refine below_set ?_ GE142.out) | exact HB.out)) hb); clear BK139; clear BK140; clear BK141; clear BK142; clear HB; have BK139 := n0_; have BK140 := n1_; have BK141 := n2_; have BK142 := n3_; have HB := n4_; clear n0_ n1_ n2_ n3_ n4_; (try clear hb); (try clear hb2); (try clear hk); (try clear hi); have hcz51_0 : w50.cell? ⟨gb139, 0, none⟩ = some (.bool a0_0) := (blk_cell BK139.out 0).trans rfl; have hcz51_1 : w50.cell? ⟨gb139, 1, none⟩ = some (.bool a0_1) := (blk_cell BK139.out 1).trans rfl; have hcz51_2 : w50.cell? ⟨gb139, 2, none⟩ = some (.bool a0_2) := (blk_cell BK139.out 2).trans rfl; have hcz51_3 : w50.cell? ⟨gb139, 3, none⟩ = some (.bool a0_3) := (blk_cell BK139.out 3).trans rfl; have hcz51_4 : w50.cell? ⟨gb139, 4, none⟩ = some (.bool a0_4) := (blk_cell BK139.out 4).trans rfl; have hcz51_5 : w50.cell? ⟨gb139, 5, none⟩ = some (.bool a0_5) := (blk_cell BK139.out 5).trans rfl; have hfz51_0 := blk_frozen BK139.out 0; have hfz51_1 := blk_frozen BK139.out 1; have hfz51_2 := blk_frozen BK139.out 2; have hfz51_3 := blk_frozen BK139.out 3; have hfz51_4 := blk_frozen BK139.out 4; have hfz51_5 := blk_frozen BK139.out 5) | (go_at_call 51; (with_reducible refine (fault_Less.calls k a0_0 a0_1 a0_2 a0_3 a0_4 a0_5 a0_0 a0_1 a0_2 a0_3 a0_4 a0_5 true _ A38.out).mono ?_); rintro e w52 ⟨rfl, hb⟩; have n0_ := Aside0.mk (blk_below (g := gb139) (o := .cells #[.bool a0_0, .bool a0_1, .bool a0_2, .bool a0_3, .bool a0_4, .bool a0_5] 41 (0, 0)) (by (with_reducible repeat (first | refine blk_drewN ?_ _ | refine blk_drew ?_ | refine blk_alloc ?_ _)); exact BK139.out) hb); have n1_ := Aside0.mk (blk_below (g := gb140) (o := .cells #[.bool a1_0, .bool a1_1, .bool a1_2, .bool a1_3, .bool a1_4, .bool a1_5] 41 (0, 0)) (by (with_reducible repeat (first | refine blk_drewN ?_ _ | refine blk_drew ?_ | refine blk_alloc ?_ _)); exact BK140.out) hb); have n2_ := Aside0.mk (blk_below (g := gb141) (o := .cells #[.bool a2_0, .bool a2_1, .bool a2_2, .bool a2_3, .bool a2_4, .bool a2_5] 41 (0, 0)) (by (with_reducible repeat (first | refine blk_drewN ?_ _ | refine blk_drew ?_ | refine blk_alloc ?_ _)); exact BK141.out) hb); have n3_ := Aside0.mk (blk_below (g := gb142) (o := .cells #[.int .i64 t143, .bool t144, .int .u64 t145] 43 (0, 0)) (by (with_reducible repeat (first | refine blk_drewN ?_ _ | refine blk_drew ?_ | refine blk_alloc ?_ _)); exact BK142.out) hb); have n4_ := Aside0.mk (below_step (by repeat (first | (with_reducible first | exact HB.out | apply below_alloc | apply pw_below_drewN | apply below_drew1 | refine below_set ?_ GE139.out | refine below_set ?_ GE140.out | refine below_set ?_ GE141.out | refine below_set ?_ GE142.out) | exact HB.out)) hb); clear BK139; clear BK140; clear BK141; clear BK142; clear HB; have BK139 := n0_; have BK140 := n1_; have BK141 := n2_; have BK142 := n3_; have HB := n4_; clear n0_ n1_ n2_ n3_ n4_; (try clear hb); (try clear hb2); (try clear hk); (try clear hi); have hcz53_0 : w52.cell? ⟨gb139, 0, none⟩ = some (.bool a0_0) := (blk_cell BK139.out 0).trans rfl; have hcz53_1 : w52.cell? ⟨gb139, 1, none⟩ = some (.bool a0_1) := (blk_cell BK139.out 1).trans rfl; have hcz53_2 : w52.cell? ⟨gb139, 2, none⟩ = some (.bool a0_2) := (blk_cell BK139.out 2).trans rfl; have hcz53_3 : w52.cell? ⟨gb139, 3, none⟩ = some (.bool a0_3) := (blk_cell BK139.out 3).trans rfl; have hcz53_4 : w52.cell? ⟨gb139, 4, none⟩ = some (.bool a0_4) := (blk_cell BK139.out 4).trans rfl; have hcz53_5 : w52.cell? ⟨gb139, 5, none⟩ = some (.bool a0_5) := (blk_cell BK139.out 5).trans rfl; have hfz53_0 := blk_frozen BK139.out 0; have hfz53_1 := blk_frozen BK139.out 1; have hfz53_2 := blk_frozen BK139.out 2; have hfz53_3 := blk_frozen BK139.out 3; have hfz53_4 := blk_frozen BK139.out 4; have hfz53_5 := blk_frozen BK139.out 5; have hnb54 := NB141_142.out; have hnc54 := NB142_141.out; have hcz55_0 : w52.cell? ⟨gb141, 0, none⟩ = some (.bool a2_0) := (blk_cell BK141.out 0).trans rfl; have hcz55_1 : w52.cell? ⟨gb141, 1, none⟩ = some (.bool a2_1) := (blk_cell BK141.out 1).trans rfl; have hcz55_2 : w52.cell? ⟨gb141, 2, none⟩ = some (.bool a2_2) := (blk_cell BK141.out 2).trans rfl; have hcz55_3 : w52.cell? ⟨gb141, 3, none⟩ = some (.bool a2_3) := (blk_cell BK141.out 3).trans rfl; have hcz55_4 : w52.cell? ⟨gb141, 4, none⟩ = some (.bool a2_4) := (blk_cell BK141.out 4).trans rfl; have hcz55_5 : w52.cell? ⟨gb141, 5, none⟩ = some (.bool a2_5) := (blk_cell BK141.out 5).trans rfl; have hfz55_0 := blk_frozen BK141.out 0; have hfz55_1 := blk_frozen BK141.out 1; have hfz55_2 := blk_frozen BK141.out 2; have hfz55_3 := blk_frozen BK141.out 3; have hfz55_4 := blk_frozen BK141.out 4; have hfz55_5 := blk_frozen BK141.out 5) | (go_at_call 51; (with_reducible refine (fault_Less.calls k a0_0 a0_1 a0_2 a0_3 a0_4 a0_5 a2_0 a2_1 a2_2 a2_3 a2_4 a2_5 t150 _ A42.out).mono ?_); rintro e w56 ⟨rfl, hb⟩; have n0_ := Aside0.mk (blk_below (g := gb139) (o := .cells #[.bool a0_0, .bool a0_1, .bool a0_2, .bool a0_3, .bool a0_4, .bool a0_5] 41 (0, 0)) (by (with_reducible repeat (first | refine blk_drewN ?_ _ | refine blk_drew ?_ | refine blk_alloc ?_ _)); exact BK139.out) hb); have n1_ := Aside0.mk (blk_below (g := gb140) (o := .cells #[.bool a1_0, .bool a1_1, .bool a1_2, .bool a1_3, .bool a1_4, .bool a1_5] 41 (0, 0)) (by (with_reducible repeat (first | refine blk_drewN ?_ _ | refine blk_drew ?_ | refine blk_alloc ?_ _)); exact BK140.out) hb); have n2_ := Aside0.mk (blk_below (g := gb141) (o := .cells #[.bool a2_0, .bool a2_1, .bool a2_2, .bool a2_3, .bool a2_4, .bool a2_5] 41 (0, 0)) (by (with_reducible repeat (first | refine blk_drewN ?_ _ | refine blk_drew ?_ | refine blk_alloc ?_ _)); exact BK141.out) hb); have n3_ := Aside0.mk (blk_below (g := gb142) (o := .cells #[.int .i64 t143, .bool t144, .int .u64 t145] 43 (0, 0)) (by (with_reducible repeat (first | refine blk_drewN ?_ _ | refine blk_drew ?_ | refine blk_alloc ?_ _)); exact BK142.out) hb); have n4_ := Aside0.mk (below_step (by repeat (first | (with_reducible first | exact HB.out | apply below_alloc | apply pw_below_drewN | apply below_drew1 | refine below_set ?_ GE139.out | refine below_set ?_ GE140.out | refine below_set ?_ GE141.out | refine below_set ?_ GE142.out) | exact HB.out)) hb); clear BK139; clear BK140; clear BK141; clear BK142; clear HB; have BK139 := n0_; have BK140 := n1_; have BK141 := n2_; have BK142 := n3_; have HB := n4_; clear n0_ n1_ n2_ n3_ n4_; (try clear hb); (try clear hb2); (try clear hk); (try clear hi)))
            go_meet
            case rel => exact ⟨_, (!t150), (by first | rfl | (simp; done) | (simp [*]; done)), H', ⟨by first | omega | exact Nat.le_refl _⟩, ⟨by (with_reducible repeat (first | refine blk_drewN ?_ _ | refine blk_drew ?_ | refine blk_alloc ?_ _)); exact BK139.out⟩, ⟨by (with_reducible repeat (first | refine blk_drewN ?_ _ | refine blk_drew ?_ | refine blk_alloc ?_ _)); exact BK140.out⟩, ⟨by (with_reducible repeat (first | refine blk_drewN ?_ _ | refine blk_drew ?_ | refine blk_alloc ?_ _)); exact BK141.out⟩, ⟨by (with_reducible repeat (first | refine blk_drewN ?_ _ | refine blk_drew ?_ | refine blk_alloc ?_ _)); exact BK142.out⟩, ⟨by repeat (first | (with_reducible first | exact HB.out | apply below_alloc | apply pw_below_drewN | apply below_drew1 | refine below_set ?_ GE139.out | refine below_set ?_ GE140.out | refine below_set ?_ GE141.out | refine below_set ?_ GE142.out) | exact HB.out)⟩⟩
          · replace c41 := Bool.eq_false_iff.mpr c41
            subst c41
            have H1 : (lookasidelaw09_FaultLess.j0 k true false a0_0 a0_1 a0_2 a0_3 a0_4 a0_5 a1_0 a1_1 a1_2 a1_3 a1_4 a1_5 t143 t144 t145) = some r := by rw [if_neg (show ¬ (false = true) by decide)] at H; exact H
            clear H
            have H := H1
            clear H1
            have H' := Aside0.mk H
            clear H
            have hnb57 := NB139_140.out
            have hnc57 := NB140_139.out
            have hnb58 := NB139_141.out
            have hnc58 := NB141_139.out
            have hnb59 := NB139_142.out
            have hnc59 := NB142_139.out
            have hcz60_0 : w27.cell? ⟨gb139, 0, none⟩ = some (.bool a0_0) := (blk_cell BK139.out 0).trans rfl
            have hcz60_1 : w27.cell? ⟨gb139, 1, none⟩ = some (.bool a0_1) := (blk_cell BK139.out 1).trans rfl
            have hcz60_2 : w27.cell? ⟨gb139, 2, none⟩ = some (.bool a0_2) := (blk_cell BK139.out 2).trans rfl
            have hcz60_3 : w27.cell? ⟨gb139, 3, none⟩ = some (.bool a0_3) := (blk_cell BK139.out 3).trans rfl
            have hcz60_4 : w27.cell? ⟨gb139, 4, none⟩ = some (.bool a0_4) := (blk_cell BK139.out 4).trans rfl
            have hcz60_5 : w27.cell? ⟨gb139, 5, none⟩ = some (.bool a0_5) := (blk_cell BK139.out 5).trans rfl
            have hfz60_0 := blk_frozen BK139.out 0
            have hfz60_1 := blk_frozen BK139.out 1
            have hfz60_2 := blk_frozen BK139.out 2
            have hfz60_3 := blk_frozen BK139.out 3
            have hfz60_4 := blk_frozen BK139.out 4
            have hfz60_5 := blk_frozen BK139.out 5
            have hnb61 := NB140_141.out
            have hnc61 := NB141_140.out
            have hnb62 := NB140_142.out
            have hnc62 := NB142_140.out
            have hcz63_0 : w27.cell? ⟨gb140, 0, none⟩ = some (.bool a1_0) := (blk_cell BK140.out 0).trans rfl
            have hcz63_1 : w27.cell? ⟨gb140, 1, none⟩ = some (.bool a1_1) := (blk_cell BK140.out 1).trans rfl
            have hcz63_2 : w27.cell? ⟨gb140, 2, none⟩ = some (.bool a1_2) := (blk_cell BK140.out 2).trans rfl
            have hcz63_3 : w27.cell? ⟨gb140, 3, none⟩ = some (.bool a1_3) := (blk_cell BK140.out 3).trans rfl
            have hcz63_4 : w27.cell? ⟨gb140, 4, none⟩ = some (.bool a1_4) := (blk_cell BK140.out 4).trans rfl
            have hcz63_5 : w27.cell? ⟨gb140, 5, none⟩ = some (.bool a1_5) := (blk_cell BK140.out 5).trans rfl
            have hfz63_0 := blk_frozen BK140.out 0
            have hfz63_1 := blk_frozen BK140.out 1
            have hfz63_2 := blk_frozen BK140.out 2
            have hfz63_3 := blk_frozen BK140.out 3
            have hfz63_4 := blk_frozen BK140.out 4
            have hfz63_5 := blk_frozen BK140.out 5
            go_wp2_with (first | ((with_reducible refine gate_callee (f := 52) rfl ?_); refine goesL_ (some 22) rfl rfl Try.func52 (by kernel_rfl) rfl #[.agg #[.bool a0_0, .bool a0_1, .bool a0_2, .bool a0_3, .bool a0_4, .bool a0_5], .agg #[.bool a1_0, .bool a1_1, .bool a1_2, .bool a1_3, .bool a1_4, .bool a1_5]] rfl (by (try simp only [List.map_toArray, List.map_cons, List.map_nil]); first | done | rfl | (simp only [List.length_drop, List.length_take]; rfl)) ?_; (with_reducible refine (lookasideref09_Less.calls k a0_0 a0_1 a0_2 a0_3 a0_4 a0_5 a1_0 a1_1 a1_2 a1_3 a1_4 a1_5 t148 _ A28.out).mono ?_); rintro e w64 ⟨rfl, hb⟩; refine ⟨_, rfl, ?_⟩; have n0_ := Aside0.mk (blk_below (g := gb139) (o := .cells #[.bool a0_0, .bool a0_1, .bool a0_2, .bool a0_3, .bool a0_4, .bool a0_5] 41 (0, 0)) (by (with_reducible repeat (first | refine blk_drewN ?_ _ | refine blk_drew ?_ | refine blk_alloc ?_ _)); exact BK139.out) hb); have n1_ := Aside0.mk (blk_below (g := gb140) (o := .cells #[.bool a1_0, .bool a1_1, .bool a1_2, .bool a1_3, .bool a1_4, .bool a1_5] 41 (0, 0)) (by (with_reducible repeat (first | refine blk_drewN ?_ _ | refine blk_drew ?_ | refine blk_alloc ?_ _)); exact BK140.out) hb); have n2_ := Aside0.mk (blk_below (g := gb141) (o := .cells #[.bool a2_0, .bool a2_1, .bool a2_2, .bool a2_3, .bool a2_4, .bool a2_5] 41 (0, 0)) (by (with_reducible repeat (first | refine blk_drewN ?_ _ | refine blk_drew ?_ | refine blk_alloc ?_ _)); exact BK141.out) hb); have n3_ := Aside0.mk (blk_below (g := gb142) (o := .cells #[.int .i64 t143, .bool t144, .int .u64 t145] 43 (0, 0)) (by (with_reducible repeat (first | refine blk_drewN ?_ _ | refine blk_drew ?_ | refine blk_alloc ?_ _)); exact BK142.out) hb); have n4_ := Aside0.mk (below_step (by repeat (first | (with_reducible first | exact HB.out | apply below_alloc | apply pw_below_drewN | apply below_drew1 | refine below_set ?_ GE139.out | refine below_set ?_ GE140.out | refine below_set ?_ GE141.out | refine below_set ?_ GE142.out) | exact HB.out)) hb); clear BK139; clear BK140; clear BK141; clear BK142; clear HB; have BK139 := n0_; have BK140 := n1_; have BK141 := n2_; have BK142 := n3_; have HB := n4_; clear n0_ n1_ n2_ n3_ n4_; (try clear hb); (try clear hb2); (try clear hk); (try clear hi); have hcz65_0 : w64.cell? ⟨gb139, 0, none⟩ = some (.bool a0_0) := (blk_cell BK139.out 0).trans rfl; have hcz65_1 : w64.cell? ⟨gb139, 1, none⟩ = some (.bool a0_1) := (blk_cell BK139.out 1).trans rfl; have hcz65_2 : w64.cell? ⟨gb139, 2, none⟩ = some (.bool a0_2) := (blk_cell BK139.out 2).trans rfl; have hcz65_3 : w64.cell? ⟨gb139, 3, none⟩ = some (.bool a0_3) := (blk_cell BK139.out 3).trans rfl; have hcz65_4 : w64.cell? ⟨gb139, 4, none⟩ = some (.bool a0_4) := (blk_cell BK139.out 4).trans rfl; have hcz65_5 : w64.cell? ⟨gb139, 5, none⟩ = some (.bool a0_5) := (blk_cell BK139.out 5).trans rfl; have hfz65_0 := blk_frozen BK139.out 0; have hfz65_1 := blk_frozen BK139.out 1; have hfz65_2 := blk_frozen BK139.out 2; have hfz65_3 := blk_frozen BK139.out 3; have hfz65_4 := blk_frozen BK139.out 4; have hfz65_5 := blk_frozen BK139.out 5) | (go_at_call 51; (with_reducible refine (fault_Less.calls k a0_0 a0_1 a0_2 a0_3 a0_4 a0_5 a0_0 a0_1 a0_2 a0_3 a0_4 a0_5 true _ A38.out).mono ?_); rintro e w66 ⟨rfl, hb⟩; have n0_ := Aside0.mk (blk_below (g := gb139) (o := .cells #[.bool a0_0, .bool a0_1, .bool a0_2, .bool a0_3, .bool a0_4, .bool a0_5] 41 (0, 0)) (by (with_reducible repeat (first | refine blk_drewN ?_ _ | refine blk_drew ?_ | refine blk_alloc ?_ _)); exact BK139.out) hb); have n1_ := Aside0.mk (blk_below (g := gb140) (o := .cells #[.bool a1_0, .bool a1_1, .bool a1_2, .bool a1_3, .bool a1_4, .bool a1_5] 41 (0, 0)) (by (with_reducible repeat (first | refine blk_drewN ?_ _ | refine blk_drew ?_ | refine blk_alloc ?_ _)); exact BK140.out) hb); have n2_ := Aside0.mk (blk_below (g := gb141) (o := .cells #[.bool a2_0, .bool a2_1, .bool a2_2, .bool a2_3, .bool a2_4, .bool a2_5] 41 (0, 0)) (by (with_reducible repeat (first | refine blk_drewN ?_ _ | refine blk_drew ?_ | refine blk_alloc ?_ _)); exact BK141.out) hb); have n3_ := Aside0.mk (blk_below (g := gb142) (o := .cells #[.int .i64 t143, .bool t144, .int .u64 t145] 43 (0, 0)) (by (with_reducible repeat (first | refine blk_drewN ?_ _ | refine blk_drew ?_ | refine blk_alloc ?_ _)); exact BK142.out) hb); have n4_ := Aside0.mk (below_step (by repeat (first | (with_reducible first | exact HB.out | apply below_alloc | apply pw_below_drewN | apply below_drew1 | refine below_set ?_ GE139.out | refine below_set ?_ GE140.out | refine below_set ?_ GE141.out | refine below_set ?_ GE142.out) | exact HB.out)) hb); clear BK139; clear BK140; clear BK141; clear BK142; clear HB; have BK139 := n0_; have BK140 := n1_; have BK141 := n2_; have BK142 := n3_; have HB := n4_; clear n0_ n1_ n2_ n3_ n4_; (try clear hb); (try clear hb2); (try clear hk); (try clear hi)))
            go_meet
            case rel => exact ⟨_, (false), (by first | rfl | (simp; done) | (simp [*]; done)), H', ⟨by first | omega | exact Nat.le_refl _⟩, ⟨by (with_reducible repeat (first | refine blk_drewN ?_ _ | refine blk_drew ?_ | refine blk_alloc ?_ _)); exact BK139.out⟩, ⟨by (with_reducible repeat (first | refine blk_drewN ?_ _ | refine blk_drew ?_ | refine blk_alloc ?_ _)); exact BK140.out⟩, ⟨by (with_reducible repeat (first | refine blk_drewN ?_ _ | refine blk_drew ?_ | refine blk_alloc ?_ _)); exact BK141.out⟩, ⟨by (with_reducible repeat (first | refine blk_drewN ?_ _ | refine blk_drew ?_ | refine blk_alloc ?_ _)); exact BK142.out⟩, ⟨by repeat (first | (with_reducible first | exact HB.out | apply below_alloc | apply pw_below_drewN | apply below_drew1 | refine below_set ?_ GE139.out | refine below_set ?_ GE140.out | refine below_set ?_ GE141.out | refine below_set ?_ GE142.out) | exact HB.out)⟩⟩
        · replace c40 := Bool.eq_false_iff.mpr c40
          subst c40
          have H1 : (lookasidelaw09_FaultLess.j0 k false false a0_0 a0_1 a0_2 a0_3 a0_4 a0_5 a1_0 a1_1 a1_2 a1_3 a1_4 a1_5 t143 t144 t145) = some r := by rw [if_neg (show ¬ (false = true) by decide)] at H; exact H
          clear H
          have H := H1
          clear H1
          have H' := Aside0.mk H
          clear H
          have hnb67 := NB139_140.out
          have hnc67 := NB140_139.out
          have hnb68 := NB139_141.out
          have hnc68 := NB141_139.out
          have hnb69 := NB139_142.out
          have hnc69 := NB142_139.out
          have hcz70_0 : w27.cell? ⟨gb139, 0, none⟩ = some (.bool a0_0) := (blk_cell BK139.out 0).trans rfl
          have hcz70_1 : w27.cell? ⟨gb139, 1, none⟩ = some (.bool a0_1) := (blk_cell BK139.out 1).trans rfl
          have hcz70_2 : w27.cell? ⟨gb139, 2, none⟩ = some (.bool a0_2) := (blk_cell BK139.out 2).trans rfl
          have hcz70_3 : w27.cell? ⟨gb139, 3, none⟩ = some (.bool a0_3) := (blk_cell BK139.out 3).trans rfl
          have hcz70_4 : w27.cell? ⟨gb139, 4, none⟩ = some (.bool a0_4) := (blk_cell BK139.out 4).trans rfl
          have hcz70_5 : w27.cell? ⟨gb139, 5, none⟩ = some (.bool a0_5) := (blk_cell BK139.out 5).trans rfl
          have hfz70_0 := blk_frozen BK139.out 0
          have hfz70_1 := blk_frozen BK139.out 1
          have hfz70_2 := blk_frozen BK139.out 2
          have hfz70_3 := blk_frozen BK139.out 3
          have hfz70_4 := blk_frozen BK139.out 4
          have hfz70_5 := blk_frozen BK139.out 5
          have hnb71 := NB140_141.out
          have hnc71 := NB141_140.out
          have hnb72 := NB140_142.out
          have hnc72 := NB142_140.out
          have hcz73_0 : w27.cell? ⟨gb140, 0, none⟩ = some (.bool a1_0) := (blk_cell BK140.out 0).trans rfl
          have hcz73_1 : w27.cell? ⟨gb140, 1, none⟩ = some (.bool a1_1) := (blk_cell BK140.out 1).trans rfl
          have hcz73_2 : w27.cell? ⟨gb140, 2, none⟩ = some (.bool a1_2) := (blk_cell BK140.out 2).trans rfl
          have hcz73_3 : w27.cell? ⟨gb140, 3, none⟩ = some (.bool a1_3) := (blk_cell BK140.out 3).trans rfl
          have hcz73_4 : w27.cell? ⟨gb140, 4, none⟩ = some (.bool a1_4) := (blk_cell BK140.out 4).trans rfl
          have hcz73_5 : w27.cell? ⟨gb140, 5, none⟩ = some (.bool a1_5) := (blk_cell BK140.out 5).trans rfl
          have hfz73_0 := blk_frozen BK140.out 0
          have hfz73_1 := blk_frozen BK140.out 1
          have hfz73_2 := blk_frozen BK140.out 2
          have hfz73_3 := blk_frozen BK140.out 3
          have hfz73_4 := blk_frozen BK140.out 4
          have hfz73_5 := blk_frozen BK140.out 5
          go_wp2_with (first | ((with_reducible refine gate_callee (f := 52) rfl ?_); refine goesL_ (some 22) rfl rfl Try.func52 (by kernel_rfl) rfl #[.agg #[.bool a0_0, .bool a0_1, .bool a0_2, .bool a0_3, .bool a0_4, .bool a0_5], .agg #[.bool a1_0, .bool a1_1, .bool a1_2, .bool a1_3, .bool a1_4, .bool a1_5]] rfl (by (try simp only [List.map_toArray, List.map_cons, List.map_nil]); first | done | rfl | (simp only [List.length_drop, List.length_take]; rfl)) ?_; (with_reducible refine (lookasideref09_Less.calls k a0_0 a0_1 a0_2 a0_3 a0_4 a0_5 a1_0 a1_1 a1_2 a1_3 a1_4 a1_5 t148 _ A28.out).mono ?_); rintro e w74 ⟨rfl, hb⟩; refine ⟨_, rfl, ?_⟩; have n0_ := Aside0.mk (blk_below (g := gb139) (o := .cells #[.bool a0_0, .bool a0_1, .bool a0_2, .bool a0_3, .bool a0_4, .bool a0_5] 41 (0, 0)) (by (with_reducible repeat (first | refine blk_drewN ?_ _ | refine blk_drew ?_ | refine blk_alloc ?_ _)); exact BK139.out) hb); have n1_ := Aside0.mk (blk_below (g := gb140) (o := .cells #[.bool a1_0, .bool a1_1, .bool a1_2, .bool a1_3, .bool a1_4, .bool a1_5] 41 (0, 0)) (by (with_reducible repeat (first | refine blk_drewN ?_ _ | refine blk_drew ?_ | refine blk_alloc ?_ _)); exact BK140.out) hb); have n2_ := Aside0.mk (blk_below (g := gb141) (o := .cells #[.bool a2_0, .bool a2_1, .bool a2_2, .bool a2_3, .bool a2_4, .bool a2_5] 41 (0, 0)) (by (with_reducible repeat (first | refine blk_drewN ?_ _ | refine blk_drew ?_ | refine blk_alloc ?_ _)); exact BK141.out) hb); have n3_ := Aside0.mk (blk_below (g := gb142) (o := .cells #[.int .i64 t143, .bool t144, .int .u64 t145] 43 (0, 0)) (by (with_reducible repeat (first | refine blk_drewN ?_ _ | refine blk_drew ?_ | refine blk_alloc ?_ _)); exact BK142.out) hb); have n4_ := Aside0.mk (below_step (by repeat (first | (with_reducible first | exact HB.out | apply below_alloc | apply pw_below_drewN | apply below_drew1 | refine below_set ?_ GE139.out | refine below_set ?_ GE140.out | refine below_set ?_ GE141.out | refine below_set ?_ GE142.out) | exact HB.out)) hb); clear BK139; clear BK140; clear BK141; clear BK142; clear HB; have BK139 := n0_; have BK140 := n1_; have BK141 := n2_; have BK142 := n3_; have HB := n4_; clear n0_ n1_ n2_ n3_ n4_; (try clear hb); (try clear hb2); (try clear hk); (try clear hi); have hcz75_0 : w74.cell? ⟨gb139, 0, none⟩ = some (.bool a0_0) := (blk_cell BK139.out 0).trans rfl; have hcz75_1 : w74.cell? ⟨gb139, 1, none⟩ = some (.bool a0_1) := (blk_cell BK139.out 1).trans rfl; have hcz75_2 : w74.cell? ⟨gb139, 2, none⟩ = some (.bool a0_2) := (blk_cell BK139.out 2).trans rfl; have hcz75_3 : w74.cell? ⟨gb139, 3, none⟩ = some (.bool a0_3) := (blk_cell BK139.out 3).trans rfl; have hcz75_4 : w74.cell? ⟨gb139, 4, none⟩ = some (.bool a0_4) := (blk_cell BK139.out 4).trans rfl; have hcz75_5 : w74.cell? ⟨gb139, 5, none⟩ = some (.bool a0_5) := (blk_cell BK139.out 5).trans rfl; have hfz75_0 := blk_frozen BK139.out 0; have hfz75_1 := blk_frozen BK139.out 1; have hfz75_2 := blk_frozen BK139.out 2; have hfz75_3 := blk_frozen BK139.out 3; have hfz75_4 := blk_frozen BK139.out 4; have hfz75_5 := blk_frozen BK139.out 5) | (go_at_call 51; (with_reducible refine (fault_Less.calls k a0_0 a0_1 a0_2 a0_3 a0_4 a0_5 a0_0 a0_1 a0_2 a0_3 a0_4 a0_5 true _ A38.out).mono ?_); rintro e w76 ⟨rfl, hb⟩; have n0_ := Aside0.mk (blk_below (g := gb139) (o := .cells #[.bool a0_0, .bool a0_1, .bool a0_2, .bool a0_3, .bool a0_4, .bool a0_5] 41 (0, 0)) (by (with_reducible repeat (first | refine blk_drewN ?_ _ | refine blk_drew ?_ | refine blk_alloc ?_ _)); exact BK139.out) hb); have n1_ := Aside0.mk (blk_below (g := gb140) (o := .cells #[.bool a1_0, .bool a1_1, .bool a1_2, .bool a1_3, .bool a1_4, .bool a1_5] 41 (0, 0)) (by (with_reducible repeat (first | refine blk_drewN ?_ _ | refine blk_drew ?_ | refine blk_alloc ?_ _)); exact BK140.out) hb); have n2_ := Aside0.mk (blk_below (g := gb141) (o := .cells #[.bool a2_0, .bool a2_1, .bool a2_2, .bool a2_3, .bool a2_4, .bool a2_5] 41 (0, 0)) (by (with_reducible repeat (first | refine blk_drewN ?_ _ | refine blk_drew ?_ | refine blk_alloc ?_ _)); exact BK141.out) hb); have n3_ := Aside0.mk (blk_below (g := gb142) (o := .cells #[.int .i64 t143, .bool t144, .int .u64 t145] 43 (0, 0)) (by (with_reducible repeat (first | refine blk_drewN ?_ _ | refine blk_drew ?_ | refine blk_alloc ?_ _)); exact BK142.out) hb); have n4_ := Aside0.mk (below_step (by repeat (first | (with_reducible first | exact HB.out | apply below_alloc | apply pw_below_drewN | apply below_drew1 | refine below_set ?_ GE139.out | refine below_set ?_ GE140.out | refine below_set ?_ GE141.out | refine below_set ?_ GE142.out) | exact HB.out)) hb); clear BK139; clear BK140; clear BK141; clear BK142; clear HB; have BK139 := n0_; have BK140 := n1_; have BK141 := n2_; have BK142 := n3_; have HB := n4_; clear n0_ n1_ n2_ n3_ n4_; (try clear hb); (try clear hb2); (try clear hk); (try clear hi)))
          go_meet
          case rel => exact ⟨_, (false), (by first | rfl | (simp; done) | (simp [*]; done)), H', ⟨by first | omega | exact Nat.le_refl _⟩, ⟨by (with_reducible repeat (first | refine blk_drewN ?_ _ | refine blk_drew ?_ | refine blk_alloc ?_ _)); exact BK139.out⟩, ⟨by (with_reducible repeat (first | refine blk_drewN ?_ _ | refine blk_drew ?_ | refine blk_alloc ?_ _)); exact BK140.out⟩, ⟨by (with_reducible repeat (first | refine blk_drewN ?_ _ | refine blk_drew ?_ | refine blk_alloc ?_ _)); exact BK141.out⟩, ⟨by (with_reducible repeat (first | refine blk_drewN ?_ _ | refine blk_drew ?_ | refine blk_alloc ?_ _)); exact BK142.out⟩, ⟨by repeat (first | (with_reducible first | exact HB.out | apply below_alloc | apply pw_below_drewN | apply below_drew1 | refine below_set ?_ GE139.out | refine below_set ?_ GE140.out | refine below_set ?_ GE141.out | refine below_set ?_ GE142.out) | exact HB.out)⟩⟩
      · replace c39 := Bool.eq_false_iff.mpr c39
        subst c39
        have H1 : (lookasidelaw09_FaultLess.j0 k t146 true a0_0 a0_1 a0_2 a0_3 a0_4 a0_5 a1_0 a1_1 a1_2 a1_3 a1_4 a1_5 t143 t144 t145) = some r := by rw [if_neg (show ¬ (false = true) by decide)] at H; exact H
        clear H
        have H := H1
        clear H1
        have H' := Aside0.mk H
        clear H
        have hnb77 := NB139_140.out
        have hnc77 := NB140_139.out
        have hnb78 := NB139_141.out
        have hnc78 := NB141_139.out
        have hnb79 := NB139_142.out
        have hnc79 := NB142_139.out
        have hcz80_0 : w27.cell? ⟨gb139, 0, none⟩ = some (.bool a0_0) := (blk_cell BK139.out 0).trans rfl
        have hcz80_1 : w27.cell? ⟨gb139, 1, none⟩ = some (.bool a0_1) := (blk_cell BK139.out 1).trans rfl
        have hcz80_2 : w27.cell? ⟨gb139, 2, none⟩ = some (.bool a0_2) := (blk_cell BK139.out 2).trans rfl
        have hcz80_3 : w27.cell? ⟨gb139, 3, none⟩ = some (.bool a0_3) := (blk_cell BK139.out 3).trans rfl
        have hcz80_4 : w27.cell? ⟨gb139, 4, none⟩ = some (.bool a0_4) := (blk_cell BK139.out 4).trans rfl
        have hcz80_5 : w27.cell? ⟨gb139, 5, none⟩ = some (.bool a0_5) := (blk_cell BK139.out 5).trans rfl
        have hfz80_0 := blk_frozen BK139.out 0
        have hfz80_1 := blk_frozen BK139.out 1
        have hfz80_2 := blk_frozen BK139.out 2
        have hfz80_3 := blk_frozen BK139.out 3
        have hfz80_4 := blk_frozen BK139.out 4
        have hfz80_5 := blk_frozen BK139.out 5
        have hnb81 := NB140_141.out
        have hnc81 := NB141_140.out
        have hnb82 := NB140_142.out
        have hnc82 := NB142_140.out
        have hcz83_0 : w27.cell? ⟨gb140, 0, none⟩ = some (.bool a1_0) := (blk_cell BK140.out 0).trans rfl
        have hcz83_1 : w27.cell? ⟨gb140, 1, none⟩ = some (.bool a1_1) := (blk_cell BK140.out 1).trans rfl
        have hcz83_2 : w27.cell? ⟨gb140, 2, none⟩ = some (.bool a1_2) := (blk_cell BK140.out 2).trans rfl
        have hcz83_3 : w27.cell? ⟨gb140, 3, none⟩ = some (.bool a1_3) := (blk_cell BK140.out 3).trans rfl
        have hcz83_4 : w27.cell? ⟨gb140, 4, none⟩ = some (.bool a1_4) := (blk_cell BK140.out 4).trans rfl
        have hcz83_5 : w27.cell? ⟨gb140, 5, none⟩ = some (.bool a1_5) := (blk_cell BK140.out 5).trans rfl
        have hfz83_0 := blk_frozen BK140.out 0
        have hfz83_1 := blk_frozen BK140.out 1
        have hfz83_2 := blk_frozen BK140.out 2
        have hfz83_3 := blk_frozen BK140.out 3
        have hfz83_4 := blk_frozen BK140.out 4
        have hfz83_5 := blk_frozen BK140.out 5
        go_wp2_with (first | ((with_reducible refine gate_callee (f := 52) rfl ?_); refine goesL_ (some 22) rfl rfl Try.func52 (by kernel_rfl) rfl #[.agg #[.bool a0_0, .bool a0_1, .bool a0_2, .bool a0_3, .bool a0_4, .bool a0_5], .agg #[.bool a1_0, .bool a1_1, .bool a1_2, .bool a1_3, .bool a1_4, .bool a1_5]] rfl (by (try simp only [List.map_toArray, List.map_cons, List.map_nil]); first | done | rfl | (simp only [List.length_drop, List.length_take]; rfl)) ?_; (with_reducible refine (lookasideref09_Less.calls k a0_0 a0_1 a0_2 a0_3 a0_4 a0_5 a1_0 a1_1 a1_2 a1_3 a1_4 a1_5 t148 _ A28.out).mono ?_); rintro e w84 ⟨rfl, hb⟩; refine ⟨_, rfl, ?_⟩; have n0_ := Aside0.mk (blk_below (g := gb139) (o := .cells #[.bool a0_0, .bool a0_1, .bool a0_2, .bool a0_3, .bool a0_4, .bool a0_5] 41 (0, 0)) (by (with_reducible repeat (first | refine blk_drewN ?_ _ | refine blk_drew ?_ | refine blk_alloc ?_ _)); exact BK139.out) hb); have n1_ := Aside0.mk (blk_below (g := gb140) (o := .cells #[.bool a1_0, .bool a1_1, .bool a1_2, .bool a1_3, .bool a1_4, .bool a1_5] 41 (0, 0)) (by (with_reducible repeat (first | refine blk_drewN ?_ _ | refine blk_drew ?_ | refine blk_alloc ?_ _)); exact BK140.out) hb); have n2_ := Aside0.mk (blk_below (g := gb141) (o := .cells #[.bool a2_0, .bool a2_1, .bool a2_2, .bool a2_3, .bool a2_4, .bool a2_5] 41 (0, 0)) (by (with_reducible repeat (first | refine blk_drewN ?_ _ | refine blk_drew ?_ | refine blk_alloc ?_ _)); exact BK141.out) hb); have n3_ := Aside0.mk (blk_below (g := gb142) (o := .cells #[.int .i64 t143, .bool t144, .int .u64 t145] 43 (0, 0)) (by (with_reducible repeat (first | refine blk_drewN ?_ _ | refine blk_drew ?_ | refine blk_alloc ?_ _)); exact BK142.out) hb); have n4_ := Aside0.mk (below_step (by repeat (first | (with_reducible first | exact HB.out | apply below_alloc | apply pw_below_drewN | apply below_drew1 | refine below_set ?_ GE139.out | refine below_set ?_ GE140.out | refine below_set ?_ GE141.out | refine below_set ?_ GE142.out) | exact HB.out)) hb); clear BK139; clear BK140; clear BK141; clear BK142; clear HB; have BK139 := n0_; have BK140 := n1_; have BK141 := n2_; have BK142 := n3_; have HB := n4_; clear n0_ n1_ n2_ n3_ n4_; (try clear hb); (try clear hb2); (try clear hk); (try clear hi); have hcz85_0 : w84.cell? ⟨gb139, 0, none⟩ = some (.bool a0_0) := (blk_cell BK139.out 0).trans rfl; have hcz85_1 : w84.cell? ⟨gb139, 1, none⟩ = some (.bool a0_1) := (blk_cell BK139.out 1).trans rfl; have hcz85_2 : w84.cell? ⟨gb139, 2, none⟩ = some (.bool a0_2) := (blk_cell BK139.out 2).trans rfl; have hcz85_3 : w84.cell? ⟨gb139, 3, none⟩ = some (.bool a0_3) := (blk_cell BK139.out 3).trans rfl; have hcz85_4 : w84.cell? ⟨gb139, 4, none⟩ = some (.bool a0_4) := (blk_cell BK139.out 4).trans rfl; have hcz85_5 : w84.cell? ⟨gb139, 5, none⟩ = some (.bool a0_5) := (blk_cell BK139.out 5).trans rfl; have hfz85_0 := blk_frozen BK139.out 0; have hfz85_1 := blk_frozen BK139.out 1; have hfz85_2 := blk_frozen BK139.out 2; have hfz85_3 := blk_frozen BK139.out 3; have hfz85_4 := blk_frozen BK139.out 4; have hfz85_5 := blk_frozen BK139.out 5) | (go_at_call 51; (with_reducible refine (fault_Less.calls k a0_0 a0_1 a0_2 a0_3 a0_4 a0_5 a0_0 a0_1 a0_2 a0_3 a0_4 a0_5 false _ A38.out).mono ?_); rintro e w86 ⟨rfl, hb⟩; have n0_ := Aside0.mk (blk_below (g := gb139) (o := .cells #[.bool a0_0, .bool a0_1, .bool a0_2, .bool a0_3, .bool a0_4, .bool a0_5] 41 (0, 0)) (by (with_reducible repeat (first | refine blk_drewN ?_ _ | refine blk_drew ?_ | refine blk_alloc ?_ _)); exact BK139.out) hb); have n1_ := Aside0.mk (blk_below (g := gb140) (o := .cells #[.bool a1_0, .bool a1_1, .bool a1_2, .bool a1_3, .bool a1_4, .bool a1_5] 41 (0, 0)) (by (with_reducible repeat (first | refine blk_drewN ?_ _ | refine blk_drew ?_ | refine blk_alloc ?_ _)); exact BK140.out) hb); have n2_ := Aside0.mk (blk_below (g := gb141) (o := .cells #[.bool a2_0, .bool a2_1, .bool a2_2, .bool a2_3, .bool a2_4, .bool a2_5] 41 (0, 0)) (by (with_reducible repeat (first | refine blk_drewN ?_ _ | refine blk_drew ?_ | refine blk_alloc ?_ _)); exact BK141.out) hb); have n3_ := Aside0.mk (blk_below (g := gb142) (o := .cells #[.int .i64 t143, .bool t144, .int .u64 t145] 43 (0, 0)) (by (with_reducible repeat (first | refine blk_drewN ?_ _ | refine blk_drew ?_ | refine blk_alloc ?_ _)); exact BK142.out) hb); have n4_ := Aside0.mk (below_step (by repeat (first | (with_reducible first | exact HB.out | apply below_alloc | apply pw_below_drewN | apply below_drew1 | refine below_set ?_ GE139.out | refine below_set ?_ GE140.out | refine below_set ?_ GE141.out | refine below_set ?_ GE142.out) | exact HB.out)) hb); clear BK139; clear BK140; clear BK141; clear BK142; clear HB; have BK139 := n0_; have BK140 := n1_; have BK141 := n2_; have BK142 := n3_; have HB := n4_; clear n0_ n1_ n2_ n3_ n4_; (try clear hb); (try clear hb2); (try clear hk); (try clear hi)))
        go_meet
        case rel => exact ⟨_, (true), (by first | rfl | (simp; done) | (simp [*]; done)), H', ⟨by first | omega | exact Nat.le_refl _⟩, ⟨by (with_reducible repeat (first | refine blk_drewN ?_ _ | refine blk_drew ?_ | refine blk_alloc ?_ _)); exact BK139.out⟩, ⟨by (with_reducible repeat (first | refine blk_drewN ?_ _ | refine blk_drew ?_ | refine blk_alloc ?_ _)); exact BK140.out⟩, ⟨by (with_reducible repeat (first | refine blk_drewN ?_ _ | refine blk_drew ?_ | refine blk_alloc ?_ _)); exact BK141.out⟩, ⟨by (with_reducible repeat (first | refine blk_drewN ?_ _ | refine blk_drew ?_ | refine blk_alloc ?_ _)); exact BK142.out⟩, ⟨by repeat (first | (with_reducible first | exact HB.out | apply below_alloc | apply pw_below_drewN | apply below_drew1 | refine below_set ?_ GE139.out | refine below_set ?_ GE140.out | refine below_set ?_ GE141.out | refine below_set ?_ GE142.out) | exact HB.out)⟩⟩
  case rest =>
    clear HC8
    try clear c1
    try clear c2
    try clear p2
    try clear c3
    try clear c4
    try clear c5
    try clear c6
    try clear c7
    try clear c8
    try clear c13
    try clear c14
    try clear c15
    try clear c19
    try clear c20
    try clear c22
    try clear c29
    try clear c29b0
    try clear c29b1
    try clear c29b2
    try clear c30
    try clear c31
    try clear c32
    try clear c34
    try clear c35
    try clear c39
    try clear c40
    try clear c41
    try clear c43
    try clear c44
    try clear c45
    try clear c47
    try clear c48
    try clear c51
    try clear c52
    try clear c54
    try clear c57
    try clear c58
    try clear c59
    try clear c61
    try clear c62
    try clear c67
    try clear c68
    try clear c69
    try clear c71
    try clear c72
    try clear c77
    try clear c78
    try clear c79
    try clear c81
    try clear c82
    try clear hcz16_0
    try clear hcz16_1
    try clear hcz16_2
    try clear hcz18_0
    try clear hcz18_1
    try clear hcz18_2
    try clear hcz21_0
    try clear hcz21_1
    try clear hcz21_2
    try clear hcz21_3
    try clear hcz21_4
    try clear hcz21_5
    try clear hcz23_0
    try clear hcz23_1
    try clear hcz23_2
    try clear hcz23_3
    try clear hcz23_4
    try clear hcz23_5
    try clear hcz25_0
    try clear hcz25_1
    try clear hcz25_2
    try clear hcz25_3
    try clear hcz25_4
    try clear hcz25_5
    try clear hcz26_0
    try clear hcz26_1
    try clear hcz26_2
    try clear hcz26_3
    try clear hcz26_4
    try clear hcz26_5
    try clear hcz33_0
    try clear hcz33_1
    try clear hcz33_2
    try clear hcz33_3
    try clear hcz33_4
    try clear hcz33_5
    try clear hcz36_0
    try clear hcz36_1
    try clear hcz36_2
    try clear hcz36_3
    try clear hcz36_4
    try clear hcz36_5
    try clear hcz46_0
    try clear hcz46_1
    try clear hcz46_2
    try clear hcz46_3
    try clear hcz46_4
    try clear hcz46_5
    try clear hcz49_0
    try clear hcz49_1
    try clear hcz49_2
    try clear hcz49_3
    try clear hcz49_4
    try clear hcz49_5
    try clear hcz51_0
    try clear hcz51_1
    try clear hcz51_2
    try clear hcz51_3
    try clear hcz51_4
    try clear hcz51_5
    try clear hcz53_0
    try clear hcz53_1
    try clear hcz53_2
    try clear hcz53_3
    try clear hcz53_4
    try clear hcz53_5
    try clear hcz55_0
    try clear hcz55_1
    try clear hcz55_2
    try clear hcz55_3
    try clear hcz55_4
    try clear hcz55_5
    try clear hcz60_0
    try clear hcz60_1
    try clear hcz60_2
    try clear hcz60_3
    try clear hcz60_4
    try clear hcz60_5
    try clear hcz63_0
    try clear hcz63_1
    try clear hcz63_2
    try clear hcz63_3
    try clear hcz63_4
    try clear hcz63_5
    try clear hcz65_0
    try clear hcz65_1
    try clear hcz65_2
    try clear hcz65_3
    try clear hcz65_4
    try clear hcz65_5
    try clear hcz70_0
    try clear hcz70_1
    try clear hcz70_2
    try clear hcz70_3
    try clear hcz70_4
    try clear hcz70_5
    try clear hcz73_0
    try clear hcz73_1
    try clear hcz73_2
    try clear hcz73_3
    try clear hcz73_4
    try clear hcz73_5
    try clear hcz75_0
    try clear hcz75_1
    try clear hcz75_2
    try clear hcz75_3
    try clear hcz75_4
    try clear hcz75_5
    try clear hcz80_0
    try clear hcz80_1
    try clear hcz80_2
    try clear hcz80_3
    try clear hcz80_4
    try clear hcz80_5
    try clear hcz83_0
    try clear hcz83_1
    try clear hcz83_2
    try clear hcz83_3
    try clear hcz83_4
    try clear hcz83_5
    try clear hcz85_0
    try clear hcz85_1
    try clear hcz85_2
    try clear hcz85_3
    try clear hcz85_4
    try clear hcz85_5
    try clear hfz16_0
    try clear hfz16_1
    try clear hfz16_2
    try clear hfz18_0
    try clear hfz18_1
    try clear hfz18_2
    try clear hfz21_0
    try clear hfz21_1
    try clear hfz21_2
    try clear hfz21_3
    try clear hfz21_4
    try clear hfz21_5
    try clear hfz23_0
    try clear hfz23_1
    try clear hfz23_2
    try clear hfz23_3
    try clear hfz23_4
    try clear hfz23_5
    try clear hfz25_0
    try clear hfz25_1
    try clear hfz25_2
    try clear hfz25_3
    try clear hfz25_4
    try clear hfz25_5
    try clear hfz26_0
    try clear hfz26_1
    try clear hfz26_2
    try clear hfz26_3
    try clear hfz26_4
    try clear hfz26_5
    try clear hfz33_0
    try clear hfz33_1
    try clear hfz33_2
    try clear hfz33_3
    try clear hfz33_4
    try clear hfz33_5
    try clear hfz36_0
    try clear hfz36_1
    try clear hfz36_2
    try clear hfz36_3
    try clear hfz36_4
    try clear hfz36_5
    try clear hfz46_0
    try clear hfz46_1
    try clear hfz46_2
    try clear hfz46_3
    try clear hfz46_4
    try clear hfz46_5
    try clear hfz49_0
    try clear hfz49_1
    try clear hfz49_2
    try clear hfz49_3
    try clear hfz49_4
    try clear hfz49_5
    try clear hfz51_0
    try clear hfz51_1
    try clear hfz51_2
    try clear hfz51_3
    try clear hfz51_4
    try clear hfz51_5
    try clear hfz53_0
    try clear hfz53_1
    try clear hfz53_2
    try clear hfz53_3
    try clear hfz53_4
    try clear hfz53_5
    try clear hfz55_0
    try clear hfz55_1
    try clear hfz55_2
    try clear hfz55_3
    try clear hfz55_4
    try clear hfz55_5
    try clear hfz60_0
    try clear hfz60_1
    try clear hfz60_2
    try clear hfz60_3
    try clear hfz60_4
    try clear hfz60_5
    try clear hfz63_0
    try clear hfz63_1
    try clear hfz63_2
    try clear hfz63_3
    try clear hfz63_4
    try clear hfz63_5
    try clear hfz65_0
    try clear hfz65_1
    try clear hfz65_2
    try clear hfz65_3
    try clear hfz65_4
    try clear hfz65_5
    try clear hfz70_0
    try clear hfz70_1
    try clear hfz70_2
    try clear hfz70_3
    try clear hfz70_4
    try clear hfz70_5
    try clear hfz73_0
    try clear hfz73_1
    try clear hfz73_2
    try clear hfz73_3
    try clear hfz73_4
    try clear hfz73_5
    try clear hfz75_0
    try clear hfz75_1
    try clear hfz75_2
    try clear hfz75_3
    try clear hfz75_4
    try clear hfz75_5
    try clear hfz80_0
    try clear hfz80_1
    try clear hfz80_2
    try clear hfz80_3
    try clear hfz80_4
    try clear hfz80_5
    try clear hfz83_0
    try clear hfz83_1
    try clear hfz83_2
    try clear hfz83_3
    try clear hfz83_4
    try clear hfz83_5
    try clear hfz85_0
    try clear hfz85_1
    try clear hfz85_2
    try clear hfz85_3
    try clear hfz85_4
    try clear hfz85_5
    obtain ⟨kq, x41_7, rfl, HA, HJ7, BK139, BK140, BK141, BK142, HB⟩ := hcut
    cases kq with
    | zero => exact absurd HA.out (by simp [lookasidelaw09_FaultLess.j0])
    | succ kj7 =>
      have H := HA.out
      clear HA
      simp only [lookasidelaw09_FaultLess.j0] at H
      by_cases c87 : x41_7 = true
      · subst c87
        have H1 : (some false) = some r := by rw [if_pos rfl] at H; exact H
        clear H
        have H := H1
        clear H1
        exact absurd ((Option.some.inj H).trans hr_.out) (by decide)
      · replace c87 := Bool.eq_false_iff.mpr c87
        subst c87
        have H1 : (if t146 = true then ((fault_Judge.f kj7 a0_0 a0_1 a0_2 a0_3 a0_4 a0_5 t143 t144 t145).bind fun t151 => (if t151 = 0 then ((fault_Judge.f kj7 a1_0 a1_1 a1_2 a1_3 a1_4 a1_5 t143 t144 t145).bind fun t152 => (if t152 = 0 then ((lookasidelaw09_lives.f kj7).bind fun t153 => (some t153)) else (some false))) else ((lookasidelaw09_lives.f kj7).bind fun t154 => (some t154)))) else ((lookasidelaw09_lives.f kj7).bind fun t155 => (some t155))) = some r := by rw [if_neg (show ¬ (false = true) by decide)] at H; exact H
        clear H
        have H := H1
        clear H1
        by_cases c88 : t146 = true
        · subst c88
          have H1 : ((fault_Judge.f kj7 a0_0 a0_1 a0_2 a0_3 a0_4 a0_5 t143 t144 t145).bind fun t151 => (if t151 = 0 then ((fault_Judge.f kj7 a1_0 a1_1 a1_2 a1_3 a1_4 a1_5 t143 t144 t145).bind fun t152 => (if t152 = 0 then ((lookasidelaw09_lives.f kj7).bind fun t153 => (some t153)) else (some false))) else ((lookasidelaw09_lives.f kj7).bind fun t154 => (some t154)))) = some r := by rw [if_pos rfl] at H; exact H
          clear H
          have H := H1
          clear H1
          replace H := Option.bind_eq_some_iff.mp H
          obtain ⟨t151, A890, H⟩ := H
          replace H : (if t151 = 0 then ((fault_Judge.f kj7 a1_0 a1_1 a1_2 a1_3 a1_4 a1_5 t143 t144 t145).bind fun t152 => (if t152 = 0 then ((lookasidelaw09_lives.f kj7).bind fun t153 => (some t153)) else (some false))) else ((lookasidelaw09_lives.f kj7).bind fun t154 => (some t154))) = some r := H
          have A89 := Aside0.mk A890
          clear A890
          by_cases c90 : t151 = 0
          · rw [if_pos c90] at H
            have c90b0 : (t151 == 0) = true := beq_iff_eq.mpr c90
            have c90b1 : (t151 != 0) = false := bne_eq_false_iff_eq.mpr c90
            clear c90
            replace H := Option.bind_eq_some_iff.mp H
            obtain ⟨t152, A910, H⟩ := H
            replace H : (if t152 = 0 then ((lookasidelaw09_lives.f kj7).bind fun t153 => (some t153)) else (some false)) = some r := H
            have A91 := Aside0.mk A910
            clear A910
            by_cases c92 : t152 = 0
            · rw [if_pos c92] at H
              have c92b0 : (t152 == 0) = true := beq_iff_eq.mpr c92
              have c92b1 : (t152 != 0) = false := bne_eq_false_iff_eq.mpr c92
              clear c92
              replace H := Option.bind_eq_some_iff.mp H
              obtain ⟨t153, A930, H⟩ := H
              replace H : (some t153) = some r := H
              have A93 := Aside0.mk A930
              clear A930
              obtain rfl := Option.some.inj H
              have hnb94 := NB139_140.out
              have hnc94 := NB140_139.out
              have hnb95 := NB139_141.out
              have hnc95 := NB141_139.out
              have hnb96 := NB139_142.out
              have hnc96 := NB142_139.out
              have hcz97_0 : wc.cell? ⟨gb139, 0, none⟩ = some (.bool a0_0) := (blk_cell BK139.out 0).trans rfl
              have hcz97_1 : wc.cell? ⟨gb139, 1, none⟩ = some (.bool a0_1) := (blk_cell BK139.out 1).trans rfl
              have hcz97_2 : wc.cell? ⟨gb139, 2, none⟩ = some (.bool a0_2) := (blk_cell BK139.out 2).trans rfl
              have hcz97_3 : wc.cell? ⟨gb139, 3, none⟩ = some (.bool a0_3) := (blk_cell BK139.out 3).trans rfl
              have hcz97_4 : wc.cell? ⟨gb139, 4, none⟩ = some (.bool a0_4) := (blk_cell BK139.out 4).trans rfl
              have hcz97_5 : wc.cell? ⟨gb139, 5, none⟩ = some (.bool a0_5) := (blk_cell BK139.out 5).trans rfl
              have hfz97_0 := blk_frozen BK139.out 0
              have hfz97_1 := blk_frozen BK139.out 1
              have hfz97_2 := blk_frozen BK139.out 2
              have hfz97_3 := blk_frozen BK139.out 3
              have hfz97_4 := blk_frozen BK139.out 4
              have hfz97_5 := blk_frozen BK139.out 5
              have hnb98 := NB142_140.out
              have hnc98 := NB140_142.out
              have hnb99 := NB142_141.out
              have hnc99 := NB141_142.out
              have hcz100_0 : wc.cell? ⟨gb142, 0, none⟩ = some (.int .i64 t143) := (blk_cell BK142.out 0).trans rfl
              have hcz100_1 : wc.cell? ⟨gb142, 1, none⟩ = some (.bool t144) := (blk_cell BK142.out 1).trans rfl
              have hcz100_2 : wc.cell? ⟨gb142, 2, none⟩ = some (.int .u64 t145) := (blk_cell BK142.out 2).trans rfl
              have hfz100_0 := blk_frozen BK142.out 0
              have hfz100_1 := blk_frozen BK142.out 1
              have hfz100_2 := blk_frozen BK142.out 2
              go_wp2_with (first | (go_at_call 42; (with_reducible refine (fault_Judge.calls kj7 a0_0 a0_1 a0_2 a0_3 a0_4 a0_5 t143 t144 t145 t151 _ A89.out).mono ?_); rintro e w101 ⟨rfl, hb⟩; have n0_ := Aside0.mk (blk_below (g := gb139) (o := .cells #[.bool a0_0, .bool a0_1, .bool a0_2, .bool a0_3, .bool a0_4, .bool a0_5] 41 (0, 0)) (by (with_reducible repeat (first | refine blk_drewN ?_ _ | refine blk_drew ?_ | refine blk_alloc ?_ _)); exact BK139.out) hb); have n1_ := Aside0.mk (blk_below (g := gb140) (o := .cells #[.bool a1_0, .bool a1_1, .bool a1_2, .bool a1_3, .bool a1_4, .bool a1_5] 41 (0, 0)) (by (with_reducible repeat (first | refine blk_drewN ?_ _ | refine blk_drew ?_ | refine blk_alloc ?_ _)); exact BK140.out) hb); have n2_ := Aside0.mk (blk_below (g := gb141) (o := .cells #[.bool a2_0, .bool a2_1, .bool a2_2, .bool a2_3, .bool a2_4, .bool a2_5] 41 (0, 0)) (by (with_reducible repeat (first | refine blk_drewN ?_ _ | refine blk_drew ?_ | refine blk_alloc ?_ _)); exact BK141.out) hb); have n3_ := Aside0.mk (blk_below (g := gb142) (o := .cells #[.int .i64 t143, .bool t144, .int .u64 t145] 43 (0, 0)) (by (with_reducible repeat (first | refine blk_drewN ?_ _ | refine blk_drew ?_ | refine blk_alloc ?_ _)); exact BK142.out) hb); have n4_ := Aside0.mk (below_step (by repeat (first | (with_reducible first | exact HB.out | apply below_alloc | apply pw_below_drewN | apply below_drew1 | refine below_set ?_ GE139.out | refine below_set ?_ GE140.out | refine below_set ?_ GE141.out | refine below_set ?_ GE142.out) | exact HB.out)) hb); clear BK139; clear BK140; clear BK141; clear BK142; clear HB; have BK139 := n0_; have BK140 := n1_; have BK141 := n2_; have BK142 := n3_; have HB := n4_; clear n0_ n1_ n2_ n3_ n4_; (try clear hb); (try clear hb2); (try clear hk); (try clear hi); have hnb102 := NB140_141.out; have hnc102 := NB141_140.out; have hcz103_0 : w101.cell? ⟨gb140, 0, none⟩ = some (.bool a1_0) := (blk_cell BK140.out 0).trans rfl; have hcz103_1 : w101.cell? ⟨gb140, 1, none⟩ = some (.bool a1_1) := (blk_cell BK140.out 1).trans rfl; have hcz103_2 : w101.cell? ⟨gb140, 2, none⟩ = some (.bool a1_2) := (blk_cell BK140.out 2).trans rfl; have hcz103_3 : w101.cell? ⟨gb140, 3, none⟩ = some (.bool a1_3) := (blk_cell BK140.out 3).trans rfl; have hcz103_4 : w101.cell? ⟨gb140, 4, none⟩ = some (.bool a1_4) := (blk_cell BK140.out 4).trans rfl; have hcz103_5 : w101.cell? ⟨gb140, 5, none⟩ = some (.bool a1_5) := (blk_cell BK140.out 5).trans rfl; have hfz103_0 := blk_frozen BK140.out 0; have hfz103_1 := blk_frozen BK140.out 1; have hfz103_2 := blk_frozen BK140.out 2; have hfz103_3 := blk_frozen BK140.out 3; have hfz103_4 := blk_frozen BK140.out 4; have hfz103_5 := blk_frozen BK140.out 5; have hcz104_0 : w101.cell? ⟨gb142, 0, none⟩ = some (.int .i64 t143) := (blk_cell BK142.out 0).trans rfl; have hcz104_1 : w101.cell? ⟨gb142, 1, none⟩ = some (.bool t144) := (blk_cell BK142.out 1).trans rfl; have hcz104_2 : w101.cell? ⟨gb142, 2, none⟩ = some (.int .u64 t145) := (blk_cell BK142.out 2).trans rfl; have hfz104_0 := blk_frozen BK142.out 0; have hfz104_1 := blk_frozen BK142.out 1; have hfz104_2 := blk_frozen BK142.out 2) | (go_at_call 42; (with_reducible refine (fault_Judge.calls kj7 a1_0 a1_1 a1_2 a1_3 a1_4 a1_5 t143 t144 t145 t152 _ A91.out).mono ?_); rintro e w105 ⟨rfl, hb⟩; have n0_ := Aside0.mk (blk_below (g := gb139) (o := .cells #[.bool a0_0, .bool a0_1, .bool a0_2, .bool a0_3, .bool a0_4, .bool a0_5] 41 (0, 0)) (by (with_reducible repeat (first | refine blk_drewN ?_ _ | refine blk_drew ?_ | refine blk_alloc ?_ _)); exact BK139.out) hb); have n1_ := Aside0.mk (blk_below (g := gb140) (o := .cells #[.bool a1_0, .bool a1_1, .bool a1_2, .bool a1_3, .bool a1_4, .bool a1_5] 41 (0, 0)) (by (with_reducible repeat (first | refine blk_drewN ?_ _ | refine blk_drew ?_ | refine blk_alloc ?_ _)); exact BK140.out) hb); have n2_ := Aside0.mk (blk_below (g := gb141) (o := .cells #[.bool a2_0, .bool a2_1, .bool a2_2, .bool a2_3, .bool a2_4, .bool a2_5] 41 (0, 0)) (by (with_reducible repeat (first | refine blk_drewN ?_ _ | refine blk_drew ?_ | refine blk_alloc ?_ _)); exact BK141.out) hb); have n3_ := Aside0.mk (blk_below (g := gb142) (o := .cells #[.int .i64 t143, .bool t144, .int .u64 t145] 43 (0, 0)) (by (with_reducible repeat (first | refine blk_drewN ?_ _ | refine blk_drew ?_ | refine blk_alloc ?_ _)); exact BK142.out) hb); have n4_ := Aside0.mk (below_step (by repeat (first | (with_reducible first | exact HB.out | apply below_alloc | apply pw_below_drewN | apply below_drew1 | refine below_set ?_ GE139.out | refine below_set ?_ GE140.out | refine below_set ?_ GE141.out | refine below_set ?_ GE142.out) | exact HB.out)) hb); clear BK139; clear BK140; clear BK141; clear BK142; clear HB; have BK139 := n0_; have BK140 := n1_; have BK141 := n2_; have BK142 := n3_; have HB := n4_; clear n0_ n1_ n2_ n3_ n4_; (try clear hb); (try clear hb2); (try clear hk); (try clear hi)) | (go_at_call 43; (with_reducible refine (lookasidelaw09_lives.calls kj7  t153 _ A93.out).mono ?_); rintro e w106 ⟨rfl, hb⟩; have n0_ := Aside0.mk (blk_below (g := gb139) (o := .cells #[.bool a0_0, .bool a0_1, .bool a0_2, .bool a0_3, .bool a0_4, .bool a0_5] 41 (0, 0)) (by (with_reducible repeat (first | refine blk_drewN ?_ _ | refine blk_drew ?_ | refine blk_alloc ?_ _)); exact BK139.out) hb); have n1_ := Aside0.mk (blk_below (g := gb140) (o := .cells #[.bool a1_0, .bool a1_1, .bool a1_2, .bool a1_3, .bool a1_4, .bool a1_5] 41 (0, 0)) (by (with_reducible repeat (first | refine blk_drewN ?_ _ | refine blk_drew ?_ | refine blk_alloc ?_ _)); exact BK140.out) hb); have n2_ := Aside0.mk (blk_below (g := gb141) (o := .cells #[.bool a2_0, .bool a2_1, .bool a2_2, .bool a2_3, .bool a2_4, .bool a2_5] 41 (0, 0)) (by (with_reducible repeat (first | refine blk_drewN ?_ _ | refine blk_drew ?_ | refine blk_alloc ?_ _)); exact BK141.out) hb); have n3_ := Aside0.mk (blk_below (g := gb142) (o := .cells #[.int .i64 t143, .bool t144, .int .u64 t145] 43 (0, 0)) (by (with_reducible repeat (first | refine blk_drewN ?_ _ | refine blk_drew ?_ | refine blk_alloc ?_ _)); exact BK142.out) hb); have n4_ := Aside0.mk (below_step (by repeat (first | (with_reducible first | exact HB.out | apply below_alloc | apply pw_below_drewN | apply below_drew1 | refine below_set ?_ GE139.out | refine below_set ?_ GE140.out | refine below_set ?_ GE141.out | refine below_set ?_ GE142.out) | exact HB.out)) hb); clear BK139; clear BK140; clear BK141; clear BK142; clear HB; have BK139 := n0_; have BK140 := n1_; have BK141 := n2_; have BK142 := n3_; have HB := n4_; clear n0_ n1_ n2_ n3_ n4_; (try clear hb); (try clear hb2); (try clear hk); (try clear hi)))
              go_ret
              exact ⟨by first | rfl | (simp [errW_none, errW_some] <;> rfl) | (simp [*, errW_none, errW_some] <;> rfl), by repeat (first | (with_reducible first | exact HB.out | apply below_alloc | apply pw_below_drewN | apply below_drew1 | refine below_set ?_ GE139.out | refine below_set ?_ GE140.out | refine below_set ?_ GE141.out | refine below_set ?_ GE142.out) | exact HB.out)⟩
            · rw [if_neg c92] at H
              have c92b0 : (t152 == 0) = false := beq_eq_false_iff_ne.mpr c92
              have c92b1 : (t152 != 0) = true := bne_iff_ne.mpr c92
              exact absurd ((Option.some.inj H).trans hr_.out) (by decide)
          · rw [if_neg c90] at H
            have c90b0 : (t151 == 0) = false := beq_eq_false_iff_ne.mpr c90
            have c90b1 : (t151 != 0) = true := bne_iff_ne.mpr c90
            replace H := Option.bind_eq_some_iff.mp H
            obtain ⟨t154, A1070, H⟩ := H
            replace H : (some t154) = some r := H
            have A107 := Aside0.mk A1070
            clear A1070
            obtain rfl := Option.some.inj H
            have hnb108 := NB139_140.out
            have hnc108 := NB140_139.out
            have hnb109 := NB139_141.out
            have hnc109 := NB141_139.out
            have hnb110 := NB139_142.out
            have hnc110 := NB142_139.out
            have hcz111_0 : wc.cell? ⟨gb139, 0, none⟩ = some (.bool a0_0) := (blk_cell BK139.out 0).trans rfl
            have hcz111_1 : wc.cell? ⟨gb139, 1, none⟩ = some (.bool a0_1) := (blk_cell BK139.out 1).trans rfl
            have hcz111_2 : wc.cell? ⟨gb139, 2, none⟩ = some (.bool a0_2) := (blk_cell BK139.out 2).trans rfl
            have hcz111_3 : wc.cell? ⟨gb139, 3, none⟩ = some (.bool a0_3) := (blk_cell BK139.out 3).trans rfl
            have hcz111_4 : wc.cell? ⟨gb139, 4, none⟩ = some (.bool a0_4) := (blk_cell BK139.out 4).trans rfl
            have hcz111_5 : wc.cell? ⟨gb139, 5, none⟩ = some (.bool a0_5) := (blk_cell BK139.out 5).trans rfl
            have hfz111_0 := blk_frozen BK139.out 0
            have hfz111_1 := blk_frozen BK139.out 1
            have hfz111_2 := blk_frozen BK139.out 2
            have hfz111_3 := blk_frozen BK139.out 3
            have hfz111_4 := blk_frozen BK139.out 4
            have hfz111_5 := blk_frozen BK139.out 5
            have hnb112 := NB142_140.out
            have hnc112 := NB140_142.out
            have hnb113 := NB142_141.out
            have hnc113 := NB141_142.out
            have hcz114_0 : wc.cell? ⟨gb142, 0, none⟩ = some (.int .i64 t143) := (blk_cell BK142.out 0).trans rfl
            have hcz114_1 : wc.cell? ⟨gb142, 1, none⟩ = some (.bool t144) := (blk_cell BK142.out 1).trans rfl
            have hcz114_2 : wc.cell? ⟨gb142, 2, none⟩ = some (.int .u64 t145) := (blk_cell BK142.out 2).trans rfl
            have hfz114_0 := blk_frozen BK142.out 0
            have hfz114_1 := blk_frozen BK142.out 1
            have hfz114_2 := blk_frozen BK142.out 2
            go_wp2_with (first | (go_at_call 42; (with_reducible refine (fault_Judge.calls kj7 a0_0 a0_1 a0_2 a0_3 a0_4 a0_5 t143 t144 t145 t151 _ A89.out).mono ?_); rintro e w115 ⟨rfl, hb⟩; have n0_ := Aside0.mk (blk_below (g := gb139) (o := .cells #[.bool a0_0, .bool a0_1, .bool a0_2, .bool a0_3, .bool a0_4, .bool a0_5] 41 (0, 0)) (by (with_reducible repeat (first | refine blk_drewN ?_ _ | refine blk_drew ?_ | refine blk_alloc ?_ _)); exact BK139.out) hb); have n1_ := Aside0.mk (blk_below (g := gb140) (o := .cells #[.bool a1_0, .bool a1_1, .bool a1_2, .bool a1_3, .bool a1_4, .bool a1_5] 41 (0, 0)) (by (with_reducible repeat (first | refine blk_drewN ?_ _ | refine blk_drew ?_ | refine blk_alloc ?_ _)); exact BK140.out) hb); have n2_ := Aside0.mk (blk_below (g := gb141) (o := .cells #[.bool a2_0, .bool a2_1, .bool a2_2, .bool a2_3, .bool a2_4, .bool a2_5] 41 (0, 0)) (by (with_reducible repeat (first | refine blk_drewN ?_ _ | refine blk_drew ?_ | refine blk_alloc ?_ _)); exact BK141.out) hb); have n3_ := Aside0.mk (blk_below (g := gb142) (o := .cells #[.int .i64 t143, .bool t144, .int .u64 t145] 43 (0, 0)) (by (with_reducible repeat (first | refine blk_drewN ?_ _ | refine blk_drew ?_ | refine blk_alloc ?_ _)); exact BK142.out) hb); have n4_ := Aside0.mk (below_step (by repeat (first | (with_reducible first | exact HB.out | apply below_alloc | apply pw_below_drewN | apply below_drew1 | refine below_set ?_ GE139.out | refine below_set ?_ GE140.out | refine below_set ?_ GE141.out | refine below_set ?_ GE142.out) | exact HB.out)) hb); clear BK139; clear BK140; clear BK141; clear BK142; clear HB; have BK139 := n0_; have BK140 := n1_; have BK141 := n2_; have BK142 := n3_; have HB := n4_; clear n0_ n1_ n2_ n3_ n4_; (try clear hb); (try clear hb2); (try clear hk); (try clear hi)) | (go_at_call 43; (with_reducible refine (lookasidelaw09_lives.calls kj7  t154 _ A107.out).mono ?_); rintro e w116 ⟨rfl, hb⟩; have n0_ := Aside0.mk (blk_below (g := gb139) (o := .cells #[.bool a0_0, .bool a0_1, .bool a0_2, .bool a0_3, .bool a0_4, .bool a0_5] 41 (0, 0)) (by (with_reducible repeat (first | refine blk_drewN ?_ _ | refine blk_drew ?_ | refine blk_alloc ?_ _)); exact BK139.out) hb); have n1_ := Aside0.mk (blk_below (g := gb140) (o := .cells #[.bool a1_0, .bool a1_1, .bool a1_2, .bool a1_3, .bool a1_4, .bool a1_5] 41 (0, 0)) (by (with_reducible repeat (first | refine blk_drewN ?_ _ | refine blk_drew ?_ | refine blk_alloc ?_ _)); exact BK140.out) hb); have n2_ := Aside0.mk (blk_below (g := gb141) (o := .cells #[.bool a2_0, .bool a2_1, .bool a2_2, .bool a2_3, .bool a2_4, .bool a2_5] 41 (0, 0)) (by (with_reducible repeat (first | refine blk_drewN ?_ _ | refine blk_drew ?_ | refine blk_alloc ?_ _)); exact BK141.out) hb); have n3_ := Aside0.mk (blk_below (g := gb142) (o := .cells #[.int .i64 t143, .bool t144, .int .u64 t145] 43 (0, 0)) (by (with_reducible repeat (first | refine blk_drewN ?_ _ | refine blk_drew ?_ | refine blk_alloc ?_ _)); exact BK142.out) hb); have n4_ := Aside0.mk (below_step (by repeat (first | (with_reducible first | exact HB.out | apply below_alloc | apply pw_below_drewN | apply below_drew1 | refine below_set ?_ GE139.out | refine below_set ?_ GE140.out | refine below_set ?_ GE141.out | refine below_set ?_ GE142.out) | exact HB.out)) hb); clear BK139; clear BK140; clear BK141; clear BK142; clear HB; have BK139 := n0_; have BK140 := n1_; have BK141 := n2_; have BK142 := n3_; have HB := n4_; clear n0_ n1_ n2_ n3_ n4_; (try clear hb); (try clear hb2); (try clear hk); (try clear hi)))
            go_ret
            exact ⟨by first | rfl | (simp [errW_none, errW_some] <;> rfl) | (simp [*, errW_none, errW_some] <;> rfl), by repeat (first | (with_reducible first | exact HB.out | apply below_alloc | apply pw_below_drewN | apply below_drew1 | refine below_set ?_ GE139.out | refine below_set ?_ GE140.out | refine below_set ?_ GE141.out | refine below_set ?_ GE142.out) | exact HB.out)⟩
        · replace c88 := Bool.eq_false_iff.mpr c88
          subst c88
          have H1 : ((lookasidelaw09_lives.f kj7).bind fun t155 => (some t155)) = some r := by rw [if_neg (show ¬ (false = true) by decide)] at H; exact H
          clear H
          have H := H1
          clear H1
          replace H := Option.bind_eq_some_iff.mp H
          obtain ⟨t155, A1170, H⟩ := H
          replace H : (some t155) = some r := H
          have A117 := Aside0.mk A1170
          clear A1170
          obtain rfl := Option.some.inj H
          go_wp2_with (first | (go_at_call 43; (with_reducible refine (lookasidelaw09_lives.calls kj7  t155 _ A117.out).mono ?_); rintro e w118 ⟨rfl, hb⟩; have n0_ := Aside0.mk (blk_below (g := gb139) (o := .cells #[.bool a0_0, .bool a0_1, .bool a0_2, .bool a0_3, .bool a0_4, .bool a0_5] 41 (0, 0)) (by (with_reducible repeat (first | refine blk_drewN ?_ _ | refine blk_drew ?_ | refine blk_alloc ?_ _)); exact BK139.out) hb); have n1_ := Aside0.mk (blk_below (g := gb140) (o := .cells #[.bool a1_0, .bool a1_1, .bool a1_2, .bool a1_3, .bool a1_4, .bool a1_5] 41 (0, 0)) (by (with_reducible repeat (first | refine blk_drewN ?_ _ | refine blk_drew ?_ | refine blk_alloc ?_ _)); exact BK140.out) hb); have n2_ := Aside0.mk (blk_below (g := gb141) (o := .cells #[.bool a2_0, .bool a2_1, .bool a2_2, .bool a2_3, .bool a2_4, .bool a2_5] 41 (0, 0)) (by (with_reducible repeat (first | refine blk_drewN ?_ _ | refine blk_drew ?_ | refine blk_alloc ?_ _)); exact BK141.out) hb); have n3_ := Aside0.mk (blk_below (g := gb142) (o := .cells #[.int .i64 t143, .bool t144, .int .u64 t145] 43 (0, 0)) (by (with_reducible repeat (first | refine blk_drewN ?_ _ | refine blk_drew ?_ | refine blk_alloc ?_ _)); exact BK142.out) hb); have n4_ := Aside0.mk (below_step (by repeat (first | (with_reducible first | exact HB.out | apply below_alloc | apply pw_below_drewN | apply below_drew1 | refine below_set ?_ GE139.out | refine below_set ?_ GE140.out | refine below_set ?_ GE141.out | refine below_set ?_ GE142.out) | exact HB.out)) hb); clear BK139; clear BK140; clear BK141; clear BK142; clear HB; have BK139 := n0_; have BK140 := n1_; have BK141 := n2_; have BK142 := n3_; have HB := n4_; clear n0_ n1_ n2_ n3_ n4_; (try clear hb); (try clear hb2); (try clear hk); (try clear hi)))
          go_ret
          exact ⟨by first | rfl | (simp [errW_none, errW_some] <;> rfl) | (simp [*, errW_none, errW_some] <;> rfl), by repeat (first | (with_reducible first | exact HB.out | apply below_alloc | apply pw_below_drewN | apply below_drew1 | refine below_set ?_ GE139.out | refine below_set ?_ GE140.out | refine below_set ?_ GE141.out | refine below_set ?_ GE142.out) | exact HB.out)⟩

/-- THE ONE PURE STATEMENT of lookasidelaw09_FaultLess: yours. -/
def lookasidelaw09_FaultLess.Pure : Prop := ∀ (a0_0 : Bool) (a0_1 : Bool) (a0_2 : Bool) (a0_3 : Bool) (a0_4 : Bool) (a0_5 : Bool) (a1_0 : Bool) (a1_1 : Bool) (a1_2 : Bool) (a1_3 : Bool) (a1_4 : Bool) (a1_5 : Bool) (a2_0 : Bool) (a2_1 : Bool) (a2_2 : Bool) (a2_3 : Bool) (a2_4 : Bool) (a2_5 : Bool) (a3_0 : Int) (a3_1 : Bool) (a3_2 : Int), (Lit.int .i64 a3_0).wf = true → (Lit.int .u64 a3_2).wf = true → ∃ k, lookasidelaw09_FaultLess.f k a0_0 a0_1 a0_2 a0_3 a0_4 a0_5 a1_0 a1_1 a1_2 a1_3 a1_4 a1_5 a2_0 a2_1 a2_2 a2_3 a2_4 a2_5 a3_0 a3_1 a3_2 = some true
theorem lookasidelaw09_FaultLess.walk (P : lookasidelaw09_FaultLess.Pure) (a0_0 : Bool) (a0_1 : Bool) (a0_2 : Bool) (a0_3 : Bool) (a0_4 : Bool) (a0_5 : Bool) (a1_0 : Bool) (a1_1 : Bool) (a1_2 : Bool) (a1_3 : Bool) (a1_4 : Bool) (a1_5 : Bool) (a2_0 : Bool) (a2_1 : Bool) (a2_2 : Bool) (a2_3 : Bool) (a2_4 : Bool) (a2_5 : Bool) (a3_0 : Int) (a3_1 : Bool) (a3_2 : Int) (w : World)    (w3_0 : (Lit.int .i64 a3_0).wf = true) (w3_2 : (Lit.int .u64 a3_2).wf = true) :
    Calls Try.prog 13 #[.agg #[.bool a0_0, .bool a0_1, .bool a0_2, .bool a0_3, .bool a0_4, .bool a0_5], .agg #[.bool a1_0, .bool a1_1, .bool a1_2, .bool a1_3, .bool a1_4, .bool a1_5], .agg #[.bool a2_0, .bool a2_1, .bool a2_2, .bool a2_3, .bool a2_4, .bool a2_5], .agg #[.int .i64 a3_0, .bool a3_1, .int .u64 a3_2]] w fun e w' => e = .returned (.bool true) ∧ Below w.heap.size w w' := by
  obtain ⟨k, h⟩ := P a0_0 a0_1 a0_2 a0_3 a0_4 a0_5 a1_0 a1_1 a1_2 a1_3 a1_4 a1_5 a2_0 a2_1 a2_2 a2_3 a2_4 a2_5 a3_0 a3_1 a3_2 w3_0 w3_2
  refine (lookasidelaw09_FaultLess.calls k a0_0 a0_1 a0_2 a0_3 a0_4 a0_5 a1_0 a1_1 a1_2 a1_3 a1_4 a1_5 a2_0 a2_1 a2_2 a2_3 a2_4 a2_5 a3_0 a3_1 a3_2 true w h rfl).mono ?_
  rintro e w' ⟨rfl, hd⟩
  exact ⟨rfl, hd⟩

end Go.Proofs.Ytedjiicaikhcbaa.QFaultLess
