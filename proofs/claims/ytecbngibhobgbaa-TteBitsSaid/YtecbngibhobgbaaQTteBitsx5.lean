-- Printed by a program of this session (wip/print/myprint.py) out of the translation; Lean checks it.
import Derived.Test.YtecbngibhobgbaaQTteBitsx0
import Derived.Test.YtecbngibhobgbaaQTteBitsx2
import Derived.Test.YtecbngibhobgbaaQTteBitsx3
import Derived.Test.YtecbngibhobgbaaQTteBitsx4
namespace Go.Proofs.Ytecbngibhobgbaa.QTteBits
open Go.RowKit Go.Proofs.YtecbngibhobgbaaW.PrintWords Go.Proofs.YtecbngibhobgbaaW.PrintLast Go.Proofs.YtecbngibhobgbaaW.PrintMore
attribute [local go_sem] max2_int min2_int max_two min_two max_three min_three max_four min_four   -- for this text's walks alone
set_option linter.unusedVariables false
set_option linter.unusedSimpArgs false

/-! ### lookasidelaw03_TteBits: function 4 -/
mutual
def lookasidelaw03_TteBits.j0 : Nat → Int → Int → Int → Int → Int → Int → Int → Bool → Bool → Bool → Bool → Bool → Bool → Bool → Option (Bool)
  | 0, _, _, _, _, _, _, _, _, _, _, _, _, _, _ => none
  | k + 1, x5, x6, x7, x156000, x156001, x156002, x156003, x156004, x156005, x156006, x156007, x156008, x156009, x156010 => if x156005 = true then (lookasidelaw03_TteBits.j1 k x5 x6 (wrap64 (x7 + 4)) x156000 x156001 x156002 x156003 x156004 x156005 x156006 x156007 x156008 x156009 x156010) else (lookasidelaw03_TteBits.j1 k x5 x6 x7 x156000 x156001 x156002 x156003 x156004 x156005 x156006 x156007 x156008 x156009 x156010)
def lookasidelaw03_TteBits.j1 : Nat → Int → Int → Int → Int → Int → Int → Int → Bool → Bool → Bool → Bool → Bool → Bool → Bool → Option (Bool)
  | 0, _, _, _, _, _, _, _, _, _, _, _, _, _, _ => none
  | k + 1, x5, x6, x7, x156000, x156001, x156002, x156003, x156004, x156005, x156006, x156007, x156008, x156009, x156010 => if x156006 = true then (lookasidelaw03_TteBits.j2 k x5 x6 (wrap64 (x7 + 8)) x156000 x156001 x156002 x156003 x156004 x156005 x156006 x156007 x156008 x156009 x156010) else (lookasidelaw03_TteBits.j2 k x5 x6 x7 x156000 x156001 x156002 x156003 x156004 x156005 x156006 x156007 x156008 x156009 x156010)
def lookasidelaw03_TteBits.j2 : Nat → Int → Int → Int → Int → Int → Int → Int → Bool → Bool → Bool → Bool → Bool → Bool → Bool → Option (Bool)
  | 0, _, _, _, _, _, _, _, _, _, _, _, _, _, _ => none
  | k + 1, x5, x6, x7, x156000, x156001, x156002, x156003, x156004, x156005, x156006, x156007, x156008, x156009, x156010 => if x156007 = true then (lookasidelaw03_TteBits.j3 k x5 x6 (wrap64 (x7 + 64)) x156000 x156001 x156002 x156003 x156004 x156005 x156006 x156007 x156008 x156009 x156010) else (lookasidelaw03_TteBits.j3 k x5 x6 x7 x156000 x156001 x156002 x156003 x156004 x156005 x156006 x156007 x156008 x156009 x156010)
def lookasidelaw03_TteBits.j3 : Nat → Int → Int → Int → Int → Int → Int → Int → Bool → Bool → Bool → Bool → Bool → Bool → Bool → Option (Bool)
  | 0, _, _, _, _, _, _, _, _, _, _, _, _, _, _ => none
  | k + 1, x5, x6, x7, x156000, x156001, x156002, x156003, x156004, x156005, x156006, x156007, x156008, x156009, x156010 => if x156008 = true then (if x156009 = true then (if x5 = (IntKind.u64.wrap ((IntKind.u64.wrap (x6 + (IntKind.u64.wrap (wrap64 (x7 + 1))))) + 1152921504606846976)) then (if x6 = (IntKind.u64.wrap ((IntKind.u64.wrap (9223372036854775808 + (IntKind.u64.wrap ((IntKind.u64.wrap (x156000)) * 2305843009213693952)))) + x156003)) then ((lookasidelaw03_lives.f k).bind fun t159 => (some t159)) else (some false)) else (some false)) else (if x5 = (IntKind.u64.wrap ((IntKind.u64.wrap (x6 + (IntKind.u64.wrap (wrap64 (x7 + 1))))))) then (if x6 = (IntKind.u64.wrap ((IntKind.u64.wrap (9223372036854775808 + (IntKind.u64.wrap ((IntKind.u64.wrap (x156000)) * 2305843009213693952)))) + x156003)) then ((lookasidelaw03_lives.f k).bind fun t160 => (some t160)) else (some false)) else (some false))) else (if x156009 = true then (if x5 = (IntKind.u64.wrap ((IntKind.u64.wrap (x6 + (IntKind.u64.wrap (x7)))) + 1152921504606846976)) then (if x6 = (IntKind.u64.wrap ((IntKind.u64.wrap (9223372036854775808 + (IntKind.u64.wrap ((IntKind.u64.wrap (x156000)) * 2305843009213693952)))) + x156003)) then ((lookasidelaw03_lives.f k).bind fun t161 => (some t161)) else (some false)) else (some false)) else (if x5 = (IntKind.u64.wrap ((IntKind.u64.wrap (x6 + (IntKind.u64.wrap (x7)))))) then (if x6 = (IntKind.u64.wrap ((IntKind.u64.wrap (9223372036854775808 + (IntKind.u64.wrap ((IntKind.u64.wrap (x156000)) * 2305843009213693952)))) + x156003)) then ((lookasidelaw03_lives.f k).bind fun t162 => (some t162)) else (some false)) else (some false)))
end
def lookasidelaw03_TteBits.f (k : Nat) (a0_0 : Int) (a0_1 : Int) (a0_2 : Int) (a0_3 : Int) (a0_4 : Bool) (a0_5 : Bool) (a0_6 : Bool) (a0_7 : Bool) (a0_8 : Bool) (a0_9 : Bool) (a0_10 : Bool) : Option (Bool) := (lookasideref03_Good.f k a0_0 a0_1 a0_2 a0_3 a0_4 a0_5 a0_6 a0_7 a0_8 a0_9 a0_10).bind fun bt144 => ((tte_Data.f bt144.1 bt144.2.1 bt144.2.2.1 bt144.2.2.2.1 bt144.2.2.2.2.1 bt144.2.2.2.2.2.1 bt144.2.2.2.2.2.2.1 bt144.2.2.2.2.2.2.2.1 bt144.2.2.2.2.2.2.2.2.1 bt144.2.2.2.2.2.2.2.2.2.1 bt144.2.2.2.2.2.2.2.2.2.2).bind fun t157 => ((tte_Data.f bt144.1 bt144.2.1 bt144.2.2.1 bt144.2.2.2.1 false false false false false false bt144.2.2.2.2.2.2.2.2.2.2).bind fun t158 => (if bt144.2.2.2.2.1 = true then (lookasidelaw03_TteBits.j0 k t157 t158 (0 + 2) bt144.1 bt144.2.1 bt144.2.2.1 bt144.2.2.2.1 bt144.2.2.2.2.1 bt144.2.2.2.2.2.1 bt144.2.2.2.2.2.2.1 bt144.2.2.2.2.2.2.2.1 bt144.2.2.2.2.2.2.2.2.1 bt144.2.2.2.2.2.2.2.2.2.1 bt144.2.2.2.2.2.2.2.2.2.2) else (lookasidelaw03_TteBits.j0 k t157 t158 0 bt144.1 bt144.2.1 bt144.2.2.1 bt144.2.2.2.1 bt144.2.2.2.2.1 bt144.2.2.2.2.2.1 bt144.2.2.2.2.2.2.1 bt144.2.2.2.2.2.2.2.1 bt144.2.2.2.2.2.2.2.2.1 bt144.2.2.2.2.2.2.2.2.2.1 bt144.2.2.2.2.2.2.2.2.2.2))))
theorem lookasidelaw03_TteBits.mono_l : ∀ k, (∀ y0 y1 y2 y3 y4 y5 y6 y7 y8 y9 y10 y11 y12 y13, LeO (lookasidelaw03_TteBits.j0 k y0 y1 y2 y3 y4 y5 y6 y7 y8 y9 y10 y11 y12 y13) (lookasidelaw03_TteBits.j0 (k + 1) y0 y1 y2 y3 y4 y5 y6 y7 y8 y9 y10 y11 y12 y13)) ∧ (∀ y0 y1 y2 y3 y4 y5 y6 y7 y8 y9 y10 y11 y12 y13, LeO (lookasidelaw03_TteBits.j1 k y0 y1 y2 y3 y4 y5 y6 y7 y8 y9 y10 y11 y12 y13) (lookasidelaw03_TteBits.j1 (k + 1) y0 y1 y2 y3 y4 y5 y6 y7 y8 y9 y10 y11 y12 y13)) ∧ (∀ y0 y1 y2 y3 y4 y5 y6 y7 y8 y9 y10 y11 y12 y13, LeO (lookasidelaw03_TteBits.j2 k y0 y1 y2 y3 y4 y5 y6 y7 y8 y9 y10 y11 y12 y13) (lookasidelaw03_TteBits.j2 (k + 1) y0 y1 y2 y3 y4 y5 y6 y7 y8 y9 y10 y11 y12 y13)) ∧ (∀ y0 y1 y2 y3 y4 y5 y6 y7 y8 y9 y10 y11 y12 y13, LeO (lookasidelaw03_TteBits.j3 k y0 y1 y2 y3 y4 y5 y6 y7 y8 y9 y10 y11 y12 y13) (lookasidelaw03_TteBits.j3 (k + 1) y0 y1 y2 y3 y4 y5 y6 y7 y8 y9 y10 y11 y12 y13))
  | 0 => ⟨fun _ _ _ _ _ _ _ _ _ _ _ _ _ _ r h => by simp [lookasidelaw03_TteBits.j0] at h, fun _ _ _ _ _ _ _ _ _ _ _ _ _ _ r h => by simp [lookasidelaw03_TteBits.j1] at h, fun _ _ _ _ _ _ _ _ _ _ _ _ _ _ r h => by simp [lookasidelaw03_TteBits.j2] at h, fun _ _ _ _ _ _ _ _ _ _ _ _ _ _ r h => by simp [lookasidelaw03_TteBits.j3] at h⟩
  | k + 1 => by
    obtain ⟨ih0, ih1, ih2, ih3⟩ := lookasidelaw03_TteBits.mono_l k
    refine ⟨?_, ?_, ?_, ?_⟩
    · intro y0 y1 y2 y3 y4 y5 y6 y7 y8 y9 y10 y11 y12 y13
      unfold lookasidelaw03_TteBits.j0
      repeat' first
      | (with_reducible exact ih0 _ _ _ _ _ _ _ _ _ _ _ _ _ _)
      | (with_reducible exact ih1 _ _ _ _ _ _ _ _ _ _ _ _ _ _)
      | (with_reducible exact ih2 _ _ _ _ _ _ _ _ _ _ _ _ _ _)
      | (with_reducible exact ih3 _ _ _ _ _ _ _ _ _ _ _ _ _ _)
      | (with_reducible exact lookasidelaw03_lives.mono _)
      | (with_reducible exact lookasideref03_Good.mono _ _ _ _ _ _ _ _ _ _ _ _)
      | (with_reducible exact LeO.refl _)
      | (with_reducible exact LeO.none _)
      | (with_reducible refine LeO.ite ?_ ?_)
      | (with_reducible refine LeO.bind ?_ (fun _ => ?_))
      | exact ih0 _ _ _ _ _ _ _ _ _ _ _ _ _ _
      | exact ih1 _ _ _ _ _ _ _ _ _ _ _ _ _ _
      | exact ih2 _ _ _ _ _ _ _ _ _ _ _ _ _ _
      | exact ih3 _ _ _ _ _ _ _ _ _ _ _ _ _ _
      | exact lookasidelaw03_lives.mono _
      | exact lookasideref03_Good.mono _ _ _ _ _ _ _ _ _ _ _ _
      | exact LeO.none _
      | refine LeO.ite ?_ ?_
      | refine LeO.bind ?_ (fun _ => ?_)
    · intro y0 y1 y2 y3 y4 y5 y6 y7 y8 y9 y10 y11 y12 y13
      unfold lookasidelaw03_TteBits.j1
      repeat' first
      | (with_reducible exact ih0 _ _ _ _ _ _ _ _ _ _ _ _ _ _)
      | (with_reducible exact ih1 _ _ _ _ _ _ _ _ _ _ _ _ _ _)
      | (with_reducible exact ih2 _ _ _ _ _ _ _ _ _ _ _ _ _ _)
      | (with_reducible exact ih3 _ _ _ _ _ _ _ _ _ _ _ _ _ _)
      | (with_reducible exact lookasidelaw03_lives.mono _)
      | (with_reducible exact lookasideref03_Good.mono _ _ _ _ _ _ _ _ _ _ _ _)
      | (with_reducible exact LeO.refl _)
      | (with_reducible exact LeO.none _)
      | (with_reducible refine LeO.ite ?_ ?_)
      | (with_reducible refine LeO.bind ?_ (fun _ => ?_))
      | exact ih0 _ _ _ _ _ _ _ _ _ _ _ _ _ _
      | exact ih1 _ _ _ _ _ _ _ _ _ _ _ _ _ _
      | exact ih2 _ _ _ _ _ _ _ _ _ _ _ _ _ _
      | exact ih3 _ _ _ _ _ _ _ _ _ _ _ _ _ _
      | exact lookasidelaw03_lives.mono _
      | exact lookasideref03_Good.mono _ _ _ _ _ _ _ _ _ _ _ _
      | exact LeO.none _
      | refine LeO.ite ?_ ?_
      | refine LeO.bind ?_ (fun _ => ?_)
    · intro y0 y1 y2 y3 y4 y5 y6 y7 y8 y9 y10 y11 y12 y13
      unfold lookasidelaw03_TteBits.j2
      repeat' first
      | (with_reducible exact ih0 _ _ _ _ _ _ _ _ _ _ _ _ _ _)
      | (with_reducible exact ih1 _ _ _ _ _ _ _ _ _ _ _ _ _ _)
      | (with_reducible exact ih2 _ _ _ _ _ _ _ _ _ _ _ _ _ _)
      | (with_reducible exact ih3 _ _ _ _ _ _ _ _ _ _ _ _ _ _)
      | (with_reducible exact lookasidelaw03_lives.mono _)
      | (with_reducible exact lookasideref03_Good.mono _ _ _ _ _ _ _ _ _ _ _ _)
      | (with_reducible exact LeO.refl _)
      | (with_reducible exact LeO.none _)
      | (with_reducible refine LeO.ite ?_ ?_)
      | (with_reducible refine LeO.bind ?_ (fun _ => ?_))
      | exact ih0 _ _ _ _ _ _ _ _ _ _ _ _ _ _
      | exact ih1 _ _ _ _ _ _ _ _ _ _ _ _ _ _
      | exact ih2 _ _ _ _ _ _ _ _ _ _ _ _ _ _
      | exact ih3 _ _ _ _ _ _ _ _ _ _ _ _ _ _
      | exact lookasidelaw03_lives.mono _
      | exact lookasideref03_Good.mono _ _ _ _ _ _ _ _ _ _ _ _
      | exact LeO.none _
      | refine LeO.ite ?_ ?_
      | refine LeO.bind ?_ (fun _ => ?_)
    · intro y0 y1 y2 y3 y4 y5 y6 y7 y8 y9 y10 y11 y12 y13
      unfold lookasidelaw03_TteBits.j3
      repeat' first
      | (with_reducible exact ih0 _ _ _ _ _ _ _ _ _ _ _ _ _ _)
      | (with_reducible exact ih1 _ _ _ _ _ _ _ _ _ _ _ _ _ _)
      | (with_reducible exact ih2 _ _ _ _ _ _ _ _ _ _ _ _ _ _)
      | (with_reducible exact ih3 _ _ _ _ _ _ _ _ _ _ _ _ _ _)
      | (with_reducible exact lookasidelaw03_lives.mono _)
      | (with_reducible exact lookasideref03_Good.mono _ _ _ _ _ _ _ _ _ _ _ _)
      | (with_reducible exact LeO.refl _)
      | (with_reducible exact LeO.none _)
      | (with_reducible refine LeO.ite ?_ ?_)
      | (with_reducible refine LeO.bind ?_ (fun _ => ?_))
      | exact ih0 _ _ _ _ _ _ _ _ _ _ _ _ _ _
      | exact ih1 _ _ _ _ _ _ _ _ _ _ _ _ _ _
      | exact ih2 _ _ _ _ _ _ _ _ _ _ _ _ _ _
      | exact ih3 _ _ _ _ _ _ _ _ _ _ _ _ _ _
      | exact lookasidelaw03_lives.mono _
      | exact lookasideref03_Good.mono _ _ _ _ _ _ _ _ _ _ _ _
      | exact LeO.none _
      | refine LeO.ite ?_ ?_
      | refine LeO.bind ?_ (fun _ => ?_)
theorem lookasidelaw03_TteBits.mono : ∀ a0 a1 a2 a3 a4 a5 a6 a7 a8 a9 a10 k, LeO (lookasidelaw03_TteBits.f k a0 a1 a2 a3 a4 a5 a6 a7 a8 a9 a10) (lookasidelaw03_TteBits.f (k + 1) a0 a1 a2 a3 a4 a5 a6 a7 a8 a9 a10) := by
  intro a0 a1 a2 a3 a4 a5 a6 a7 a8 a9 a10 k
  obtain ⟨ih0, ih1, ih2, ih3⟩ := lookasidelaw03_TteBits.mono_l k
  unfold lookasidelaw03_TteBits.f
  repeat' first
      | (with_reducible exact ih0 _ _ _ _ _ _ _ _ _ _ _ _ _ _)
      | (with_reducible exact ih1 _ _ _ _ _ _ _ _ _ _ _ _ _ _)
      | (with_reducible exact ih2 _ _ _ _ _ _ _ _ _ _ _ _ _ _)
      | (with_reducible exact ih3 _ _ _ _ _ _ _ _ _ _ _ _ _ _)
      | (with_reducible exact lookasidelaw03_lives.mono _)
      | (with_reducible exact lookasideref03_Good.mono _ _ _ _ _ _ _ _ _ _ _ _)
      | (with_reducible exact LeO.refl _)
      | (with_reducible exact LeO.none _)
      | (with_reducible refine LeO.ite ?_ ?_)
      | (with_reducible refine LeO.bind ?_ (fun _ => ?_))
      | exact ih0 _ _ _ _ _ _ _ _ _ _ _ _ _ _
      | exact ih1 _ _ _ _ _ _ _ _ _ _ _ _ _ _
      | exact ih2 _ _ _ _ _ _ _ _ _ _ _ _ _ _
      | exact ih3 _ _ _ _ _ _ _ _ _ _ _ _ _ _
      | exact lookasidelaw03_lives.mono _
      | exact lookasideref03_Good.mono _ _ _ _ _ _ _ _ _ _ _ _
      | exact LeO.none _
      | refine LeO.ite ?_ ?_
      | refine LeO.bind ?_ (fun _ => ?_)
set_option maxHeartbeats 8000000 in
set_option maxRecDepth 100000 in
theorem lookasidelaw03_TteBits.calls (k : Nat) (a0_0 : Int) (a0_1 : Int) (a0_2 : Int) (a0_3 : Int) (a0_4 : Bool) (a0_5 : Bool) (a0_6 : Bool) (a0_7 : Bool) (a0_8 : Bool) (a0_9 : Bool) (a0_10 : Bool) (r : Bool) (w : World) (h : lookasidelaw03_TteBits.f k a0_0 a0_1 a0_2 a0_3 a0_4 a0_5 a0_6 a0_7 a0_8 a0_9 a0_10 = some r) (hr0_ : r = true) :
    Calls Try.prog 4 #[.agg #[.int .i64 a0_0, .int .i64 a0_1, .int .u64 a0_2, .int .u64 a0_3, .bool a0_4, .bool a0_5, .bool a0_6, .bool a0_7, .bool a0_8, .bool a0_9, .bool a0_10]] w fun e w' => e = .returned (.bool r) ∧ Below w.heap.size w w' := by
  have hu26 := Try.underlying26
  have hu24 := Try.underlying24
  have HB := Aside0.mk (Below.refl w.heap.size w)
  have H : ((lookasideref03_Good.f k a0_0 a0_1 a0_2 a0_3 a0_4 a0_5 a0_6 a0_7 a0_8 a0_9 a0_10).bind fun bt144 => ((tte_Data.f bt144.1 bt144.2.1 bt144.2.2.1 bt144.2.2.2.1 bt144.2.2.2.2.1 bt144.2.2.2.2.2.1 bt144.2.2.2.2.2.2.1 bt144.2.2.2.2.2.2.2.1 bt144.2.2.2.2.2.2.2.2.1 bt144.2.2.2.2.2.2.2.2.2.1 bt144.2.2.2.2.2.2.2.2.2.2).bind fun t157 => ((tte_Data.f bt144.1 bt144.2.1 bt144.2.2.1 bt144.2.2.2.1 false false false false false false bt144.2.2.2.2.2.2.2.2.2.2).bind fun t158 => (if bt144.2.2.2.2.1 = true then (lookasidelaw03_TteBits.j0 k t157 t158 (0 + 2) bt144.1 bt144.2.1 bt144.2.2.1 bt144.2.2.2.1 bt144.2.2.2.2.1 bt144.2.2.2.2.2.1 bt144.2.2.2.2.2.2.1 bt144.2.2.2.2.2.2.2.1 bt144.2.2.2.2.2.2.2.2.1 bt144.2.2.2.2.2.2.2.2.2.1 bt144.2.2.2.2.2.2.2.2.2.2) else (lookasidelaw03_TteBits.j0 k t157 t158 0 bt144.1 bt144.2.1 bt144.2.2.1 bt144.2.2.2.1 bt144.2.2.2.2.1 bt144.2.2.2.2.2.1 bt144.2.2.2.2.2.2.1 bt144.2.2.2.2.2.2.2.1 bt144.2.2.2.2.2.2.2.2.1 bt144.2.2.2.2.2.2.2.2.2.1 bt144.2.2.2.2.2.2.2.2.2.2))))) = some r := h
  clear h
  have hr_ := Aside0.mk hr0_
  clear hr0_
  replace H := Option.bind_eq_some_iff.mp H
  obtain ⟨⟨t144, t145, t146, t147, t148, t149, t150, t151, t152, t153, t154⟩, A20, H⟩ := H
  replace H : ((tte_Data.f t144 t145 t146 t147 t148 t149 t150 t151 t152 t153 t154).bind fun t157 => ((tte_Data.f t144 t145 t146 t147 false false false false false false t154).bind fun t158 => (if t148 = true then (lookasidelaw03_TteBits.j0 k t157 t158 (0 + 2) t144 t145 t146 t147 t148 t149 t150 t151 t152 t153 t154) else (lookasidelaw03_TteBits.j0 k t157 t158 0 t144 t145 t146 t147 t148 t149 t150 t151 t152 t153 t154)))) = some r := H
  have A2 := Aside0.mk A20
  clear A20
  replace H := Option.bind_eq_some_iff.mp H
  obtain ⟨t157, A30, H⟩ := H
  replace H : ((tte_Data.f t144 t145 t146 t147 false false false false false false t154).bind fun t158 => (if t148 = true then (lookasidelaw03_TteBits.j0 k t157 t158 (0 + 2) t144 t145 t146 t147 t148 t149 t150 t151 t152 t153 t154) else (lookasidelaw03_TteBits.j0 k t157 t158 0 t144 t145 t146 t147 t148 t149 t150 t151 t152 t153 t154))) = some r := H
  have A3 := Aside0.mk A30
  clear A30
  replace H := Option.bind_eq_some_iff.mp H
  obtain ⟨t158, A40, H⟩ := H
  replace H : (if t148 = true then (lookasidelaw03_TteBits.j0 k t157 t158 (0 + 2) t144 t145 t146 t147 t148 t149 t150 t151 t152 t153 t154) else (lookasidelaw03_TteBits.j0 k t157 t158 0 t144 t145 t146 t147 t148 t149 t150 t151 t152 t153 t154)) = some r := H
  have A4 := Aside0.mk A40
  clear A40
  have HC5 := Aside0.mk H
  clear H
  go_enter Try.func4, Try.ntmps4
  go_upto_if 20 with (first | ((with_reducible refine gate_dst (N := 1) rfl ?_); refine box_event ?hg (N := 1) ?hd (cs := #[.int .i64 a0_0, .int .i64 a0_1, .int .u64 a0_2, .int .u64 a0_3, .bool a0_4, .bool a0_5, .bool a0_6, .bool a0_7, .bool a0_8, .bool a0_9, .bool a0_10]) (t := 26) ?hr ?_; (case hd => rfl); (case hg => rfl); (case hr => first | (go_simp; done) | (go_simp; rfl)); intro gb143 hg w6 hbox hb; have n0_ := Aside0.mk (below_step (by repeat (first | (with_reducible first | exact HB.out | apply below_alloc | apply pw_below_drewN | apply below_drew1) | exact HB.out)) hb); have n1_ := Aside0.mk (hbox); have n2_ := Aside0.mk ((by rw [hg]; exact (below_size (by repeat (first | (with_reducible first | exact HB.out | apply below_alloc | apply pw_below_drewN | apply below_drew1) | exact HB.out))) : w.heap.size ≤ gb143)); have n3_ := Aside0.mk ((by rw [hg]; exact (below_size (by repeat (first | (with_reducible first | exact HB.out | apply below_alloc | apply pw_below_drewN | apply below_drew1) | exact HB.out))) : w.heap.size ≤ gb143)); clear HB; have HB := n0_; have BK143 := n1_; have GW143 := n2_; have GE143 := n3_; clear n0_ n1_ n2_ n3_; clear hb hbox hg; have hcz7_0 : w6.cell? ⟨gb143, 0, none⟩ = some (.int .i64 a0_0) := (blk_cell BK143.out 0).trans rfl; have hcz7_1 : w6.cell? ⟨gb143, 1, none⟩ = some (.int .i64 a0_1) := (blk_cell BK143.out 1).trans rfl; have hcz7_2 : w6.cell? ⟨gb143, 2, none⟩ = some (.int .u64 a0_2) := (blk_cell BK143.out 2).trans rfl; have hcz7_3 : w6.cell? ⟨gb143, 3, none⟩ = some (.int .u64 a0_3) := (blk_cell BK143.out 3).trans rfl; have hcz7_4 : w6.cell? ⟨gb143, 4, none⟩ = some (.bool a0_4) := (blk_cell BK143.out 4).trans rfl; have hcz7_5 : w6.cell? ⟨gb143, 5, none⟩ = some (.bool a0_5) := (blk_cell BK143.out 5).trans rfl; have hcz7_6 : w6.cell? ⟨gb143, 6, none⟩ = some (.bool a0_6) := (blk_cell BK143.out 6).trans rfl; have hcz7_7 : w6.cell? ⟨gb143, 7, none⟩ = some (.bool a0_7) := (blk_cell BK143.out 7).trans rfl; have hcz7_8 : w6.cell? ⟨gb143, 8, none⟩ = some (.bool a0_8) := (blk_cell BK143.out 8).trans rfl; have hcz7_9 : w6.cell? ⟨gb143, 9, none⟩ = some (.bool a0_9) := (blk_cell BK143.out 9).trans rfl; have hcz7_10 : w6.cell? ⟨gb143, 10, none⟩ = some (.bool a0_10) := (blk_cell BK143.out 10).trans rfl; have hfz7_0 := blk_frozen BK143.out 0; have hfz7_1 := blk_frozen BK143.out 1; have hfz7_2 := blk_frozen BK143.out 2; have hfz7_3 := blk_frozen BK143.out 3; have hfz7_4 := blk_frozen BK143.out 4; have hfz7_5 := blk_frozen BK143.out 5; have hfz7_6 := blk_frozen BK143.out 6; have hfz7_7 := blk_frozen BK143.out 7; have hfz7_8 := blk_frozen BK143.out 8; have hfz7_9 := blk_frozen BK143.out 9; have hfz7_10 := blk_frozen BK143.out 10) | ((with_reducible refine gate_callee (f := 13) rfl ?_); refine goesL_ (some 10) rfl rfl Try.func13 (by kernel_rfl) rfl #[.agg #[.int .i64 a0_0, .int .i64 a0_1, .int .u64 a0_2, .int .u64 a0_3, .bool a0_4, .bool a0_5, .bool a0_6, .bool a0_7, .bool a0_8, .bool a0_9, .bool a0_10]] rfl (by (try simp only [List.map_toArray, List.map_cons, List.map_nil]); first | done | rfl | (simp only [List.length_drop, List.length_take]; rfl)) ?_; (with_reducible refine (lookasideref03_Good.calls k a0_0 a0_1 a0_2 a0_3 a0_4 a0_5 a0_6 a0_7 a0_8 a0_9 a0_10 t144 t145 t146 t147 t148 t149 t150 t151 t152 t153 t154 _ A2.out).mono ?_); rintro e w8 ⟨rfl, hb⟩; refine ⟨_, rfl, ?_⟩; have n0_ := Aside0.mk (blk_below (g := gb143) (o := .cells #[.int .i64 a0_0, .int .i64 a0_1, .int .u64 a0_2, .int .u64 a0_3, .bool a0_4, .bool a0_5, .bool a0_6, .bool a0_7, .bool a0_8, .bool a0_9, .bool a0_10] 26 (0, 0)) (by (with_reducible repeat (first | refine blk_drewN ?_ _ | refine blk_drew ?_ | refine blk_alloc ?_ _)); exact BK143.out) hb); have n1_ := Aside0.mk (below_step (by repeat (first | (with_reducible first | exact HB.out | apply below_alloc | apply pw_below_drewN | apply below_drew1 | refine below_set ?_ GE143.out) | exact HB.out)) hb); clear BK143; clear HB; have BK143 := n0_; have HB := n1_; clear n0_ n1_; (try clear hb); (try clear hb2); (try clear hk); (try clear hi)) | ((with_reducible refine gate_dst (N := 3) rfl ?_); refine box_event ?hg (N := 3) ?hd (cs := #[.int .i64 0, .int .i64 0, .int .u64 0, .int .u64 0, .bool false, .bool false, .bool false, .bool false, .bool false, .bool false, .bool false]) (t := 26) ?hr ?_; (case hd => rfl); (case hg => rfl); (case hr => first | (go_simp; done) | (go_simp; rfl)); intro gb155 hg w9 hbox hb; have n0_ := Aside0.mk (blk_below (g := gb143) (o := .cells #[.int .i64 a0_0, .int .i64 a0_1, .int .u64 a0_2, .int .u64 a0_3, .bool a0_4, .bool a0_5, .bool a0_6, .bool a0_7, .bool a0_8, .bool a0_9, .bool a0_10] 26 (0, 0)) (by (with_reducible repeat (first | refine blk_drewN ?_ _ | refine blk_drew ?_ | refine blk_alloc ?_ _)); exact BK143.out) hb); have n1_ := Aside0.mk (below_step (by repeat (first | (with_reducible first | exact HB.out | apply below_alloc | apply pw_below_drewN | apply below_drew1 | refine below_set ?_ GE143.out) | exact HB.out)) hb); have n2_ := Aside0.mk (hbox); have n3_ := Aside0.mk ((by rw [hg]; exact (below_size (by repeat (first | (with_reducible first | exact HB.out | apply below_alloc | apply pw_below_drewN | apply below_drew1 | refine below_set ?_ GE143.out) | exact HB.out))) : w.heap.size ≤ gb155)); have n4_ := Aside0.mk ((by rw [hg]; exact (below_size (by repeat (first | (with_reducible first | exact HB.out | apply below_alloc | apply pw_below_drewN | apply below_drew1 | refine below_set ?_ GE143.out) | exact HB.out))) : w.heap.size ≤ gb155)); have n5_ := Aside0.mk ((by rw [hg]; exact Nat.ne_of_lt (blk_lt (g := gb143) (o := .cells #[.int .i64 a0_0, .int .i64 a0_1, .int .u64 a0_2, .int .u64 a0_3, .bool a0_4, .bool a0_5, .bool a0_6, .bool a0_7, .bool a0_8, .bool a0_9, .bool a0_10] 26 (0, 0)) (by (with_reducible repeat (first | refine blk_drewN ?_ _ | refine blk_drew ?_ | refine blk_alloc ?_ _)); exact BK143.out)) : gb143 ≠ gb155)); have n6_ := Aside0.mk ((by rw [hg]; exact Nat.ne_of_gt (blk_lt (g := gb143) (o := .cells #[.int .i64 a0_0, .int .i64 a0_1, .int .u64 a0_2, .int .u64 a0_3, .bool a0_4, .bool a0_5, .bool a0_6, .bool a0_7, .bool a0_8, .bool a0_9, .bool a0_10] 26 (0, 0)) (by (with_reducible repeat (first | refine blk_drewN ?_ _ | refine blk_drew ?_ | refine blk_alloc ?_ _)); exact BK143.out)) : gb155 ≠ gb143)); clear BK143; clear HB; have BK143 := n0_; have HB := n1_; have BK155 := n2_; have GW155 := n3_; have GE155 := n4_; have NB143_155 := n5_; have NB155_143 := n6_; clear n0_ n1_ n2_ n3_ n4_ n5_ n6_; clear hb hbox hg; have hnb10 := NB155_143.out; have hnc10 := NB143_155.out; have hcz11_0 : w9.cell? ⟨gb155, 0, none⟩ = some (.int .i64 0) := (blk_cell BK155.out 0).trans rfl; have hcz11_1 : w9.cell? ⟨gb155, 1, none⟩ = some (.int .i64 0) := (blk_cell BK155.out 1).trans rfl; have hcz11_2 : w9.cell? ⟨gb155, 2, none⟩ = some (.int .u64 0) := (blk_cell BK155.out 2).trans rfl; have hcz11_3 : w9.cell? ⟨gb155, 3, none⟩ = some (.int .u64 0) := (blk_cell BK155.out 3).trans rfl; have hcz11_4 : w9.cell? ⟨gb155, 4, none⟩ = some (.bool false) := (blk_cell BK155.out 4).trans rfl; have hcz11_5 : w9.cell? ⟨gb155, 5, none⟩ = some (.bool false) := (blk_cell BK155.out 5).trans rfl; have hcz11_6 : w9.cell? ⟨gb155, 6, none⟩ = some (.bool false) := (blk_cell BK155.out 6).trans rfl; have hcz11_7 : w9.cell? ⟨gb155, 7, none⟩ = some (.bool false) := (blk_cell BK155.out 7).trans rfl; have hcz11_8 : w9.cell? ⟨gb155, 8, none⟩ = some (.bool false) := (blk_cell BK155.out 8).trans rfl; have hcz11_9 : w9.cell? ⟨gb155, 9, none⟩ = some (.bool false) := (blk_cell BK155.out 9).trans rfl; have hcz11_10 : w9.cell? ⟨gb155, 10, none⟩ = some (.bool false) := (blk_cell BK155.out 10).trans rfl; have hfz11_0 := blk_frozen BK155.out 0; have hfz11_1 := blk_frozen BK155.out 1; have hfz11_2 := blk_frozen BK155.out 2; have hfz11_3 := blk_frozen BK155.out 3; have hfz11_4 := blk_frozen BK155.out 4; have hfz11_5 := blk_frozen BK155.out 5; have hfz11_6 := blk_frozen BK155.out 6; have hfz11_7 := blk_frozen BK155.out 7; have hfz11_8 := blk_frozen BK155.out 8; have hfz11_9 := blk_frozen BK155.out 9; have hfz11_10 := blk_frozen BK155.out 10) | ((with_reducible refine gate_dst (N := 4) rfl ?_); refine box_event ?hg (N := 4) ?hd (cs := #[.int .i64 0, .int .i64 0, .int .u64 0, .int .u64 0, .bool false, .bool false, .bool false, .bool false, .bool false, .bool false, .bool false]) (t := 26) ?hr ?_; (case hd => rfl); (case hg => rfl); (case hr => first | (go_simp; done) | (go_simp; rfl)); intro gb156 hg w12 hbox hb; have n0_ := Aside0.mk (blk_below (g := gb143) (o := .cells #[.int .i64 a0_0, .int .i64 a0_1, .int .u64 a0_2, .int .u64 a0_3, .bool a0_4, .bool a0_5, .bool a0_6, .bool a0_7, .bool a0_8, .bool a0_9, .bool a0_10] 26 (0, 0)) (by (with_reducible repeat (first | refine blk_drewN ?_ _ | refine blk_drew ?_ | refine blk_alloc ?_ _)); refine blk_far ?_ NB143_155.out _; (with_reducible repeat (first | refine blk_drewN ?_ _ | refine blk_drew ?_ | refine blk_alloc ?_ _)); refine blk_far ?_ NB143_155.out _; (with_reducible repeat (first | refine blk_drewN ?_ _ | refine blk_drew ?_ | refine blk_alloc ?_ _)); refine blk_far ?_ NB143_155.out _; (with_reducible repeat (first | refine blk_drewN ?_ _ | refine blk_drew ?_ | refine blk_alloc ?_ _)); refine blk_far ?_ NB143_155.out _; (with_reducible repeat (first | refine blk_drewN ?_ _ | refine blk_drew ?_ | refine blk_alloc ?_ _)); refine blk_far ?_ NB143_155.out _; (with_reducible repeat (first | refine blk_drewN ?_ _ | refine blk_drew ?_ | refine blk_alloc ?_ _)); refine blk_far ?_ NB143_155.out _; (with_reducible repeat (first | refine blk_drewN ?_ _ | refine blk_drew ?_ | refine blk_alloc ?_ _)); refine blk_far ?_ NB143_155.out _; (with_reducible repeat (first | refine blk_drewN ?_ _ | refine blk_drew ?_ | refine blk_alloc ?_ _)); refine blk_far ?_ NB143_155.out _; (with_reducible repeat (first | refine blk_drewN ?_ _ | refine blk_drew ?_ | refine blk_alloc ?_ _)); refine blk_far ?_ NB143_155.out _; (with_reducible repeat (first | refine blk_drewN ?_ _ | refine blk_drew ?_ | refine blk_alloc ?_ _)); refine blk_far ?_ NB143_155.out _; (with_reducible repeat (first | refine blk_drewN ?_ _ | refine blk_drew ?_ | refine blk_alloc ?_ _)); refine blk_far ?_ NB143_155.out _; (with_reducible repeat (first | refine blk_drewN ?_ _ | refine blk_drew ?_ | refine blk_alloc ?_ _)); exact BK143.out) hb); have n1_ := Aside0.mk (blk_below (g := gb155) (o := .cells #[.int .i64 t144, .int .i64 t145, .int .u64 t146, .int .u64 t147, .bool t148, .bool t149, .bool t150, .bool t151, .bool t152, .bool t153, .bool t154] 26 (0, 0)) (by (with_reducible repeat (first | refine blk_drewN ?_ _ | refine blk_drew ?_ | refine blk_alloc ?_ _)); refine blk_put (cs := #[.int .i64 t144, .int .i64 t145, .int .u64 t146, .int .u64 t147, .bool t148, .bool t149, .bool t150, .bool t151, .bool t152, .bool t153, .bool false]) ?_ 10 _ rfl; (with_reducible repeat (first | refine blk_drewN ?_ _ | refine blk_drew ?_ | refine blk_alloc ?_ _)); refine blk_put (cs := #[.int .i64 t144, .int .i64 t145, .int .u64 t146, .int .u64 t147, .bool t148, .bool t149, .bool t150, .bool t151, .bool t152, .bool false, .bool false]) ?_ 9 _ rfl; (with_reducible repeat (first | refine blk_drewN ?_ _ | refine blk_drew ?_ | refine blk_alloc ?_ _)); refine blk_put (cs := #[.int .i64 t144, .int .i64 t145, .int .u64 t146, .int .u64 t147, .bool t148, .bool t149, .bool t150, .bool t151, .bool false, .bool false, .bool false]) ?_ 8 _ rfl; (with_reducible repeat (first | refine blk_drewN ?_ _ | refine blk_drew ?_ | refine blk_alloc ?_ _)); refine blk_put (cs := #[.int .i64 t144, .int .i64 t145, .int .u64 t146, .int .u64 t147, .bool t148, .bool t149, .bool t150, .bool false, .bool false, .bool false, .bool false]) ?_ 7 _ rfl; (with_reducible repeat (first | refine blk_drewN ?_ _ | refine blk_drew ?_ | refine blk_alloc ?_ _)); refine blk_put (cs := #[.int .i64 t144, .int .i64 t145, .int .u64 t146, .int .u64 t147, .bool t148, .bool t149, .bool false, .bool false, .bool false, .bool false, .bool false]) ?_ 6 _ rfl; (with_reducible repeat (first | refine blk_drewN ?_ _ | refine blk_drew ?_ | refine blk_alloc ?_ _)); refine blk_put (cs := #[.int .i64 t144, .int .i64 t145, .int .u64 t146, .int .u64 t147, .bool t148, .bool false, .bool false, .bool false, .bool false, .bool false, .bool false]) ?_ 5 _ rfl; (with_reducible repeat (first | refine blk_drewN ?_ _ | refine blk_drew ?_ | refine blk_alloc ?_ _)); refine blk_put (cs := #[.int .i64 t144, .int .i64 t145, .int .u64 t146, .int .u64 t147, .bool false, .bool false, .bool false, .bool false, .bool false, .bool false, .bool false]) ?_ 4 _ rfl; (with_reducible repeat (first | refine blk_drewN ?_ _ | refine blk_drew ?_ | refine blk_alloc ?_ _)); refine blk_put (cs := #[.int .i64 t144, .int .i64 t145, .int .u64 t146, .int .u64 0, .bool false, .bool false, .bool false, .bool false, .bool false, .bool false, .bool false]) ?_ 3 _ rfl; (with_reducible repeat (first | refine blk_drewN ?_ _ | refine blk_drew ?_ | refine blk_alloc ?_ _)); refine blk_put (cs := #[.int .i64 t144, .int .i64 t145, .int .u64 0, .int .u64 0, .bool false, .bool false, .bool false, .bool false, .bool false, .bool false, .bool false]) ?_ 2 _ rfl; (with_reducible repeat (first | refine blk_drewN ?_ _ | refine blk_drew ?_ | refine blk_alloc ?_ _)); refine blk_put (cs := #[.int .i64 t144, .int .i64 0, .int .u64 0, .int .u64 0, .bool false, .bool false, .bool false, .bool false, .bool false, .bool false, .bool false]) ?_ 1 _ rfl; (with_reducible repeat (first | refine blk_drewN ?_ _ | refine blk_drew ?_ | refine blk_alloc ?_ _)); refine blk_put (cs := #[.int .i64 0, .int .i64 0, .int .u64 0, .int .u64 0, .bool false, .bool false, .bool false, .bool false, .bool false, .bool false, .bool false]) ?_ 0 _ rfl; (with_reducible repeat (first | refine blk_drewN ?_ _ | refine blk_drew ?_ | refine blk_alloc ?_ _)); exact BK155.out) hb); have n2_ := Aside0.mk (below_step (by repeat (first | (with_reducible first | exact HB.out | apply below_alloc | apply pw_below_drewN | apply below_drew1 | refine below_set ?_ GE143.out | refine below_set ?_ GE155.out) | exact HB.out)) hb); have n3_ := Aside0.mk (hbox); have n4_ := Aside0.mk ((by rw [hg]; exact (below_size (by repeat (first | (with_reducible first | exact HB.out | apply below_alloc | apply pw_below_drewN | apply below_drew1 | refine below_set ?_ GE143.out | refine below_set ?_ GE155.out) | exact HB.out))) : w.heap.size ≤ gb156)); have n5_ := Aside0.mk ((by rw [hg]; exact (below_size (by repeat (first | (with_reducible first | exact HB.out | apply below_alloc | apply pw_below_drewN | apply below_drew1 | refine below_set ?_ GE143.out | refine below_set ?_ GE155.out) | exact HB.out))) : w.heap.size ≤ gb156)); have n6_ := Aside0.mk ((by rw [hg]; exact Nat.ne_of_lt (blk_lt (g := gb143) (o := .cells #[.int .i64 a0_0, .int .i64 a0_1, .int .u64 a0_2, .int .u64 a0_3, .bool a0_4, .bool a0_5, .bool a0_6, .bool a0_7, .bool a0_8, .bool a0_9, .bool a0_10] 26 (0, 0)) (by (with_reducible repeat (first | refine blk_drewN ?_ _ | refine blk_drew ?_ | refine blk_alloc ?_ _)); refine blk_far ?_ NB143_155.out _; (with_reducible repeat (first | refine blk_drewN ?_ _ | refine blk_drew ?_ | refine blk_alloc ?_ _)); refine blk_far ?_ NB143_155.out _; (with_reducible repeat (first | refine blk_drewN ?_ _ | refine blk_drew ?_ | refine blk_alloc ?_ _)); refine blk_far ?_ NB143_155.out _; (with_reducible repeat (first | refine blk_drewN ?_ _ | refine blk_drew ?_ | refine blk_alloc ?_ _)); refine blk_far ?_ NB143_155.out _; (with_reducible repeat (first | refine blk_drewN ?_ _ | refine blk_drew ?_ | refine blk_alloc ?_ _)); refine blk_far ?_ NB143_155.out _; (with_reducible repeat (first | refine blk_drewN ?_ _ | refine blk_drew ?_ | refine blk_alloc ?_ _)); refine blk_far ?_ NB143_155.out _; (with_reducible repeat (first | refine blk_drewN ?_ _ | refine blk_drew ?_ | refine blk_alloc ?_ _)); refine blk_far ?_ NB143_155.out _; (with_reducible repeat (first | refine blk_drewN ?_ _ | refine blk_drew ?_ | refine blk_alloc ?_ _)); refine blk_far ?_ NB143_155.out _; (with_reducible repeat (first | refine blk_drewN ?_ _ | refine blk_drew ?_ | refine blk_alloc ?_ _)); refine blk_far ?_ NB143_155.out _; (with_reducible repeat (first | refine blk_drewN ?_ _ | refine blk_drew ?_ | refine blk_alloc ?_ _)); refine blk_far ?_ NB143_155.out _; (with_reducible repeat (first | refine blk_drewN ?_ _ | refine blk_drew ?_ | refine blk_alloc ?_ _)); refine blk_far ?_ NB143_155.out _; (with_reducible repeat (first | refine blk_drewN ?_ _ | refine blk_drew ?_ | refine blk_alloc ?_ _)); exact BK143.out)) : gb143 ≠ gb156)); have n7_ := Aside0.mk ((by rw [hg]; exact Nat.ne_of_gt (blk_lt (g := gb143) (o := .cells #[.int .i64 a0_0, .int .i64 a0_1, .int .u64 a0_2, .int .u64 a0_3, .bool a0_4, .bool a0_5, .bool a0_6, .bool a0_7, .bool a0_8, .bool a0_9, .bool a0_10] 26 (0, 0)) (by (with_reducible repeat (first | refine blk_drewN ?_ _ | refine blk_drew ?_ | refine blk_alloc ?_ _)); refine blk_far ?_ NB143_155.out _; (with_reducible repeat (first | refine blk_drewN ?_ _ | refine blk_drew ?_ | refine blk_alloc ?_ _)); refine blk_far ?_ NB143_155.out _; (with_reducible repeat (first | refine blk_drewN ?_ _ | refine blk_drew ?_ | refine blk_alloc ?_ _)); refine blk_far ?_ NB143_155.out _; (with_reducible repeat (first | refine blk_drewN ?_ _ | refine blk_drew ?_ | refine blk_alloc ?_ _)); refine blk_far ?_ NB143_155.out _; (with_reducible repeat (first | refine blk_drewN ?_ _ | refine blk_drew ?_ | refine blk_alloc ?_ _)); refine blk_far ?_ NB143_155.out _; (with_reducible repeat (first | refine blk_drewN ?_ _ | refine blk_drew ?_ | refine blk_alloc ?_ _)); refine blk_far ?_ NB143_155.out _; (with_reducible repeat (first | refine blk_drewN ?_ _ | refine blk_drew ?_ | refine blk_alloc ?_ _)); refine blk_far ?_ NB143_155.out _; (with_reducible repeat (first | refine blk_drewN ?_ _ | refine blk_drew ?_ | refine blk_alloc ?_ _)); refine blk_far ?_ NB143_155.out _; (with_reducible repeat (first | refine blk_drewN ?_ _ | refine blk_drew ?_ | refine blk_alloc ?_ _)); refine blk_far ?_ NB143_155.out _; (with_reducible repeat (first | refine blk_drewN ?_ _ | refine blk_drew ?_ | refine blk_alloc ?_ _)); refine blk_far ?_ NB143_155.out _; (with_reducible repeat (first | refine blk_drewN ?_ _ | refine blk_drew ?_ | refine blk_alloc ?_ _)); refine blk_far ?_ NB143_155.out _; (with_reducible repeat (first | refine blk_drewN ?_ _ | refine blk_drew ?_ | refine blk_alloc ?_ _)); exact BK143.out)) : gb156 ≠ gb143)); have n8_ := Aside0.mk ((by rw [hg]; exact Nat.ne_of_lt (blk_lt (g := gb155) (o := .cells #[.int .i64 t144, .int .i64 t145, .int .u64 t146, .int .u64 t147, .bool t148, .bool t149, .bool t150, .bool t151, .bool t152, .bool t153, .bool t154] 26 (0, 0)) (by (with_reducible repeat (first | refine blk_drewN ?_ _ | refine blk_drew ?_ | refine blk_alloc ?_ _)); refine blk_put (cs := #[.int .i64 t144, .int .i64 t145, .int .u64 t146, .int .u64 t147, .bool t148, .bool t149, .bool t150, .bool t151, .bool t152, .bool t153, .bool false]) ?_ 10 _ rfl; (with_reducible repeat (first | refine blk_drewN ?_ _ | refine blk_drew ?_ | refine blk_alloc ?_ _)); refine blk_put (cs := #[.int .i64 t144, .int .i64 t145, .int .u64 t146, .int .u64 t147, .bool t148, .bool t149, .bool t150, .bool t151, .bool t152, .bool false, .bool false]) ?_ 9 _ rfl; (with_reducible repeat (first | refine blk_drewN ?_ _ | refine blk_drew ?_ | refine blk_alloc ?_ _)); refine blk_put (cs := #[.int .i64 t144, .int .i64 t145, .int .u64 t146, .int .u64 t147, .bool t148, .bool t149, .bool t150, .bool t151, .bool false, .bool false, .bool false]) ?_ 8 _ rfl; (with_reducible repeat (first | refine blk_drewN ?_ _ | refine blk_drew ?_ | refine blk_alloc ?_ _)); refine blk_put (cs := #[.int .i64 t144, .int .i64 t145, .int .u64 t146, .int .u64 t147, .bool t148, .bool t149, .bool t150, .bool false, .bool false, .bool false, .bool false]) ?_ 7 _ rfl; (with_reducible repeat (first | refine blk_drewN ?_ _ | refine blk_drew ?_ | refine blk_alloc ?_ _)); refine blk_put (cs := #[.int .i64 t144, .int .i64 t145, .int .u64 t146, .int .u64 t147, .bool t148, .bool t149, .bool false, .bool false, .bool false, .bool false, .bool false]) ?_ 6 _ rfl; (with_reducible repeat (first | refine blk_drewN ?_ _ | refine blk_drew ?_ | refine blk_alloc ?_ _)); refine blk_put (cs := #[.int .i64 t144, .int .i64 t145, .int .u64 t146, .int .u64 t147, .bool t148, .bool false, .bool false, .bool false, .bool false, .bool false, .bool false]) ?_ 5 _ rfl; (with_reducible repeat (first | refine blk_drewN ?_ _ | refine blk_drew ?_ | refine blk_alloc ?_ _)); refine blk_put (cs := #[.int .i64 t144, .int .i64 t145, .int .u64 t146, .int .u64 t147, .bool false, .bool false, .bool false, .bool false, .bool false, .bool false, .bool false]) ?_ 4 _ rfl; (with_reducible repeat (first | refine blk_drewN ?_ _ | refine blk_drew ?_ | refine blk_alloc ?_ _)); refine blk_put (cs := #[.int .i64 t144, .int .i64 t145, .int .u64 t146, .int .u64 0, .bool false, .bool false, .bool false, .bool false, .bool false, .bool false, .bool false]) ?_ 3 _ rfl; (with_reducible repeat (first | refine blk_drewN ?_ _ | refine blk_drew ?_ | refine blk_alloc ?_ _)); refine blk_put (cs := #[.int .i64 t144, .int .i64 t145, .int .u64 0, .int .u64 0, .bool false, .bool false, .bool false, .bool false, .bool false, .bool false, .bool false]) ?_ 2 _ rfl; (with_reducible repeat (first | refine blk_drewN ?_ _ | refine blk_drew ?_ | refine blk_alloc ?_ _)); refine blk_put (cs := #[.int .i64 t144, .int .i64 0, .int .u64 0, .int .u64 0, .bool false, .bool false, .bool false, .bool false, .bool false, .bool false, .bool false]) ?_ 1 _ rfl; (with_reducible repeat (first | refine blk_drewN ?_ _ | refine blk_drew ?_ | refine blk_alloc ?_ _)); refine blk_put (cs := #[.int .i64 0, .int .i64 0, .int .u64 0, .int .u64 0, .bool false, .bool false, .bool false, .bool false, .bool false, .bool false, .bool false]) ?_ 0 _ rfl; (with_reducible repeat (first | refine blk_drewN ?_ _ | refine blk_drew ?_ | refine blk_alloc ?_ _)); exact BK155.out)) : gb155 ≠ gb156)); have n9_ := Aside0.mk ((by rw [hg]; exact Nat.ne_of_gt (blk_lt (g := gb155) (o := .cells #[.int .i64 t144, .int .i64 t145, .int .u64 t146, .int .u64 t147, .bool t148, .bool t149, .bool t150, .bool t151, .bool t152, .bool t153, .bool t154] 26 (0, 0)) (by (with_reducible repeat (first | refine blk_drewN ?_ _ | refine blk_drew ?_ | refine blk_alloc ?_ _)); refine blk_put (cs := #[.int .i64 t144, .int .i64 t145, .int .u64 t146, .int .u64 t147, .bool t148, .bool t149, .bool t150, .bool t151, .bool t152, .bool t153, .bool false]) ?_ 10 _ rfl; (with_reducible repeat (first | refine blk_drewN ?_ _ | refine blk_drew ?_ | refine blk_alloc ?_ _)); refine blk_put (cs := #[.int .i64 t144, .int .i64 t145, .int .u64 t146, .int .u64 t147, .bool t148, .bool t149, .bool t150, .bool t151, .bool t152, .bool false, .bool false]) ?_ 9 _ rfl; (with_reducible repeat (first | refine blk_drewN ?_ _ | refine blk_drew ?_ | refine blk_alloc ?_ _)); refine blk_put (cs := #[.int .i64 t144, .int .i64 t145, .int .u64 t146, .int .u64 t147, .bool t148, .bool t149, .bool t150, .bool t151, .bool false, .bool false, .bool false]) ?_ 8 _ rfl; (with_reducible repeat (first | refine blk_drewN ?_ _ | refine blk_drew ?_ | refine blk_alloc ?_ _)); refine blk_put (cs := #[.int .i64 t144, .int .i64 t145, .int .u64 t146, .int .u64 t147, .bool t148, .bool t149, .bool t150, .bool false, .bool false, .bool false, .bool false]) ?_ 7 _ rfl; (with_reducible repeat (first | refine blk_drewN ?_ _ | refine blk_drew ?_ | refine blk_alloc ?_ _)); refine blk_put (cs := #[.int .i64 t144, .int .i64 t145, .int .u64 t146, .int .u64 t147, .bool t148, .bool t149, .bool false, .bool false, .bool false, .bool false, .bool false]) ?_ 6 _ rfl; (with_reducible repeat (first | refine blk_drewN ?_ _ | refine blk_drew ?_ | refine blk_alloc ?_ _)); refine blk_put (cs := #[.int .i64 t144, .int .i64 t145, .int .u64 t146, .int .u64 t147, .bool t148, .bool false, .bool false, .bool false, .bool false, .bool false, .bool false]) ?_ 5 _ rfl; (with_reducible repeat (first | refine blk_drewN ?_ _ | refine blk_drew ?_ | refine blk_alloc ?_ _)); refine blk_put (cs := #[.int .i64 t144, .int .i64 t145, .int .u64 t146, .int .u64 t147, .bool false, .bool false, .bool false, .bool false, .bool false, .bool false, .bool false]) ?_ 4 _ rfl; (with_reducible repeat (first | refine blk_drewN ?_ _ | refine blk_drew ?_ | refine blk_alloc ?_ _)); refine blk_put (cs := #[.int .i64 t144, .int .i64 t145, .int .u64 t146, .int .u64 0, .bool false, .bool false, .bool false, .bool false, .bool false, .bool false, .bool false]) ?_ 3 _ rfl; (with_reducible repeat (first | refine blk_drewN ?_ _ | refine blk_drew ?_ | refine blk_alloc ?_ _)); refine blk_put (cs := #[.int .i64 t144, .int .i64 t145, .int .u64 0, .int .u64 0, .bool false, .bool false, .bool false, .bool false, .bool false, .bool false, .bool false]) ?_ 2 _ rfl; (with_reducible repeat (first | refine blk_drewN ?_ _ | refine blk_drew ?_ | refine blk_alloc ?_ _)); refine blk_put (cs := #[.int .i64 t144, .int .i64 0, .int .u64 0, .int .u64 0, .bool false, .bool false, .bool false, .bool false, .bool false, .bool false, .bool false]) ?_ 1 _ rfl; (with_reducible repeat (first | refine blk_drewN ?_ _ | refine blk_drew ?_ | refine blk_alloc ?_ _)); refine blk_put (cs := #[.int .i64 0, .int .i64 0, .int .u64 0, .int .u64 0, .bool false, .bool false, .bool false, .bool false, .bool false, .bool false, .bool false]) ?_ 0 _ rfl; (with_reducible repeat (first | refine blk_drewN ?_ _ | refine blk_drew ?_ | refine blk_alloc ?_ _)); exact BK155.out)) : gb156 ≠ gb155)); clear BK143; clear BK155; clear HB; have BK143 := n0_; have BK155 := n1_; have HB := n2_; have BK156 := n3_; have GW156 := n4_; have GE156 := n5_; have NB143_156 := n6_; have NB156_143 := n7_; have NB155_156 := n8_; have NB156_155 := n9_; clear n0_ n1_ n2_ n3_ n4_ n5_ n6_ n7_ n8_ n9_; clear hb hbox hg; have hnb13 := NB156_143.out; have hnc13 := NB143_156.out; have hnb14 := NB156_155.out; have hnc14 := NB155_156.out; have hcz15_0 : w12.cell? ⟨gb156, 0, none⟩ = some (.int .i64 0) := (blk_cell BK156.out 0).trans rfl; have hcz15_1 : w12.cell? ⟨gb156, 1, none⟩ = some (.int .i64 0) := (blk_cell BK156.out 1).trans rfl; have hcz15_2 : w12.cell? ⟨gb156, 2, none⟩ = some (.int .u64 0) := (blk_cell BK156.out 2).trans rfl; have hcz15_3 : w12.cell? ⟨gb156, 3, none⟩ = some (.int .u64 0) := (blk_cell BK156.out 3).trans rfl; have hcz15_4 : w12.cell? ⟨gb156, 4, none⟩ = some (.bool false) := (blk_cell BK156.out 4).trans rfl; have hcz15_5 : w12.cell? ⟨gb156, 5, none⟩ = some (.bool false) := (blk_cell BK156.out 5).trans rfl; have hcz15_6 : w12.cell? ⟨gb156, 6, none⟩ = some (.bool false) := (blk_cell BK156.out 6).trans rfl; have hcz15_7 : w12.cell? ⟨gb156, 7, none⟩ = some (.bool false) := (blk_cell BK156.out 7).trans rfl; have hcz15_8 : w12.cell? ⟨gb156, 8, none⟩ = some (.bool false) := (blk_cell BK156.out 8).trans rfl; have hcz15_9 : w12.cell? ⟨gb156, 9, none⟩ = some (.bool false) := (blk_cell BK156.out 9).trans rfl; have hcz15_10 : w12.cell? ⟨gb156, 10, none⟩ = some (.bool false) := (blk_cell BK156.out 10).trans rfl; have hfz15_0 := blk_frozen BK156.out 0; have hfz15_1 := blk_frozen BK156.out 1; have hfz15_2 := blk_frozen BK156.out 2; have hfz15_3 := blk_frozen BK156.out 3; have hfz15_4 := blk_frozen BK156.out 4; have hfz15_5 := blk_frozen BK156.out 5; have hfz15_6 := blk_frozen BK156.out 6; have hfz15_7 := blk_frozen BK156.out 7; have hfz15_8 := blk_frozen BK156.out 8; have hfz15_9 := blk_frozen BK156.out 9; have hfz15_10 := blk_frozen BK156.out 10; have hcz16_0 : w12.cell? ⟨gb155, 0, none⟩ = some (.int .i64 t144) := (blk_cell BK155.out 0).trans rfl; have hcz16_1 : w12.cell? ⟨gb155, 1, none⟩ = some (.int .i64 t145) := (blk_cell BK155.out 1).trans rfl; have hcz16_2 : w12.cell? ⟨gb155, 2, none⟩ = some (.int .u64 t146) := (blk_cell BK155.out 2).trans rfl; have hcz16_3 : w12.cell? ⟨gb155, 3, none⟩ = some (.int .u64 t147) := (blk_cell BK155.out 3).trans rfl; have hcz16_4 : w12.cell? ⟨gb155, 4, none⟩ = some (.bool t148) := (blk_cell BK155.out 4).trans rfl; have hcz16_5 : w12.cell? ⟨gb155, 5, none⟩ = some (.bool t149) := (blk_cell BK155.out 5).trans rfl; have hcz16_6 : w12.cell? ⟨gb155, 6, none⟩ = some (.bool t150) := (blk_cell BK155.out 6).trans rfl; have hcz16_7 : w12.cell? ⟨gb155, 7, none⟩ = some (.bool t151) := (blk_cell BK155.out 7).trans rfl; have hcz16_8 : w12.cell? ⟨gb155, 8, none⟩ = some (.bool t152) := (blk_cell BK155.out 8).trans rfl; have hcz16_9 : w12.cell? ⟨gb155, 9, none⟩ = some (.bool t153) := (blk_cell BK155.out 9).trans rfl; have hcz16_10 : w12.cell? ⟨gb155, 10, none⟩ = some (.bool t154) := (blk_cell BK155.out 10).trans rfl; have hfz16_0 := blk_frozen BK155.out 0; have hfz16_1 := blk_frozen BK155.out 1; have hfz16_2 := blk_frozen BK155.out 2; have hfz16_3 := blk_frozen BK155.out 3; have hfz16_4 := blk_frozen BK155.out 4; have hfz16_5 := blk_frozen BK155.out 5; have hfz16_6 := blk_frozen BK155.out 6; have hfz16_7 := blk_frozen BK155.out 7; have hfz16_8 := blk_frozen BK155.out 8; have hfz16_9 := blk_frozen BK155.out 9; have hfz16_10 := blk_frozen BK155.out 10) | ((with_reducible refine gate_callee (f := 15) rfl ?_); refine goesL_ (some 15) rfl rfl Try.func15 (by kernel_rfl) rfl #[.agg #[.int .i64 t144, .int .i64 t145, .int .u64 t146, .int .u64 t147, .bool t148, .bool t149, .bool t150, .bool t151, .bool t152, .bool t153, .bool t154]] rfl (by (try simp only [List.map_toArray, List.map_cons, List.map_nil]); first | done | rfl | (simp only [List.length_drop, List.length_take]; rfl)) ?_; (with_reducible refine (tte_Data.calls t144 t145 t146 t147 t148 t149 t150 t151 t152 t153 t154 t157 _ A3.out).mono ?_); rintro e w17 ⟨rfl, hb⟩; refine ⟨_, rfl, ?_⟩; have n0_ := Aside0.mk (blk_below (g := gb143) (o := .cells #[.int .i64 a0_0, .int .i64 a0_1, .int .u64 a0_2, .int .u64 a0_3, .bool a0_4, .bool a0_5, .bool a0_6, .bool a0_7, .bool a0_8, .bool a0_9, .bool a0_10] 26 (0, 0)) (by (with_reducible repeat (first | refine blk_drewN ?_ _ | refine blk_drew ?_ | refine blk_alloc ?_ _)); refine blk_far ?_ NB143_156.out _; (with_reducible repeat (first | refine blk_drewN ?_ _ | refine blk_drew ?_ | refine blk_alloc ?_ _)); refine blk_far ?_ NB143_156.out _; (with_reducible repeat (first | refine blk_drewN ?_ _ | refine blk_drew ?_ | refine blk_alloc ?_ _)); refine blk_far ?_ NB143_156.out _; (with_reducible repeat (first | refine blk_drewN ?_ _ | refine blk_drew ?_ | refine blk_alloc ?_ _)); refine blk_far ?_ NB143_156.out _; (with_reducible repeat (first | refine blk_drewN ?_ _ | refine blk_drew ?_ | refine blk_alloc ?_ _)); refine blk_far ?_ NB143_156.out _; (with_reducible repeat (first | refine blk_drewN ?_ _ | refine blk_drew ?_ | refine blk_alloc ?_ _)); refine blk_far ?_ NB143_156.out _; (with_reducible repeat (first | refine blk_drewN ?_ _ | refine blk_drew ?_ | refine blk_alloc ?_ _)); refine blk_far ?_ NB143_156.out _; (with_reducible repeat (first | refine blk_drewN ?_ _ | refine blk_drew ?_ | refine blk_alloc ?_ _)); refine blk_far ?_ NB143_156.out _; (with_reducible repeat (first | refine blk_drewN ?_ _ | refine blk_drew ?_ | refine blk_alloc ?_ _)); refine blk_far ?_ NB143_156.out _; (with_reducible repeat (first | refine blk_drewN ?_ _ | refine blk_drew ?_ | refine blk_alloc ?_ _)); refine blk_far ?_ NB143_156.out _; (with_reducible repeat (first | refine blk_drewN ?_ _ | refine blk_drew ?_ | refine blk_alloc ?_ _)); refine blk_far ?_ NB143_156.out _; (with_reducible repeat (first | refine blk_drewN ?_ _ | refine blk_drew ?_ | refine blk_alloc ?_ _)); refine blk_far ?_ NB143_156.out _; (with_reducible repeat (first | refine blk_drewN ?_ _ | refine blk_drew ?_ | refine blk_alloc ?_ _)); refine blk_far ?_ NB143_156.out _; (with_reducible repeat (first | refine blk_drewN ?_ _ | refine blk_drew ?_ | refine blk_alloc ?_ _)); refine blk_far ?_ NB143_156.out _; (with_reducible repeat (first | refine blk_drewN ?_ _ | refine blk_drew ?_ | refine blk_alloc ?_ _)); refine blk_far ?_ NB143_156.out _; (with_reducible repeat (first | refine blk_drewN ?_ _ | refine blk_drew ?_ | refine blk_alloc ?_ _)); refine blk_far ?_ NB143_156.out _; (with_reducible repeat (first | refine blk_drewN ?_ _ | refine blk_drew ?_ | refine blk_alloc ?_ _)); refine blk_far ?_ NB143_156.out _; (with_reducible repeat (first | refine blk_drewN ?_ _ | refine blk_drew ?_ | refine blk_alloc ?_ _)); exact BK143.out) hb); have n1_ := Aside0.mk (blk_below (g := gb155) (o := .cells #[.int .i64 t144, .int .i64 t145, .int .u64 t146, .int .u64 t147, .bool t148, .bool t149, .bool t150, .bool t151, .bool t152, .bool t153, .bool t154] 26 (0, 0)) (by (with_reducible repeat (first | refine blk_drewN ?_ _ | refine blk_drew ?_ | refine blk_alloc ?_ _)); refine blk_far ?_ NB155_156.out _; (with_reducible repeat (first | refine blk_drewN ?_ _ | refine blk_drew ?_ | refine blk_alloc ?_ _)); refine blk_far ?_ NB155_156.out _; (with_reducible repeat (first | refine blk_drewN ?_ _ | refine blk_drew ?_ | refine blk_alloc ?_ _)); refine blk_far ?_ NB155_156.out _; (with_reducible repeat (first | refine blk_drewN ?_ _ | refine blk_drew ?_ | refine blk_alloc ?_ _)); refine blk_far ?_ NB155_156.out _; (with_reducible repeat (first | refine blk_drewN ?_ _ | refine blk_drew ?_ | refine blk_alloc ?_ _)); refine blk_far ?_ NB155_156.out _; (with_reducible repeat (first | refine blk_drewN ?_ _ | refine blk_drew ?_ | refine blk_alloc ?_ _)); refine blk_far ?_ NB155_156.out _; (with_reducible repeat (first | refine blk_drewN ?_ _ | refine blk_drew ?_ | refine blk_alloc ?_ _)); refine blk_far ?_ NB155_156.out _; (with_reducible repeat (first | refine blk_drewN ?_ _ | refine blk_drew ?_ | refine blk_alloc ?_ _)); refine blk_far ?_ NB155_156.out _; (with_reducible repeat (first | refine blk_drewN ?_ _ | refine blk_drew ?_ | refine blk_alloc ?_ _)); refine blk_far ?_ NB155_156.out _; (with_reducible repeat (first | refine blk_drewN ?_ _ | refine blk_drew ?_ | refine blk_alloc ?_ _)); refine blk_far ?_ NB155_156.out _; (with_reducible repeat (first | refine blk_drewN ?_ _ | refine blk_drew ?_ | refine blk_alloc ?_ _)); refine blk_far ?_ NB155_156.out _; (with_reducible repeat (first | refine blk_drewN ?_ _ | refine blk_drew ?_ | refine blk_alloc ?_ _)); refine blk_far ?_ NB155_156.out _; (with_reducible repeat (first | refine blk_drewN ?_ _ | refine blk_drew ?_ | refine blk_alloc ?_ _)); refine blk_far ?_ NB155_156.out _; (with_reducible repeat (first | refine blk_drewN ?_ _ | refine blk_drew ?_ | refine blk_alloc ?_ _)); refine blk_far ?_ NB155_156.out _; (with_reducible repeat (first | refine blk_drewN ?_ _ | refine blk_drew ?_ | refine blk_alloc ?_ _)); refine blk_far ?_ NB155_156.out _; (with_reducible repeat (first | refine blk_drewN ?_ _ | refine blk_drew ?_ | refine blk_alloc ?_ _)); refine blk_far ?_ NB155_156.out _; (with_reducible repeat (first | refine blk_drewN ?_ _ | refine blk_drew ?_ | refine blk_alloc ?_ _)); refine blk_far ?_ NB155_156.out _; (with_reducible repeat (first | refine blk_drewN ?_ _ | refine blk_drew ?_ | refine blk_alloc ?_ _)); exact BK155.out) hb); have n2_ := Aside0.mk (blk_below (g := gb156) (o := .cells #[.int .i64 t144, .int .i64 t145, .int .u64 t146, .int .u64 t147, .bool false, .bool false, .bool false, .bool false, .bool false, .bool false, .bool t154] 26 (0, 0)) (by (with_reducible repeat (first | refine blk_drewN ?_ _ | refine blk_drew ?_ | refine blk_alloc ?_ _)); refine blk_put (cs := #[.int .i64 t144, .int .i64 t145, .int .u64 t146, .int .u64 t147, .bool false, .bool false, .bool false, .bool false, .bool false, .bool t153, .bool t154]) ?_ 9 _ rfl; (with_reducible repeat (first | refine blk_drewN ?_ _ | refine blk_drew ?_ | refine blk_alloc ?_ _)); refine blk_put (cs := #[.int .i64 t144, .int .i64 t145, .int .u64 t146, .int .u64 t147, .bool false, .bool false, .bool false, .bool false, .bool t152, .bool t153, .bool t154]) ?_ 8 _ rfl; (with_reducible repeat (first | refine blk_drewN ?_ _ | refine blk_drew ?_ | refine blk_alloc ?_ _)); refine blk_put (cs := #[.int .i64 t144, .int .i64 t145, .int .u64 t146, .int .u64 t147, .bool false, .bool false, .bool false, .bool t151, .bool t152, .bool t153, .bool t154]) ?_ 7 _ rfl; (with_reducible repeat (first | refine blk_drewN ?_ _ | refine blk_drew ?_ | refine blk_alloc ?_ _)); refine blk_put (cs := #[.int .i64 t144, .int .i64 t145, .int .u64 t146, .int .u64 t147, .bool false, .bool false, .bool t150, .bool t151, .bool t152, .bool t153, .bool t154]) ?_ 6 _ rfl; (with_reducible repeat (first | refine blk_drewN ?_ _ | refine blk_drew ?_ | refine blk_alloc ?_ _)); refine blk_put (cs := #[.int .i64 t144, .int .i64 t145, .int .u64 t146, .int .u64 t147, .bool false, .bool t149, .bool t150, .bool t151, .bool t152, .bool t153, .bool t154]) ?_ 5 _ rfl; (with_reducible repeat (first | refine blk_drewN ?_ _ | refine blk_drew ?_ | refine blk_alloc ?_ _)); refine blk_put (cs := #[.int .i64 t144, .int .i64 t145, .int .u64 t146, .int .u64 t147, .bool t148, .bool t149, .bool t150, .bool t151, .bool t152, .bool t153, .bool t154]) ?_ 4 _ rfl; (with_reducible repeat (first | refine blk_drewN ?_ _ | refine blk_drew ?_ | refine blk_alloc ?_ _)); refine blk_put (cs := #[.int .i64 t144, .int .i64 t145, .int .u64 t146, .int .u64 t147, .bool t148, .bool t149, .bool t150, .bool t151, .bool t152, .bool t153, .bool false]) ?_ 10 _ rfl; (with_reducible repeat (first | refine blk_drewN ?_ _ | refine blk_drew ?_ | refine blk_alloc ?_ _)); refine blk_put (cs := #[.int .i64 t144, .int .i64 t145, .int .u64 t146, .int .u64 t147, .bool t148, .bool t149, .bool t150, .bool t151, .bool t152, .bool false, .bool false]) ?_ 9 _ rfl; (with_reducible repeat (first | refine blk_drewN ?_ _ | refine blk_drew ?_ | refine blk_alloc ?_ _)); refine blk_put (cs := #[.int .i64 t144, .int .i64 t145, .int .u64 t146, .int .u64 t147, .bool t148, .bool t149, .bool t150, .bool t151, .bool false, .bool false, .bool false]) ?_ 8 _ rfl; (with_reducible repeat (first | refine blk_drewN ?_ _ | refine blk_drew ?_ | refine blk_alloc ?_ _)); refine blk_put (cs := #[.int .i64 t144, .int .i64 t145, .int .u64 t146, .int .u64 t147, .bool t148, .bool t149, .bool t150, .bool false, .bool false, .bool false, .bool false]) ?_ 7 _ rfl; (with_reducible repeat (first | refine blk_drewN ?_ _ | refine blk_drew ?_ | refine blk_alloc ?_ _)); refine blk_put (cs := #[.int .i64 t144, .int .i64 t145, .int .u64 t146, .int .u64 t147, .bool t148, .bool t149, .bool false, .bool false, .bool false, .bool false, .bool false]) ?_ 6 _ rfl; (with_reducible repeat (first | refine blk_drewN ?_ _ | refine blk_drew ?_ | refine blk_alloc ?_ _)); refine blk_put (cs := #[.int .i64 t144, .int .i64 t145, .int .u64 t146, .int .u64 t147, .bool t148, .bool false, .bool false, .bool false, .bool false, .bool false, .bool false]) ?_ 5 _ rfl; (with_reducible repeat (first | refine blk_drewN ?_ _ | refine blk_drew ?_ | refine blk_alloc ?_ _)); refine blk_put (cs := #[.int .i64 t144, .int .i64 t145, .int .u64 t146, .int .u64 t147, .bool false, .bool false, .bool false, .bool false, .bool false, .bool false, .bool false]) ?_ 4 _ rfl; (with_reducible repeat (first | refine blk_drewN ?_ _ | refine blk_drew ?_ | refine blk_alloc ?_ _)); refine blk_put (cs := #[.int .i64 t144, .int .i64 t145, .int .u64 t146, .int .u64 0, .bool false, .bool false, .bool false, .bool false, .bool false, .bool false, .bool false]) ?_ 3 _ rfl; (with_reducible repeat (first | refine blk_drewN ?_ _ | refine blk_drew ?_ | refine blk_alloc ?_ _)); refine blk_put (cs := #[.int .i64 t144, .int .i64 t145, .int .u64 0, .int .u64 0, .bool false, .bool false, .bool false, .bool false, .bool false, .bool false, .bool false]) ?_ 2 _ rfl; (with_reducible repeat (first | refine blk_drewN ?_ _ | refine blk_drew ?_ | refine blk_alloc ?_ _)); refine blk_put (cs := #[.int .i64 t144, .int .i64 0, .int .u64 0, .int .u64 0, .bool false, .bool false, .bool false, .bool false, .bool false, .bool false, .bool false]) ?_ 1 _ rfl; (with_reducible repeat (first | refine blk_drewN ?_ _ | refine blk_drew ?_ | refine blk_alloc ?_ _)); refine blk_put (cs := #[.int .i64 0, .int .i64 0, .int .u64 0, .int .u64 0, .bool false, .bool false, .bool false, .bool false, .bool false, .bool false, .bool false]) ?_ 0 _ rfl; (with_reducible repeat (first | refine blk_drewN ?_ _ | refine blk_drew ?_ | refine blk_alloc ?_ _)); exact BK156.out) hb); have n3_ := Aside0.mk (below_step (by repeat (first | (with_reducible first | exact HB.out | apply below_alloc | apply pw_below_drewN | apply below_drew1 | refine below_set ?_ GE143.out | refine below_set ?_ GE155.out | refine below_set ?_ GE156.out) | exact HB.out)) hb); clear BK143; clear BK155; clear BK156; clear HB; have BK143 := n0_; have BK155 := n1_; have BK156 := n2_; have HB := n3_; clear n0_ n1_ n2_ n3_; (try clear hb); (try clear hb2); (try clear hk); (try clear hi); have hcz18_0 : w17.cell? ⟨gb156, 0, none⟩ = some (.int .i64 t144) := (blk_cell BK156.out 0).trans rfl; have hcz18_1 : w17.cell? ⟨gb156, 1, none⟩ = some (.int .i64 t145) := (blk_cell BK156.out 1).trans rfl; have hcz18_2 : w17.cell? ⟨gb156, 2, none⟩ = some (.int .u64 t146) := (blk_cell BK156.out 2).trans rfl; have hcz18_3 : w17.cell? ⟨gb156, 3, none⟩ = some (.int .u64 t147) := (blk_cell BK156.out 3).trans rfl; have hcz18_4 : w17.cell? ⟨gb156, 4, none⟩ = some (.bool false) := (blk_cell BK156.out 4).trans rfl; have hcz18_5 : w17.cell? ⟨gb156, 5, none⟩ = some (.bool false) := (blk_cell BK156.out 5).trans rfl; have hcz18_6 : w17.cell? ⟨gb156, 6, none⟩ = some (.bool false) := (blk_cell BK156.out 6).trans rfl; have hcz18_7 : w17.cell? ⟨gb156, 7, none⟩ = some (.bool false) := (blk_cell BK156.out 7).trans rfl; have hcz18_8 : w17.cell? ⟨gb156, 8, none⟩ = some (.bool false) := (blk_cell BK156.out 8).trans rfl; have hcz18_9 : w17.cell? ⟨gb156, 9, none⟩ = some (.bool false) := (blk_cell BK156.out 9).trans rfl; have hcz18_10 : w17.cell? ⟨gb156, 10, none⟩ = some (.bool t154) := (blk_cell BK156.out 10).trans rfl; have hfz18_0 := blk_frozen BK156.out 0; have hfz18_1 := blk_frozen BK156.out 1; have hfz18_2 := blk_frozen BK156.out 2; have hfz18_3 := blk_frozen BK156.out 3; have hfz18_4 := blk_frozen BK156.out 4; have hfz18_5 := blk_frozen BK156.out 5; have hfz18_6 := blk_frozen BK156.out 6; have hfz18_7 := blk_frozen BK156.out 7; have hfz18_8 := blk_frozen BK156.out 8; have hfz18_9 := blk_frozen BK156.out 9; have hfz18_10 := blk_frozen BK156.out 10) | ((with_reducible refine gate_callee (f := 15) rfl ?_); refine goesL_ (some 17) rfl rfl Try.func15 (by kernel_rfl) rfl #[.agg #[.int .i64 t144, .int .i64 t145, .int .u64 t146, .int .u64 t147, .bool false, .bool false, .bool false, .bool false, .bool false, .bool false, .bool t154]] rfl (by (try simp only [List.map_toArray, List.map_cons, List.map_nil]); first | done | rfl | (simp only [List.length_drop, List.length_take]; rfl)) ?_; (with_reducible refine (tte_Data.calls t144 t145 t146 t147 false false false false false false t154 t158 _ A4.out).mono ?_); rintro e w19 ⟨rfl, hb⟩; refine ⟨_, rfl, ?_⟩; have n0_ := Aside0.mk (blk_below (g := gb143) (o := .cells #[.int .i64 a0_0, .int .i64 a0_1, .int .u64 a0_2, .int .u64 a0_3, .bool a0_4, .bool a0_5, .bool a0_6, .bool a0_7, .bool a0_8, .bool a0_9, .bool a0_10] 26 (0, 0)) (by (with_reducible repeat (first | refine blk_drewN ?_ _ | refine blk_drew ?_ | refine blk_alloc ?_ _)); exact BK143.out) hb); have n1_ := Aside0.mk (blk_below (g := gb155) (o := .cells #[.int .i64 t144, .int .i64 t145, .int .u64 t146, .int .u64 t147, .bool t148, .bool t149, .bool t150, .bool t151, .bool t152, .bool t153, .bool t154] 26 (0, 0)) (by (with_reducible repeat (first | refine blk_drewN ?_ _ | refine blk_drew ?_ | refine blk_alloc ?_ _)); exact BK155.out) hb); have n2_ := Aside0.mk (blk_below (g := gb156) (o := .cells #[.int .i64 t144, .int .i64 t145, .int .u64 t146, .int .u64 t147, .bool false, .bool false, .bool false, .bool false, .bool false, .bool false, .bool t154] 26 (0, 0)) (by (with_reducible repeat (first | refine blk_drewN ?_ _ | refine blk_drew ?_ | refine blk_alloc ?_ _)); exact BK156.out) hb); have n3_ := Aside0.mk (below_step (by repeat (first | (with_reducible first | exact HB.out | apply below_alloc | apply pw_below_drewN | apply below_drew1 | refine below_set ?_ GE143.out | refine below_set ?_ GE155.out | refine below_set ?_ GE156.out) | exact HB.out)) hb); clear BK143; clear BK155; clear BK156; clear HB; have BK143 := n0_; have BK155 := n1_; have BK156 := n2_; have HB := n3_; clear n0_ n1_ n2_ n3_; (try clear hb); (try clear hb2); (try clear hk); (try clear hi); have hcz20_0 : w19.cell? ⟨gb155, 0, none⟩ = some (.int .i64 t144) := (blk_cell BK155.out 0).trans rfl; have hcz20_1 : w19.cell? ⟨gb155, 1, none⟩ = some (.int .i64 t145) := (blk_cell BK155.out 1).trans rfl; have hcz20_2 : w19.cell? ⟨gb155, 2, none⟩ = some (.int .u64 t146) := (blk_cell BK155.out 2).trans rfl; have hcz20_3 : w19.cell? ⟨gb155, 3, none⟩ = some (.int .u64 t147) := (blk_cell BK155.out 3).trans rfl; have hcz20_4 : w19.cell? ⟨gb155, 4, none⟩ = some (.bool t148) := (blk_cell BK155.out 4).trans rfl; have hcz20_5 : w19.cell? ⟨gb155, 5, none⟩ = some (.bool t149) := (blk_cell BK155.out 5).trans rfl; have hcz20_6 : w19.cell? ⟨gb155, 6, none⟩ = some (.bool t150) := (blk_cell BK155.out 6).trans rfl; have hcz20_7 : w19.cell? ⟨gb155, 7, none⟩ = some (.bool t151) := (blk_cell BK155.out 7).trans rfl; have hcz20_8 : w19.cell? ⟨gb155, 8, none⟩ = some (.bool t152) := (blk_cell BK155.out 8).trans rfl; have hcz20_9 : w19.cell? ⟨gb155, 9, none⟩ = some (.bool t153) := (blk_cell BK155.out 9).trans rfl; have hcz20_10 : w19.cell? ⟨gb155, 10, none⟩ = some (.bool t154) := (blk_cell BK155.out 10).trans rfl; have hfz20_0 := blk_frozen BK155.out 0; have hfz20_1 := blk_frozen BK155.out 1; have hfz20_2 := blk_frozen BK155.out 2; have hfz20_3 := blk_frozen BK155.out 3; have hfz20_4 := blk_frozen BK155.out 4; have hfz20_5 := blk_frozen BK155.out 5; have hfz20_6 := blk_frozen BK155.out 6; have hfz20_7 := blk_frozen BK155.out 7; have hfz20_8 := blk_frozen BK155.out 8; have hfz20_9 := blk_frozen BK155.out 9; have hfz20_10 := blk_frozen BK155.out 10))
  (try simp only [Act.put, List.setIfInBounds_toArray, List.set_cons_zero, List.set_cons_succ])
  go_cut [7] (fun v7 wc => ∃ (kq : Nat) (x7_4 : Int), v7 = .int .i64 x7_4 ∧ Aside0 (lookasidelaw03_TteBits.j0 kq t157 t158 x7_4 t144 t145 t146 t147 t148 t149 t150 t151 t152 t153 t154 = some r) ∧ Aside0 (kq ≤ k) ∧ Aside0 (wc.heap[gb143]? = some (.cells #[.int .i64 a0_0, .int .i64 a0_1, .int .u64 a0_2, .int .u64 a0_3, .bool a0_4, .bool a0_5, .bool a0_6, .bool a0_7, .bool a0_8, .bool a0_9, .bool a0_10] 26 (0, 0))) ∧ Aside0 (wc.heap[gb155]? = some (.cells #[.int .i64 t144, .int .i64 t145, .int .u64 t146, .int .u64 t147, .bool t148, .bool t149, .bool t150, .bool t151, .bool t152, .bool t153, .bool t154] 26 (0, 0))) ∧ Aside0 (wc.heap[gb156]? = some (.cells #[.int .i64 t144, .int .i64 t145, .int .u64 t146, .int .u64 t147, .bool false, .bool false, .bool false, .bool false, .bool false, .bool false, .bool t154] 26 (0, 0))) ∧ Aside0 (Below w.heap.size w wc))
  case first =>
    have H := HC5.out
    clear HC5
    by_cases c21 : t148 = true
    · subst c21
      have H1 : (lookasidelaw03_TteBits.j0 k t157 t158 (0 + 2) t144 t145 t146 t147 true t149 t150 t151 t152 t153 t154) = some r := by rw [if_pos rfl] at H; exact H
      clear H
      have H := H1
      clear H1
      have H' := Aside0.mk H
      clear H
      go_wp2
      go_meet
      case rel => exact ⟨_, (0 + 2), (by first | rfl | (simp; done) | (simp [*]; done)), H', ⟨by first | omega | exact Nat.le_refl _⟩, ⟨by (with_reducible repeat (first | refine blk_drewN ?_ _ | refine blk_drew ?_ | refine blk_alloc ?_ _)); exact BK143.out⟩, ⟨by (with_reducible repeat (first | refine blk_drewN ?_ _ | refine blk_drew ?_ | refine blk_alloc ?_ _)); exact BK155.out⟩, ⟨by (with_reducible repeat (first | refine blk_drewN ?_ _ | refine blk_drew ?_ | refine blk_alloc ?_ _)); exact BK156.out⟩, ⟨by repeat (first | (with_reducible first | exact HB.out | apply below_alloc | apply pw_below_drewN | apply below_drew1 | refine below_set ?_ GE143.out | refine below_set ?_ GE155.out | refine below_set ?_ GE156.out) | exact HB.out)⟩⟩
    · replace c21 := Bool.eq_false_iff.mpr c21
      subst c21
      have H1 : (lookasidelaw03_TteBits.j0 k t157 t158 0 t144 t145 t146 t147 false t149 t150 t151 t152 t153 t154) = some r := by rw [if_neg (show ¬ (false = true) by decide)] at H; exact H
      clear H
      have H := H1
      clear H1
      have H' := Aside0.mk H
      clear H
      go_wp2
      go_meet
      case rel => exact ⟨_, (0), (by first | rfl | (simp; done) | (simp [*]; done)), H', ⟨by first | omega | exact Nat.le_refl _⟩, ⟨by (with_reducible repeat (first | refine blk_drewN ?_ _ | refine blk_drew ?_ | refine blk_alloc ?_ _)); exact BK143.out⟩, ⟨by (with_reducible repeat (first | refine blk_drewN ?_ _ | refine blk_drew ?_ | refine blk_alloc ?_ _)); exact BK155.out⟩, ⟨by (with_reducible repeat (first | refine blk_drewN ?_ _ | refine blk_drew ?_ | refine blk_alloc ?_ _)); exact BK156.out⟩, ⟨by repeat (first | (with_reducible first | exact HB.out | apply below_alloc | apply pw_below_drewN | apply below_drew1 | refine below_set ?_ GE143.out | refine below_set ?_ GE155.out | refine below_set ?_ GE156.out) | exact HB.out)⟩⟩
  case rest =>
    clear HC5
    try clear c1
    try clear c2
    try clear p2
    try clear c4
    try clear c10
    try clear c13
    try clear c14
    try clear c15
    try clear c21
    try clear hcz11_0
    try clear hcz11_1
    try clear hcz11_10
    try clear hcz11_2
    try clear hcz11_3
    try clear hcz11_4
    try clear hcz11_5
    try clear hcz11_6
    try clear hcz11_7
    try clear hcz11_8
    try clear hcz11_9
    try clear hcz15_0
    try clear hcz15_1
    try clear hcz15_10
    try clear hcz15_2
    try clear hcz15_3
    try clear hcz15_4
    try clear hcz15_5
    try clear hcz15_6
    try clear hcz15_7
    try clear hcz15_8
    try clear hcz15_9
    try clear hcz16_0
    try clear hcz16_1
    try clear hcz16_10
    try clear hcz16_2
    try clear hcz16_3
    try clear hcz16_4
    try clear hcz16_5
    try clear hcz16_6
    try clear hcz16_7
    try clear hcz16_8
    try clear hcz16_9
    try clear hcz18_0
    try clear hcz18_1
    try clear hcz18_10
    try clear hcz18_2
    try clear hcz18_3
    try clear hcz18_4
    try clear hcz18_5
    try clear hcz18_6
    try clear hcz18_7
    try clear hcz18_8
    try clear hcz18_9
    try clear hcz20_0
    try clear hcz20_1
    try clear hcz20_10
    try clear hcz20_2
    try clear hcz20_3
    try clear hcz20_4
    try clear hcz20_5
    try clear hcz20_6
    try clear hcz20_7
    try clear hcz20_8
    try clear hcz20_9
    try clear hcz7_0
    try clear hcz7_1
    try clear hcz7_10
    try clear hcz7_2
    try clear hcz7_3
    try clear hcz7_4
    try clear hcz7_5
    try clear hcz7_6
    try clear hcz7_7
    try clear hcz7_8
    try clear hcz7_9
    try clear hfz11_0
    try clear hfz11_1
    try clear hfz11_10
    try clear hfz11_2
    try clear hfz11_3
    try clear hfz11_4
    try clear hfz11_5
    try clear hfz11_6
    try clear hfz11_7
    try clear hfz11_8
    try clear hfz11_9
    try clear hfz15_0
    try clear hfz15_1
    try clear hfz15_10
    try clear hfz15_2
    try clear hfz15_3
    try clear hfz15_4
    try clear hfz15_5
    try clear hfz15_6
    try clear hfz15_7
    try clear hfz15_8
    try clear hfz15_9
    try clear hfz16_0
    try clear hfz16_1
    try clear hfz16_10
    try clear hfz16_2
    try clear hfz16_3
    try clear hfz16_4
    try clear hfz16_5
    try clear hfz16_6
    try clear hfz16_7
    try clear hfz16_8
    try clear hfz16_9
    try clear hfz18_0
    try clear hfz18_1
    try clear hfz18_10
    try clear hfz18_2
    try clear hfz18_3
    try clear hfz18_4
    try clear hfz18_5
    try clear hfz18_6
    try clear hfz18_7
    try clear hfz18_8
    try clear hfz18_9
    try clear hfz20_0
    try clear hfz20_1
    try clear hfz20_10
    try clear hfz20_2
    try clear hfz20_3
    try clear hfz20_4
    try clear hfz20_5
    try clear hfz20_6
    try clear hfz20_7
    try clear hfz20_8
    try clear hfz20_9
    try clear hfz7_0
    try clear hfz7_1
    try clear hfz7_10
    try clear hfz7_2
    try clear hfz7_3
    try clear hfz7_4
    try clear hfz7_5
    try clear hfz7_6
    try clear hfz7_7
    try clear hfz7_8
    try clear hfz7_9
    obtain ⟨kq, x7_4, rfl, HA, HJ4, BK143, BK155, BK156, HB⟩ := hcut
    cases kq with
    | zero => exact absurd HA.out (by simp [lookasidelaw03_TteBits.j0])
    | succ kj4 =>
      have H := HA.out
      clear HA
      simp only [lookasidelaw03_TteBits.j0] at H
      have HC22 := Aside0.mk H
      clear H
      have hnb23 := NB155_143.out
      have hnc23 := NB143_155.out
      have hnb24 := NB155_156.out
      have hnc24 := NB156_155.out
      have hcz25_0 : wc.cell? ⟨gb155, 0, none⟩ = some (.int .i64 t144) := (blk_cell BK155.out 0).trans rfl
      have hcz25_1 : wc.cell? ⟨gb155, 1, none⟩ = some (.int .i64 t145) := (blk_cell BK155.out 1).trans rfl
      have hcz25_2 : wc.cell? ⟨gb155, 2, none⟩ = some (.int .u64 t146) := (blk_cell BK155.out 2).trans rfl
      have hcz25_3 : wc.cell? ⟨gb155, 3, none⟩ = some (.int .u64 t147) := (blk_cell BK155.out 3).trans rfl
      have hcz25_4 : wc.cell? ⟨gb155, 4, none⟩ = some (.bool t148) := (blk_cell BK155.out 4).trans rfl
      have hcz25_5 : wc.cell? ⟨gb155, 5, none⟩ = some (.bool t149) := (blk_cell BK155.out 5).trans rfl
      have hcz25_6 : wc.cell? ⟨gb155, 6, none⟩ = some (.bool t150) := (blk_cell BK155.out 6).trans rfl
      have hcz25_7 : wc.cell? ⟨gb155, 7, none⟩ = some (.bool t151) := (blk_cell BK155.out 7).trans rfl
      have hcz25_8 : wc.cell? ⟨gb155, 8, none⟩ = some (.bool t152) := (blk_cell BK155.out 8).trans rfl
      have hcz25_9 : wc.cell? ⟨gb155, 9, none⟩ = some (.bool t153) := (blk_cell BK155.out 9).trans rfl
      have hcz25_10 : wc.cell? ⟨gb155, 10, none⟩ = some (.bool t154) := (blk_cell BK155.out 10).trans rfl
      have hfz25_0 := blk_frozen BK155.out 0
      have hfz25_1 := blk_frozen BK155.out 1
      have hfz25_2 := blk_frozen BK155.out 2
      have hfz25_3 := blk_frozen BK155.out 3
      have hfz25_4 := blk_frozen BK155.out 4
      have hfz25_5 := blk_frozen BK155.out 5
      have hfz25_6 := blk_frozen BK155.out 6
      have hfz25_7 := blk_frozen BK155.out 7
      have hfz25_8 := blk_frozen BK155.out 8
      have hfz25_9 := blk_frozen BK155.out 9
      have hfz25_10 := blk_frozen BK155.out 10
      go_upto_if 25 with (fail)
      go_cut [7] (fun v7 wc => ∃ (kq : Nat) (x7_21 : Int), v7 = .int .i64 x7_21 ∧ Aside0 (lookasidelaw03_TteBits.j1 kq t157 t158 x7_21 t144 t145 t146 t147 t148 t149 t150 t151 t152 t153 t154 = some r) ∧ Aside0 (kq ≤ kj4) ∧ Aside0 (wc.heap[gb143]? = some (.cells #[.int .i64 a0_0, .int .i64 a0_1, .int .u64 a0_2, .int .u64 a0_3, .bool a0_4, .bool a0_5, .bool a0_6, .bool a0_7, .bool a0_8, .bool a0_9, .bool a0_10] 26 (0, 0))) ∧ Aside0 (wc.heap[gb155]? = some (.cells #[.int .i64 t144, .int .i64 t145, .int .u64 t146, .int .u64 t147, .bool t148, .bool t149, .bool t150, .bool t151, .bool t152, .bool t153, .bool t154] 26 (0, 0))) ∧ Aside0 (wc.heap[gb156]? = some (.cells #[.int .i64 t144, .int .i64 t145, .int .u64 t146, .int .u64 t147, .bool false, .bool false, .bool false, .bool false, .bool false, .bool false, .bool t154] 26 (0, 0))) ∧ Aside0 (Below w.heap.size w wc))
      case first =>
        have H := HC22.out
        clear HC22
        by_cases c26 : t149 = true
        · subst c26
          have H1 : (lookasidelaw03_TteBits.j1 kj4 t157 t158 (wrap64 (x7_4 + 4)) t144 t145 t146 t147 t148 true t150 t151 t152 t153 t154) = some r := by rw [if_pos rfl] at H; exact H
          clear H
          have H := H1
          clear H1
          have H' := Aside0.mk H
          clear H
          go_wp2
          go_meet
          case rel => exact ⟨_, (wrap64 (x7_4 + 4)), (by first | rfl | (simp; done) | (simp [*]; done)), H', ⟨by have := HJ4.out; first | omega | exact Nat.le_refl _⟩, ⟨by (with_reducible repeat (first | refine blk_drewN ?_ _ | refine blk_drew ?_ | refine blk_alloc ?_ _)); exact BK143.out⟩, ⟨by (with_reducible repeat (first | refine blk_drewN ?_ _ | refine blk_drew ?_ | refine blk_alloc ?_ _)); exact BK155.out⟩, ⟨by (with_reducible repeat (first | refine blk_drewN ?_ _ | refine blk_drew ?_ | refine blk_alloc ?_ _)); exact BK156.out⟩, ⟨by repeat (first | (with_reducible first | exact HB.out | apply below_alloc | apply pw_below_drewN | apply below_drew1 | refine below_set ?_ GE143.out | refine below_set ?_ GE155.out | refine below_set ?_ GE156.out) | exact HB.out)⟩⟩
        · replace c26 := Bool.eq_false_iff.mpr c26
          subst c26
          have H1 : (lookasidelaw03_TteBits.j1 kj4 t157 t158 x7_4 t144 t145 t146 t147 t148 false t150 t151 t152 t153 t154) = some r := by rw [if_neg (show ¬ (false = true) by decide)] at H; exact H
          clear H
          have H := H1
          clear H1
          have H' := Aside0.mk H
          clear H
          go_wp2
          go_meet
          case rel => exact ⟨_, (x7_4), (by first | rfl | (simp; done) | (simp [*]; done)), H', ⟨by have := HJ4.out; first | omega | exact Nat.le_refl _⟩, ⟨by (with_reducible repeat (first | refine blk_drewN ?_ _ | refine blk_drew ?_ | refine blk_alloc ?_ _)); exact BK143.out⟩, ⟨by (with_reducible repeat (first | refine blk_drewN ?_ _ | refine blk_drew ?_ | refine blk_alloc ?_ _)); exact BK155.out⟩, ⟨by (with_reducible repeat (first | refine blk_drewN ?_ _ | refine blk_drew ?_ | refine blk_alloc ?_ _)); exact BK156.out⟩, ⟨by repeat (first | (with_reducible first | exact HB.out | apply below_alloc | apply pw_below_drewN | apply below_drew1 | refine below_set ?_ GE143.out | refine below_set ?_ GE155.out | refine below_set ?_ GE156.out) | exact HB.out)⟩⟩
      case rest =>
        clear HC22
        try clear c1
        try clear c2
        try clear p2
        try clear c4
        try clear p6
        try clear c10
        try clear c13
        try clear c14
        try clear c15
        try clear c21
        try clear c23
        try clear c24
        try clear c26
        try clear hcz11_0
        try clear hcz11_1
        try clear hcz11_10
        try clear hcz11_2
        try clear hcz11_3
        try clear hcz11_4
        try clear hcz11_5
        try clear hcz11_6
        try clear hcz11_7
        try clear hcz11_8
        try clear hcz11_9
        try clear hcz15_0
        try clear hcz15_1
        try clear hcz15_10
        try clear hcz15_2
        try clear hcz15_3
        try clear hcz15_4
        try clear hcz15_5
        try clear hcz15_6
        try clear hcz15_7
        try clear hcz15_8
        try clear hcz15_9
        try clear hcz16_0
        try clear hcz16_1
        try clear hcz16_10
        try clear hcz16_2
        try clear hcz16_3
        try clear hcz16_4
        try clear hcz16_5
        try clear hcz16_6
        try clear hcz16_7
        try clear hcz16_8
        try clear hcz16_9
        try clear hcz18_0
        try clear hcz18_1
        try clear hcz18_10
        try clear hcz18_2
        try clear hcz18_3
        try clear hcz18_4
        try clear hcz18_5
        try clear hcz18_6
        try clear hcz18_7
        try clear hcz18_8
        try clear hcz18_9
        try clear hcz20_0
        try clear hcz20_1
        try clear hcz20_10
        try clear hcz20_2
        try clear hcz20_3
        try clear hcz20_4
        try clear hcz20_5
        try clear hcz20_6
        try clear hcz20_7
        try clear hcz20_8
        try clear hcz20_9
        try clear hcz25_0
        try clear hcz25_1
        try clear hcz25_10
        try clear hcz25_2
        try clear hcz25_3
        try clear hcz25_4
        try clear hcz25_5
        try clear hcz25_6
        try clear hcz25_7
        try clear hcz25_8
        try clear hcz25_9
        try clear hcz7_0
        try clear hcz7_1
        try clear hcz7_10
        try clear hcz7_2
        try clear hcz7_3
        try clear hcz7_4
        try clear hcz7_5
        try clear hcz7_6
        try clear hcz7_7
        try clear hcz7_8
        try clear hcz7_9
        try clear hfz11_0
        try clear hfz11_1
        try clear hfz11_10
        try clear hfz11_2
        try clear hfz11_3
        try clear hfz11_4
        try clear hfz11_5
        try clear hfz11_6
        try clear hfz11_7
        try clear hfz11_8
        try clear hfz11_9
        try clear hfz15_0
        try clear hfz15_1
        try clear hfz15_10
        try clear hfz15_2
        try clear hfz15_3
        try clear hfz15_4
        try clear hfz15_5
        try clear hfz15_6
        try clear hfz15_7
        try clear hfz15_8
        try clear hfz15_9
        try clear hfz16_0
        try clear hfz16_1
        try clear hfz16_10
        try clear hfz16_2
        try clear hfz16_3
        try clear hfz16_4
        try clear hfz16_5
        try clear hfz16_6
        try clear hfz16_7
        try clear hfz16_8
        try clear hfz16_9
        try clear hfz18_0
        try clear hfz18_1
        try clear hfz18_10
        try clear hfz18_2
        try clear hfz18_3
        try clear hfz18_4
        try clear hfz18_5
        try clear hfz18_6
        try clear hfz18_7
        try clear hfz18_8
        try clear hfz18_9
        try clear hfz20_0
        try clear hfz20_1
        try clear hfz20_10
        try clear hfz20_2
        try clear hfz20_3
        try clear hfz20_4
        try clear hfz20_5
        try clear hfz20_6
        try clear hfz20_7
        try clear hfz20_8
        try clear hfz20_9
        try clear hfz25_0
        try clear hfz25_1
        try clear hfz25_10
        try clear hfz25_2
        try clear hfz25_3
        try clear hfz25_4
        try clear hfz25_5
        try clear hfz25_6
        try clear hfz25_7
        try clear hfz25_8
        try clear hfz25_9
        try clear hfz7_0
        try clear hfz7_1
        try clear hfz7_10
        try clear hfz7_2
        try clear hfz7_3
        try clear hfz7_4
        try clear hfz7_5
        try clear hfz7_6
        try clear hfz7_7
        try clear hfz7_8
        try clear hfz7_9
        try clear p2
        obtain ⟨kq, x7_21, rfl, HA, HJ21, BK143, BK155, BK156, HB⟩ := hcut
        cases kq with
        | zero => exact absurd HA.out (by simp [lookasidelaw03_TteBits.j1])
        | succ kj21 =>
          have H := HA.out
          clear HA
          simp only [lookasidelaw03_TteBits.j1] at H
          have HC27 := Aside0.mk H
          clear H
          have hnb28 := NB155_143.out
          have hnc28 := NB143_155.out
          have hnb29 := NB155_156.out
          have hnc29 := NB156_155.out
          have hcz30_0 : wc.cell? ⟨gb155, 0, none⟩ = some (.int .i64 t144) := (blk_cell BK155.out 0).trans rfl
          have hcz30_1 : wc.cell? ⟨gb155, 1, none⟩ = some (.int .i64 t145) := (blk_cell BK155.out 1).trans rfl
          have hcz30_2 : wc.cell? ⟨gb155, 2, none⟩ = some (.int .u64 t146) := (blk_cell BK155.out 2).trans rfl
          have hcz30_3 : wc.cell? ⟨gb155, 3, none⟩ = some (.int .u64 t147) := (blk_cell BK155.out 3).trans rfl
          have hcz30_4 : wc.cell? ⟨gb155, 4, none⟩ = some (.bool t148) := (blk_cell BK155.out 4).trans rfl
          have hcz30_5 : wc.cell? ⟨gb155, 5, none⟩ = some (.bool t149) := (blk_cell BK155.out 5).trans rfl
          have hcz30_6 : wc.cell? ⟨gb155, 6, none⟩ = some (.bool t150) := (blk_cell BK155.out 6).trans rfl
          have hcz30_7 : wc.cell? ⟨gb155, 7, none⟩ = some (.bool t151) := (blk_cell BK155.out 7).trans rfl
          have hcz30_8 : wc.cell? ⟨gb155, 8, none⟩ = some (.bool t152) := (blk_cell BK155.out 8).trans rfl
          have hcz30_9 : wc.cell? ⟨gb155, 9, none⟩ = some (.bool t153) := (blk_cell BK155.out 9).trans rfl
          have hcz30_10 : wc.cell? ⟨gb155, 10, none⟩ = some (.bool t154) := (blk_cell BK155.out 10).trans rfl
          have hfz30_0 := blk_frozen BK155.out 0
          have hfz30_1 := blk_frozen BK155.out 1
          have hfz30_2 := blk_frozen BK155.out 2
          have hfz30_3 := blk_frozen BK155.out 3
          have hfz30_4 := blk_frozen BK155.out 4
          have hfz30_5 := blk_frozen BK155.out 5
          have hfz30_6 := blk_frozen BK155.out 6
          have hfz30_7 := blk_frozen BK155.out 7
          have hfz30_8 := blk_frozen BK155.out 8
          have hfz30_9 := blk_frozen BK155.out 9
          have hfz30_10 := blk_frozen BK155.out 10
          go_upto_if 30 with (fail)
          go_cut [7] (fun v7 wc => ∃ (kq : Nat) (x7_26 : Int), v7 = .int .i64 x7_26 ∧ Aside0 (lookasidelaw03_TteBits.j2 kq t157 t158 x7_26 t144 t145 t146 t147 t148 t149 t150 t151 t152 t153 t154 = some r) ∧ Aside0 (kq ≤ kj21) ∧ Aside0 (wc.heap[gb143]? = some (.cells #[.int .i64 a0_0, .int .i64 a0_1, .int .u64 a0_2, .int .u64 a0_3, .bool a0_4, .bool a0_5, .bool a0_6, .bool a0_7, .bool a0_8, .bool a0_9, .bool a0_10] 26 (0, 0))) ∧ Aside0 (wc.heap[gb155]? = some (.cells #[.int .i64 t144, .int .i64 t145, .int .u64 t146, .int .u64 t147, .bool t148, .bool t149, .bool t150, .bool t151, .bool t152, .bool t153, .bool t154] 26 (0, 0))) ∧ Aside0 (wc.heap[gb156]? = some (.cells #[.int .i64 t144, .int .i64 t145, .int .u64 t146, .int .u64 t147, .bool false, .bool false, .bool false, .bool false, .bool false, .bool false, .bool t154] 26 (0, 0))) ∧ Aside0 (Below w.heap.size w wc))
          case first =>
            have H := HC27.out
            clear HC27
            by_cases c31 : t150 = true
            · subst c31
              have H1 : (lookasidelaw03_TteBits.j2 kj21 t157 t158 (wrap64 (x7_21 + 8)) t144 t145 t146 t147 t148 t149 true t151 t152 t153 t154) = some r := by rw [if_pos rfl] at H; exact H
              clear H
              have H := H1
              clear H1
              have H' := Aside0.mk H
              clear H
              go_wp2
              go_meet
              case rel => exact ⟨_, (wrap64 (x7_21 + 8)), (by first | rfl | (simp; done) | (simp [*]; done)), H', ⟨by have := HJ4.out; have := HJ21.out; first | omega | exact Nat.le_refl _⟩, ⟨by (with_reducible repeat (first | refine blk_drewN ?_ _ | refine blk_drew ?_ | refine blk_alloc ?_ _)); exact BK143.out⟩, ⟨by (with_reducible repeat (first | refine blk_drewN ?_ _ | refine blk_drew ?_ | refine blk_alloc ?_ _)); exact BK155.out⟩, ⟨by (with_reducible repeat (first | refine blk_drewN ?_ _ | refine blk_drew ?_ | refine blk_alloc ?_ _)); exact BK156.out⟩, ⟨by repeat (first | (with_reducible first | exact HB.out | apply below_alloc | apply pw_below_drewN | apply below_drew1 | refine below_set ?_ GE143.out | refine below_set ?_ GE155.out | refine below_set ?_ GE156.out) | exact HB.out)⟩⟩
            · replace c31 := Bool.eq_false_iff.mpr c31
              subst c31
              have H1 : (lookasidelaw03_TteBits.j2 kj21 t157 t158 x7_21 t144 t145 t146 t147 t148 t149 false t151 t152 t153 t154) = some r := by rw [if_neg (show ¬ (false = true) by decide)] at H; exact H
              clear H
              have H := H1
              clear H1
              have H' := Aside0.mk H
              clear H
              go_wp2
              go_meet
              case rel => exact ⟨_, (x7_21), (by first | rfl | (simp; done) | (simp [*]; done)), H', ⟨by have := HJ4.out; have := HJ21.out; first | omega | exact Nat.le_refl _⟩, ⟨by (with_reducible repeat (first | refine blk_drewN ?_ _ | refine blk_drew ?_ | refine blk_alloc ?_ _)); exact BK143.out⟩, ⟨by (with_reducible repeat (first | refine blk_drewN ?_ _ | refine blk_drew ?_ | refine blk_alloc ?_ _)); exact BK155.out⟩, ⟨by (with_reducible repeat (first | refine blk_drewN ?_ _ | refine blk_drew ?_ | refine blk_alloc ?_ _)); exact BK156.out⟩, ⟨by repeat (first | (with_reducible first | exact HB.out | apply below_alloc | apply pw_below_drewN | apply below_drew1 | refine below_set ?_ GE143.out | refine below_set ?_ GE155.out | refine below_set ?_ GE156.out) | exact HB.out)⟩⟩
          case rest =>
            clear HC27
            try clear c1
            try clear c2
            try clear p2
            try clear c3
            try clear c4
            try clear p6
            try clear c10
            try clear c13
            try clear c14
            try clear c15
            try clear c21
            try clear c23
            try clear c24
            try clear c26
            try clear c28
            try clear c29
            try clear c31
            try clear hcz11_0
            try clear hcz11_1
            try clear hcz11_10
            try clear hcz11_2
            try clear hcz11_3
            try clear hcz11_4
            try clear hcz11_5
            try clear hcz11_6
            try clear hcz11_7
            try clear hcz11_8
            try clear hcz11_9
            try clear hcz15_0
            try clear hcz15_1
            try clear hcz15_10
            try clear hcz15_2
            try clear hcz15_3
            try clear hcz15_4
            try clear hcz15_5
            try clear hcz15_6
            try clear hcz15_7
            try clear hcz15_8
            try clear hcz15_9
            try clear hcz16_0
            try clear hcz16_1
            try clear hcz16_10
            try clear hcz16_2
            try clear hcz16_3
            try clear hcz16_4
            try clear hcz16_5
            try clear hcz16_6
            try clear hcz16_7
            try clear hcz16_8
            try clear hcz16_9
            try clear hcz18_0
            try clear hcz18_1
            try clear hcz18_10
            try clear hcz18_2
            try clear hcz18_3
            try clear hcz18_4
            try clear hcz18_5
            try clear hcz18_6
            try clear hcz18_7
            try clear hcz18_8
            try clear hcz18_9
            try clear hcz20_0
            try clear hcz20_1
            try clear hcz20_10
            try clear hcz20_2
            try clear hcz20_3
            try clear hcz20_4
            try clear hcz20_5
            try clear hcz20_6
            try clear hcz20_7
            try clear hcz20_8
            try clear hcz20_9
            try clear hcz25_0
            try clear hcz25_1
            try clear hcz25_10
            try clear hcz25_2
            try clear hcz25_3
            try clear hcz25_4
            try clear hcz25_5
            try clear hcz25_6
            try clear hcz25_7
            try clear hcz25_8
            try clear hcz25_9
            try clear hcz30_0
            try clear hcz30_1
            try clear hcz30_10
            try clear hcz30_2
            try clear hcz30_3
            try clear hcz30_4
            try clear hcz30_5
            try clear hcz30_6
            try clear hcz30_7
            try clear hcz30_8
            try clear hcz30_9
            try clear hcz7_0
            try clear hcz7_1
            try clear hcz7_10
            try clear hcz7_2
            try clear hcz7_3
            try clear hcz7_4
            try clear hcz7_5
            try clear hcz7_6
            try clear hcz7_7
            try clear hcz7_8
            try clear hcz7_9
            try clear hfz11_0
            try clear hfz11_1
            try clear hfz11_10
            try clear hfz11_2
            try clear hfz11_3
            try clear hfz11_4
            try clear hfz11_5
            try clear hfz11_6
            try clear hfz11_7
            try clear hfz11_8
            try clear hfz11_9
            try clear hfz15_0
            try clear hfz15_1
            try clear hfz15_10
            try clear hfz15_2
            try clear hfz15_3
            try clear hfz15_4
            try clear hfz15_5
            try clear hfz15_6
            try clear hfz15_7
            try clear hfz15_8
            try clear hfz15_9
            try clear hfz16_0
            try clear hfz16_1
            try clear hfz16_10
            try clear hfz16_2
            try clear hfz16_3
            try clear hfz16_4
            try clear hfz16_5
            try clear hfz16_6
            try clear hfz16_7
            try clear hfz16_8
            try clear hfz16_9
            try clear hfz18_0
            try clear hfz18_1
            try clear hfz18_10
            try clear hfz18_2
            try clear hfz18_3
            try clear hfz18_4
            try clear hfz18_5
            try clear hfz18_6
            try clear hfz18_7
            try clear hfz18_8
            try clear hfz18_9
            try clear hfz20_0
            try clear hfz20_1
            try clear hfz20_10
            try clear hfz20_2
            try clear hfz20_3
            try clear hfz20_4
            try clear hfz20_5
            try clear hfz20_6
            try clear hfz20_7
            try clear hfz20_8
            try clear hfz20_9
            try clear hfz25_0
            try clear hfz25_1
            try clear hfz25_10
            try clear hfz25_2
            try clear hfz25_3
            try clear hfz25_4
            try clear hfz25_5
            try clear hfz25_6
            try clear hfz25_7
            try clear hfz25_8
            try clear hfz25_9
            try clear hfz30_0
            try clear hfz30_1
            try clear hfz30_10
            try clear hfz30_2
            try clear hfz30_3
            try clear hfz30_4
            try clear hfz30_5
            try clear hfz30_6
            try clear hfz30_7
            try clear hfz30_8
            try clear hfz30_9
            try clear hfz7_0
            try clear hfz7_1
            try clear hfz7_10
            try clear hfz7_2
            try clear hfz7_3
            try clear hfz7_4
            try clear hfz7_5
            try clear hfz7_6
            try clear hfz7_7
            try clear hfz7_8
            try clear hfz7_9
            try clear p2
            try clear p6
            obtain ⟨kq, x7_26, rfl, HA, HJ26, BK143, BK155, BK156, HB⟩ := hcut
            cases kq with
            | zero => exact absurd HA.out (by simp [lookasidelaw03_TteBits.j2])
            | succ kj26 =>
              have H := HA.out
              clear HA
              simp only [lookasidelaw03_TteBits.j2] at H
              have HC32 := Aside0.mk H
              clear H
              have hnb33 := NB155_143.out
              have hnc33 := NB143_155.out
              have hnb34 := NB155_156.out
              have hnc34 := NB156_155.out
              have hcz35_0 : wc.cell? ⟨gb155, 0, none⟩ = some (.int .i64 t144) := (blk_cell BK155.out 0).trans rfl
              have hcz35_1 : wc.cell? ⟨gb155, 1, none⟩ = some (.int .i64 t145) := (blk_cell BK155.out 1).trans rfl
              have hcz35_2 : wc.cell? ⟨gb155, 2, none⟩ = some (.int .u64 t146) := (blk_cell BK155.out 2).trans rfl
              have hcz35_3 : wc.cell? ⟨gb155, 3, none⟩ = some (.int .u64 t147) := (blk_cell BK155.out 3).trans rfl
              have hcz35_4 : wc.cell? ⟨gb155, 4, none⟩ = some (.bool t148) := (blk_cell BK155.out 4).trans rfl
              have hcz35_5 : wc.cell? ⟨gb155, 5, none⟩ = some (.bool t149) := (blk_cell BK155.out 5).trans rfl
              have hcz35_6 : wc.cell? ⟨gb155, 6, none⟩ = some (.bool t150) := (blk_cell BK155.out 6).trans rfl
              have hcz35_7 : wc.cell? ⟨gb155, 7, none⟩ = some (.bool t151) := (blk_cell BK155.out 7).trans rfl
              have hcz35_8 : wc.cell? ⟨gb155, 8, none⟩ = some (.bool t152) := (blk_cell BK155.out 8).trans rfl
              have hcz35_9 : wc.cell? ⟨gb155, 9, none⟩ = some (.bool t153) := (blk_cell BK155.out 9).trans rfl
              have hcz35_10 : wc.cell? ⟨gb155, 10, none⟩ = some (.bool t154) := (blk_cell BK155.out 10).trans rfl
              have hfz35_0 := blk_frozen BK155.out 0
              have hfz35_1 := blk_frozen BK155.out 1
              have hfz35_2 := blk_frozen BK155.out 2
              have hfz35_3 := blk_frozen BK155.out 3
              have hfz35_4 := blk_frozen BK155.out 4
              have hfz35_5 := blk_frozen BK155.out 5
              have hfz35_6 := blk_frozen BK155.out 6
              have hfz35_7 := blk_frozen BK155.out 7
              have hfz35_8 := blk_frozen BK155.out 8
              have hfz35_9 := blk_frozen BK155.out 9
              have hfz35_10 := blk_frozen BK155.out 10
              go_upto_if 35 with (fail)
              go_cut [7] (fun v7 wc => ∃ (kq : Nat) (x7_31 : Int), v7 = .int .i64 x7_31 ∧ Aside0 (lookasidelaw03_TteBits.j3 kq t157 t158 x7_31 t144 t145 t146 t147 t148 t149 t150 t151 t152 t153 t154 = some r) ∧ Aside0 (kq ≤ kj26) ∧ Aside0 (wc.heap[gb143]? = some (.cells #[.int .i64 a0_0, .int .i64 a0_1, .int .u64 a0_2, .int .u64 a0_3, .bool a0_4, .bool a0_5, .bool a0_6, .bool a0_7, .bool a0_8, .bool a0_9, .bool a0_10] 26 (0, 0))) ∧ Aside0 (wc.heap[gb155]? = some (.cells #[.int .i64 t144, .int .i64 t145, .int .u64 t146, .int .u64 t147, .bool t148, .bool t149, .bool t150, .bool t151, .bool t152, .bool t153, .bool t154] 26 (0, 0))) ∧ Aside0 (wc.heap[gb156]? = some (.cells #[.int .i64 t144, .int .i64 t145, .int .u64 t146, .int .u64 t147, .bool false, .bool false, .bool false, .bool false, .bool false, .bool false, .bool t154] 26 (0, 0))) ∧ Aside0 (Below w.heap.size w wc))
              case first =>
                have H := HC32.out
                clear HC32
                by_cases c36 : t151 = true
                · subst c36
                  have H1 : (lookasidelaw03_TteBits.j3 kj26 t157 t158 (wrap64 (x7_26 + 64)) t144 t145 t146 t147 t148 t149 t150 true t152 t153 t154) = some r := by rw [if_pos rfl] at H; exact H
                  clear H
                  have H := H1
                  clear H1
                  have H' := Aside0.mk H
                  clear H
                  go_wp2
                  go_meet
                  case rel => exact ⟨_, (wrap64 (x7_26 + 64)), (by first | rfl | (simp; done) | (simp [*]; done)), H', ⟨by have := HJ4.out; have := HJ21.out; have := HJ26.out; first | omega | exact Nat.le_refl _⟩, ⟨by (with_reducible repeat (first | refine blk_drewN ?_ _ | refine blk_drew ?_ | refine blk_alloc ?_ _)); exact BK143.out⟩, ⟨by (with_reducible repeat (first | refine blk_drewN ?_ _ | refine blk_drew ?_ | refine blk_alloc ?_ _)); exact BK155.out⟩, ⟨by (with_reducible repeat (first | refine blk_drewN ?_ _ | refine blk_drew ?_ | refine blk_alloc ?_ _)); exact BK156.out⟩, ⟨by repeat (first | (with_reducible first | exact HB.out | apply below_alloc | apply pw_below_drewN | apply below_drew1 | refine below_set ?_ GE143.out | refine below_set ?_ GE155.out | refine below_set ?_ GE156.out) | exact HB.out)⟩⟩
                · replace c36 := Bool.eq_false_iff.mpr c36
                  subst c36
                  have H1 : (lookasidelaw03_TteBits.j3 kj26 t157 t158 x7_26 t144 t145 t146 t147 t148 t149 t150 false t152 t153 t154) = some r := by rw [if_neg (show ¬ (false = true) by decide)] at H; exact H
                  clear H
                  have H := H1
                  clear H1
                  have H' := Aside0.mk H
                  clear H
                  go_wp2
                  go_meet
                  case rel => exact ⟨_, (x7_26), (by first | rfl | (simp; done) | (simp [*]; done)), H', ⟨by have := HJ4.out; have := HJ21.out; have := HJ26.out; first | omega | exact Nat.le_refl _⟩, ⟨by (with_reducible repeat (first | refine blk_drewN ?_ _ | refine blk_drew ?_ | refine blk_alloc ?_ _)); exact BK143.out⟩, ⟨by (with_reducible repeat (first | refine blk_drewN ?_ _ | refine blk_drew ?_ | refine blk_alloc ?_ _)); exact BK155.out⟩, ⟨by (with_reducible repeat (first | refine blk_drewN ?_ _ | refine blk_drew ?_ | refine blk_alloc ?_ _)); exact BK156.out⟩, ⟨by repeat (first | (with_reducible first | exact HB.out | apply below_alloc | apply pw_below_drewN | apply below_drew1 | refine below_set ?_ GE143.out | refine below_set ?_ GE155.out | refine below_set ?_ GE156.out) | exact HB.out)⟩⟩
              case rest =>
                clear HC32
                try clear c1
                try clear c2
                try clear p2
                try clear c3
                try clear c4
                try clear p6
                try clear c10
                try clear c13
                try clear c14
                try clear c15
                try clear c21
                try clear c23
                try clear c24
                try clear c26
                try clear c28
                try clear c29
                try clear c31
                try clear c33
                try clear c34
                try clear c36
                try clear hcz11_0
                try clear hcz11_1
                try clear hcz11_10
                try clear hcz11_2
                try clear hcz11_3
                try clear hcz11_4
                try clear hcz11_5
                try clear hcz11_6
                try clear hcz11_7
                try clear hcz11_8
                try clear hcz11_9
                try clear hcz15_0
                try clear hcz15_1
                try clear hcz15_10
                try clear hcz15_2
                try clear hcz15_3
                try clear hcz15_4
                try clear hcz15_5
                try clear hcz15_6
                try clear hcz15_7
                try clear hcz15_8
                try clear hcz15_9
                try clear hcz16_0
                try clear hcz16_1
                try clear hcz16_10
                try clear hcz16_2
                try clear hcz16_3
                try clear hcz16_4
                try clear hcz16_5
                try clear hcz16_6
                try clear hcz16_7
                try clear hcz16_8
                try clear hcz16_9
                try clear hcz18_0
                try clear hcz18_1
                try clear hcz18_10
                try clear hcz18_2
                try clear hcz18_3
                try clear hcz18_4
                try clear hcz18_5
                try clear hcz18_6
                try clear hcz18_7
                try clear hcz18_8
                try clear hcz18_9
                try clear hcz20_0
                try clear hcz20_1
                try clear hcz20_10
                try clear hcz20_2
                try clear hcz20_3
                try clear hcz20_4
                try clear hcz20_5
                try clear hcz20_6
                try clear hcz20_7
                try clear hcz20_8
                try clear hcz20_9
                try clear hcz25_0
                try clear hcz25_1
                try clear hcz25_10
                try clear hcz25_2
                try clear hcz25_3
                try clear hcz25_4
                try clear hcz25_5
                try clear hcz25_6
                try clear hcz25_7
                try clear hcz25_8
                try clear hcz25_9
                try clear hcz30_0
                try clear hcz30_1
                try clear hcz30_10
                try clear hcz30_2
                try clear hcz30_3
                try clear hcz30_4
                try clear hcz30_5
                try clear hcz30_6
                try clear hcz30_7
                try clear hcz30_8
                try clear hcz30_9
                try clear hcz35_0
                try clear hcz35_1
                try clear hcz35_10
                try clear hcz35_2
                try clear hcz35_3
                try clear hcz35_4
                try clear hcz35_5
                try clear hcz35_6
                try clear hcz35_7
                try clear hcz35_8
                try clear hcz35_9
                try clear hcz7_0
                try clear hcz7_1
                try clear hcz7_10
                try clear hcz7_2
                try clear hcz7_3
                try clear hcz7_4
                try clear hcz7_5
                try clear hcz7_6
                try clear hcz7_7
                try clear hcz7_8
                try clear hcz7_9
                try clear hfz11_0
                try clear hfz11_1
                try clear hfz11_10
                try clear hfz11_2
                try clear hfz11_3
                try clear hfz11_4
                try clear hfz11_5
                try clear hfz11_6
                try clear hfz11_7
                try clear hfz11_8
                try clear hfz11_9
                try clear hfz15_0
                try clear hfz15_1
                try clear hfz15_10
                try clear hfz15_2
                try clear hfz15_3
                try clear hfz15_4
                try clear hfz15_5
                try clear hfz15_6
                try clear hfz15_7
                try clear hfz15_8
                try clear hfz15_9
                try clear hfz16_0
                try clear hfz16_1
                try clear hfz16_10
                try clear hfz16_2
                try clear hfz16_3
                try clear hfz16_4
                try clear hfz16_5
                try clear hfz16_6
                try clear hfz16_7
                try clear hfz16_8
                try clear hfz16_9
                try clear hfz18_0
                try clear hfz18_1
                try clear hfz18_10
                try clear hfz18_2
                try clear hfz18_3
                try clear hfz18_4
                try clear hfz18_5
                try clear hfz18_6
                try clear hfz18_7
                try clear hfz18_8
                try clear hfz18_9
                try clear hfz20_0
                try clear hfz20_1
                try clear hfz20_10
                try clear hfz20_2
                try clear hfz20_3
                try clear hfz20_4
                try clear hfz20_5
                try clear hfz20_6
                try clear hfz20_7
                try clear hfz20_8
                try clear hfz20_9
                try clear hfz25_0
                try clear hfz25_1
                try clear hfz25_10
                try clear hfz25_2
                try clear hfz25_3
                try clear hfz25_4
                try clear hfz25_5
                try clear hfz25_6
                try clear hfz25_7
                try clear hfz25_8
                try clear hfz25_9
                try clear hfz30_0
                try clear hfz30_1
                try clear hfz30_10
                try clear hfz30_2
                try clear hfz30_3
                try clear hfz30_4
                try clear hfz30_5
                try clear hfz30_6
                try clear hfz30_7
                try clear hfz30_8
                try clear hfz30_9
                try clear hfz35_0
                try clear hfz35_1
                try clear hfz35_10
                try clear hfz35_2
                try clear hfz35_3
                try clear hfz35_4
                try clear hfz35_5
                try clear hfz35_6
                try clear hfz35_7
                try clear hfz35_8
                try clear hfz35_9
                try clear hfz7_0
                try clear hfz7_1
                try clear hfz7_10
                try clear hfz7_2
                try clear hfz7_3
                try clear hfz7_4
                try clear hfz7_5
                try clear hfz7_6
                try clear hfz7_7
                try clear hfz7_8
                try clear hfz7_9
                try clear p2
                try clear p6
                obtain ⟨kq, x7_31, rfl, HA, HJ31, BK143, BK155, BK156, HB⟩ := hcut
                cases kq with
                | zero => exact absurd HA.out (by simp [lookasidelaw03_TteBits.j3])
                | succ kj31 =>
                  have H := HA.out
                  clear HA
                  simp only [lookasidelaw03_TteBits.j3] at H
                  by_cases c37 : t152 = true
                  · subst c37
                    have H1 : (if t153 = true then (if t157 = (IntKind.u64.wrap ((IntKind.u64.wrap (t158 + (IntKind.u64.wrap (wrap64 (x7_31 + 1))))) + 1152921504606846976)) then (if t158 = (IntKind.u64.wrap ((IntKind.u64.wrap (9223372036854775808 + (IntKind.u64.wrap ((IntKind.u64.wrap (t144)) * 2305843009213693952)))) + t147)) then ((lookasidelaw03_lives.f kj31).bind fun t159 => (some t159)) else (some false)) else (some false)) else (if t157 = (IntKind.u64.wrap ((IntKind.u64.wrap (t158 + (IntKind.u64.wrap (wrap64 (x7_31 + 1))))))) then (if t158 = (IntKind.u64.wrap ((IntKind.u64.wrap (9223372036854775808 + (IntKind.u64.wrap ((IntKind.u64.wrap (t144)) * 2305843009213693952)))) + t147)) then ((lookasidelaw03_lives.f kj31).bind fun t160 => (some t160)) else (some false)) else (some false))) = some r := by rw [if_pos rfl] at H; exact H
                    clear H
                    have H := H1
                    clear H1
                    by_cases c38 : t153 = true
                    · subst c38
                      have H1 : (if t157 = (IntKind.u64.wrap ((IntKind.u64.wrap (t158 + (IntKind.u64.wrap (wrap64 (x7_31 + 1))))) + 1152921504606846976)) then (if t158 = (IntKind.u64.wrap ((IntKind.u64.wrap (9223372036854775808 + (IntKind.u64.wrap ((IntKind.u64.wrap (t144)) * 2305843009213693952)))) + t147)) then ((lookasidelaw03_lives.f kj31).bind fun t159 => (some t159)) else (some false)) else (some false)) = some r := by rw [if_pos rfl] at H; exact H
                      clear H
                      have H := H1
                      clear H1
                      by_cases c39 : t157 = (IntKind.u64.wrap ((IntKind.u64.wrap (t158 + (IntKind.u64.wrap (wrap64 (x7_31 + 1))))) + 1152921504606846976))
                      · rw [if_pos c39] at H
                        have c39b0 : (t157 == (IntKind.u64.wrap ((IntKind.u64.wrap (t158 + (IntKind.u64.wrap (wrap64 (x7_31 + 1))))) + 1152921504606846976))) = true := beq_iff_eq.mpr c39
                        have c39b1 : (t157 != (IntKind.u64.wrap ((IntKind.u64.wrap (t158 + (IntKind.u64.wrap (wrap64 (x7_31 + 1))))) + 1152921504606846976))) = false := bne_eq_false_iff_eq.mpr c39
                        clear c39
                        by_cases c40 : t158 = (IntKind.u64.wrap ((IntKind.u64.wrap (9223372036854775808 + (IntKind.u64.wrap ((IntKind.u64.wrap (t144)) * 2305843009213693952)))) + t147))
                        · rw [if_pos c40] at H
                          have c40b0 : (t158 == (IntKind.u64.wrap ((IntKind.u64.wrap (9223372036854775808 + (IntKind.u64.wrap ((IntKind.u64.wrap (t144)) * 2305843009213693952)))) + t147))) = true := beq_iff_eq.mpr c40
                          have c40b1 : (t158 != (IntKind.u64.wrap ((IntKind.u64.wrap (9223372036854775808 + (IntKind.u64.wrap ((IntKind.u64.wrap (t144)) * 2305843009213693952)))) + t147))) = false := bne_eq_false_iff_eq.mpr c40
                          clear c40
                          replace H := Option.bind_eq_some_iff.mp H
                          obtain ⟨t159, A410, H⟩ := H
                          replace H : (some t159) = some r := H
                          have A41 := Aside0.mk A410
                          clear A410
                          obtain rfl := Option.some.inj H
                          have hnb42 := NB155_143.out
                          have hnc42 := NB143_155.out
                          have hnb43 := NB155_156.out
                          have hnc43 := NB156_155.out
                          have hcz44_0 : wc.cell? ⟨gb155, 0, none⟩ = some (.int .i64 t144) := (blk_cell BK155.out 0).trans rfl
                          have hcz44_1 : wc.cell? ⟨gb155, 1, none⟩ = some (.int .i64 t145) := (blk_cell BK155.out 1).trans rfl
                          have hcz44_2 : wc.cell? ⟨gb155, 2, none⟩ = some (.int .u64 t146) := (blk_cell BK155.out 2).trans rfl
                          have hcz44_3 : wc.cell? ⟨gb155, 3, none⟩ = some (.int .u64 t147) := (blk_cell BK155.out 3).trans rfl
                          have hcz44_4 : wc.cell? ⟨gb155, 4, none⟩ = some (.bool t148) := (blk_cell BK155.out 4).trans rfl
                          have hcz44_5 : wc.cell? ⟨gb155, 5, none⟩ = some (.bool t149) := (blk_cell BK155.out 5).trans rfl
                          have hcz44_6 : wc.cell? ⟨gb155, 6, none⟩ = some (.bool t150) := (blk_cell BK155.out 6).trans rfl
                          have hcz44_7 : wc.cell? ⟨gb155, 7, none⟩ = some (.bool t151) := (blk_cell BK155.out 7).trans rfl
                          have hcz44_8 : wc.cell? ⟨gb155, 8, none⟩ = some (.bool true) := (blk_cell BK155.out 8).trans rfl
                          have hcz44_9 : wc.cell? ⟨gb155, 9, none⟩ = some (.bool true) := (blk_cell BK155.out 9).trans rfl
                          have hcz44_10 : wc.cell? ⟨gb155, 10, none⟩ = some (.bool t154) := (blk_cell BK155.out 10).trans rfl
                          have hfz44_0 := blk_frozen BK155.out 0
                          have hfz44_1 := blk_frozen BK155.out 1
                          have hfz44_2 := blk_frozen BK155.out 2
                          have hfz44_3 := blk_frozen BK155.out 3
                          have hfz44_4 := blk_frozen BK155.out 4
                          have hfz44_5 := blk_frozen BK155.out 5
                          have hfz44_6 := blk_frozen BK155.out 6
                          have hfz44_7 := blk_frozen BK155.out 7
                          have hfz44_8 := blk_frozen BK155.out 8
                          have hfz44_9 := blk_frozen BK155.out 9
                          have hfz44_10 := blk_frozen BK155.out 10
                          go_wp2_with (first | (go_at_call 17; (with_reducible refine (lookasidelaw03_lives.calls kj31  t159 _ A41.out).mono ?_); rintro e w45 ⟨rfl, hb⟩; have n0_ := Aside0.mk (blk_below (g := gb143) (o := .cells #[.int .i64 a0_0, .int .i64 a0_1, .int .u64 a0_2, .int .u64 a0_3, .bool a0_4, .bool a0_5, .bool a0_6, .bool a0_7, .bool a0_8, .bool a0_9, .bool a0_10] 26 (0, 0)) (by (with_reducible repeat (first | refine blk_drewN ?_ _ | refine blk_drew ?_ | refine blk_alloc ?_ _)); exact BK143.out) hb); have n1_ := Aside0.mk (blk_below (g := gb155) (o := .cells #[.int .i64 t144, .int .i64 t145, .int .u64 t146, .int .u64 t147, .bool t148, .bool t149, .bool t150, .bool t151, .bool true, .bool true, .bool t154] 26 (0, 0)) (by (with_reducible repeat (first | refine blk_drewN ?_ _ | refine blk_drew ?_ | refine blk_alloc ?_ _)); exact BK155.out) hb); have n2_ := Aside0.mk (blk_below (g := gb156) (o := .cells #[.int .i64 t144, .int .i64 t145, .int .u64 t146, .int .u64 t147, .bool false, .bool false, .bool false, .bool false, .bool false, .bool false, .bool t154] 26 (0, 0)) (by (with_reducible repeat (first | refine blk_drewN ?_ _ | refine blk_drew ?_ | refine blk_alloc ?_ _)); exact BK156.out) hb); have n3_ := Aside0.mk (below_step (by repeat (first | (with_reducible first | exact HB.out | apply below_alloc | apply pw_below_drewN | apply below_drew1 | refine below_set ?_ GE143.out | refine below_set ?_ GE155.out | refine below_set ?_ GE156.out) | exact HB.out)) hb); clear BK143; clear BK155; clear BK156; clear HB; have BK143 := n0_; have BK155 := n1_; have BK156 := n2_; have HB := n3_; clear n0_ n1_ n2_ n3_; (try clear hb); (try clear hb2); (try clear hk); (try clear hi)))
                          go_ret
                          exact ⟨by first | rfl | (simp [errW_none, errW_some] <;> rfl) | (simp [*, errW_none, errW_some] <;> rfl), by repeat (first | (with_reducible first | exact HB.out | apply below_alloc | apply pw_below_drewN | apply below_drew1 | refine below_set ?_ GE143.out | refine below_set ?_ GE155.out | refine below_set ?_ GE156.out) | exact HB.out)⟩
                        · rw [if_neg c40] at H
                          have c40b0 : (t158 == (IntKind.u64.wrap ((IntKind.u64.wrap (9223372036854775808 + (IntKind.u64.wrap ((IntKind.u64.wrap (t144)) * 2305843009213693952)))) + t147))) = false := beq_eq_false_iff_ne.mpr c40
                          have c40b1 : (t158 != (IntKind.u64.wrap ((IntKind.u64.wrap (9223372036854775808 + (IntKind.u64.wrap ((IntKind.u64.wrap (t144)) * 2305843009213693952)))) + t147))) = true := bne_iff_ne.mpr c40
                          exact absurd ((Option.some.inj H).trans hr_.out) (by decide)
                      · rw [if_neg c39] at H
                        have c39b0 : (t157 == (IntKind.u64.wrap ((IntKind.u64.wrap (t158 + (IntKind.u64.wrap (wrap64 (x7_31 + 1))))) + 1152921504606846976))) = false := beq_eq_false_iff_ne.mpr c39
                        have c39b1 : (t157 != (IntKind.u64.wrap ((IntKind.u64.wrap (t158 + (IntKind.u64.wrap (wrap64 (x7_31 + 1))))) + 1152921504606846976))) = true := bne_iff_ne.mpr c39
                        exact absurd ((Option.some.inj H).trans hr_.out) (by decide)
                    · replace c38 := Bool.eq_false_iff.mpr c38
                      subst c38
                      have H1 : (if t157 = (IntKind.u64.wrap ((IntKind.u64.wrap (t158 + (IntKind.u64.wrap (wrap64 (x7_31 + 1))))))) then (if t158 = (IntKind.u64.wrap ((IntKind.u64.wrap (9223372036854775808 + (IntKind.u64.wrap ((IntKind.u64.wrap (t144)) * 2305843009213693952)))) + t147)) then ((lookasidelaw03_lives.f kj31).bind fun t160 => (some t160)) else (some false)) else (some false)) = some r := by rw [if_neg (show ¬ (false = true) by decide)] at H; exact H
                      clear H
                      have H := H1
                      clear H1
                      by_cases c46 : t157 = (IntKind.u64.wrap ((IntKind.u64.wrap (t158 + (IntKind.u64.wrap (wrap64 (x7_31 + 1)))))))
                      · rw [if_pos c46] at H
                        have c46b0 : (t157 == (IntKind.u64.wrap ((IntKind.u64.wrap (t158 + (IntKind.u64.wrap (wrap64 (x7_31 + 1)))))))) = true := beq_iff_eq.mpr c46
                        have c46b1 : (t157 != (IntKind.u64.wrap ((IntKind.u64.wrap (t158 + (IntKind.u64.wrap (wrap64 (x7_31 + 1)))))))) = false := bne_eq_false_iff_eq.mpr c46
                        clear c46
                        by_cases c47 : t158 = (IntKind.u64.wrap ((IntKind.u64.wrap (9223372036854775808 + (IntKind.u64.wrap ((IntKind.u64.wrap (t144)) * 2305843009213693952)))) + t147))
                        · rw [if_pos c47] at H
                          have c47b0 : (t158 == (IntKind.u64.wrap ((IntKind.u64.wrap (9223372036854775808 + (IntKind.u64.wrap ((IntKind.u64.wrap (t144)) * 2305843009213693952)))) + t147))) = true := beq_iff_eq.mpr c47
                          have c47b1 : (t158 != (IntKind.u64.wrap ((IntKind.u64.wrap (9223372036854775808 + (IntKind.u64.wrap ((IntKind.u64.wrap (t144)) * 2305843009213693952)))) + t147))) = false := bne_eq_false_iff_eq.mpr c47
                          clear c47
                          replace H := Option.bind_eq_some_iff.mp H
                          obtain ⟨t160, A480, H⟩ := H
                          replace H : (some t160) = some r := H
                          have A48 := Aside0.mk A480
                          clear A480
                          obtain rfl := Option.some.inj H
                          have hnb49 := NB155_143.out
                          have hnc49 := NB143_155.out
                          have hnb50 := NB155_156.out
                          have hnc50 := NB156_155.out
                          have hcz51_0 : wc.cell? ⟨gb155, 0, none⟩ = some (.int .i64 t144) := (blk_cell BK155.out 0).trans rfl
                          have hcz51_1 : wc.cell? ⟨gb155, 1, none⟩ = some (.int .i64 t145) := (blk_cell BK155.out 1).trans rfl
                          have hcz51_2 : wc.cell? ⟨gb155, 2, none⟩ = some (.int .u64 t146) := (blk_cell BK155.out 2).trans rfl
                          have hcz51_3 : wc.cell? ⟨gb155, 3, none⟩ = some (.int .u64 t147) := (blk_cell BK155.out 3).trans rfl
                          have hcz51_4 : wc.cell? ⟨gb155, 4, none⟩ = some (.bool t148) := (blk_cell BK155.out 4).trans rfl
                          have hcz51_5 : wc.cell? ⟨gb155, 5, none⟩ = some (.bool t149) := (blk_cell BK155.out 5).trans rfl
                          have hcz51_6 : wc.cell? ⟨gb155, 6, none⟩ = some (.bool t150) := (blk_cell BK155.out 6).trans rfl
                          have hcz51_7 : wc.cell? ⟨gb155, 7, none⟩ = some (.bool t151) := (blk_cell BK155.out 7).trans rfl
                          have hcz51_8 : wc.cell? ⟨gb155, 8, none⟩ = some (.bool true) := (blk_cell BK155.out 8).trans rfl
                          have hcz51_9 : wc.cell? ⟨gb155, 9, none⟩ = some (.bool false) := (blk_cell BK155.out 9).trans rfl
                          have hcz51_10 : wc.cell? ⟨gb155, 10, none⟩ = some (.bool t154) := (blk_cell BK155.out 10).trans rfl
                          have hfz51_0 := blk_frozen BK155.out 0
                          have hfz51_1 := blk_frozen BK155.out 1
                          have hfz51_2 := blk_frozen BK155.out 2
                          have hfz51_3 := blk_frozen BK155.out 3
                          have hfz51_4 := blk_frozen BK155.out 4
                          have hfz51_5 := blk_frozen BK155.out 5
                          have hfz51_6 := blk_frozen BK155.out 6
                          have hfz51_7 := blk_frozen BK155.out 7
                          have hfz51_8 := blk_frozen BK155.out 8
                          have hfz51_9 := blk_frozen BK155.out 9
                          have hfz51_10 := blk_frozen BK155.out 10
                          go_wp2_with (first | (go_at_call 17; (with_reducible refine (lookasidelaw03_lives.calls kj31  t160 _ A48.out).mono ?_); rintro e w52 ⟨rfl, hb⟩; have n0_ := Aside0.mk (blk_below (g := gb143) (o := .cells #[.int .i64 a0_0, .int .i64 a0_1, .int .u64 a0_2, .int .u64 a0_3, .bool a0_4, .bool a0_5, .bool a0_6, .bool a0_7, .bool a0_8, .bool a0_9, .bool a0_10] 26 (0, 0)) (by (with_reducible repeat (first | refine blk_drewN ?_ _ | refine blk_drew ?_ | refine blk_alloc ?_ _)); exact BK143.out) hb); have n1_ := Aside0.mk (blk_below (g := gb155) (o := .cells #[.int .i64 t144, .int .i64 t145, .int .u64 t146, .int .u64 t147, .bool t148, .bool t149, .bool t150, .bool t151, .bool true, .bool false, .bool t154] 26 (0, 0)) (by (with_reducible repeat (first | refine blk_drewN ?_ _ | refine blk_drew ?_ | refine blk_alloc ?_ _)); exact BK155.out) hb); have n2_ := Aside0.mk (blk_below (g := gb156) (o := .cells #[.int .i64 t144, .int .i64 t145, .int .u64 t146, .int .u64 t147, .bool false, .bool false, .bool false, .bool false, .bool false, .bool false, .bool t154] 26 (0, 0)) (by (with_reducible repeat (first | refine blk_drewN ?_ _ | refine blk_drew ?_ | refine blk_alloc ?_ _)); exact BK156.out) hb); have n3_ := Aside0.mk (below_step (by repeat (first | (with_reducible first | exact HB.out | apply below_alloc | apply pw_below_drewN | apply below_drew1 | refine below_set ?_ GE143.out | refine below_set ?_ GE155.out | refine below_set ?_ GE156.out) | exact HB.out)) hb); clear BK143; clear BK155; clear BK156; clear HB; have BK143 := n0_; have BK155 := n1_; have BK156 := n2_; have HB := n3_; clear n0_ n1_ n2_ n3_; (try clear hb); (try clear hb2); (try clear hk); (try clear hi)))
                          go_ret
                          exact ⟨by first | rfl | (simp [errW_none, errW_some] <;> rfl) | (simp [*, errW_none, errW_some] <;> rfl), by repeat (first | (with_reducible first | exact HB.out | apply below_alloc | apply pw_below_drewN | apply below_drew1 | refine below_set ?_ GE143.out | refine below_set ?_ GE155.out | refine below_set ?_ GE156.out) | exact HB.out)⟩
                        · rw [if_neg c47] at H
                          have c47b0 : (t158 == (IntKind.u64.wrap ((IntKind.u64.wrap (9223372036854775808 + (IntKind.u64.wrap ((IntKind.u64.wrap (t144)) * 2305843009213693952)))) + t147))) = false := beq_eq_false_iff_ne.mpr c47
                          have c47b1 : (t158 != (IntKind.u64.wrap ((IntKind.u64.wrap (9223372036854775808 + (IntKind.u64.wrap ((IntKind.u64.wrap (t144)) * 2305843009213693952)))) + t147))) = true := bne_iff_ne.mpr c47
                          exact absurd ((Option.some.inj H).trans hr_.out) (by decide)
                      · rw [if_neg c46] at H
                        have c46b0 : (t157 == (IntKind.u64.wrap ((IntKind.u64.wrap (t158 + (IntKind.u64.wrap (wrap64 (x7_31 + 1)))))))) = false := beq_eq_false_iff_ne.mpr c46
                        have c46b1 : (t157 != (IntKind.u64.wrap ((IntKind.u64.wrap (t158 + (IntKind.u64.wrap (wrap64 (x7_31 + 1)))))))) = true := bne_iff_ne.mpr c46
                        exact absurd ((Option.some.inj H).trans hr_.out) (by decide)
                  · replace c37 := Bool.eq_false_iff.mpr c37
                    subst c37
                    have H1 : (if t153 = true then (if t157 = (IntKind.u64.wrap ((IntKind.u64.wrap (t158 + (IntKind.u64.wrap (x7_31)))) + 1152921504606846976)) then (if t158 = (IntKind.u64.wrap ((IntKind.u64.wrap (9223372036854775808 + (IntKind.u64.wrap ((IntKind.u64.wrap (t144)) * 2305843009213693952)))) + t147)) then ((lookasidelaw03_lives.f kj31).bind fun t161 => (some t161)) else (some false)) else (some false)) else (if t157 = (IntKind.u64.wrap ((IntKind.u64.wrap (t158 + (IntKind.u64.wrap (x7_31)))))) then (if t158 = (IntKind.u64.wrap ((IntKind.u64.wrap (9223372036854775808 + (IntKind.u64.wrap ((IntKind.u64.wrap (t144)) * 2305843009213693952)))) + t147)) then ((lookasidelaw03_lives.f kj31).bind fun t162 => (some t162)) else (some false)) else (some false))) = some r := by rw [if_neg (show ¬ (false = true) by decide)] at H; exact H
                    clear H
                    have H := H1
                    clear H1
                    by_cases c53 : t153 = true
                    · subst c53
                      have H1 : (if t157 = (IntKind.u64.wrap ((IntKind.u64.wrap (t158 + (IntKind.u64.wrap (x7_31)))) + 1152921504606846976)) then (if t158 = (IntKind.u64.wrap ((IntKind.u64.wrap (9223372036854775808 + (IntKind.u64.wrap ((IntKind.u64.wrap (t144)) * 2305843009213693952)))) + t147)) then ((lookasidelaw03_lives.f kj31).bind fun t161 => (some t161)) else (some false)) else (some false)) = some r := by rw [if_pos rfl] at H; exact H
                      clear H
                      have H := H1
                      clear H1
                      by_cases c54 : t157 = (IntKind.u64.wrap ((IntKind.u64.wrap (t158 + (IntKind.u64.wrap (x7_31)))) + 1152921504606846976))
                      · rw [if_pos c54] at H
                        have c54b0 : (t157 == (IntKind.u64.wrap ((IntKind.u64.wrap (t158 + (IntKind.u64.wrap (x7_31)))) + 1152921504606846976))) = true := beq_iff_eq.mpr c54
                        have c54b1 : (t157 != (IntKind.u64.wrap ((IntKind.u64.wrap (t158 + (IntKind.u64.wrap (x7_31)))) + 1152921504606846976))) = false := bne_eq_false_iff_eq.mpr c54
                        clear c54
                        by_cases c55 : t158 = (IntKind.u64.wrap ((IntKind.u64.wrap (9223372036854775808 + (IntKind.u64.wrap ((IntKind.u64.wrap (t144)) * 2305843009213693952)))) + t147))
                        · rw [if_pos c55] at H
                          have c55b0 : (t158 == (IntKind.u64.wrap ((IntKind.u64.wrap (9223372036854775808 + (IntKind.u64.wrap ((IntKind.u64.wrap (t144)) * 2305843009213693952)))) + t147))) = true := beq_iff_eq.mpr c55
                          have c55b1 : (t158 != (IntKind.u64.wrap ((IntKind.u64.wrap (9223372036854775808 + (IntKind.u64.wrap ((IntKind.u64.wrap (t144)) * 2305843009213693952)))) + t147))) = false := bne_eq_false_iff_eq.mpr c55
                          clear c55
                          replace H := Option.bind_eq_some_iff.mp H
                          obtain ⟨t161, A560, H⟩ := H
                          replace H : (some t161) = some r := H
                          have A56 := Aside0.mk A560
                          clear A560
                          obtain rfl := Option.some.inj H
                          have hnb57 := NB155_143.out
                          have hnc57 := NB143_155.out
                          have hnb58 := NB155_156.out
                          have hnc58 := NB156_155.out
                          have hcz59_0 : wc.cell? ⟨gb155, 0, none⟩ = some (.int .i64 t144) := (blk_cell BK155.out 0).trans rfl
                          have hcz59_1 : wc.cell? ⟨gb155, 1, none⟩ = some (.int .i64 t145) := (blk_cell BK155.out 1).trans rfl
                          have hcz59_2 : wc.cell? ⟨gb155, 2, none⟩ = some (.int .u64 t146) := (blk_cell BK155.out 2).trans rfl
                          have hcz59_3 : wc.cell? ⟨gb155, 3, none⟩ = some (.int .u64 t147) := (blk_cell BK155.out 3).trans rfl
                          have hcz59_4 : wc.cell? ⟨gb155, 4, none⟩ = some (.bool t148) := (blk_cell BK155.out 4).trans rfl
                          have hcz59_5 : wc.cell? ⟨gb155, 5, none⟩ = some (.bool t149) := (blk_cell BK155.out 5).trans rfl
                          have hcz59_6 : wc.cell? ⟨gb155, 6, none⟩ = some (.bool t150) := (blk_cell BK155.out 6).trans rfl
                          have hcz59_7 : wc.cell? ⟨gb155, 7, none⟩ = some (.bool t151) := (blk_cell BK155.out 7).trans rfl
                          have hcz59_8 : wc.cell? ⟨gb155, 8, none⟩ = some (.bool false) := (blk_cell BK155.out 8).trans rfl
                          have hcz59_9 : wc.cell? ⟨gb155, 9, none⟩ = some (.bool true) := (blk_cell BK155.out 9).trans rfl
                          have hcz59_10 : wc.cell? ⟨gb155, 10, none⟩ = some (.bool t154) := (blk_cell BK155.out 10).trans rfl
                          have hfz59_0 := blk_frozen BK155.out 0
                          have hfz59_1 := blk_frozen BK155.out 1
                          have hfz59_2 := blk_frozen BK155.out 2
                          have hfz59_3 := blk_frozen BK155.out 3
                          have hfz59_4 := blk_frozen BK155.out 4
                          have hfz59_5 := blk_frozen BK155.out 5
                          have hfz59_6 := blk_frozen BK155.out 6
                          have hfz59_7 := blk_frozen BK155.out 7
                          have hfz59_8 := blk_frozen BK155.out 8
                          have hfz59_9 := blk_frozen BK155.out 9
                          have hfz59_10 := blk_frozen BK155.out 10
                          go_wp2_with (first | (go_at_call 17; (with_reducible refine (lookasidelaw03_lives.calls kj31  t161 _ A56.out).mono ?_); rintro e w60 ⟨rfl, hb⟩; have n0_ := Aside0.mk (blk_below (g := gb143) (o := .cells #[.int .i64 a0_0, .int .i64 a0_1, .int .u64 a0_2, .int .u64 a0_3, .bool a0_4, .bool a0_5, .bool a0_6, .bool a0_7, .bool a0_8, .bool a0_9, .bool a0_10] 26 (0, 0)) (by (with_reducible repeat (first | refine blk_drewN ?_ _ | refine blk_drew ?_ | refine blk_alloc ?_ _)); exact BK143.out) hb); have n1_ := Aside0.mk (blk_below (g := gb155) (o := .cells #[.int .i64 t144, .int .i64 t145, .int .u64 t146, .int .u64 t147, .bool t148, .bool t149, .bool t150, .bool t151, .bool false, .bool true, .bool t154] 26 (0, 0)) (by (with_reducible repeat (first | refine blk_drewN ?_ _ | refine blk_drew ?_ | refine blk_alloc ?_ _)); exact BK155.out) hb); have n2_ := Aside0.mk (blk_below (g := gb156) (o := .cells #[.int .i64 t144, .int .i64 t145, .int .u64 t146, .int .u64 t147, .bool false, .bool false, .bool false, .bool false, .bool false, .bool false, .bool t154] 26 (0, 0)) (by (with_reducible repeat (first | refine blk_drewN ?_ _ | refine blk_drew ?_ | refine blk_alloc ?_ _)); exact BK156.out) hb); have n3_ := Aside0.mk (below_step (by repeat (first | (with_reducible first | exact HB.out | apply below_alloc | apply pw_below_drewN | apply below_drew1 | refine below_set ?_ GE143.out | refine below_set ?_ GE155.out | refine below_set ?_ GE156.out) | exact HB.out)) hb); clear BK143; clear BK155; clear BK156; clear HB; have BK143 := n0_; have BK155 := n1_; have BK156 := n2_; have HB := n3_; clear n0_ n1_ n2_ n3_; (try clear hb); (try clear hb2); (try clear hk); (try clear hi)))
                          go_ret
                          exact ⟨by first | rfl | (simp [errW_none, errW_some] <;> rfl) | (simp [*, errW_none, errW_some] <;> rfl), by repeat (first | (with_reducible first | exact HB.out | apply below_alloc | apply pw_below_drewN | apply below_drew1 | refine below_set ?_ GE143.out | refine below_set ?_ GE155.out | refine below_set ?_ GE156.out) | exact HB.out)⟩
                        · rw [if_neg c55] at H
                          have c55b0 : (t158 == (IntKind.u64.wrap ((IntKind.u64.wrap (9223372036854775808 + (IntKind.u64.wrap ((IntKind.u64.wrap (t144)) * 2305843009213693952)))) + t147))) = false := beq_eq_false_iff_ne.mpr c55
                          have c55b1 : (t158 != (IntKind.u64.wrap ((IntKind.u64.wrap (9223372036854775808 + (IntKind.u64.wrap ((IntKind.u64.wrap (t144)) * 2305843009213693952)))) + t147))) = true := bne_iff_ne.mpr c55
                          exact absurd ((Option.some.inj H).trans hr_.out) (by decide)
                      · rw [if_neg c54] at H
                        have c54b0 : (t157 == (IntKind.u64.wrap ((IntKind.u64.wrap (t158 + (IntKind.u64.wrap (x7_31)))) + 1152921504606846976))) = false := beq_eq_false_iff_ne.mpr c54
                        have c54b1 : (t157 != (IntKind.u64.wrap ((IntKind.u64.wrap (t158 + (IntKind.u64.wrap (x7_31)))) + 1152921504606846976))) = true := bne_iff_ne.mpr c54
                        exact absurd ((Option.some.inj H).trans hr_.out) (by decide)
                    · replace c53 := Bool.eq_false_iff.mpr c53
                      subst c53
                      have H1 : (if t157 = (IntKind.u64.wrap ((IntKind.u64.wrap (t158 + (IntKind.u64.wrap (x7_31)))))) then (if t158 = (IntKind.u64.wrap ((IntKind.u64.wrap (9223372036854775808 + (IntKind.u64.wrap ((IntKind.u64.wrap (t144)) * 2305843009213693952)))) + t147)) then ((lookasidelaw03_lives.f kj31).bind fun t162 => (some t162)) else (some false)) else (some false)) = some r := by rw [if_neg (show ¬ (false = true) by decide)] at H; exact H
                      clear H
                      have H := H1
                      clear H1
                      by_cases c61 : t157 = (IntKind.u64.wrap ((IntKind.u64.wrap (t158 + (IntKind.u64.wrap (x7_31))))))
                      · rw [if_pos c61] at H
                        have c61b0 : (t157 == (IntKind.u64.wrap ((IntKind.u64.wrap (t158 + (IntKind.u64.wrap (x7_31))))))) = true := beq_iff_eq.mpr c61
                        have c61b1 : (t157 != (IntKind.u64.wrap ((IntKind.u64.wrap (t158 + (IntKind.u64.wrap (x7_31))))))) = false := bne_eq_false_iff_eq.mpr c61
                        clear c61
                        by_cases c62 : t158 = (IntKind.u64.wrap ((IntKind.u64.wrap (9223372036854775808 + (IntKind.u64.wrap ((IntKind.u64.wrap (t144)) * 2305843009213693952)))) + t147))
                        · rw [if_pos c62] at H
                          have c62b0 : (t158 == (IntKind.u64.wrap ((IntKind.u64.wrap (9223372036854775808 + (IntKind.u64.wrap ((IntKind.u64.wrap (t144)) * 2305843009213693952)))) + t147))) = true := beq_iff_eq.mpr c62
                          have c62b1 : (t158 != (IntKind.u64.wrap ((IntKind.u64.wrap (9223372036854775808 + (IntKind.u64.wrap ((IntKind.u64.wrap (t144)) * 2305843009213693952)))) + t147))) = false := bne_eq_false_iff_eq.mpr c62
                          clear c62
                          replace H := Option.bind_eq_some_iff.mp H
                          obtain ⟨t162, A630, H⟩ := H
                          replace H : (some t162) = some r := H
                          have A63 := Aside0.mk A630
                          clear A630
                          obtain rfl := Option.some.inj H
                          have hnb64 := NB155_143.out
                          have hnc64 := NB143_155.out
                          have hnb65 := NB155_156.out
                          have hnc65 := NB156_155.out
                          have hcz66_0 : wc.cell? ⟨gb155, 0, none⟩ = some (.int .i64 t144) := (blk_cell BK155.out 0).trans rfl
                          have hcz66_1 : wc.cell? ⟨gb155, 1, none⟩ = some (.int .i64 t145) := (blk_cell BK155.out 1).trans rfl
                          have hcz66_2 : wc.cell? ⟨gb155, 2, none⟩ = some (.int .u64 t146) := (blk_cell BK155.out 2).trans rfl
                          have hcz66_3 : wc.cell? ⟨gb155, 3, none⟩ = some (.int .u64 t147) := (blk_cell BK155.out 3).trans rfl
                          have hcz66_4 : wc.cell? ⟨gb155, 4, none⟩ = some (.bool t148) := (blk_cell BK155.out 4).trans rfl
                          have hcz66_5 : wc.cell? ⟨gb155, 5, none⟩ = some (.bool t149) := (blk_cell BK155.out 5).trans rfl
                          have hcz66_6 : wc.cell? ⟨gb155, 6, none⟩ = some (.bool t150) := (blk_cell BK155.out 6).trans rfl
                          have hcz66_7 : wc.cell? ⟨gb155, 7, none⟩ = some (.bool t151) := (blk_cell BK155.out 7).trans rfl
                          have hcz66_8 : wc.cell? ⟨gb155, 8, none⟩ = some (.bool false) := (blk_cell BK155.out 8).trans rfl
                          have hcz66_9 : wc.cell? ⟨gb155, 9, none⟩ = some (.bool false) := (blk_cell BK155.out 9).trans rfl
                          have hcz66_10 : wc.cell? ⟨gb155, 10, none⟩ = some (.bool t154) := (blk_cell BK155.out 10).trans rfl
                          have hfz66_0 := blk_frozen BK155.out 0
                          have hfz66_1 := blk_frozen BK155.out 1
                          have hfz66_2 := blk_frozen BK155.out 2
                          have hfz66_3 := blk_frozen BK155.out 3
                          have hfz66_4 := blk_frozen BK155.out 4
                          have hfz66_5 := blk_frozen BK155.out 5
                          have hfz66_6 := blk_frozen BK155.out 6
                          have hfz66_7 := blk_frozen BK155.out 7
                          have hfz66_8 := blk_frozen BK155.out 8
                          have hfz66_9 := blk_frozen BK155.out 9
                          have hfz66_10 := blk_frozen BK155.out 10
                          go_wp2_with (first | (go_at_call 17; (with_reducible refine (lookasidelaw03_lives.calls kj31  t162 _ A63.out).mono ?_); rintro e w67 ⟨rfl, hb⟩; have n0_ := Aside0.mk (blk_below (g := gb143) (o := .cells #[.int .i64 a0_0, .int .i64 a0_1, .int .u64 a0_2, .int .u64 a0_3, .bool a0_4, .bool a0_5, .bool a0_6, .bool a0_7, .bool a0_8, .bool a0_9, .bool a0_10] 26 (0, 0)) (by (with_reducible repeat (first | refine blk_drewN ?_ _ | refine blk_drew ?_ | refine blk_alloc ?_ _)); exact BK143.out) hb); have n1_ := Aside0.mk (blk_below (g := gb155) (o := .cells #[.int .i64 t144, .int .i64 t145, .int .u64 t146, .int .u64 t147, .bool t148, .bool t149, .bool t150, .bool t151, .bool false, .bool false, .bool t154] 26 (0, 0)) (by (with_reducible repeat (first | refine blk_drewN ?_ _ | refine blk_drew ?_ | refine blk_alloc ?_ _)); exact BK155.out) hb); have n2_ := Aside0.mk (blk_below (g := gb156) (o := .cells #[.int .i64 t144, .int .i64 t145, .int .u64 t146, .int .u64 t147, .bool false, .bool false, .bool false, .bool false, .bool false, .bool false, .bool t154] 26 (0, 0)) (by (with_reducible repeat (first | refine blk_drewN ?_ _ | refine blk_drew ?_ | refine blk_alloc ?_ _)); exact BK156.out) hb); have n3_ := Aside0.mk (below_step (by repeat (first | (with_reducible first | exact HB.out | apply below_alloc | apply pw_below_drewN | apply below_drew1 | refine below_set ?_ GE143.out | refine below_set ?_ GE155.out | refine below_set ?_ GE156.out) | exact HB.out)) hb); clear BK143; clear BK155; clear BK156; clear HB; have BK143 := n0_; have BK155 := n1_; have BK156 := n2_; have HB := n3_; clear n0_ n1_ n2_ n3_; (try clear hb); (try clear hb2); (try clear hk); (try clear hi)))
                          go_ret
                          exact ⟨by first | rfl | (simp [errW_none, errW_some] <;> rfl) | (simp [*, errW_none, errW_some] <;> rfl), by repeat (first | (with_reducible first | exact HB.out | apply below_alloc | apply pw_below_drewN | apply below_drew1 | refine below_set ?_ GE143.out | refine below_set ?_ GE155.out | refine below_set ?_ GE156.out) | exact HB.out)⟩
                        · rw [if_neg c62] at H
                          have c62b0 : (t158 == (IntKind.u64.wrap ((IntKind.u64.wrap (9223372036854775808 + (IntKind.u64.wrap ((IntKind.u64.wrap (t144)) * 2305843009213693952)))) + t147))) = false := beq_eq_false_iff_ne.mpr c62
                          have c62b1 : (t158 != (IntKind.u64.wrap ((IntKind.u64.wrap (9223372036854775808 + (IntKind.u64.wrap ((IntKind.u64.wrap (t144)) * 2305843009213693952)))) + t147))) = true := bne_iff_ne.mpr c62
                          exact absurd ((Option.some.inj H).trans hr_.out) (by decide)
                      · rw [if_neg c61] at H
                        have c61b0 : (t157 == (IntKind.u64.wrap ((IntKind.u64.wrap (t158 + (IntKind.u64.wrap (x7_31))))))) = false := beq_eq_false_iff_ne.mpr c61
                        have c61b1 : (t157 != (IntKind.u64.wrap ((IntKind.u64.wrap (t158 + (IntKind.u64.wrap (x7_31))))))) = true := bne_iff_ne.mpr c61
                        exact absurd ((Option.some.inj H).trans hr_.out) (by decide)

/-- THE ONE PURE STATEMENT of lookasidelaw03_TteBits: yours. -/
def lookasidelaw03_TteBits.Pure : Prop := ∀ (a0_0 : Int) (a0_1 : Int) (a0_2 : Int) (a0_3 : Int) (a0_4 : Bool) (a0_5 : Bool) (a0_6 : Bool) (a0_7 : Bool) (a0_8 : Bool) (a0_9 : Bool) (a0_10 : Bool), (Lit.int .i64 a0_0).wf = true → (Lit.int .i64 a0_1).wf = true → (Lit.int .u64 a0_2).wf = true → (Lit.int .u64 a0_3).wf = true → ∃ k, lookasidelaw03_TteBits.f k a0_0 a0_1 a0_2 a0_3 a0_4 a0_5 a0_6 a0_7 a0_8 a0_9 a0_10 = some true
theorem lookasidelaw03_TteBits.walk (P : lookasidelaw03_TteBits.Pure) (a0_0 : Int) (a0_1 : Int) (a0_2 : Int) (a0_3 : Int) (a0_4 : Bool) (a0_5 : Bool) (a0_6 : Bool) (a0_7 : Bool) (a0_8 : Bool) (a0_9 : Bool) (a0_10 : Bool) (w : World) (w0_0 : (Lit.int .i64 a0_0).wf = true) (w0_1 : (Lit.int .i64 a0_1).wf = true) (w0_2 : (Lit.int .u64 a0_2).wf = true) (w0_3 : (Lit.int .u64 a0_3).wf = true) :
    Calls Try.prog 4 #[.agg #[.int .i64 a0_0, .int .i64 a0_1, .int .u64 a0_2, .int .u64 a0_3, .bool a0_4, .bool a0_5, .bool a0_6, .bool a0_7, .bool a0_8, .bool a0_9, .bool a0_10]] w fun e w' => e = .returned (.bool true) ∧ Below w.heap.size w w' := by
  obtain ⟨k, h⟩ := P a0_0 a0_1 a0_2 a0_3 a0_4 a0_5 a0_6 a0_7 a0_8 a0_9 a0_10 w0_0 w0_1 w0_2 w0_3
  refine (lookasidelaw03_TteBits.calls k a0_0 a0_1 a0_2 a0_3 a0_4 a0_5 a0_6 a0_7 a0_8 a0_9 a0_10 true w h rfl).mono ?_
  rintro e w' ⟨rfl, hd⟩
  exact ⟨rfl, hd⟩

end Go.Proofs.Ytecbngibhobgbaa.QTteBits
