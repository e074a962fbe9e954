-- Printed by a program of this session (wip/print/myprint.py) out of the translation; Lean checks it.
import Derived.Test.YtecbngibhobgbaaQTteReadsx0
import Derived.Test.YtecbngibhobgbaaQTteReadsx1
import Derived.Test.YtecbngibhobgbaaQTteReadsx2
import Derived.Test.YtecbngibhobgbaaQTteReadsx3
import Derived.Test.YtecbngibhobgbaaQTteReadsx5
import Derived.Test.YtecbngibhobgbaaQTteReadsx6
import Derived.Test.YtecbngibhobgbaaQTteReadsx7
import Derived.Test.YtecbngibhobgbaaQTteReadsx9
namespace Go.Proofs.Ytecbngibhobgbaa.QTteReads
open Go.RowKit Go.Proofs.YtecbngibhobgbaaW.PrintWords Go.Proofs.YtecbngibhobgbaaW.PrintLast Go.Proofs.YtecbngibhobgbaaW.PrintMore
attribute [local go_sem] max2_int min2_int max_two min_two max_three min_three max_four min_four   -- for this text's walks alone
set_option linter.unusedVariables false
set_option linter.unusedSimpArgs false
theorem bb10_ {w2 w' : World} {g : Nat} {o : Obj} (hb : Below w2.heap.size w2 w') (h : w2.heap[g]? = some o) : w'.heap[g]? = some o := blk_below h hb

attribute [local go_sem high] eqA26
/-! ### lookasidelaw03_TteReads: function 10 -/
mutual
def lookasidelaw03_TteReads.j0 : Nat → Int → Bool → Int → Int → Int → Int → Bool → Bool → Bool → Bool → Bool → Bool → Bool → Option (Bool)
  | 0, _, _, _, _, _, _, _, _, _, _, _, _, _ => none
  | k + 1, x4, x39, x172000, x172001, x172002, x172003, x172004, x172005, x172006, x172007, x172008, x172009, x172010 => if x39 = true then (some false) else ((lookasideref03_Good.f k x172000 x172001 x172002 x172003 x172004 x172005 x172006 x172007 x172008 x172009 x172010).bind fun bt198 => (if x4 < 0 then (lookasidelaw03_TteReads.j1 k (wrap64 (-(wrap64 (x4 + 1)))) bt198.1 bt198.2.1 bt198.2.2.1 bt198.2.2.2.1 bt198.2.2.2.2.1 bt198.2.2.2.2.2.1 bt198.2.2.2.2.2.2.1 bt198.2.2.2.2.2.2.2.1 bt198.2.2.2.2.2.2.2.2.1 bt198.2.2.2.2.2.2.2.2.2.1 bt198.2.2.2.2.2.2.2.2.2.2) else (lookasidelaw03_TteReads.j1 k x4 bt198.1 bt198.2.1 bt198.2.2.1 bt198.2.2.2.1 bt198.2.2.2.2.1 bt198.2.2.2.2.2.1 bt198.2.2.2.2.2.2.1 bt198.2.2.2.2.2.2.2.1 bt198.2.2.2.2.2.2.2.2.1 bt198.2.2.2.2.2.2.2.2.2.1 bt198.2.2.2.2.2.2.2.2.2.2)))
def lookasidelaw03_TteReads.j1 : Nat → Int → Int → Int → Int → Int → Bool → Bool → Bool → Bool → Bool → Bool → Bool → Option (Bool)
  | 0, _, _, _, _, _, _, _, _, _, _, _, _ => none
  | k + 1, x4, x210000, x210001, x210002, x210003, x210004, x210005, x210006, x210007, x210008, x210009, x210010 => (lookasideref03_Tag.f k x210000 x210001 x210002 x210003 x210004 x210005 x210006 x210007 x210008 x210009 x210010).bind fun t210 => ((lookasideref03_Data.f k x210000 x210001 x210002 x210003 x210004 x210005 x210006 x210007 x210008 x210009 x210010).bind fun t211 => (if (Int.tmod x4 128) < 64 then ((lookasideref01_Bit.f k t210 (Int.tmod x4 128)).bind fun t212 => ((lookasideref01_Put.f k t210 (Int.tmod x4 128) 1 (IntKind.u64.wrap (1 - t212))).bind fun t213 => ((tte_Read.f k t213 t211 x210002).bind fun bt214 => ((lookasideref03_Read.f k t213 t211 x210002).bind fun bt226 => (if (bt214.1 == bt226.1 && (bt214.2.1 == bt226.2.1 && (bt214.2.2.1 == bt226.2.2.1 && (bt214.2.2.2.1 == bt226.2.2.2.1 && ((bt214.2.2.2.2.1 == bt226.2.2.2.2.1 && (bt214.2.2.2.2.2.1 == bt226.2.2.2.2.2.1 && (bt214.2.2.2.2.2.2.1 == bt226.2.2.2.2.2.2.1 && (bt214.2.2.2.2.2.2.2.1 == bt226.2.2.2.2.2.2.2.1 && (bt214.2.2.2.2.2.2.2.2.1 == bt226.2.2.2.2.2.2.2.2.1 && (bt214.2.2.2.2.2.2.2.2.2.1 == bt226.2.2.2.2.2.2.2.2.2.1)))))) && (bt214.2.2.2.2.2.2.2.2.2.2.1 == bt226.2.2.2.2.2.2.2.2.2.2.1)))))) = true then (if bt214.2.2.2.2.2.2.2.2.2.2.2 = bt226.2.2.2.2.2.2.2.2.2.2.2 then ((lookasidelaw03_lives.f k).bind fun t238 => (some t238)) else (some false)) else (some false)))))) else ((lookasideref01_Bit.f k t211 (wrap64 ((Int.tmod x4 128) - 64))).bind fun t239 => ((lookasideref01_Put.f k t211 (wrap64 ((Int.tmod x4 128) - 64)) 1 (IntKind.u64.wrap (1 - t239))).bind fun t240 => ((tte_Read.f k t210 t240 x210002).bind fun bt241 => ((lookasideref03_Read.f k t210 t240 x210002).bind fun bt253 => (if (bt241.1 == bt253.1 && (bt241.2.1 == bt253.2.1 && (bt241.2.2.1 == bt253.2.2.1 && (bt241.2.2.2.1 == bt253.2.2.2.1 && ((bt241.2.2.2.2.1 == bt253.2.2.2.2.1 && (bt241.2.2.2.2.2.1 == bt253.2.2.2.2.2.1 && (bt241.2.2.2.2.2.2.1 == bt253.2.2.2.2.2.2.1 && (bt241.2.2.2.2.2.2.2.1 == bt253.2.2.2.2.2.2.2.1 && (bt241.2.2.2.2.2.2.2.2.1 == bt253.2.2.2.2.2.2.2.2.1 && (bt241.2.2.2.2.2.2.2.2.2.1 == bt253.2.2.2.2.2.2.2.2.2.1)))))) && (bt241.2.2.2.2.2.2.2.2.2.2.1 == bt253.2.2.2.2.2.2.2.2.2.2.1)))))) = true then (if bt241.2.2.2.2.2.2.2.2.2.2.2 = bt253.2.2.2.2.2.2.2.2.2.2.2 then ((lookasidelaw03_lives.f k).bind fun t265 => (some t265)) else (some false)) else (some false))))))))
end
def lookasidelaw03_TteReads.f (k : Nat) (a0 : Int) (a1 : Int) (a2 : Int) (a3_0 : Int) (a3_1 : Int) (a3_2 : Int) (a3_3 : Int) (a3_4 : Bool) (a3_5 : Bool) (a3_6 : Bool) (a3_7 : Bool) (a3_8 : Bool) (a3_9 : Bool) (a3_10 : Bool) (a4 : Int) : Option (Bool) := (tte_Read.f k a0 a1 a2).bind fun bt172 => ((lookasideref03_Read.f k a0 a1 a2).bind fun bt185 => (if (!(bt172.1 == bt185.1) || (!(bt172.2.1 == bt185.2.1) || (!(bt172.2.2.1 == bt185.2.2.1) || (!(bt172.2.2.2.1 == bt185.2.2.2.1) || ((!(bt172.2.2.2.2.1 == bt185.2.2.2.2.1) || (!(bt172.2.2.2.2.2.1 == bt185.2.2.2.2.2.1) || (!(bt172.2.2.2.2.2.2.1 == bt185.2.2.2.2.2.2.1) || (!(bt172.2.2.2.2.2.2.2.1 == bt185.2.2.2.2.2.2.2.1) || (!(bt172.2.2.2.2.2.2.2.2.1 == bt185.2.2.2.2.2.2.2.2.1) || (!(bt172.2.2.2.2.2.2.2.2.2.1 == bt185.2.2.2.2.2.2.2.2.2.1))))))) || (!(bt172.2.2.2.2.2.2.2.2.2.2.1 == bt185.2.2.2.2.2.2.2.2.2.2.1))))))) = true then (lookasidelaw03_TteReads.j0 k a4 true a3_0 a3_1 a3_2 a3_3 a3_4 a3_5 a3_6 a3_7 a3_8 a3_9 a3_10) else (lookasidelaw03_TteReads.j0 k a4 (bt172.2.2.2.2.2.2.2.2.2.2.2 != bt185.2.2.2.2.2.2.2.2.2.2.2) a3_0 a3_1 a3_2 a3_3 a3_4 a3_5 a3_6 a3_7 a3_8 a3_9 a3_10)))
theorem lookasidelaw03_TteReads.mono_l : ∀ k, (∀ y0 y1 y2 y3 y4 y5 y6 y7 y8 y9 y10 y11 y12, LeO (lookasidelaw03_TteReads.j0 k y0 y1 y2 y3 y4 y5 y6 y7 y8 y9 y10 y11 y12) (lookasidelaw03_TteReads.j0 (k + 1) y0 y1 y2 y3 y4 y5 y6 y7 y8 y9 y10 y11 y12)) ∧ (∀ y0 y1 y2 y3 y4 y5 y6 y7 y8 y9 y10 y11, LeO (lookasidelaw03_TteReads.j1 k y0 y1 y2 y3 y4 y5 y6 y7 y8 y9 y10 y11) (lookasidelaw03_TteReads.j1 (k + 1) y0 y1 y2 y3 y4 y5 y6 y7 y8 y9 y10 y11))
  | 0 => ⟨fun _ _ _ _ _ _ _ _ _ _ _ _ _ r h => by simp [lookasidelaw03_TteReads.j0] at h, fun _ _ _ _ _ _ _ _ _ _ _ _ r h => by simp [lookasidelaw03_TteReads.j1] at h⟩
  | k + 1 => by
    obtain ⟨ih0, ih1⟩ := lookasidelaw03_TteReads.mono_l k
    refine ⟨?_, ?_⟩
    · intro y0 y1 y2 y3 y4 y5 y6 y7 y8 y9 y10 y11 y12
      unfold lookasidelaw03_TteReads.j0
      repeat' first
      | (with_reducible exact ih0 _ _ _ _ _ _ _ _ _ _ _ _ _)
      | (with_reducible exact ih1 _ _ _ _ _ _ _ _ _ _ _ _)
      | (with_reducible exact lookasidelaw03_lives.mono _)
      | (with_reducible exact lookasideref01_Bit.mono _ _ _)
      | (with_reducible exact lookasideref01_Put.mono _ _ _ _ _)
      | (with_reducible exact lookasideref03_Data.mono _ _ _ _ _ _ _ _ _ _ _ _)
      | (with_reducible exact lookasideref03_Good.mono _ _ _ _ _ _ _ _ _ _ _ _)
      | (with_reducible exact lookasideref03_Read.mono _ _ _ _)
      | (with_reducible exact lookasideref03_Tag.mono _ _ _ _ _ _ _ _ _ _ _ _)
      | (with_reducible exact tte_Read.mono _ _ _ _)
      | (with_reducible exact LeO.refl _)
      | (with_reducible exact LeO.none _)
      | (with_reducible refine LeO.ite ?_ ?_)
      | (with_reducible refine LeO.bind ?_ (fun _ => ?_))
      | exact ih0 _ _ _ _ _ _ _ _ _ _ _ _ _
      | exact ih1 _ _ _ _ _ _ _ _ _ _ _ _
      | exact lookasidelaw03_lives.mono _
      | exact lookasideref01_Bit.mono _ _ _
      | exact lookasideref01_Put.mono _ _ _ _ _
      | exact lookasideref03_Data.mono _ _ _ _ _ _ _ _ _ _ _ _
      | exact lookasideref03_Good.mono _ _ _ _ _ _ _ _ _ _ _ _
      | exact lookasideref03_Read.mono _ _ _ _
      | exact lookasideref03_Tag.mono _ _ _ _ _ _ _ _ _ _ _ _
      | exact tte_Read.mono _ _ _ _
      | exact LeO.none _
      | refine LeO.ite ?_ ?_
      | refine LeO.bind ?_ (fun _ => ?_)
    · intro y0 y1 y2 y3 y4 y5 y6 y7 y8 y9 y10 y11
      unfold lookasidelaw03_TteReads.j1
      repeat' first
      | (with_reducible exact ih0 _ _ _ _ _ _ _ _ _ _ _ _ _)
      | (with_reducible exact ih1 _ _ _ _ _ _ _ _ _ _ _ _)
      | (with_reducible exact lookasidelaw03_lives.mono _)
      | (with_reducible exact lookasideref01_Bit.mono _ _ _)
      | (with_reducible exact lookasideref01_Put.mono _ _ _ _ _)
      | (with_reducible exact lookasideref03_Data.mono _ _ _ _ _ _ _ _ _ _ _ _)
      | (with_reducible exact lookasideref03_Good.mono _ _ _ _ _ _ _ _ _ _ _ _)
      | (with_reducible exact lookasideref03_Read.mono _ _ _ _)
      | (with_reducible exact lookasideref03_Tag.mono _ _ _ _ _ _ _ _ _ _ _ _)
      | (with_reducible exact tte_Read.mono _ _ _ _)
      | (with_reducible exact LeO.refl _)
      | (with_reducible exact LeO.none _)
      | (with_reducible refine LeO.ite ?_ ?_)
      | (with_reducible refine LeO.bind ?_ (fun _ => ?_))
      | exact ih0 _ _ _ _ _ _ _ _ _ _ _ _ _
      | exact ih1 _ _ _ _ _ _ _ _ _ _ _ _
      | exact lookasidelaw03_lives.mono _
      | exact lookasideref01_Bit.mono _ _ _
      | exact lookasideref01_Put.mono _ _ _ _ _
      | exact lookasideref03_Data.mono _ _ _ _ _ _ _ _ _ _ _ _
      | exact lookasideref03_Good.mono _ _ _ _ _ _ _ _ _ _ _ _
      | exact lookasideref03_Read.mono _ _ _ _
      | exact lookasideref03_Tag.mono _ _ _ _ _ _ _ _ _ _ _ _
      | exact tte_Read.mono _ _ _ _
      | exact LeO.none _
      | refine LeO.ite ?_ ?_
      | refine LeO.bind ?_ (fun _ => ?_)
theorem lookasidelaw03_TteReads.mono : ∀ a0 a1 a2 a3 a4 a5 a6 a7 a8 a9 a10 a11 a12 a13 a14 k, LeO (lookasidelaw03_TteReads.f k a0 a1 a2 a3 a4 a5 a6 a7 a8 a9 a10 a11 a12 a13 a14) (lookasidelaw03_TteReads.f (k + 1) a0 a1 a2 a3 a4 a5 a6 a7 a8 a9 a10 a11 a12 a13 a14) := by
  intro a0 a1 a2 a3 a4 a5 a6 a7 a8 a9 a10 a11 a12 a13 a14 k
  obtain ⟨ih0, ih1⟩ := lookasidelaw03_TteReads.mono_l k
  unfold lookasidelaw03_TteReads.f
  repeat' first
      | (with_reducible exact ih0 _ _ _ _ _ _ _ _ _ _ _ _ _)
      | (with_reducible exact ih1 _ _ _ _ _ _ _ _ _ _ _ _)
      | (with_reducible exact lookasidelaw03_lives.mono _)
      | (with_reducible exact lookasideref01_Bit.mono _ _ _)
      | (with_reducible exact lookasideref01_Put.mono _ _ _ _ _)
      | (with_reducible exact lookasideref03_Data.mono _ _ _ _ _ _ _ _ _ _ _ _)
      | (with_reducible exact lookasideref03_Good.mono _ _ _ _ _ _ _ _ _ _ _ _)
      | (with_reducible exact lookasideref03_Read.mono _ _ _ _)
      | (with_reducible exact lookasideref03_Tag.mono _ _ _ _ _ _ _ _ _ _ _ _)
      | (with_reducible exact tte_Read.mono _ _ _ _)
      | (with_reducible exact LeO.refl _)
      | (with_reducible exact LeO.none _)
      | (with_reducible refine LeO.ite ?_ ?_)
      | (with_reducible refine LeO.bind ?_ (fun _ => ?_))
      | exact ih0 _ _ _ _ _ _ _ _ _ _ _ _ _
      | exact ih1 _ _ _ _ _ _ _ _ _ _ _ _
      | exact lookasidelaw03_lives.mono _
      | exact lookasideref01_Bit.mono _ _ _
      | exact lookasideref01_Put.mono _ _ _ _ _
      | exact lookasideref03_Data.mono _ _ _ _ _ _ _ _ _ _ _ _
      | exact lookasideref03_Good.mono _ _ _ _ _ _ _ _ _ _ _ _
      | exact lookasideref03_Read.mono _ _ _ _
      | exact lookasideref03_Tag.mono _ _ _ _ _ _ _ _ _ _ _ _
      | exact tte_Read.mono _ _ _ _
      | exact LeO.none _
      | refine LeO.ite ?_ ?_
      | refine LeO.bind ?_ (fun _ => ?_)
set_option maxHeartbeats 8000000 in
set_option maxRecDepth 100000 in
theorem lookasidelaw03_TteReads.calls (k : Nat) (a0 : Int) (a1 : Int) (a2 : Int) (a3_0 : Int) (a3_1 : Int) (a3_2 : Int) (a3_3 : Int) (a3_4 : Bool) (a3_5 : Bool) (a3_6 : Bool) (a3_7 : Bool) (a3_8 : Bool) (a3_9 : Bool) (a3_10 : Bool) (a4 : Int) (r : Bool) (w : World) (h : lookasidelaw03_TteReads.f k a0 a1 a2 a3_0 a3_1 a3_2 a3_3 a3_4 a3_5 a3_6 a3_7 a3_8 a3_9 a3_10 a4 = some r) (hr0_ : r = true) :
    Calls Try.prog 10 #[.int .u64 a0, .int .u64 a1, .int .u64 a2, .agg #[.int .i64 a3_0, .int .i64 a3_1, .int .u64 a3_2, .int .u64 a3_3, .bool a3_4, .bool a3_5, .bool a3_6, .bool a3_7, .bool a3_8, .bool a3_9, .bool a3_10], .int .i64 a4] w fun e w' => e = .returned (.bool r) ∧ Below w.heap.size w w' := by
  have hu26 := Try.underlying26
  have HB := Aside0.mk (Below.refl w.heap.size w)
  have H : ((tte_Read.f k a0 a1 a2).bind fun bt172 => ((lookasideref03_Read.f k a0 a1 a2).bind fun bt185 => (if (!(bt172.1 == bt185.1) || (!(bt172.2.1 == bt185.2.1) || (!(bt172.2.2.1 == bt185.2.2.1) || (!(bt172.2.2.2.1 == bt185.2.2.2.1) || ((!(bt172.2.2.2.2.1 == bt185.2.2.2.2.1) || (!(bt172.2.2.2.2.2.1 == bt185.2.2.2.2.2.1) || (!(bt172.2.2.2.2.2.2.1 == bt185.2.2.2.2.2.2.1) || (!(bt172.2.2.2.2.2.2.2.1 == bt185.2.2.2.2.2.2.2.1) || (!(bt172.2.2.2.2.2.2.2.2.1 == bt185.2.2.2.2.2.2.2.2.1) || (!(bt172.2.2.2.2.2.2.2.2.2.1 == bt185.2.2.2.2.2.2.2.2.2.1))))))) || (!(bt172.2.2.2.2.2.2.2.2.2.2.1 == bt185.2.2.2.2.2.2.2.2.2.2.1))))))) = true then (lookasidelaw03_TteReads.j0 k a4 true a3_0 a3_1 a3_2 a3_3 a3_4 a3_5 a3_6 a3_7 a3_8 a3_9 a3_10) else (lookasidelaw03_TteReads.j0 k a4 (bt172.2.2.2.2.2.2.2.2.2.2.2 != bt185.2.2.2.2.2.2.2.2.2.2.2) a3_0 a3_1 a3_2 a3_3 a3_4 a3_5 a3_6 a3_7 a3_8 a3_9 a3_10)))) = some r := h
  clear h
  have hr_ := Aside0.mk hr0_
  clear hr0_
  replace H := Option.bind_eq_some_iff.mp H
  obtain ⟨⟨t172, t173, t174, t175, t176, t177, t178, t179, t180, t181, t182, t183⟩, A60, H⟩ := H
  replace H : ((lookasideref03_Read.f k a0 a1 a2).bind fun bt185 => (if (!(t172 == bt185.1) || (!(t173 == bt185.2.1) || (!(t174 == bt185.2.2.1) || (!(t175 == bt185.2.2.2.1) || ((!(t176 == bt185.2.2.2.2.1) || (!(t177 == bt185.2.2.2.2.2.1) || (!(t178 == bt185.2.2.2.2.2.2.1) || (!(t179 == bt185.2.2.2.2.2.2.2.1) || (!(t180 == bt185.2.2.2.2.2.2.2.2.1) || (!(t181 == bt185.2.2.2.2.2.2.2.2.2.1))))))) || (!(t182 == bt185.2.2.2.2.2.2.2.2.2.2.1))))))) = true then (lookasidelaw03_TteReads.j0 k a4 true a3_0 a3_1 a3_2 a3_3 a3_4 a3_5 a3_6 a3_7 a3_8 a3_9 a3_10) else (lookasidelaw03_TteReads.j0 k a4 (t183 != bt185.2.2.2.2.2.2.2.2.2.2.2) a3_0 a3_1 a3_2 a3_3 a3_4 a3_5 a3_6 a3_7 a3_8 a3_9 a3_10))) = some r := H
  have A6 := Aside0.mk A60
  clear A60
  replace H := Option.bind_eq_some_iff.mp H
  obtain ⟨⟨t185, t186, t187, t188, t189, t190, t191, t192, t193, t194, t195, t196⟩, A70, H⟩ := H
  replace H : (if (!(t172 == t185) || (!(t173 == t186) || (!(t174 == t187) || (!(t175 == t188) || ((!(t176 == t189) || (!(t177 == t190) || (!(t178 == t191) || (!(t179 == t192) || (!(t180 == t193) || (!(t181 == t194))))))) || (!(t182 == t195))))))) = true then (lookasidelaw03_TteReads.j0 k a4 true a3_0 a3_1 a3_2 a3_3 a3_4 a3_5 a3_6 a3_7 a3_8 a3_9 a3_10) else (lookasidelaw03_TteReads.j0 k a4 (t183 != t196) a3_0 a3_1 a3_2 a3_3 a3_4 a3_5 a3_6 a3_7 a3_8 a3_9 a3_10)) = some r := H
  have A7 := Aside0.mk A70
  clear A70
  have HC8 := Aside0.mk H
  clear H
  go_enter Try.func10, Try.ntmps10
  go_upto_region 3 with (first | ((with_reducible refine gate_dst (N := 8) rfl ?_); refine box_event ?hg (N := 8) ?hd (cs := #[.int .i64 a3_0, .int .i64 a3_1, .int .u64 a3_2, .int .u64 a3_3, .bool a3_4, .bool a3_5, .bool a3_6, .bool a3_7, .bool a3_8, .bool a3_9, .bool a3_10]) (t := 26) ?hr ?_; (case hd => rfl); (case hg => rfl); (case hr => first | (go_simp; done) | (go_simp; rfl)); intro gb171 hg w9 hbox hb; have n0_ := Aside0.mk (below_step (by repeat (first | (with_reducible first | exact HB.out | apply below_alloc | apply pw_below_drewN | apply below_drew1) | exact HB.out)) hb); have n1_ := Aside0.mk (hbox); have n2_ := Aside0.mk ((by rw [hg]; exact (below_size (by repeat (first | (with_reducible first | exact HB.out | apply below_alloc | apply pw_below_drewN | apply below_drew1) | exact HB.out))) : w.heap.size ≤ gb171)); have n3_ := Aside0.mk ((by rw [hg]; exact (below_size (by repeat (first | (with_reducible first | exact HB.out | apply below_alloc | apply pw_below_drewN | apply below_drew1) | exact HB.out))) : w.heap.size ≤ gb171)); clear HB; have HB := n0_; have BK171 := n1_; have GW171 := n2_; have GE171 := n3_; clear n0_ n1_ n2_ n3_; clear hb hbox hg) | ((with_reducible refine gate_callee (f := 32) rfl ?_); refine goesL_ (some 22) rfl rfl Try.func32 (by kernel_rfl) rfl #[.int .u64 a0, .int .u64 a1, .int .u64 a2] rfl (by (try simp only [List.map_toArray, List.map_cons, List.map_nil]); first | done | rfl | (simp only [List.length_drop, List.length_take]; rfl)) ?_; (with_reducible refine (tte_Read.calls k a0 a1 a2 t172 t173 t174 t175 t176 t177 t178 t179 t180 t181 t182 t183 _ A6.out).mono ?_); rintro e w10 ⟨rfl, hb⟩; refine ⟨_, rfl, ?_⟩; have n0_ := Aside0.mk (bb10_ hb BK171.out); have n1_ := Aside0.mk (below_step (by repeat (first | (with_reducible first | exact HB.out | apply below_alloc | apply pw_below_drewN | apply below_drew1 | refine below_set ?_ GE171.out) | exact HB.out)) hb); clear BK171; clear HB; have BK171 := n0_; have HB := n1_; clear n0_ n1_; (try clear hb); (try clear hb2); (try clear hk); (try clear hi)) | ((with_reducible refine gate_dst (N := 11) rfl ?_); refine box_event ?hg (N := 11) ?hd (cs := #[.int .i64 0, .int .i64 0, .int .u64 0, .int .u64 0, .bool false, .bool false, .bool false, .bool false, .bool false, .bool false, .bool false]) (t := 26) ?hr ?_; (case hd => rfl); (case hg => rfl); (case hr => first | (go_simp; done) | (go_simp; rfl)); intro gb184 hg w11 hbox hb; have n0_ := Aside0.mk (bb10_ hb BK171.out); have n1_ := Aside0.mk (below_step (by repeat (first | (with_reducible first | exact HB.out | apply below_alloc | apply pw_below_drewN | apply below_drew1 | refine below_set ?_ GE171.out) | exact HB.out)) hb); have n2_ := Aside0.mk (hbox); have n3_ := Aside0.mk ((by rw [hg]; exact (below_size (by repeat (first | (with_reducible first | exact HB.out | apply below_alloc | apply pw_below_drewN | apply below_drew1 | refine below_set ?_ GE171.out) | exact HB.out))) : w.heap.size ≤ gb184)); have n4_ := Aside0.mk ((by rw [hg]; exact (below_size (by repeat (first | (with_reducible first | exact HB.out | apply below_alloc | apply pw_below_drewN | apply below_drew1 | refine below_set ?_ GE171.out) | exact HB.out))) : w.heap.size ≤ gb184)); have n5_ := Aside0.mk ((by rw [hg]; exact Nat.ne_of_lt (blk_lt BK171.out) : gb171 ≠ gb184)); have n6_ := Aside0.mk ((by rw [hg]; exact Nat.ne_of_gt (blk_lt BK171.out) : gb184 ≠ gb171)); clear BK171; clear HB; have BK171 := n0_; have HB := n1_; have BK184 := n2_; have GW184 := n3_; have GE184 := n4_; have NB171_184 := n5_; have NB184_171 := n6_; clear n0_ n1_ n2_ n3_ n4_ n5_ n6_; clear hb hbox hg; have hnb12 := NB184_171.out; have hnc12 := NB171_184.out; have hcz13_0 : w11.cell? ⟨gb184, 0, none⟩ = some (.int .i64 0) := (blk_cell BK184.out 0).trans rfl; have hcz13_1 : w11.cell? ⟨gb184, 1, none⟩ = some (.int .i64 0) := (blk_cell BK184.out 1).trans rfl; have hcz13_2 : w11.cell? ⟨gb184, 2, none⟩ = some (.int .u64 0) := (blk_cell BK184.out 2).trans rfl; have hcz13_3 : w11.cell? ⟨gb184, 3, none⟩ = some (.int .u64 0) := (blk_cell BK184.out 3).trans rfl; have hcz13_4 : w11.cell? ⟨gb184, 4, none⟩ = some (.bool false) := (blk_cell BK184.out 4).trans rfl; have hcz13_5 : w11.cell? ⟨gb184, 5, none⟩ = some (.bool false) := (blk_cell BK184.out 5).trans rfl; have hcz13_6 : w11.cell? ⟨gb184, 6, none⟩ = some (.bool false) := (blk_cell BK184.out 6).trans rfl; have hcz13_7 : w11.cell? ⟨gb184, 7, none⟩ = some (.bool false) := (blk_cell BK184.out 7).trans rfl; have hcz13_8 : w11.cell? ⟨gb184, 8, none⟩ = some (.bool false) := (blk_cell BK184.out 8).trans rfl; have hcz13_9 : w11.cell? ⟨gb184, 9, none⟩ = some (.bool false) := (blk_cell BK184.out 9).trans rfl; have hcz13_10 : w11.cell? ⟨gb184, 10, none⟩ = some (.bool false) := (blk_cell BK184.out 10).trans rfl; have hfz13_0 := blk_frozen BK184.out 0; have hfz13_1 := blk_frozen BK184.out 1; have hfz13_2 := blk_frozen BK184.out 2; have hfz13_3 := blk_frozen BK184.out 3; have hfz13_4 := blk_frozen BK184.out 4; have hfz13_5 := blk_frozen BK184.out 5; have hfz13_6 := blk_frozen BK184.out 6; have hfz13_7 := blk_frozen BK184.out 7; have hfz13_8 := blk_frozen BK184.out 8; have hfz13_9 := blk_frozen BK184.out 9; have hfz13_10 := blk_frozen BK184.out 10) | ((with_reducible refine gate_callee (f := 33) rfl ?_); refine goesL_ (some 29) rfl rfl Try.func33 (by kernel_rfl) rfl #[.int .u64 a0, .int .u64 a1, .int .u64 a2] rfl (by (try simp only [List.map_toArray, List.map_cons, List.map_nil]); first | done | rfl | (simp only [List.length_drop, List.length_take]; rfl)) ?_; (with_reducible refine (lookasideref03_Read.calls k a0 a1 a2 t185 t186 t187 t188 t189 t190 t191 t192 t193 t194 t195 t196 _ A7.out).mono ?_); rintro e w14 ⟨rfl, hb⟩; refine ⟨_, rfl, ?_⟩; have n0_ := Aside0.mk (blk_below (g := gb171) (o := .cells #[.int .i64 a3_0, .int .i64 a3_1, .int .u64 a3_2, .int .u64 a3_3, .bool a3_4, .bool a3_5, .bool a3_6, .bool a3_7, .bool a3_8, .bool a3_9, .bool a3_10] 26 (0, 0)) (by (with_reducible repeat (first | refine blk_drewN ?_ _ | refine blk_drew ?_ | refine blk_alloc ?_ _)); refine blk_far ?_ NB171_184.out _; refine blk_far ?_ NB171_184.out _; refine blk_far ?_ NB171_184.out _; refine blk_far ?_ NB171_184.out _; refine blk_far ?_ NB171_184.out _; refine blk_far ?_ NB171_184.out _; refine blk_far ?_ NB171_184.out _; refine blk_far ?_ NB171_184.out _; refine blk_far ?_ NB171_184.out _; refine blk_far ?_ NB171_184.out _; refine blk_far ?_ NB171_184.out _; (with_reducible repeat (first | refine blk_drewN ?_ _ | refine blk_drew ?_ | refine blk_alloc ?_ _)); exact BK171.out) hb); have n1_ := Aside0.mk (blk_below (g := gb184) (o := .cells #[.int .i64 t172, .int .i64 t173, .int .u64 t174, .int .u64 t175, .bool t176, .bool t177, .bool t178, .bool t179, .bool t180, .bool t181, .bool t182] 26 (0, 0)) (by (with_reducible repeat (first | refine blk_drewN ?_ _ | refine blk_drew ?_ | refine blk_alloc ?_ _)); refine blk_put (cs := #[.int .i64 t172, .int .i64 t173, .int .u64 t174, .int .u64 t175, .bool t176, .bool t177, .bool t178, .bool t179, .bool t180, .bool t181, .bool false]) ?_ 10 _ rfl; refine blk_put (cs := #[.int .i64 t172, .int .i64 t173, .int .u64 t174, .int .u64 t175, .bool t176, .bool t177, .bool t178, .bool t179, .bool t180, .bool false, .bool false]) ?_ 9 _ rfl; refine blk_put (cs := #[.int .i64 t172, .int .i64 t173, .int .u64 t174, .int .u64 t175, .bool t176, .bool t177, .bool t178, .bool t179, .bool false, .bool false, .bool false]) ?_ 8 _ rfl; refine blk_put (cs := #[.int .i64 t172, .int .i64 t173, .int .u64 t174, .int .u64 t175, .bool t176, .bool t177, .bool t178, .bool false, .bool false, .bool false, .bool false]) ?_ 7 _ rfl; refine blk_put (cs := #[.int .i64 t172, .int .i64 t173, .int .u64 t174, .int .u64 t175, .bool t176, .bool t177, .bool false, .bool false, .bool false, .bool false, .bool false]) ?_ 6 _ rfl; refine blk_put (cs := #[.int .i64 t172, .int .i64 t173, .int .u64 t174, .int .u64 t175, .bool t176, .bool false, .bool false, .bool false, .bool false, .bool false, .bool false]) ?_ 5 _ rfl; refine blk_put (cs := #[.int .i64 t172, .int .i64 t173, .int .u64 t174, .int .u64 t175, .bool false, .bool false, .bool false, .bool false, .bool false, .bool false, .bool false]) ?_ 4 _ rfl; refine blk_put (cs := #[.int .i64 t172, .int .i64 t173, .int .u64 t174, .int .u64 0, .bool false, .bool false, .bool false, .bool false, .bool false, .bool false, .bool false]) ?_ 3 _ rfl; refine blk_put (cs := #[.int .i64 t172, .int .i64 t173, .int .u64 0, .int .u64 0, .bool false, .bool false, .bool false, .bool false, .bool false, .bool false, .bool false]) ?_ 2 _ rfl; refine blk_put (cs := #[.int .i64 t172, .int .i64 0, .int .u64 0, .int .u64 0, .bool false, .bool false, .bool false, .bool false, .bool false, .bool false, .bool false]) ?_ 1 _ rfl; refine blk_put (cs := #[.int .i64 0, .int .i64 0, .int .u64 0, .int .u64 0, .bool false, .bool false, .bool false, .bool false, .bool false, .bool false, .bool false]) ?_ 0 _ rfl; (with_reducible repeat (first | refine blk_drewN ?_ _ | refine blk_drew ?_ | refine blk_alloc ?_ _)); exact BK184.out) hb); have n2_ := Aside0.mk (below_step (by repeat (first | (with_reducible first | exact HB.out | apply below_alloc | apply pw_below_drewN | apply below_drew1 | refine below_set ?_ GE171.out | refine below_set ?_ GE184.out) | exact HB.out)) hb); clear BK171; clear BK184; clear HB; have BK171 := n0_; have BK184 := n1_; have HB := n2_; clear n0_ n1_ n2_; (try clear hb); (try clear hb2); (try clear hk); (try clear hi)) | ((with_reducible refine gate_dst (N := 13) rfl ?_); refine box_event ?hg (N := 13) ?hd (cs := #[.int .i64 0, .int .i64 0, .int .u64 0, .int .u64 0, .bool false, .bool false, .bool false, .bool false, .bool false, .bool false, .bool false]) (t := 26) ?hr ?_; (case hd => rfl); (case hg => rfl); (case hr => first | (go_simp; done) | (go_simp; rfl)); intro gb197 hg w15 hbox hb; have n0_ := Aside0.mk (bb10_ hb BK171.out); have n1_ := Aside0.mk (bb10_ hb BK184.out); have n2_ := Aside0.mk (below_step (by repeat (first | (with_reducible first | exact HB.out | apply below_alloc | apply pw_below_drewN | apply below_drew1 | refine below_set ?_ GE171.out | refine below_set ?_ GE184.out) | exact HB.out)) hb); have n3_ := Aside0.mk (hbox); have n4_ := Aside0.mk ((by rw [hg]; exact (below_size (by repeat (first | (with_reducible first | exact HB.out | apply below_alloc | apply pw_below_drewN | apply below_drew1 | refine below_set ?_ GE171.out | refine below_set ?_ GE184.out) | exact HB.out))) : w.heap.size ≤ gb197)); have n5_ := Aside0.mk ((by rw [hg]; exact (below_size (by repeat (first | (with_reducible first | exact HB.out | apply below_alloc | apply pw_below_drewN | apply below_drew1 | refine below_set ?_ GE171.out | refine below_set ?_ GE184.out) | exact HB.out))) : w.heap.size ≤ gb197)); have n6_ := Aside0.mk ((by rw [hg]; exact Nat.ne_of_lt (blk_lt BK171.out) : gb171 ≠ gb197)); have n7_ := Aside0.mk ((by rw [hg]; exact Nat.ne_of_gt (blk_lt BK171.out) : gb197 ≠ gb171)); have n8_ := Aside0.mk ((by rw [hg]; exact Nat.ne_of_lt (blk_lt BK184.out) : gb184 ≠ gb197)); have n9_ := Aside0.mk ((by rw [hg]; exact Nat.ne_of_gt (blk_lt BK184.out) : gb197 ≠ gb184)); clear BK171; clear BK184; clear HB; have BK171 := n0_; have BK184 := n1_; have HB := n2_; have BK197 := n3_; have GW197 := n4_; have GE197 := n5_; have NB171_197 := n6_; have NB197_171 := n7_; have NB184_197 := n8_; have NB197_184 := n9_; clear n0_ n1_ n2_ n3_ n4_ n5_ n6_ n7_ n8_ n9_; clear hb hbox hg; have hnb16 := NB197_171.out; have hnc16 := NB171_197.out; have hnb17 := NB197_184.out; have hnc17 := NB184_197.out; have hcz18_0 : w15.cell? ⟨gb197, 0, none⟩ = some (.int .i64 0) := (blk_cell BK197.out 0).trans rfl; have hcz18_1 : w15.cell? ⟨gb197, 1, none⟩ = some (.int .i64 0) := (blk_cell BK197.out 1).trans rfl; have hcz18_2 : w15.cell? ⟨gb197, 2, none⟩ = some (.int .u64 0) := (blk_cell BK197.out 2).trans rfl; have hcz18_3 : w15.cell? ⟨gb197, 3, none⟩ = some (.int .u64 0) := (blk_cell BK197.out 3).trans rfl; have hcz18_4 : w15.cell? ⟨gb197, 4, none⟩ = some (.bool false) := (blk_cell BK197.out 4).trans rfl; have hcz18_5 : w15.cell? ⟨gb197, 5, none⟩ = some (.bool false) := (blk_cell BK197.out 5).trans rfl; have hcz18_6 : w15.cell? ⟨gb197, 6, none⟩ = some (.bool false) := (blk_cell BK197.out 6).trans rfl; have hcz18_7 : w15.cell? ⟨gb197, 7, none⟩ = some (.bool false) := (blk_cell BK197.out 7).trans rfl; have hcz18_8 : w15.cell? ⟨gb197, 8, none⟩ = some (.bool false) := (blk_cell BK197.out 8).trans rfl; have hcz18_9 : w15.cell? ⟨gb197, 9, none⟩ = some (.bool false) := (blk_cell BK197.out 9).trans rfl; have hcz18_10 : w15.cell? ⟨gb197, 10, none⟩ = some (.bool false) := (blk_cell BK197.out 10).trans rfl; have hfz18_0 := blk_frozen BK197.out 0; have hfz18_1 := blk_frozen BK197.out 1; have hfz18_2 := blk_frozen BK197.out 2; have hfz18_3 := blk_frozen BK197.out 3; have hfz18_4 := blk_frozen BK197.out 4; have hfz18_5 := blk_frozen BK197.out 5; have hfz18_6 := blk_frozen BK197.out 6; have hfz18_7 := blk_frozen BK197.out 7; have hfz18_8 := blk_frozen BK197.out 8; have hfz18_9 := blk_frozen BK197.out 9; have hfz18_10 := blk_frozen BK197.out 10))
  (try simp only [Act.put, List.setIfInBounds_toArray, List.set_cons_zero, List.set_cons_succ])
  go_cut [39] (fun v39 wc => ∃ (kq : Nat) (x39_7 : Bool), v39 = .bool x39_7 ∧ Aside0 (lookasidelaw03_TteReads.j0 kq a4 x39_7 a3_0 a3_1 a3_2 a3_3 a3_4 a3_5 a3_6 a3_7 a3_8 a3_9 a3_10 = some r) ∧ Aside0 (kq ≤ k) ∧ Aside0 (wc.heap[gb171]? = some (.cells #[.int .i64 a3_0, .int .i64 a3_1, .int .u64 a3_2, .int .u64 a3_3, .bool a3_4, .bool a3_5, .bool a3_6, .bool a3_7, .bool a3_8, .bool a3_9, .bool a3_10] 26 (0, 0))) ∧ Aside0 (wc.heap[gb184]? = some (.cells #[.int .i64 t172, .int .i64 t173, .int .u64 t174, .int .u64 t175, .bool t176, .bool t177, .bool t178, .bool t179, .bool t180, .bool t181, .bool t182] 26 (0, 0))) ∧ Aside0 (wc.heap[gb197]? = some (.cells #[.int .i64 t185, .int .i64 t186, .int .u64 t187, .int .u64 t188, .bool t189, .bool t190, .bool t191, .bool t192, .bool t193, .bool t194, .bool t195] 26 (0, 0))) ∧ Aside0 (Below w.heap.size w wc))
  case first =>
    have H := HC8.out
    clear HC8
    by_cases c19 : (!(t172 == t185) || (!(t173 == t186) || (!(t174 == t187) || (!(t175 == t188) || ((!(t176 == t189) || (!(t177 == t190) || (!(t178 == t191) || (!(t179 == t192) || (!(t180 == t193) || (!(t181 == t194))))))) || (!(t182 == t195))))))) = true
    · rw [if_pos c19] at H
      have c19b0 : (!(t172 == t185) || (!(t173 == t186) || (!(t174 == t187) || (!(t175 == t188) || ((!(t176 == t189) || (!(t177 == t190) || (!(t178 == t191) || (!(t179 == t192) || (!(t180 == t193) || (!(t181 == t194))))))) || (!(t182 == t195))))))) = true := c19
      clear c19
      (first | rw [c19b0] | (simp only [i64_w, i32_w]; rw [c19b0]) | skip)
      have H' := Aside0.mk H
      clear H
      have hnb20 := NB184_171.out
      have hnc20 := NB171_184.out
      have hnb21 := NB184_197.out
      have hnc21 := NB197_184.out
      have hcz22_0 : w15.cell? ⟨gb184, 0, none⟩ = some (.int .i64 t172) := (blk_cell BK184.out 0).trans rfl
      have hcz22_1 : w15.cell? ⟨gb184, 1, none⟩ = some (.int .i64 t173) := (blk_cell BK184.out 1).trans rfl
      have hcz22_2 : w15.cell? ⟨gb184, 2, none⟩ = some (.int .u64 t174) := (blk_cell BK184.out 2).trans rfl
      have hcz22_3 : w15.cell? ⟨gb184, 3, none⟩ = some (.int .u64 t175) := (blk_cell BK184.out 3).trans rfl
      have hcz22_4 : w15.cell? ⟨gb184, 4, none⟩ = some (.bool t176) := (blk_cell BK184.out 4).trans rfl
      have hcz22_5 : w15.cell? ⟨gb184, 5, none⟩ = some (.bool t177) := (blk_cell BK184.out 5).trans rfl
      have hcz22_6 : w15.cell? ⟨gb184, 6, none⟩ = some (.bool t178) := (blk_cell BK184.out 6).trans rfl
      have hcz22_7 : w15.cell? ⟨gb184, 7, none⟩ = some (.bool t179) := (blk_cell BK184.out 7).trans rfl
      have hcz22_8 : w15.cell? ⟨gb184, 8, none⟩ = some (.bool t180) := (blk_cell BK184.out 8).trans rfl
      have hcz22_9 : w15.cell? ⟨gb184, 9, none⟩ = some (.bool t181) := (blk_cell BK184.out 9).trans rfl
      have hcz22_10 : w15.cell? ⟨gb184, 10, none⟩ = some (.bool t182) := (blk_cell BK184.out 10).trans rfl
      have hfz22_0 := blk_frozen BK184.out 0
      have hfz22_1 := blk_frozen BK184.out 1
      have hfz22_2 := blk_frozen BK184.out 2
      have hfz22_3 := blk_frozen BK184.out 3
      have hfz22_4 := blk_frozen BK184.out 4
      have hfz22_5 := blk_frozen BK184.out 5
      have hfz22_6 := blk_frozen BK184.out 6
      have hfz22_7 := blk_frozen BK184.out 7
      have hfz22_8 := blk_frozen BK184.out 8
      have hfz22_9 := blk_frozen BK184.out 9
      have hfz22_10 := blk_frozen BK184.out 10
      have hnb23 := NB197_171.out
      have hnc23 := NB171_197.out
      have hcz24_0 : w15.cell? ⟨gb197, 0, none⟩ = some (.int .i64 0) := (blk_cell BK197.out 0).trans rfl
      have hcz24_1 : w15.cell? ⟨gb197, 1, none⟩ = some (.int .i64 0) := (blk_cell BK197.out 1).trans rfl
      have hcz24_2 : w15.cell? ⟨gb197, 2, none⟩ = some (.int .u64 0) := (blk_cell BK197.out 2).trans rfl
      have hcz24_3 : w15.cell? ⟨gb197, 3, none⟩ = some (.int .u64 0) := (blk_cell BK197.out 3).trans rfl
      have hcz24_4 : w15.cell? ⟨gb197, 4, none⟩ = some (.bool false) := (blk_cell BK197.out 4).trans rfl
      have hcz24_5 : w15.cell? ⟨gb197, 5, none⟩ = some (.bool false) := (blk_cell BK197.out 5).trans rfl
      have hcz24_6 : w15.cell? ⟨gb197, 6, none⟩ = some (.bool false) := (blk_cell BK197.out 6).trans rfl
      have hcz24_7 : w15.cell? ⟨gb197, 7, none⟩ = some (.bool false) := (blk_cell BK197.out 7).trans rfl
      have hcz24_8 : w15.cell? ⟨gb197, 8, none⟩ = some (.bool false) := (blk_cell BK197.out 8).trans rfl
      have hcz24_9 : w15.cell? ⟨gb197, 9, none⟩ = some (.bool false) := (blk_cell BK197.out 9).trans rfl
      have hcz24_10 : w15.cell? ⟨gb197, 10, none⟩ = some (.bool false) := (blk_cell BK197.out 10).trans rfl
      have hfz24_0 := blk_frozen BK197.out 0
      have hfz24_1 := blk_frozen BK197.out 1
      have hfz24_2 := blk_frozen BK197.out 2
      have hfz24_3 := blk_frozen BK197.out 3
      have hfz24_4 := blk_frozen BK197.out 4
      have hfz24_5 := blk_frozen BK197.out 5
      have hfz24_6 := blk_frozen BK197.out 6
      have hfz24_7 := blk_frozen BK197.out 7
      have hfz24_8 := blk_frozen BK197.out 8
      have hfz24_9 := blk_frozen BK197.out 9
      have hfz24_10 := blk_frozen BK197.out 10
      go_wp2
      go_meet
      case rel => exact ⟨_, (true), (by first | rfl | (simp; done) | (simp [*]; done)), H', ⟨by first | omega | exact Nat.le_refl _⟩, ⟨by (with_reducible repeat (first | refine blk_drewN ?_ _ | refine blk_drew ?_ | refine blk_alloc ?_ _)); refine blk_far ?_ NB171_197.out _; refine blk_far ?_ NB171_197.out _; refine blk_far ?_ NB171_197.out _; refine blk_far ?_ NB171_197.out _; refine blk_far ?_ NB171_197.out _; refine blk_far ?_ NB171_197.out _; refine blk_far ?_ NB171_197.out _; refine blk_far ?_ NB171_197.out _; refine blk_far ?_ NB171_197.out _; refine blk_far ?_ NB171_197.out _; refine blk_far ?_ NB171_197.out _; (with_reducible repeat (first | refine blk_drewN ?_ _ | refine blk_drew ?_ | refine blk_alloc ?_ _)); exact BK171.out⟩, ⟨by (with_reducible repeat (first | refine blk_drewN ?_ _ | refine blk_drew ?_ | refine blk_alloc ?_ _)); refine blk_far ?_ NB184_197.out _; refine blk_far ?_ NB184_197.out _; refine blk_far ?_ NB184_197.out _; refine blk_far ?_ NB184_197.out _; refine blk_far ?_ NB184_197.out _; refine blk_far ?_ NB184_197.out _; refine blk_far ?_ NB184_197.out _; refine blk_far ?_ NB184_197.out _; refine blk_far ?_ NB184_197.out _; refine blk_far ?_ NB184_197.out _; refine blk_far ?_ NB184_197.out _; (with_reducible repeat (first | refine blk_drewN ?_ _ | refine blk_drew ?_ | refine blk_alloc ?_ _)); exact BK184.out⟩, ⟨by (with_reducible repeat (first | refine blk_drewN ?_ _ | refine blk_drew ?_ | refine blk_alloc ?_ _)); refine blk_put (cs := #[.int .i64 t185, .int .i64 t186, .int .u64 t187, .int .u64 t188, .bool t189, .bool t190, .bool t191, .bool t192, .bool t193, .bool t194, .bool false]) ?_ 10 _ rfl; refine blk_put (cs := #[.int .i64 t185, .int .i64 t186, .int .u64 t187, .int .u64 t188, .bool t189, .bool t190, .bool t191, .bool t192, .bool t193, .bool false, .bool false]) ?_ 9 _ rfl; refine blk_put (cs := #[.int .i64 t185, .int .i64 t186, .int .u64 t187, .int .u64 t188, .bool t189, .bool t190, .bool t191, .bool t192, .bool false, .bool false, .bool false]) ?_ 8 _ rfl; refine blk_put (cs := #[.int .i64 t185, .int .i64 t186, .int .u64 t187, .int .u64 t188, .bool t189, .bool t190, .bool t191, .bool false, .bool false, .bool false, .bool false]) ?_ 7 _ rfl; refine blk_put (cs := #[.int .i64 t185, .int .i64 t186, .int .u64 t187, .int .u64 t188, .bool t189, .bool t190, .bool false, .bool false, .bool false, .bool false, .bool false]) ?_ 6 _ rfl; refine blk_put (cs := #[.int .i64 t185, .int .i64 t186, .int .u64 t187, .int .u64 t188, .bool t189, .bool false, .bool false, .bool false, .bool false, .bool false, .bool false]) ?_ 5 _ rfl; refine blk_put (cs := #[.int .i64 t185, .int .i64 t186, .int .u64 t187, .int .u64 t188, .bool false, .bool false, .bool false, .bool false, .bool false, .bool false, .bool false]) ?_ 4 _ rfl; refine blk_put (cs := #[.int .i64 t185, .int .i64 t186, .int .u64 t187, .int .u64 0, .bool false, .bool false, .bool false, .bool false, .bool false, .bool false, .bool false]) ?_ 3 _ rfl; refine blk_put (cs := #[.int .i64 t185, .int .i64 t186, .int .u64 0, .int .u64 0, .bool false, .bool false, .bool false, .bool false, .bool false, .bool false, .bool false]) ?_ 2 _ rfl; refine blk_put (cs := #[.int .i64 t185, .int .i64 0, .int .u64 0, .int .u64 0, .bool false, .bool false, .bool false, .bool false, .bool false, .bool false, .bool false]) ?_ 1 _ rfl; refine blk_put (cs := #[.int .i64 0, .int .i64 0, .int .u64 0, .int .u64 0, .bool false, .bool false, .bool false, .bool false, .bool false, .bool false, .bool false]) ?_ 0 _ rfl; (with_reducible repeat (first | refine blk_drewN ?_ _ | refine blk_drew ?_ | refine blk_alloc ?_ _)); exact BK197.out⟩, ⟨by repeat (first | (with_reducible first | exact HB.out | apply below_alloc | apply pw_below_drewN | apply below_drew1 | refine below_set ?_ GE171.out | refine below_set ?_ GE184.out | refine below_set ?_ GE197.out) | exact HB.out)⟩⟩
    · rw [if_neg c19] at H
      have c19b0 : (!(t172 == t185) || (!(t173 == t186) || (!(t174 == t187) || (!(t175 == t188) || ((!(t176 == t189) || (!(t177 == t190) || (!(t178 == t191) || (!(t179 == t192) || (!(t180 == t193) || (!(t181 == t194))))))) || (!(t182 == t195))))))) = false := by simpa using c19
      clear c19
      (first | rw [c19b0] | (simp only [i64_w, i32_w]; rw [c19b0]) | skip)
      have H' := Aside0.mk H
      clear H
      have hnb25 := NB184_171.out
      have hnc25 := NB171_184.out
      have hnb26 := NB184_197.out
      have hnc26 := NB197_184.out
      have hcz27_0 : w15.cell? ⟨gb184, 0, none⟩ = some (.int .i64 t172) := (blk_cell BK184.out 0).trans rfl
      have hcz27_1 : w15.cell? ⟨gb184, 1, none⟩ = some (.int .i64 t173) := (blk_cell BK184.out 1).trans rfl
      have hcz27_2 : w15.cell? ⟨gb184, 2, none⟩ = some (.int .u64 t174) := (blk_cell BK184.out 2).trans rfl
      have hcz27_3 : w15.cell? ⟨gb184, 3, none⟩ = some (.int .u64 t175) := (blk_cell BK184.out 3).trans rfl
      have hcz27_4 : w15.cell? ⟨gb184, 4, none⟩ = some (.bool t176) := (blk_cell BK184.out 4).trans rfl
      have hcz27_5 : w15.cell? ⟨gb184, 5, none⟩ = some (.bool t177) := (blk_cell BK184.out 5).trans rfl
      have hcz27_6 : w15.cell? ⟨gb184, 6, none⟩ = some (.bool t178) := (blk_cell BK184.out 6).trans rfl
      have hcz27_7 : w15.cell? ⟨gb184, 7, none⟩ = some (.bool t179) := (blk_cell BK184.out 7).trans rfl
      have hcz27_8 : w15.cell? ⟨gb184, 8, none⟩ = some (.bool t180) := (blk_cell BK184.out 8).trans rfl
      have hcz27_9 : w15.cell? ⟨gb184, 9, none⟩ = some (.bool t181) := (blk_cell BK184.out 9).trans rfl
      have hcz27_10 : w15.cell? ⟨gb184, 10, none⟩ = some (.bool t182) := (blk_cell BK184.out 10).trans rfl
      have hfz27_0 := blk_frozen BK184.out 0
      have hfz27_1 := blk_frozen BK184.out 1
      have hfz27_2 := blk_frozen BK184.out 2
      have hfz27_3 := blk_frozen BK184.out 3
      have hfz27_4 := blk_frozen BK184.out 4
      have hfz27_5 := blk_frozen BK184.out 5
      have hfz27_6 := blk_frozen BK184.out 6
      have hfz27_7 := blk_frozen BK184.out 7
      have hfz27_8 := blk_frozen BK184.out 8
      have hfz27_9 := blk_frozen BK184.out 9
      have hfz27_10 := blk_frozen BK184.out 10
      have hnb28 := NB197_171.out
      have hnc28 := NB171_197.out
      have hcz29_0 : w15.cell? ⟨gb197, 0, none⟩ = some (.int .i64 0) := (blk_cell BK197.out 0).trans rfl
      have hcz29_1 : w15.cell? ⟨gb197, 1, none⟩ = some (.int .i64 0) := (blk_cell BK197.out 1).trans rfl
      have hcz29_2 : w15.cell? ⟨gb197, 2, none⟩ = some (.int .u64 0) := (blk_cell BK197.out 2).trans rfl
      have hcz29_3 : w15.cell? ⟨gb197, 3, none⟩ = some (.int .u64 0) := (blk_cell BK197.out 3).trans rfl
      have hcz29_4 : w15.cell? ⟨gb197, 4, none⟩ = some (.bool false) := (blk_cell BK197.out 4).trans rfl
      have hcz29_5 : w15.cell? ⟨gb197, 5, none⟩ = some (.bool false) := (blk_cell BK197.out 5).trans rfl
      have hcz29_6 : w15.cell? ⟨gb197, 6, none⟩ = some (.bool false) := (blk_cell BK197.out 6).trans rfl
      have hcz29_7 : w15.cell? ⟨gb197, 7, none⟩ = some (.bool false) := (blk_cell BK197.out 7).trans rfl
      have hcz29_8 : w15.cell? ⟨gb197, 8, none⟩ = some (.bool false) := (blk_cell BK197.out 8).trans rfl
      have hcz29_9 : w15.cell? ⟨gb197, 9, none⟩ = some (.bool false) := (blk_cell BK197.out 9).trans rfl
      have hcz29_10 : w15.cell? ⟨gb197, 10, none⟩ = some (.bool false) := (blk_cell BK197.out 10).trans rfl
      have hfz29_0 := blk_frozen BK197.out 0
      have hfz29_1 := blk_frozen BK197.out 1
      have hfz29_2 := blk_frozen BK197.out 2
      have hfz29_3 := blk_frozen BK197.out 3
      have hfz29_4 := blk_frozen BK197.out 4
      have hfz29_5 := blk_frozen BK197.out 5
      have hfz29_6 := blk_frozen BK197.out 6
      have hfz29_7 := blk_frozen BK197.out 7
      have hfz29_8 := blk_frozen BK197.out 8
      have hfz29_9 := blk_frozen BK197.out 9
      have hfz29_10 := blk_frozen BK197.out 10
      go_wp2
      go_meet
      case rel => exact ⟨_, ((t183 != t196)), (by first | rfl | (simp; done) | (simp [*]; done)), H', ⟨by first | omega | exact Nat.le_refl _⟩, ⟨by (with_reducible repeat (first | refine blk_drewN ?_ _ | refine blk_drew ?_ | refine blk_alloc ?_ _)); refine blk_far ?_ NB171_197.out _; refine blk_far ?_ NB171_197.out _; refine blk_far ?_ NB171_197.out _; refine blk_far ?_ NB171_197.out _; refine blk_far ?_ NB171_197.out _; refine blk_far ?_ NB171_197.out _; refine blk_far ?_ NB171_197.out _; refine blk_far ?_ NB171_197.out _; refine blk_far ?_ NB171_197.out _; refine blk_far ?_ NB171_197.out _; refine blk_far ?_ NB171_197.out _; (with_reducible repeat (first | refine blk_drewN ?_ _ | refine blk_drew ?_ | refine blk_alloc ?_ _)); exact BK171.out⟩, ⟨by (with_reducible repeat (first | refine blk_drewN ?_ _ | refine blk_drew ?_ | refine blk_alloc ?_ _)); refine blk_far ?_ NB184_197.out _; refine blk_far ?_ NB184_197.out _; refine blk_far ?_ NB184_197.out _; refine blk_far ?_ NB184_197.out _; refine blk_far ?_ NB184_197.out _; refine blk_far ?_ NB184_197.out _; refine blk_far ?_ NB184_197.out _; refine blk_far ?_ NB184_197.out _; refine blk_far ?_ NB184_197.out _; refine blk_far ?_ NB184_197.out _; refine blk_far ?_ NB184_197.out _; (with_reducible repeat (first | refine blk_drewN ?_ _ | refine blk_drew ?_ | refine blk_alloc ?_ _)); exact BK184.out⟩, ⟨by (with_reducible repeat (first | refine blk_drewN ?_ _ | refine blk_drew ?_ | refine blk_alloc ?_ _)); refine blk_put (cs := #[.int .i64 t185, .int .i64 t186, .int .u64 t187, .int .u64 t188, .bool t189, .bool t190, .bool t191, .bool t192, .bool t193, .bool t194, .bool false]) ?_ 10 _ rfl; refine blk_put (cs := #[.int .i64 t185, .int .i64 t186, .int .u64 t187, .int .u64 t188, .bool t189, .bool t190, .bool t191, .bool t192, .bool t193, .bool false, .bool false]) ?_ 9 _ rfl; refine blk_put (cs := #[.int .i64 t185, .int .i64 t186, .int .u64 t187, .int .u64 t188, .bool t189, .bool t190, .bool t191, .bool t192, .bool false, .bool false, .bool false]) ?_ 8 _ rfl; refine blk_put (cs := #[.int .i64 t185, .int .i64 t186, .int .u64 t187, .int .u64 t188, .bool t189, .bool t190, .bool t191, .bool false, .bool false, .bool false, .bool false]) ?_ 7 _ rfl; refine blk_put (cs := #[.int .i64 t185, .int .i64 t186, .int .u64 t187, .int .u64 t188, .bool t189, .bool t190, .bool false, .bool false, .bool false, .bool false, .bool false]) ?_ 6 _ rfl; refine blk_put (cs := #[.int .i64 t185, .int .i64 t186, .int .u64 t187, .int .u64 t188, .bool t189, .bool false, .bool false, .bool false, .bool false, .bool false, .bool false]) ?_ 5 _ rfl; refine blk_put (cs := #[.int .i64 t185, .int .i64 t186, .int .u64 t187, .int .u64 t188, .bool false, .bool false, .bool false, .bool false, .bool false, .bool false, .bool false]) ?_ 4 _ rfl; refine blk_put (cs := #[.int .i64 t185, .int .i64 t186, .int .u64 t187, .int .u64 0, .bool false, .bool false, .bool false, .bool false, .bool false, .bool false, .bool false]) ?_ 3 _ rfl; refine blk_put (cs := #[.int .i64 t185, .int .i64 t186, .int .u64 0, .int .u64 0, .bool false, .bool false, .bool false, .bool false, .bool false, .bool false, .bool false]) ?_ 2 _ rfl; refine blk_put (cs := #[.int .i64 t185, .int .i64 0, .int .u64 0, .int .u64 0, .bool false, .bool false, .bool false, .bool false, .bool false, .bool false, .bool false]) ?_ 1 _ rfl; refine blk_put (cs := #[.int .i64 0, .int .i64 0, .int .u64 0, .int .u64 0, .bool false, .bool false, .bool false, .bool false, .bool false, .bool false, .bool false]) ?_ 0 _ rfl; (with_reducible repeat (first | refine blk_drewN ?_ _ | refine blk_drew ?_ | refine blk_alloc ?_ _)); exact BK197.out⟩, ⟨by repeat (first | (with_reducible first | exact HB.out | apply below_alloc | apply pw_below_drewN | apply below_drew1 | refine below_set ?_ GE171.out | refine below_set ?_ GE184.out | refine below_set ?_ GE197.out) | exact HB.out)⟩⟩
  case rest =>
    clear HC8
    try clear c1
    try clear c2
    try clear p2
    try clear c3
    try clear c10
    try clear c12
    try clear c16
    try clear c17
    try clear c19
    try clear c19b0
    try clear c20
    try clear c21
    try clear c23
    try clear c25
    try clear c26
    try clear c28
    try clear hcz13_0
    try clear hcz13_1
    try clear hcz13_10
    try clear hcz13_2
    try clear hcz13_3
    try clear hcz13_4
    try clear hcz13_5
    try clear hcz13_6
    try clear hcz13_7
    try clear hcz13_8
    try clear hcz13_9
    try clear hcz18_0
    try clear hcz18_1
    try clear hcz18_10
    try clear hcz18_2
    try clear hcz18_3
    try clear hcz18_4
    try clear hcz18_5
    try clear hcz18_6
    try clear hcz18_7
    try clear hcz18_8
    try clear hcz18_9
    try clear hcz22_0
    try clear hcz22_1
    try clear hcz22_10
    try clear hcz22_2
    try clear hcz22_3
    try clear hcz22_4
    try clear hcz22_5
    try clear hcz22_6
    try clear hcz22_7
    try clear hcz22_8
    try clear hcz22_9
    try clear hcz24_0
    try clear hcz24_1
    try clear hcz24_10
    try clear hcz24_2
    try clear hcz24_3
    try clear hcz24_4
    try clear hcz24_5
    try clear hcz24_6
    try clear hcz24_7
    try clear hcz24_8
    try clear hcz24_9
    try clear hcz27_0
    try clear hcz27_1
    try clear hcz27_10
    try clear hcz27_2
    try clear hcz27_3
    try clear hcz27_4
    try clear hcz27_5
    try clear hcz27_6
    try clear hcz27_7
    try clear hcz27_8
    try clear hcz27_9
    try clear hcz29_0
    try clear hcz29_1
    try clear hcz29_10
    try clear hcz29_2
    try clear hcz29_3
    try clear hcz29_4
    try clear hcz29_5
    try clear hcz29_6
    try clear hcz29_7
    try clear hcz29_8
    try clear hcz29_9
    try clear hfz13_0
    try clear hfz13_1
    try clear hfz13_10
    try clear hfz13_2
    try clear hfz13_3
    try clear hfz13_4
    try clear hfz13_5
    try clear hfz13_6
    try clear hfz13_7
    try clear hfz13_8
    try clear hfz13_9
    try clear hfz18_0
    try clear hfz18_1
    try clear hfz18_10
    try clear hfz18_2
    try clear hfz18_3
    try clear hfz18_4
    try clear hfz18_5
    try clear hfz18_6
    try clear hfz18_7
    try clear hfz18_8
    try clear hfz18_9
    try clear hfz22_0
    try clear hfz22_1
    try clear hfz22_10
    try clear hfz22_2
    try clear hfz22_3
    try clear hfz22_4
    try clear hfz22_5
    try clear hfz22_6
    try clear hfz22_7
    try clear hfz22_8
    try clear hfz22_9
    try clear hfz24_0
    try clear hfz24_1
    try clear hfz24_10
    try clear hfz24_2
    try clear hfz24_3
    try clear hfz24_4
    try clear hfz24_5
    try clear hfz24_6
    try clear hfz24_7
    try clear hfz24_8
    try clear hfz24_9
    try clear hfz27_0
    try clear hfz27_1
    try clear hfz27_10
    try clear hfz27_2
    try clear hfz27_3
    try clear hfz27_4
    try clear hfz27_5
    try clear hfz27_6
    try clear hfz27_7
    try clear hfz27_8
    try clear hfz27_9
    try clear hfz29_0
    try clear hfz29_1
    try clear hfz29_10
    try clear hfz29_2
    try clear hfz29_3
    try clear hfz29_4
    try clear hfz29_5
    try clear hfz29_6
    try clear hfz29_7
    try clear hfz29_8
    try clear hfz29_9
    obtain ⟨kq, x39_7, rfl, HA, HJ7, BK171, BK184, BK197, HB⟩ := hcut
    cases kq with
    | zero => exact absurd HA.out (by simp [lookasidelaw03_TteReads.j0])
    | succ kj7 =>
      have H := HA.out
      clear HA
      simp only [lookasidelaw03_TteReads.j0] at H
      by_cases c30 : x39_7 = true
      · subst c30
        have H1 : (some false) = some r := by rw [if_pos rfl] at H; exact H
        clear H
        have H := H1
        clear H1
        exact absurd ((Option.some.inj H).trans hr_.out) (by decide)
      · replace c30 := Bool.eq_false_iff.mpr c30
        subst c30
        have H1 : ((lookasideref03_Good.f kj7 a3_0 a3_1 a3_2 a3_3 a3_4 a3_5 a3_6 a3_7 a3_8 a3_9 a3_10).bind fun bt198 => (if a4 < 0 then (lookasidelaw03_TteReads.j1 kj7 (wrap64 (-(wrap64 (a4 + 1)))) bt198.1 bt198.2.1 bt198.2.2.1 bt198.2.2.2.1 bt198.2.2.2.2.1 bt198.2.2.2.2.2.1 bt198.2.2.2.2.2.2.1 bt198.2.2.2.2.2.2.2.1 bt198.2.2.2.2.2.2.2.2.1 bt198.2.2.2.2.2.2.2.2.2.1 bt198.2.2.2.2.2.2.2.2.2.2) else (lookasidelaw03_TteReads.j1 kj7 a4 bt198.1 bt198.2.1 bt198.2.2.1 bt198.2.2.2.1 bt198.2.2.2.2.1 bt198.2.2.2.2.2.1 bt198.2.2.2.2.2.2.1 bt198.2.2.2.2.2.2.2.1 bt198.2.2.2.2.2.2.2.2.1 bt198.2.2.2.2.2.2.2.2.2.1 bt198.2.2.2.2.2.2.2.2.2.2))) = some r := by rw [if_neg (show ¬ (false = true) by decide)] at H; exact H
        clear H
        have H := H1
        clear H1
        replace H := Option.bind_eq_some_iff.mp H
        obtain ⟨⟨t198, t199, t200, t201, t202, t203, t204, t205, t206, t207, t208⟩, A310, H⟩ := H
        replace H : (if a4 < 0 then (lookasidelaw03_TteReads.j1 kj7 (wrap64 (-(wrap64 (a4 + 1)))) t198 t199 t200 t201 t202 t203 t204 t205 t206 t207 t208) else (lookasidelaw03_TteReads.j1 kj7 a4 t198 t199 t200 t201 t202 t203 t204 t205 t206 t207 t208)) = some r := H
        have A31 := Aside0.mk A310
        clear A310
        have HC32 := Aside0.mk H
        clear H
        have hnb33 := NB171_184.out
        have hnc33 := NB184_171.out
        have hnb34 := NB171_197.out
        have hnc34 := NB197_171.out
        have hcz35_0 : wc.cell? ⟨gb171, 0, none⟩ = some (.int .i64 a3_0) := (blk_cell BK171.out 0).trans rfl
        have hcz35_1 : wc.cell? ⟨gb171, 1, none⟩ = some (.int .i64 a3_1) := (blk_cell BK171.out 1).trans rfl
        have hcz35_2 : wc.cell? ⟨gb171, 2, none⟩ = some (.int .u64 a3_2) := (blk_cell BK171.out 2).trans rfl
        have hcz35_3 : wc.cell? ⟨gb171, 3, none⟩ = some (.int .u64 a3_3) := (blk_cell BK171.out 3).trans rfl
        have hcz35_4 : wc.cell? ⟨gb171, 4, none⟩ = some (.bool a3_4) := (blk_cell BK171.out 4).trans rfl
        have hcz35_5 : wc.cell? ⟨gb171, 5, none⟩ = some (.bool a3_5) := (blk_cell BK171.out 5).trans rfl
        have hcz35_6 : wc.cell? ⟨gb171, 6, none⟩ = some (.bool a3_6) := (blk_cell BK171.out 6).trans rfl
        have hcz35_7 : wc.cell? ⟨gb171, 7, none⟩ = some (.bool a3_7) := (blk_cell BK171.out 7).trans rfl
        have hcz35_8 : wc.cell? ⟨gb171, 8, none⟩ = some (.bool a3_8) := (blk_cell BK171.out 8).trans rfl
        have hcz35_9 : wc.cell? ⟨gb171, 9, none⟩ = some (.bool a3_9) := (blk_cell BK171.out 9).trans rfl
        have hcz35_10 : wc.cell? ⟨gb171, 10, none⟩ = some (.bool a3_10) := (blk_cell BK171.out 10).trans rfl
        have hfz35_0 := blk_frozen BK171.out 0
        have hfz35_1 := blk_frozen BK171.out 1
        have hfz35_2 := blk_frozen BK171.out 2
        have hfz35_3 := blk_frozen BK171.out 3
        have hfz35_4 := blk_frozen BK171.out 4
        have hfz35_5 := blk_frozen BK171.out 5
        have hfz35_6 := blk_frozen BK171.out 6
        have hfz35_7 := blk_frozen BK171.out 7
        have hfz35_8 := blk_frozen BK171.out 8
        have hfz35_9 := blk_frozen BK171.out 9
        have hfz35_10 := blk_frozen BK171.out 10
        go_upto_if 43 with (first | ((with_reducible refine gate_callee (f := 13) rfl ?_); refine goesL_ (some 41) rfl rfl Try.func13 (by kernel_rfl) rfl #[.agg #[.int .i64 a3_0, .int .i64 a3_1, .int .u64 a3_2, .int .u64 a3_3, .bool a3_4, .bool a3_5, .bool a3_6, .bool a3_7, .bool a3_8, .bool a3_9, .bool a3_10]] rfl (by (try simp only [List.map_toArray, List.map_cons, List.map_nil]); first | done | rfl | (simp only [List.length_drop, List.length_take]; rfl)) ?_; (with_reducible refine (lookasideref03_Good.calls kj7 a3_0 a3_1 a3_2 a3_3 a3_4 a3_5 a3_6 a3_7 a3_8 a3_9 a3_10 t198 t199 t200 t201 t202 t203 t204 t205 t206 t207 t208 _ A31.out).mono ?_); rintro e w36 ⟨rfl, hb⟩; refine ⟨_, rfl, ?_⟩; have n0_ := Aside0.mk (bb10_ hb BK171.out); have n1_ := Aside0.mk (bb10_ hb BK184.out); have n2_ := Aside0.mk (bb10_ hb BK197.out); have n3_ := Aside0.mk (below_step (by repeat (first | (with_reducible first | exact HB.out | apply below_alloc | apply pw_below_drewN | apply below_drew1 | refine below_set ?_ GE171.out | refine below_set ?_ GE184.out | refine below_set ?_ GE197.out) | exact HB.out)) hb); clear BK171; clear BK184; clear BK197; clear HB; have BK171 := n0_; have BK184 := n1_; have BK197 := n2_; have HB := n3_; clear n0_ n1_ n2_ n3_; (try clear hb); (try clear hb2); (try clear hk); (try clear hi)) | ((with_reducible refine gate_dst (N := 15) rfl ?_); refine box_event ?hg (N := 15) ?hd (cs := #[.int .i64 0, .int .i64 0, .int .u64 0, .int .u64 0, .bool false, .bool false, .bool false, .bool false, .bool false, .bool false, .bool false]) (t := 26) ?hr ?_; (case hd => rfl); (case hg => rfl); (case hr => first | (go_simp; done) | (go_simp; rfl)); intro gb209 hg w37 hbox hb; have n0_ := Aside0.mk (bb10_ hb BK171.out); have n1_ := Aside0.mk (bb10_ hb BK184.out); have n2_ := Aside0.mk (bb10_ hb BK197.out); have n3_ := Aside0.mk (below_step (by repeat (first | (with_reducible first | exact HB.out | apply below_alloc | apply pw_below_drewN | apply below_drew1 | refine below_set ?_ GE171.out | refine below_set ?_ GE184.out | refine below_set ?_ GE197.out) | exact HB.out)) hb); have n4_ := Aside0.mk (hbox); have n5_ := Aside0.mk ((by rw [hg]; exact (below_size (by repeat (first | (with_reducible first | exact HB.out | apply below_alloc | apply pw_below_drewN | apply below_drew1 | refine below_set ?_ GE171.out | refine below_set ?_ GE184.out | refine below_set ?_ GE197.out) | exact HB.out))) : w.heap.size ≤ gb209)); have n6_ := Aside0.mk ((by rw [hg]; exact (below_size (by repeat (first | (with_reducible first | exact HB.out | apply below_alloc | apply pw_below_drewN | apply below_drew1 | refine below_set ?_ GE171.out | refine below_set ?_ GE184.out | refine below_set ?_ GE197.out) | exact HB.out))) : w.heap.size ≤ gb209)); have n7_ := Aside0.mk ((by rw [hg]; exact Nat.ne_of_lt (blk_lt BK171.out) : gb171 ≠ gb209)); have n8_ := Aside0.mk ((by rw [hg]; exact Nat.ne_of_gt (blk_lt BK171.out) : gb209 ≠ gb171)); have n9_ := Aside0.mk ((by rw [hg]; exact Nat.ne_of_lt (blk_lt BK184.out) : gb184 ≠ gb209)); have n10_ := Aside0.mk ((by rw [hg]; exact Nat.ne_of_gt (blk_lt BK184.out) : gb209 ≠ gb184)); have n11_ := Aside0.mk ((by rw [hg]; exact Nat.ne_of_lt (blk_lt BK197.out) : gb197 ≠ gb209)); have n12_ := Aside0.mk ((by rw [hg]; exact Nat.ne_of_gt (blk_lt BK197.out) : gb209 ≠ gb197)); clear BK171; clear BK184; clear BK197; clear HB; have BK171 := n0_; have BK184 := n1_; have BK197 := n2_; have HB := n3_; have BK209 := n4_; have GW209 := n5_; have GE209 := n6_; have NB171_209 := n7_; have NB209_171 := n8_; have NB184_209 := n9_; have NB209_184 := n10_; have NB197_209 := n11_; have NB209_197 := n12_; clear n0_ n1_ n2_ n3_ n4_ n5_ n6_ n7_ n8_ n9_ n10_ n11_ n12_; clear hb hbox hg; have hnb38 := NB209_171.out; have hnc38 := NB171_209.out; have hnb39 := NB209_184.out; have hnc39 := NB184_209.out; have hnb40 := NB209_197.out; have hnc40 := NB197_209.out; have hcz41_0 : w37.cell? ⟨gb209, 0, none⟩ = some (.int .i64 0) := (blk_cell BK209.out 0).trans rfl; have hcz41_1 : w37.cell? ⟨gb209, 1, none⟩ = some (.int .i64 0) := (blk_cell BK209.out 1).trans rfl; have hcz41_2 : w37.cell? ⟨gb209, 2, none⟩ = some (.int .u64 0) := (blk_cell BK209.out 2).trans rfl; have hcz41_3 : w37.cell? ⟨gb209, 3, none⟩ = some (.int .u64 0) := (blk_cell BK209.out 3).trans rfl; have hcz41_4 : w37.cell? ⟨gb209, 4, none⟩ = some (.bool false) := (blk_cell BK209.out 4).trans rfl; have hcz41_5 : w37.cell? ⟨gb209, 5, none⟩ = some (.bool false) := (blk_cell BK209.out 5).trans rfl; have hcz41_6 : w37.cell? ⟨gb209, 6, none⟩ = some (.bool false) := (blk_cell BK209.out 6).trans rfl; have hcz41_7 : w37.cell? ⟨gb209, 7, none⟩ = some (.bool false) := (blk_cell BK209.out 7).trans rfl; have hcz41_8 : w37.cell? ⟨gb209, 8, none⟩ = some (.bool false) := (blk_cell BK209.out 8).trans rfl; have hcz41_9 : w37.cell? ⟨gb209, 9, none⟩ = some (.bool false) := (blk_cell BK209.out 9).trans rfl; have hcz41_10 : w37.cell? ⟨gb209, 10, none⟩ = some (.bool false) := (blk_cell BK209.out 10).trans rfl; have hfz41_0 := blk_frozen BK209.out 0; have hfz41_1 := blk_frozen BK209.out 1; have hfz41_2 := blk_frozen BK209.out 2; have hfz41_3 := blk_frozen BK209.out 3; have hfz41_4 := blk_frozen BK209.out 4; have hfz41_5 := blk_frozen BK209.out 5; have hfz41_6 := blk_frozen BK209.out 6; have hfz41_7 := blk_frozen BK209.out 7; have hfz41_8 := blk_frozen BK209.out 8; have hfz41_9 := blk_frozen BK209.out 9; have hfz41_10 := blk_frozen BK209.out 10))
        (try simp only [Act.put, List.setIfInBounds_toArray, List.set_cons_zero, List.set_cons_succ])
        go_cut [4] (fun v4 wc => ∃ (kq : Nat) (x4_31 : Int), v4 = .int .i64 x4_31 ∧ Aside0 (lookasidelaw03_TteReads.j1 kq x4_31 t198 t199 t200 t201 t202 t203 t204 t205 t206 t207 t208 = some r) ∧ Aside0 (kq ≤ kj7) ∧ Aside0 (wc.heap[gb171]? = some (.cells #[.int .i64 a3_0, .int .i64 a3_1, .int .u64 a3_2, .int .u64 a3_3, .bool a3_4, .bool a3_5, .bool a3_6, .bool a3_7, .bool a3_8, .bool a3_9, .bool a3_10] 26 (0, 0))) ∧ Aside0 (wc.heap[gb184]? = some (.cells #[.int .i64 t172, .int .i64 t173, .int .u64 t174, .int .u64 t175, .bool t176, .bool t177, .bool t178, .bool t179, .bool t180, .bool t181, .bool t182] 26 (0, 0))) ∧ Aside0 (wc.heap[gb197]? = some (.cells #[.int .i64 t185, .int .i64 t186, .int .u64 t187, .int .u64 t188, .bool t189, .bool t190, .bool t191, .bool t192, .bool t193, .bool t194, .bool t195] 26 (0, 0))) ∧ Aside0 (wc.heap[gb209]? = some (.cells #[.int .i64 t198, .int .i64 t199, .int .u64 t200, .int .u64 t201, .bool t202, .bool t203, .bool t204, .bool t205, .bool t206, .bool t207, .bool t208] 26 (0, 0))) ∧ Aside0 (Below w.heap.size w wc))
        case first =>
          have H := HC32.out
          clear HC32
          by_cases c42 : a4 < 0
          · rw [if_pos c42] at H
            have c42b0 : decide (a4 < 0) = true := decide_eq_true c42
            clear c42
            (first | rw [c42b0] | (simp only [i64_w, i32_w]; rw [c42b0]) | skip)
            have H' := Aside0.mk H
            clear H
            go_wp2
            go_meet
            case rel => exact ⟨_, (wrap64 (-(wrap64 (a4 + 1)))), (by first | rfl | (simp; done) | (simp [*]; done)), H', ⟨by have := HJ7.out; first | omega | exact Nat.le_refl _⟩, ⟨by (with_reducible repeat (first | refine blk_drewN ?_ _ | refine blk_drew ?_ | refine blk_alloc ?_ _)); refine blk_far ?_ NB171_209.out _; refine blk_far ?_ NB171_209.out _; refine blk_far ?_ NB171_209.out _; refine blk_far ?_ NB171_209.out _; refine blk_far ?_ NB171_209.out _; refine blk_far ?_ NB171_209.out _; refine blk_far ?_ NB171_209.out _; refine blk_far ?_ NB171_209.out _; refine blk_far ?_ NB171_209.out _; refine blk_far ?_ NB171_209.out _; refine blk_far ?_ NB171_209.out _; (with_reducible repeat (first | refine blk_drewN ?_ _ | refine blk_drew ?_ | refine blk_alloc ?_ _)); exact BK171.out⟩, ⟨by (with_reducible repeat (first | refine blk_drewN ?_ _ | refine blk_drew ?_ | refine blk_alloc ?_ _)); refine blk_far ?_ NB184_209.out _; refine blk_far ?_ NB184_209.out _; refine blk_far ?_ NB184_209.out _; refine blk_far ?_ NB184_209.out _; refine blk_far ?_ NB184_209.out _; refine blk_far ?_ NB184_209.out _; refine blk_far ?_ NB184_209.out _; refine blk_far ?_ NB184_209.out _; refine blk_far ?_ NB184_209.out _; refine blk_far ?_ NB184_209.out _; refine blk_far ?_ NB184_209.out _; (with_reducible repeat (first | refine blk_drewN ?_ _ | refine blk_drew ?_ | refine blk_alloc ?_ _)); exact BK184.out⟩, ⟨by (with_reducible repeat (first | refine blk_drewN ?_ _ | refine blk_drew ?_ | refine blk_alloc ?_ _)); refine blk_far ?_ NB197_209.out _; refine blk_far ?_ NB197_209.out _; refine blk_far ?_ NB197_209.out _; refine blk_far ?_ NB197_209.out _; refine blk_far ?_ NB197_209.out _; refine blk_far ?_ NB197_209.out _; refine blk_far ?_ NB197_209.out _; refine blk_far ?_ NB197_209.out _; refine blk_far ?_ NB197_209.out _; refine blk_far ?_ NB197_209.out _; refine blk_far ?_ NB197_209.out _; (with_reducible repeat (first | refine blk_drewN ?_ _ | refine blk_drew ?_ | refine blk_alloc ?_ _)); exact BK197.out⟩, ⟨by (with_reducible repeat (first | refine blk_drewN ?_ _ | refine blk_drew ?_ | refine blk_alloc ?_ _)); refine blk_put (cs := #[.int .i64 t198, .int .i64 t199, .int .u64 t200, .int .u64 t201, .bool t202, .bool t203, .bool t204, .bool t205, .bool t206, .bool t207, .bool false]) ?_ 10 _ rfl; refine blk_put (cs := #[.int .i64 t198, .int .i64 t199, .int .u64 t200, .int .u64 t201, .bool t202, .bool t203, .bool t204, .bool t205, .bool t206, .bool false, .bool false]) ?_ 9 _ rfl; refine blk_put (cs := #[.int .i64 t198, .int .i64 t199, .int .u64 t200, .int .u64 t201, .bool t202, .bool t203, .bool t204, .bool t205, .bool false, .bool false, .bool false]) ?_ 8 _ rfl; refine blk_put (cs := #[.int .i64 t198, .int .i64 t199, .int .u64 t200, .int .u64 t201, .bool t202, .bool t203, .bool t204, .bool false, .bool false, .bool false, .bool false]) ?_ 7 _ rfl; refine blk_put (cs := #[.int .i64 t198, .int .i64 t199, .int .u64 t200, .int .u64 t201, .bool t202, .bool t203, .bool false, .bool false, .bool false, .bool false, .bool false]) ?_ 6 _ rfl; refine blk_put (cs := #[.int .i64 t198, .int .i64 t199, .int .u64 t200, .int .u64 t201, .bool t202, .bool false, .bool false, .bool false, .bool false, .bool false, .bool false]) ?_ 5 _ rfl; refine blk_put (cs := #[.int .i64 t198, .int .i64 t199, .int .u64 t200, .int .u64 t201, .bool false, .bool false, .bool false, .bool false, .bool false, .bool false, .bool false]) ?_ 4 _ rfl; refine blk_put (cs := #[.int .i64 t198, .int .i64 t199, .int .u64 t200, .int .u64 0, .bool false, .bool false, .bool false, .bool false, .bool false, .bool false, .bool false]) ?_ 3 _ rfl; refine blk_put (cs := #[.int .i64 t198, .int .i64 t199, .int .u64 0, .int .u64 0, .bool false, .bool false, .bool false, .bool false, .bool false, .bool false, .bool false]) ?_ 2 _ rfl; refine blk_put (cs := #[.int .i64 t198, .int .i64 0, .int .u64 0, .int .u64 0, .bool false, .bool false, .bool false, .bool false, .bool false, .bool false, .bool false]) ?_ 1 _ rfl; refine blk_put (cs := #[.int .i64 0, .int .i64 0, .int .u64 0, .int .u64 0, .bool false, .bool false, .bool false, .bool false, .bool false, .bool false, .bool false]) ?_ 0 _ rfl; (with_reducible repeat (first | refine blk_drewN ?_ _ | refine blk_drew ?_ | refine blk_alloc ?_ _)); exact BK209.out⟩, ⟨by repeat (first | (with_reducible first | exact HB.out | apply below_alloc | apply pw_below_drewN | apply below_drew1 | refine below_set ?_ GE171.out | refine below_set ?_ GE184.out | refine below_set ?_ GE197.out | refine below_set ?_ GE209.out) | exact HB.out)⟩⟩
          · rw [if_neg c42] at H
            have c42b0 : decide (a4 < 0) = false := decide_eq_false c42
            clear c42
            (first | rw [c42b0] | (simp only [i64_w, i32_w]; rw [c42b0]) | skip)
            have H' := Aside0.mk H
            clear H
            go_wp2
            go_meet
            case rel => exact ⟨_, (a4), (by first | rfl | (simp; done) | (simp [*]; done)), H', ⟨by have := HJ7.out; first | omega | exact Nat.le_refl _⟩, ⟨by (with_reducible repeat (first | refine blk_drewN ?_ _ | refine blk_drew ?_ | refine blk_alloc ?_ _)); refine blk_far ?_ NB171_209.out _; refine blk_far ?_ NB171_209.out _; refine blk_far ?_ NB171_209.out _; refine blk_far ?_ NB171_209.out _; refine blk_far ?_ NB171_209.out _; refine blk_far ?_ NB171_209.out _; refine blk_far ?_ NB171_209.out _; refine blk_far ?_ NB171_209.out _; refine blk_far ?_ NB171_209.out _; refine blk_far ?_ NB171_209.out _; refine blk_far ?_ NB171_209.out _; (with_reducible repeat (first | refine blk_drewN ?_ _ | refine blk_drew ?_ | refine blk_alloc ?_ _)); exact BK171.out⟩, ⟨by (with_reducible repeat (first | refine blk_drewN ?_ _ | refine blk_drew ?_ | refine blk_alloc ?_ _)); refine blk_far ?_ NB184_209.out _; refine blk_far ?_ NB184_209.out _; refine blk_far ?_ NB184_209.out _; refine blk_far ?_ NB184_209.out _; refine blk_far ?_ NB184_209.out _; refine blk_far ?_ NB184_209.out _; refine blk_far ?_ NB184_209.out _; refine blk_far ?_ NB184_209.out _; refine blk_far ?_ NB184_209.out _; refine blk_far ?_ NB184_209.out _; refine blk_far ?_ NB184_209.out _; (with_reducible repeat (first | refine blk_drewN ?_ _ | refine blk_drew ?_ | refine blk_alloc ?_ _)); exact BK184.out⟩, ⟨by (with_reducible repeat (first | refine blk_drewN ?_ _ | refine blk_drew ?_ | refine blk_alloc ?_ _)); refine blk_far ?_ NB197_209.out _; refine blk_far ?_ NB197_209.out _; refine blk_far ?_ NB197_209.out _; refine blk_far ?_ NB197_209.out _; refine blk_far ?_ NB197_209.out _; refine blk_far ?_ NB197_209.out _; refine blk_far ?_ NB197_209.out _; refine blk_far ?_ NB197_209.out _; refine blk_far ?_ NB197_209.out _; refine blk_far ?_ NB197_209.out _; refine blk_far ?_ NB197_209.out _; (with_reducible repeat (first | refine blk_drewN ?_ _ | refine blk_drew ?_ | refine blk_alloc ?_ _)); exact BK197.out⟩, ⟨by (with_reducible repeat (first | refine blk_drewN ?_ _ | refine blk_drew ?_ | refine blk_alloc ?_ _)); refine blk_put (cs := #[.int .i64 t198, .int .i64 t199, .int .u64 t200, .int .u64 t201, .bool t202, .bool t203, .bool t204, .bool t205, .bool t206, .bool t207, .bool false]) ?_ 10 _ rfl; refine blk_put (cs := #[.int .i64 t198, .int .i64 t199, .int .u64 t200, .int .u64 t201, .bool t202, .bool t203, .bool t204, .bool t205, .bool t206, .bool false, .bool false]) ?_ 9 _ rfl; refine blk_put (cs := #[.int .i64 t198, .int .i64 t199, .int .u64 t200, .int .u64 t201, .bool t202, .bool t203, .bool t204, .bool t205, .bool false, .bool false, .bool false]) ?_ 8 _ rfl; refine blk_put (cs := #[.int .i64 t198, .int .i64 t199, .int .u64 t200, .int .u64 t201, .bool t202, .bool t203, .bool t204, .bool false, .bool false, .bool false, .bool false]) ?_ 7 _ rfl; refine blk_put (cs := #[.int .i64 t198, .int .i64 t199, .int .u64 t200, .int .u64 t201, .bool t202, .bool t203, .bool false, .bool false, .bool false, .bool false, .bool false]) ?_ 6 _ rfl; refine blk_put (cs := #[.int .i64 t198, .int .i64 t199, .int .u64 t200, .int .u64 t201, .bool t202, .bool false, .bool false, .bool false, .bool false, .bool false, .bool false]) ?_ 5 _ rfl; refine blk_put (cs := #[.int .i64 t198, .int .i64 t199, .int .u64 t200, .int .u64 t201, .bool false, .bool false, .bool false, .bool false, .bool false, .bool false, .bool false]) ?_ 4 _ rfl; refine blk_put (cs := #[.int .i64 t198, .int .i64 t199, .int .u64 t200, .int .u64 0, .bool false, .bool false, .bool false, .bool false, .bool false, .bool false, .bool false]) ?_ 3 _ rfl; refine blk_put (cs := #[.int .i64 t198, .int .i64 t199, .int .u64 0, .int .u64 0, .bool false, .bool false, .bool false, .bool false, .bool false, .bool false, .bool false]) ?_ 2 _ rfl; refine blk_put (cs := #[.int .i64 t198, .int .i64 0, .int .u64 0, .int .u64 0, .bool false, .bool false, .bool false, .bool false, .bool false, .bool false, .bool false]) ?_ 1 _ rfl; refine blk_put (cs := #[.int .i64 0, .int .i64 0, .int .u64 0, .int .u64 0, .bool false, .bool false, .bool false, .bool false, .bool false, .bool false, .bool false]) ?_ 0 _ rfl; (with_reducible repeat (first | refine blk_drewN ?_ _ | refine blk_drew ?_ | refine blk_alloc ?_ _)); exact BK209.out⟩, ⟨by repeat (first | (with_reducible first | exact HB.out | apply below_alloc | apply pw_below_drewN | apply below_drew1 | refine below_set ?_ GE171.out | refine below_set ?_ GE184.out | refine below_set ?_ GE197.out | refine below_set ?_ GE209.out) | exact HB.out)⟩⟩
        case rest =>
          clear HC32
          try clear c1
          try clear c2
          try clear p2
          try clear c3
          try clear c4
          try clear p6
          try clear c10
          try clear c12
          try clear c13
          try clear c16
          try clear c17
          try clear c19
          try clear c19b0
          try clear c20
          try clear c21
          try clear c23
          try clear c25
          try clear c26
          try clear c28
          try clear c30
          try clear c32
          try clear c33
          try clear c34
          try clear c38
          try clear c39
          try clear c40
          try clear c42
          try clear c42b0
          try clear hcz13_0
          try clear hcz13_1
          try clear hcz13_10
          try clear hcz13_2
          try clear hcz13_3
          try clear hcz13_4
          try clear hcz13_5
          try clear hcz13_6
          try clear hcz13_7
          try clear hcz13_8
          try clear hcz13_9
          try clear hcz18_0
          try clear hcz18_1
          try clear hcz18_10
          try clear hcz18_2
          try clear hcz18_3
          try clear hcz18_4
          try clear hcz18_5
          try clear hcz18_6
          try clear hcz18_7
          try clear hcz18_8
          try clear hcz18_9
          try clear hcz22_0
          try clear hcz22_1
          try clear hcz22_10
          try clear hcz22_2
          try clear hcz22_3
          try clear hcz22_4
          try clear hcz22_5
          try clear hcz22_6
          try clear hcz22_7
          try clear hcz22_8
          try clear hcz22_9
          try clear hcz24_0
          try clear hcz24_1
          try clear hcz24_10
          try clear hcz24_2
          try clear hcz24_3
          try clear hcz24_4
          try clear hcz24_5
          try clear hcz24_6
          try clear hcz24_7
          try clear hcz24_8
          try clear hcz24_9
          try clear hcz27_0
          try clear hcz27_1
          try clear hcz27_10
          try clear hcz27_2
          try clear hcz27_3
          try clear hcz27_4
          try clear hcz27_5
          try clear hcz27_6
          try clear hcz27_7
          try clear hcz27_8
          try clear hcz27_9
          try clear hcz29_0
          try clear hcz29_1
          try clear hcz29_10
          try clear hcz29_2
          try clear hcz29_3
          try clear hcz29_4
          try clear hcz29_5
          try clear hcz29_6
          try clear hcz29_7
          try clear hcz29_8
          try clear hcz29_9
          try clear hcz35_0
          try clear hcz35_1
          try clear hcz35_10
          try clear hcz35_2
          try clear hcz35_3
          try clear hcz35_4
          try clear hcz35_5
          try clear hcz35_6
          try clear hcz35_7
          try clear hcz35_8
          try clear hcz35_9
          try clear hcz41_0
          try clear hcz41_1
          try clear hcz41_10
          try clear hcz41_2
          try clear hcz41_3
          try clear hcz41_4
          try clear hcz41_5
          try clear hcz41_6
          try clear hcz41_7
          try clear hcz41_8
          try clear hcz41_9
          try clear hfz13_0
          try clear hfz13_1
          try clear hfz13_10
          try clear hfz13_2
          try clear hfz13_3
          try clear hfz13_4
          try clear hfz13_5
          try clear hfz13_6
          try clear hfz13_7
          try clear hfz13_8
          try clear hfz13_9
          try clear hfz18_0
          try clear hfz18_1
          try clear hfz18_10
          try clear hfz18_2
          try clear hfz18_3
          try clear hfz18_4
          try clear hfz18_5
          try clear hfz18_6
          try clear hfz18_7
          try clear hfz18_8
          try clear hfz18_9
          try clear hfz22_0
          try clear hfz22_1
          try clear hfz22_10
          try clear hfz22_2
          try clear hfz22_3
          try clear hfz22_4
          try clear hfz22_5
          try clear hfz22_6
          try clear hfz22_7
          try clear hfz22_8
          try clear hfz22_9
          try clear hfz24_0
          try clear hfz24_1
          try clear hfz24_10
          try clear hfz24_2
          try clear hfz24_3
          try clear hfz24_4
          try clear hfz24_5
          try clear hfz24_6
          try clear hfz24_7
          try clear hfz24_8
          try clear hfz24_9
          try clear hfz27_0
          try clear hfz27_1
          try clear hfz27_10
          try clear hfz27_2
          try clear hfz27_3
          try clear hfz27_4
          try clear hfz27_5
          try clear hfz27_6
          try clear hfz27_7
          try clear hfz27_8
          try clear hfz27_9
          try clear hfz29_0
          try clear hfz29_1
          try clear hfz29_10
          try clear hfz29_2
          try clear hfz29_3
          try clear hfz29_4
          try clear hfz29_5
          try clear hfz29_6
          try clear hfz29_7
          try clear hfz29_8
          try clear hfz29_9
          try clear hfz35_0
          try clear hfz35_1
          try clear hfz35_10
          try clear hfz35_2
          try clear hfz35_3
          try clear hfz35_4
          try clear hfz35_5
          try clear hfz35_6
          try clear hfz35_7
          try clear hfz35_8
          try clear hfz35_9
          try clear hfz41_0
          try clear hfz41_1
          try clear hfz41_10
          try clear hfz41_2
          try clear hfz41_3
          try clear hfz41_4
          try clear hfz41_5
          try clear hfz41_6
          try clear hfz41_7
          try clear hfz41_8
          try clear hfz41_9
          try clear p2
          obtain ⟨kq, x4_31, rfl, HA, HJ31, BK171, BK184, BK197, BK209, HB⟩ := hcut
          cases kq with
          | zero => exact absurd HA.out (by simp [lookasidelaw03_TteReads.j1])
          | succ kj31 =>
            have H := HA.out
            clear HA
            simp only [lookasidelaw03_TteReads.j1] at H
            replace H := Option.bind_eq_some_iff.mp H
            obtain ⟨t210, A430, H⟩ := H
            replace H : ((lookasideref03_Data.f kj31 t198 t199 t200 t201 t202 t203 t204 t205 t206 t207 t208).bind fun t211 => (if (Int.tmod x4_31 128) < 64 then ((lookasideref01_Bit.f kj31 t210 (Int.tmod x4_31 128)).bind fun t212 => ((lookasideref01_Put.f kj31 t210 (Int.tmod x4_31 128) 1 (IntKind.u64.wrap (1 - t212))).bind fun t213 => ((tte_Read.f kj31 t213 t211 t200).bind fun bt214 => ((lookasideref03_Read.f kj31 t213 t211 t200).bind fun bt226 => (if (bt214.1 == bt226.1 && (bt214.2.1 == bt226.2.1 && (bt214.2.2.1 == bt226.2.2.1 && (bt214.2.2.2.1 == bt226.2.2.2.1 && ((bt214.2.2.2.2.1 == bt226.2.2.2.2.1 && (bt214.2.2.2.2.2.1 == bt226.2.2.2.2.2.1 && (bt214.2.2.2.2.2.2.1 == bt226.2.2.2.2.2.2.1 && (bt214.2.2.2.2.2.2.2.1 == bt226.2.2.2.2.2.2.2.1 && (bt214.2.2.2.2.2.2.2.2.1 == bt226.2.2.2.2.2.2.2.2.1 && (bt214.2.2.2.2.2.2.2.2.2.1 == bt226.2.2.2.2.2.2.2.2.2.1)))))) && (bt214.2.2.2.2.2.2.2.2.2.2.1 == bt226.2.2.2.2.2.2.2.2.2.2.1)))))) = true then (if bt214.2.2.2.2.2.2.2.2.2.2.2 = bt226.2.2.2.2.2.2.2.2.2.2.2 then ((lookasidelaw03_lives.f kj31).bind fun t238 => (some t238)) else (some false)) else (some false)))))) else ((lookasideref01_Bit.f kj31 t211 (wrap64 ((Int.tmod x4_31 128) - 64))).bind fun t239 => ((lookasideref01_Put.f kj31 t211 (wrap64 ((Int.tmod x4_31 128) - 64)) 1 (IntKind.u64.wrap (1 - t239))).bind fun t240 => ((tte_Read.f kj31 t210 t240 t200).bind fun bt241 => ((lookasideref03_Read.f kj31 t210 t240 t200).bind fun bt253 => (if (bt241.1 == bt253.1 && (bt241.2.1 == bt253.2.1 && (bt241.2.2.1 == bt253.2.2.1 && (bt241.2.2.2.1 == bt253.2.2.2.1 && ((bt241.2.2.2.2.1 == bt253.2.2.2.2.1 && (bt241.2.2.2.2.2.1 == bt253.2.2.2.2.2.1 && (bt241.2.2.2.2.2.2.1 == bt253.2.2.2.2.2.2.1 && (bt241.2.2.2.2.2.2.2.1 == bt253.2.2.2.2.2.2.2.1 && (bt241.2.2.2.2.2.2.2.2.1 == bt253.2.2.2.2.2.2.2.2.1 && (bt241.2.2.2.2.2.2.2.2.2.1 == bt253.2.2.2.2.2.2.2.2.2.1)))))) && (bt241.2.2.2.2.2.2.2.2.2.2.1 == bt253.2.2.2.2.2.2.2.2.2.2.1)))))) = true then (if bt241.2.2.2.2.2.2.2.2.2.2.2 = bt253.2.2.2.2.2.2.2.2.2.2.2 then ((lookasidelaw03_lives.f kj31).bind fun t265 => (some t265)) else (some false)) else (some false)))))))) = some r := H
            have A43 := Aside0.mk A430
            clear A430
            replace H := Option.bind_eq_some_iff.mp H
            obtain ⟨t211, A440, H⟩ := H
            replace H : (if (Int.tmod x4_31 128) < 64 then ((lookasideref01_Bit.f kj31 t210 (Int.tmod x4_31 128)).bind fun t212 => ((lookasideref01_Put.f kj31 t210 (Int.tmod x4_31 128) 1 (IntKind.u64.wrap (1 - t212))).bind fun t213 => ((tte_Read.f kj31 t213 t211 t200).bind fun bt214 => ((lookasideref03_Read.f kj31 t213 t211 t200).bind fun bt226 => (if (bt214.1 == bt226.1 && (bt214.2.1 == bt226.2.1 && (bt214.2.2.1 == bt226.2.2.1 && (bt214.2.2.2.1 == bt226.2.2.2.1 && ((bt214.2.2.2.2.1 == bt226.2.2.2.2.1 && (bt214.2.2.2.2.2.1 == bt226.2.2.2.2.2.1 && (bt214.2.2.2.2.2.2.1 == bt226.2.2.2.2.2.2.1 && (bt214.2.2.2.2.2.2.2.1 == bt226.2.2.2.2.2.2.2.1 && (bt214.2.2.2.2.2.2.2.2.1 == bt226.2.2.2.2.2.2.2.2.1 && (bt214.2.2.2.2.2.2.2.2.2.1 == bt226.2.2.2.2.2.2.2.2.2.1)))))) && (bt214.2.2.2.2.2.2.2.2.2.2.1 == bt226.2.2.2.2.2.2.2.2.2.2.1)))))) = true then (if bt214.2.2.2.2.2.2.2.2.2.2.2 = bt226.2.2.2.2.2.2.2.2.2.2.2 then ((lookasidelaw03_lives.f kj31).bind fun t238 => (some t238)) else (some false)) else (some false)))))) else ((lookasideref01_Bit.f kj31 t211 (wrap64 ((Int.tmod x4_31 128) - 64))).bind fun t239 => ((lookasideref01_Put.f kj31 t211 (wrap64 ((Int.tmod x4_31 128) - 64)) 1 (IntKind.u64.wrap (1 - t239))).bind fun t240 => ((tte_Read.f kj31 t210 t240 t200).bind fun bt241 => ((lookasideref03_Read.f kj31 t210 t240 t200).bind fun bt253 => (if (bt241.1 == bt253.1 && (bt241.2.1 == bt253.2.1 && (bt241.2.2.1 == bt253.2.2.1 && (bt241.2.2.2.1 == bt253.2.2.2.1 && ((bt241.2.2.2.2.1 == bt253.2.2.2.2.1 && (bt241.2.2.2.2.2.1 == bt253.2.2.2.2.2.1 && (bt241.2.2.2.2.2.2.1 == bt253.2.2.2.2.2.2.1 && (bt241.2.2.2.2.2.2.2.1 == bt253.2.2.2.2.2.2.2.1 && (bt241.2.2.2.2.2.2.2.2.1 == bt253.2.2.2.2.2.2.2.2.1 && (bt241.2.2.2.2.2.2.2.2.2.1 == bt253.2.2.2.2.2.2.2.2.2.1)))))) && (bt241.2.2.2.2.2.2.2.2.2.2.1 == bt253.2.2.2.2.2.2.2.2.2.2.1)))))) = true then (if bt241.2.2.2.2.2.2.2.2.2.2.2 = bt253.2.2.2.2.2.2.2.2.2.2.2 then ((lookasidelaw03_lives.f kj31).bind fun t265 => (some t265)) else (some false)) else (some false))))))) = some r := H
            have A44 := Aside0.mk A440
            clear A440
            by_cases c45 : (Int.tmod x4_31 128) < 64
            · rw [if_pos c45] at H
              have c45b0 : decide ((Int.tmod x4_31 128) < 64) = true := decide_eq_true c45
              clear c45
              replace H := Option.bind_eq_some_iff.mp H
              obtain ⟨t212, A460, H⟩ := H
              replace H : ((lookasideref01_Put.f kj31 t210 (Int.tmod x4_31 128) 1 (IntKind.u64.wrap (1 - t212))).bind fun t213 => ((tte_Read.f kj31 t213 t211 t200).bind fun bt214 => ((lookasideref03_Read.f kj31 t213 t211 t200).bind fun bt226 => (if (bt214.1 == bt226.1 && (bt214.2.1 == bt226.2.1 && (bt214.2.2.1 == bt226.2.2.1 && (bt214.2.2.2.1 == bt226.2.2.2.1 && ((bt214.2.2.2.2.1 == bt226.2.2.2.2.1 && (bt214.2.2.2.2.2.1 == bt226.2.2.2.2.2.1 && (bt214.2.2.2.2.2.2.1 == bt226.2.2.2.2.2.2.1 && (bt214.2.2.2.2.2.2.2.1 == bt226.2.2.2.2.2.2.2.1 && (bt214.2.2.2.2.2.2.2.2.1 == bt226.2.2.2.2.2.2.2.2.1 && (bt214.2.2.2.2.2.2.2.2.2.1 == bt226.2.2.2.2.2.2.2.2.2.1)))))) && (bt214.2.2.2.2.2.2.2.2.2.2.1 == bt226.2.2.2.2.2.2.2.2.2.2.1)))))) = true then (if bt214.2.2.2.2.2.2.2.2.2.2.2 = bt226.2.2.2.2.2.2.2.2.2.2.2 then ((lookasidelaw03_lives.f kj31).bind fun t238 => (some t238)) else (some false)) else (some false))))) = some r := H
              have A46 := Aside0.mk A460
              clear A460
              replace H := Option.bind_eq_some_iff.mp H
              obtain ⟨t213, A470, H⟩ := H
              replace H : ((tte_Read.f kj31 t213 t211 t200).bind fun bt214 => ((lookasideref03_Read.f kj31 t213 t211 t200).bind fun bt226 => (if (bt214.1 == bt226.1 && (bt214.2.1 == bt226.2.1 && (bt214.2.2.1 == bt226.2.2.1 && (bt214.2.2.2.1 == bt226.2.2.2.1 && ((bt214.2.2.2.2.1 == bt226.2.2.2.2.1 && (bt214.2.2.2.2.2.1 == bt226.2.2.2.2.2.1 && (bt214.2.2.2.2.2.2.1 == bt226.2.2.2.2.2.2.1 && (bt214.2.2.2.2.2.2.2.1 == bt226.2.2.2.2.2.2.2.1 && (bt214.2.2.2.2.2.2.2.2.1 == bt226.2.2.2.2.2.2.2.2.1 && (bt214.2.2.2.2.2.2.2.2.2.1 == bt226.2.2.2.2.2.2.2.2.2.1)))))) && (bt214.2.2.2.2.2.2.2.2.2.2.1 == bt226.2.2.2.2.2.2.2.2.2.2.1)))))) = true then (if bt214.2.2.2.2.2.2.2.2.2.2.2 = bt226.2.2.2.2.2.2.2.2.2.2.2 then ((lookasidelaw03_lives.f kj31).bind fun t238 => (some t238)) else (some false)) else (some false)))) = some r := H
              have A47 := Aside0.mk A470
              clear A470
              replace H := Option.bind_eq_some_iff.mp H
              obtain ⟨⟨t214, t215, t216, t217, t218, t219, t220, t221, t222, t223, t224, t225⟩, A480, H⟩ := H
              replace H : ((lookasideref03_Read.f kj31 t213 t211 t200).bind fun bt226 => (if (t214 == bt226.1 && (t215 == bt226.2.1 && (t216 == bt226.2.2.1 && (t217 == bt226.2.2.2.1 && ((t218 == bt226.2.2.2.2.1 && (t219 == bt226.2.2.2.2.2.1 && (t220 == bt226.2.2.2.2.2.2.1 && (t221 == bt226.2.2.2.2.2.2.2.1 && (t222 == bt226.2.2.2.2.2.2.2.2.1 && (t223 == bt226.2.2.2.2.2.2.2.2.2.1)))))) && (t224 == bt226.2.2.2.2.2.2.2.2.2.2.1)))))) = true then (if t225 = bt226.2.2.2.2.2.2.2.2.2.2.2 then ((lookasidelaw03_lives.f kj31).bind fun t238 => (some t238)) else (some false)) else (some false))) = some r := H
              have A48 := Aside0.mk A480
              clear A480
              replace H := Option.bind_eq_some_iff.mp H
              obtain ⟨⟨t226, t227, t228, t229, t230, t231, t232, t233, t234, t235, t236, t237⟩, A490, H⟩ := H
              replace H : (if (t214 == t226 && (t215 == t227 && (t216 == t228 && (t217 == t229 && ((t218 == t230 && (t219 == t231 && (t220 == t232 && (t221 == t233 && (t222 == t234 && (t223 == t235)))))) && (t224 == t236)))))) = true then (if t225 = t237 then ((lookasidelaw03_lives.f kj31).bind fun t238 => (some t238)) else (some false)) else (some false)) = some r := H
              have A49 := Aside0.mk A490
              clear A490
              by_cases c50 : (t214 == t226 && (t215 == t227 && (t216 == t228 && (t217 == t229 && ((t218 == t230 && (t219 == t231 && (t220 == t232 && (t221 == t233 && (t222 == t234 && (t223 == t235)))))) && (t224 == t236)))))) = true
              · rw [if_pos c50] at H
                have c50b0 : (t214 == t226 && (t215 == t227 && (t216 == t228 && (t217 == t229 && ((t218 == t230 && (t219 == t231 && (t220 == t232 && (t221 == t233 && (t222 == t234 && (t223 == t235)))))) && (t224 == t236)))))) = true := c50
                (try (have c50b1 : decide (t214 = t226 && (t215 == t227 && (t216 == t228 && (t217 == t229 && ((t218 == t230 && (t219 == t231 && (t220 == t232 && (t221 == t233 && (t222 == t234 && (t223 == t235)))))) && (t224 == t236)))))) = true := by simpa using c50))
                (try (have c50b2 : (t214 == t226 && (t215 == t227 && (t216 == t228 && (t217 == t229 && ((t218 == t230 && (t219 == t231 && (t220 == t232 && (t221 == t233 && (t222 == t234 && (t223 == t235)))))) && (t224 == t236)))))) = true := by simpa using c50))
                clear c50
                by_cases c51 : t225 = t237
                · rw [if_pos c51] at H
                  have c51b0 : (t225 == t237) = true := beq_iff_eq.mpr c51
                  have c51b1 : (t225 != t237) = false := bne_eq_false_iff_eq.mpr c51
                  clear c51
                  replace H := Option.bind_eq_some_iff.mp H
                  obtain ⟨t238, A520, H⟩ := H
                  replace H : (some t238) = some r := H
                  have A52 := Aside0.mk A520
                  clear A520
                  obtain rfl := Option.some.inj H
                  have hnb53 := NB209_171.out
                  have hnc53 := NB171_209.out
                  have hnb54 := NB209_184.out
                  have hnc54 := NB184_209.out
                  have hnb55 := NB209_197.out
                  have hnc55 := NB197_209.out
                  have hcz56_0 : wc.cell? ⟨gb209, 0, none⟩ = some (.int .i64 t198) := (blk_cell BK209.out 0).trans rfl
                  have hcz56_1 : wc.cell? ⟨gb209, 1, none⟩ = some (.int .i64 t199) := (blk_cell BK209.out 1).trans rfl
                  have hcz56_2 : wc.cell? ⟨gb209, 2, none⟩ = some (.int .u64 t200) := (blk_cell BK209.out 2).trans rfl
                  have hcz56_3 : wc.cell? ⟨gb209, 3, none⟩ = some (.int .u64 t201) := (blk_cell BK209.out 3).trans rfl
                  have hcz56_4 : wc.cell? ⟨gb209, 4, none⟩ = some (.bool t202) := (blk_cell BK209.out 4).trans rfl
                  have hcz56_5 : wc.cell? ⟨gb209, 5, none⟩ = some (.bool t203) := (blk_cell BK209.out 5).trans rfl
                  have hcz56_6 : wc.cell? ⟨gb209, 6, none⟩ = some (.bool t204) := (blk_cell BK209.out 6).trans rfl
                  have hcz56_7 : wc.cell? ⟨gb209, 7, none⟩ = some (.bool t205) := (blk_cell BK209.out 7).trans rfl
                  have hcz56_8 : wc.cell? ⟨gb209, 8, none⟩ = some (.bool t206) := (blk_cell BK209.out 8).trans rfl
                  have hcz56_9 : wc.cell? ⟨gb209, 9, none⟩ = some (.bool t207) := (blk_cell BK209.out 9).trans rfl
                  have hcz56_10 : wc.cell? ⟨gb209, 10, none⟩ = some (.bool t208) := (blk_cell BK209.out 10).trans rfl
                  have hfz56_0 := blk_frozen BK209.out 0
                  have hfz56_1 := blk_frozen BK209.out 1
                  have hfz56_2 := blk_frozen BK209.out 2
                  have hfz56_3 := blk_frozen BK209.out 3
                  have hfz56_4 := blk_frozen BK209.out 4
                  have hfz56_5 := blk_frozen BK209.out 5
                  have hfz56_6 := blk_frozen BK209.out 6
                  have hfz56_7 := blk_frozen BK209.out 7
                  have hfz56_8 := blk_frozen BK209.out 8
                  have hfz56_9 := blk_frozen BK209.out 9
                  have hfz56_10 := blk_frozen BK209.out 10
                  go_wp2_with (first | ((with_reducible refine gate_callee (f := 24) rfl ?_); refine goesL_ (some 50) rfl rfl Try.func24 (by kernel_rfl) rfl #[.agg #[.int .i64 t198, .int .i64 t199, .int .u64 t200, .int .u64 t201, .bool t202, .bool t203, .bool t204, .bool t205, .bool t206, .bool t207, .bool t208]] rfl (by (try simp only [List.map_toArray, List.map_cons, List.map_nil]); first | done | rfl | (simp only [List.length_drop, List.length_take]; rfl)) ?_; (with_reducible refine (lookasideref03_Tag.calls kj31 t198 t199 t200 t201 t202 t203 t204 t205 t206 t207 t208 t210 _ A43.out).mono ?_); rintro e w57 ⟨rfl, hb⟩; refine ⟨_, rfl, ?_⟩; have n0_ := Aside0.mk (bb10_ hb BK171.out); have n1_ := Aside0.mk (bb10_ hb BK184.out); have n2_ := Aside0.mk (bb10_ hb BK197.out); have n3_ := Aside0.mk (bb10_ hb BK209.out); have n4_ := Aside0.mk (below_step (by repeat (first | (with_reducible first | exact HB.out | apply below_alloc | apply pw_below_drewN | apply below_drew1 | refine below_set ?_ GE171.out | refine below_set ?_ GE184.out | refine below_set ?_ GE197.out | refine below_set ?_ GE209.out) | exact HB.out)) hb); clear BK171; clear BK184; clear BK197; clear BK209; clear HB; have BK171 := n0_; have BK184 := n1_; have BK197 := n2_; have BK209 := n3_; have HB := n4_; clear n0_ n1_ n2_ n3_ n4_; (try clear hb); (try clear hb2); (try clear hk); (try clear hi); have hcz58_0 : w57.cell? ⟨gb209, 0, none⟩ = some (.int .i64 t198) := (blk_cell BK209.out 0).trans rfl; have hcz58_1 : w57.cell? ⟨gb209, 1, none⟩ = some (.int .i64 t199) := (blk_cell BK209.out 1).trans rfl; have hcz58_2 : w57.cell? ⟨gb209, 2, none⟩ = some (.int .u64 t200) := (blk_cell BK209.out 2).trans rfl; have hcz58_3 : w57.cell? ⟨gb209, 3, none⟩ = some (.int .u64 t201) := (blk_cell BK209.out 3).trans rfl; have hcz58_4 : w57.cell? ⟨gb209, 4, none⟩ = some (.bool t202) := (blk_cell BK209.out 4).trans rfl; have hcz58_5 : w57.cell? ⟨gb209, 5, none⟩ = some (.bool t203) := (blk_cell BK209.out 5).trans rfl; have hcz58_6 : w57.cell? ⟨gb209, 6, none⟩ = some (.bool t204) := (blk_cell BK209.out 6).trans rfl; have hcz58_7 : w57.cell? ⟨gb209, 7, none⟩ = some (.bool t205) := (blk_cell BK209.out 7).trans rfl; have hcz58_8 : w57.cell? ⟨gb209, 8, none⟩ = some (.bool t206) := (blk_cell BK209.out 8).trans rfl; have hcz58_9 : w57.cell? ⟨gb209, 9, none⟩ = some (.bool t207) := (blk_cell BK209.out 9).trans rfl; have hcz58_10 : w57.cell? ⟨gb209, 10, none⟩ = some (.bool t208) := (blk_cell BK209.out 10).trans rfl; have hfz58_0 := blk_frozen BK209.out 0; have hfz58_1 := blk_frozen BK209.out 1; have hfz58_2 := blk_frozen BK209.out 2; have hfz58_3 := blk_frozen BK209.out 3; have hfz58_4 := blk_frozen BK209.out 4; have hfz58_5 := blk_frozen BK209.out 5; have hfz58_6 := blk_frozen BK209.out 6; have hfz58_7 := blk_frozen BK209.out 7; have hfz58_8 := blk_frozen BK209.out 8; have hfz58_9 := blk_frozen BK209.out 9; have hfz58_10 := blk_frozen BK209.out 10) | ((with_reducible refine gate_callee (f := 25) rfl ?_); refine goesL_ (some 52) rfl rfl Try.func25 (by kernel_rfl) rfl #[.agg #[.int .i64 t198, .int .i64 t199, .int .u64 t200, .int .u64 t201, .bool t202, .bool t203, .bool t204, .bool t205, .bool t206, .bool t207, .bool t208]] rfl (by (try simp only [List.map_toArray, List.map_cons, List.map_nil]); first | done | rfl | (simp only [List.length_drop, List.length_take]; rfl)) ?_; (with_reducible refine (lookasideref03_Data.calls kj31 t198 t199 t200 t201 t202 t203 t204 t205 t206 t207 t208 t211 _ A44.out).mono ?_); rintro e w59 ⟨rfl, hb⟩; refine ⟨_, rfl, ?_⟩; have n0_ := Aside0.mk (bb10_ hb BK171.out); have n1_ := Aside0.mk (bb10_ hb BK184.out); have n2_ := Aside0.mk (bb10_ hb BK197.out); have n3_ := Aside0.mk (bb10_ hb BK209.out); have n4_ := Aside0.mk (below_step (by repeat (first | (with_reducible first | exact HB.out | apply below_alloc | apply pw_below_drewN | apply below_drew1 | refine below_set ?_ GE171.out | refine below_set ?_ GE184.out | refine below_set ?_ GE197.out | refine below_set ?_ GE209.out) | exact HB.out)) hb); clear BK171; clear BK184; clear BK197; clear BK209; clear HB; have BK171 := n0_; have BK184 := n1_; have BK197 := n2_; have BK209 := n3_; have HB := n4_; clear n0_ n1_ n2_ n3_ n4_; (try clear hb); (try clear hb2); (try clear hk); (try clear hi)) | ((with_reducible refine gate_callee (f := 35) rfl ?_); refine goesL_ (some 59) rfl rfl Try.func35 (by kernel_rfl) rfl #[.int .u64 t210, .int .i64 (Int.tmod x4_31 128)] rfl (by (try simp only [List.map_toArray, List.map_cons, List.map_nil]); first | done | rfl | (simp only [List.length_drop, List.length_take]; rfl)) ?_; (with_reducible refine (lookasideref01_Bit.calls kj31 t210 (Int.tmod x4_31 128) t212 _ A46.out).mono ?_); rintro e w' ⟨rfl, ⟨nd, rfl⟩⟩; refine ⟨_, rfl, ?_⟩; (try (rw [drewN_self w59]; generalize hq_ : World.drewN w59 _ = w59; have n0_ : Aside0 (w59.heap[gb171]? = some (.cells #[.int .i64 a3_0, .int .i64 a3_1, .int .u64 a3_2, .int .u64 a3_3, .bool a3_4, .bool a3_5, .bool a3_6, .bool a3_7, .bool a3_8, .bool a3_9, .bool a3_10] 26 (0, 0))) := ⟨by rw [← hq_]; exact (by (with_reducible repeat (first | refine blk_drewN ?_ _ | refine blk_drew ?_ | refine blk_alloc ?_ _)); exact BK171.out)⟩; have n1_ : Aside0 (w59.heap[gb184]? = some (.cells #[.int .i64 t172, .int .i64 t173, .int .u64 t174, .int .u64 t175, .bool t176, .bool t177, .bool t178, .bool t179, .bool t180, .bool t181, .bool t182] 26 (0, 0))) := ⟨by rw [← hq_]; exact (by (with_reducible repeat (first | refine blk_drewN ?_ _ | refine blk_drew ?_ | refine blk_alloc ?_ _)); exact BK184.out)⟩; have n2_ : Aside0 (w59.heap[gb197]? = some (.cells #[.int .i64 t185, .int .i64 t186, .int .u64 t187, .int .u64 t188, .bool t189, .bool t190, .bool t191, .bool t192, .bool t193, .bool t194, .bool t195] 26 (0, 0))) := ⟨by rw [← hq_]; exact (by (with_reducible repeat (first | refine blk_drewN ?_ _ | refine blk_drew ?_ | refine blk_alloc ?_ _)); exact BK197.out)⟩; have n3_ : Aside0 (w59.heap[gb209]? = some (.cells #[.int .i64 t198, .int .i64 t199, .int .u64 t200, .int .u64 t201, .bool t202, .bool t203, .bool t204, .bool t205, .bool t206, .bool t207, .bool t208] 26 (0, 0))) := ⟨by rw [← hq_]; exact (by (with_reducible repeat (first | refine blk_drewN ?_ _ | refine blk_drew ?_ | refine blk_alloc ?_ _)); exact BK209.out)⟩; have n4_ : Aside0 (Below w.heap.size w w59) := ⟨by rw [← hq_]; exact (by repeat (first | (with_reducible first | exact HB.out | apply below_alloc | apply pw_below_drewN | apply below_drew1 | refine below_set ?_ GE171.out | refine below_set ?_ GE184.out | refine below_set ?_ GE197.out | refine below_set ?_ GE209.out) | exact HB.out))⟩; clear BK171 BK184 BK197 BK209 HB hq_; have BK171 := n0_; have BK184 := n1_; have BK197 := n2_; have BK209 := n3_; have HB := n4_; clear n0_ n1_ n2_ n3_ n4_))) | ((with_reducible refine gate_callee (f := 34) rfl ?_); refine goesL_ (some 61) rfl rfl Try.func34 (by kernel_rfl) rfl #[.int .u64 t210, .int .i64 (Int.tmod x4_31 128), .int .i64 1, .int .u64 (IntKind.u64.wrap (1 - t212))] rfl (by (try simp only [List.map_toArray, List.map_cons, List.map_nil]); first | done | rfl | (simp only [List.length_drop, List.length_take]; rfl)) ?_; (with_reducible refine (lookasideref01_Put.calls kj31 t210 (Int.tmod x4_31 128) 1 (IntKind.u64.wrap (1 - t212)) t213 _ A47.out).mono ?_); rintro e w' ⟨rfl, ⟨nd, rfl⟩⟩; refine ⟨_, rfl, ?_⟩; (try (rw [drewN_self w59]; generalize hq_ : World.drewN w59 _ = w59; have n0_ : Aside0 (w59.heap[gb171]? = some (.cells #[.int .i64 a3_0, .int .i64 a3_1, .int .u64 a3_2, .int .u64 a3_3, .bool a3_4, .bool a3_5, .bool a3_6, .bool a3_7, .bool a3_8, .bool a3_9, .bool a3_10] 26 (0, 0))) := ⟨by rw [← hq_]; exact (by (with_reducible repeat (first | refine blk_drewN ?_ _ | refine blk_drew ?_ | refine blk_alloc ?_ _)); exact BK171.out)⟩; have n1_ : Aside0 (w59.heap[gb184]? = some (.cells #[.int .i64 t172, .int .i64 t173, .int .u64 t174, .int .u64 t175, .bool t176, .bool t177, .bool t178, .bool t179, .bool t180, .bool t181, .bool t182] 26 (0, 0))) := ⟨by rw [← hq_]; exact (by (with_reducible repeat (first | refine blk_drewN ?_ _ | refine blk_drew ?_ | refine blk_alloc ?_ _)); exact BK184.out)⟩; have n2_ : Aside0 (w59.heap[gb197]? = some (.cells #[.int .i64 t185, .int .i64 t186, .int .u64 t187, .int .u64 t188, .bool t189, .bool t190, .bool t191, .bool t192, .bool t193, .bool t194, .bool t195] 26 (0, 0))) := ⟨by rw [← hq_]; exact (by (with_reducible repeat (first | refine blk_drewN ?_ _ | refine blk_drew ?_ | refine blk_alloc ?_ _)); exact BK197.out)⟩; have n3_ : Aside0 (w59.heap[gb209]? = some (.cells #[.int .i64 t198, .int .i64 t199, .int .u64 t200, .int .u64 t201, .bool t202, .bool t203, .bool t204, .bool t205, .bool t206, .bool t207, .bool t208] 26 (0, 0))) := ⟨by rw [← hq_]; exact (by (with_reducible repeat (first | refine blk_drewN ?_ _ | refine blk_drew ?_ | refine blk_alloc ?_ _)); exact BK209.out)⟩; have n4_ : Aside0 (Below w.heap.size w w59) := ⟨by rw [← hq_]; exact (by repeat (first | (with_reducible first | exact HB.out | apply below_alloc | apply pw_below_drewN | apply below_drew1 | refine below_set ?_ GE171.out | refine below_set ?_ GE184.out | refine below_set ?_ GE197.out | refine below_set ?_ GE209.out) | exact HB.out))⟩; clear BK171 BK184 BK197 BK209 HB hq_; have BK171 := n0_; have BK184 := n1_; have BK197 := n2_; have BK209 := n3_; have HB := n4_; clear n0_ n1_ n2_ n3_ n4_)); have hcz60_0 : w59.cell? ⟨gb209, 0, none⟩ = some (.int .i64 t198) := (blk_cell BK209.out 0).trans rfl; have hcz60_1 : w59.cell? ⟨gb209, 1, none⟩ = some (.int .i64 t199) := (blk_cell BK209.out 1).trans rfl; have hcz60_2 : w59.cell? ⟨gb209, 2, none⟩ = some (.int .u64 t200) := (blk_cell BK209.out 2).trans rfl; have hcz60_3 : w59.cell? ⟨gb209, 3, none⟩ = some (.int .u64 t201) := (blk_cell BK209.out 3).trans rfl; have hcz60_4 : w59.cell? ⟨gb209, 4, none⟩ = some (.bool t202) := (blk_cell BK209.out 4).trans rfl; have hcz60_5 : w59.cell? ⟨gb209, 5, none⟩ = some (.bool t203) := (blk_cell BK209.out 5).trans rfl; have hcz60_6 : w59.cell? ⟨gb209, 6, none⟩ = some (.bool t204) := (blk_cell BK209.out 6).trans rfl; have hcz60_7 : w59.cell? ⟨gb209, 7, none⟩ = some (.bool t205) := (blk_cell BK209.out 7).trans rfl; have hcz60_8 : w59.cell? ⟨gb209, 8, none⟩ = some (.bool t206) := (blk_cell BK209.out 8).trans rfl; have hcz60_9 : w59.cell? ⟨gb209, 9, none⟩ = some (.bool t207) := (blk_cell BK209.out 9).trans rfl; have hcz60_10 : w59.cell? ⟨gb209, 10, none⟩ = some (.bool t208) := (blk_cell BK209.out 10).trans rfl; have hfz60_0 := blk_frozen BK209.out 0; have hfz60_1 := blk_frozen BK209.out 1; have hfz60_2 := blk_frozen BK209.out 2; have hfz60_3 := blk_frozen BK209.out 3; have hfz60_4 := blk_frozen BK209.out 4; have hfz60_5 := blk_frozen BK209.out 5; have hfz60_6 := blk_frozen BK209.out 6; have hfz60_7 := blk_frozen BK209.out 7; have hfz60_8 := blk_frozen BK209.out 8; have hfz60_9 := blk_frozen BK209.out 9; have hfz60_10 := blk_frozen BK209.out 10) | ((with_reducible refine gate_callee (f := 32) rfl ?_); refine goesL_ (some 76) rfl rfl Try.func32 (by kernel_rfl) rfl #[.int .u64 t213, .int .u64 t211, .int .u64 t200] rfl (by (try simp only [List.map_toArray, List.map_cons, List.map_nil]); first | done | rfl | (simp only [List.length_drop, List.length_take]; rfl)) ?_; (with_reducible refine (tte_Read.calls kj31 t213 t211 t200 t214 t215 t216 t217 t218 t219 t220 t221 t222 t223 t224 t225 _ A48.out).mono ?_); rintro e w61 ⟨rfl, hb⟩; refine ⟨_, rfl, ?_⟩; have n0_ := Aside0.mk (bb10_ hb BK171.out); have n1_ := Aside0.mk (bb10_ hb BK184.out); have n2_ := Aside0.mk (bb10_ hb BK197.out); have n3_ := Aside0.mk (bb10_ hb BK209.out); have n4_ := Aside0.mk (below_step (by repeat (first | (with_reducible first | exact HB.out | apply below_alloc | apply pw_below_drewN | apply below_drew1 | refine below_set ?_ GE171.out | refine below_set ?_ GE184.out | refine below_set ?_ GE197.out | refine below_set ?_ GE209.out) | exact HB.out)) hb); clear BK171; clear BK184; clear BK197; clear BK209; clear HB; have BK171 := n0_; have BK184 := n1_; have BK197 := n2_; have BK209 := n3_; have HB := n4_; clear n0_ n1_ n2_ n3_ n4_; (try clear hb); (try clear hb2); (try clear hk); (try clear hi); have hnb62 := NB184_171.out; have hnc62 := NB171_184.out; have hnb63 := NB184_197.out; have hnc63 := NB197_184.out; have hcz64_0 : w61.cell? ⟨gb184, 0, none⟩ = some (.int .i64 t172) := (blk_cell BK184.out 0).trans rfl; have hcz64_1 : w61.cell? ⟨gb184, 1, none⟩ = some (.int .i64 t173) := (blk_cell BK184.out 1).trans rfl; have hcz64_2 : w61.cell? ⟨gb184, 2, none⟩ = some (.int .u64 t174) := (blk_cell BK184.out 2).trans rfl; have hcz64_3 : w61.cell? ⟨gb184, 3, none⟩ = some (.int .u64 t175) := (blk_cell BK184.out 3).trans rfl; have hcz64_4 : w61.cell? ⟨gb184, 4, none⟩ = some (.bool t176) := (blk_cell BK184.out 4).trans rfl; have hcz64_5 : w61.cell? ⟨gb184, 5, none⟩ = some (.bool t177) := (blk_cell BK184.out 5).trans rfl; have hcz64_6 : w61.cell? ⟨gb184, 6, none⟩ = some (.bool t178) := (blk_cell BK184.out 6).trans rfl; have hcz64_7 : w61.cell? ⟨gb184, 7, none⟩ = some (.bool t179) := (blk_cell BK184.out 7).trans rfl; have hcz64_8 : w61.cell? ⟨gb184, 8, none⟩ = some (.bool t180) := (blk_cell BK184.out 8).trans rfl; have hcz64_9 : w61.cell? ⟨gb184, 9, none⟩ = some (.bool t181) := (blk_cell BK184.out 9).trans rfl; have hcz64_10 : w61.cell? ⟨gb184, 10, none⟩ = some (.bool t182) := (blk_cell BK184.out 10).trans rfl; have hfz64_0 := blk_frozen BK184.out 0; have hfz64_1 := blk_frozen BK184.out 1; have hfz64_2 := blk_frozen BK184.out 2; have hfz64_3 := blk_frozen BK184.out 3; have hfz64_4 := blk_frozen BK184.out 4; have hfz64_5 := blk_frozen BK184.out 5; have hfz64_6 := blk_frozen BK184.out 6; have hfz64_7 := blk_frozen BK184.out 7; have hfz64_8 := blk_frozen BK184.out 8; have hfz64_9 := blk_frozen BK184.out 9; have hfz64_10 := blk_frozen BK184.out 10; have hcz65_0 : w61.cell? ⟨gb209, 0, none⟩ = some (.int .i64 t198) := (blk_cell BK209.out 0).trans rfl; have hcz65_1 : w61.cell? ⟨gb209, 1, none⟩ = some (.int .i64 t199) := (blk_cell BK209.out 1).trans rfl; have hcz65_2 : w61.cell? ⟨gb209, 2, none⟩ = some (.int .u64 t200) := (blk_cell BK209.out 2).trans rfl; have hcz65_3 : w61.cell? ⟨gb209, 3, none⟩ = some (.int .u64 t201) := (blk_cell BK209.out 3).trans rfl; have hcz65_4 : w61.cell? ⟨gb209, 4, none⟩ = some (.bool t202) := (blk_cell BK209.out 4).trans rfl; have hcz65_5 : w61.cell? ⟨gb209, 5, none⟩ = some (.bool t203) := (blk_cell BK209.out 5).trans rfl; have hcz65_6 : w61.cell? ⟨gb209, 6, none⟩ = some (.bool t204) := (blk_cell BK209.out 6).trans rfl; have hcz65_7 : w61.cell? ⟨gb209, 7, none⟩ = some (.bool t205) := (blk_cell BK209.out 7).trans rfl; have hcz65_8 : w61.cell? ⟨gb209, 8, none⟩ = some (.bool t206) := (blk_cell BK209.out 8).trans rfl; have hcz65_9 : w61.cell? ⟨gb209, 9, none⟩ = some (.bool t207) := (blk_cell BK209.out 9).trans rfl; have hcz65_10 : w61.cell? ⟨gb209, 10, none⟩ = some (.bool t208) := (blk_cell BK209.out 10).trans rfl; have hfz65_0 := blk_frozen BK209.out 0; have hfz65_1 := blk_frozen BK209.out 1; have hfz65_2 := blk_frozen BK209.out 2; have hfz65_3 := blk_frozen BK209.out 3; have hfz65_4 := blk_frozen BK209.out 4; have hfz65_5 := blk_frozen BK209.out 5; have hfz65_6 := blk_frozen BK209.out 6; have hfz65_7 := blk_frozen BK209.out 7; have hfz65_8 := blk_frozen BK209.out 8; have hfz65_9 := blk_frozen BK209.out 9; have hfz65_10 := blk_frozen BK209.out 10) | ((with_reducible refine gate_callee (f := 33) rfl ?_); refine goesL_ (some 84) rfl rfl Try.func33 (by kernel_rfl) rfl #[.int .u64 t213, .int .u64 t211, .int .u64 t200] rfl (by (try simp only [List.map_toArray, List.map_cons, List.map_nil]); first | done | rfl | (simp only [List.length_drop, List.length_take]; rfl)) ?_; (with_reducible refine (lookasideref03_Read.calls kj31 t213 t211 t200 t226 t227 t228 t229 t230 t231 t232 t233 t234 t235 t236 t237 _ A49.out).mono ?_); rintro e w66 ⟨rfl, hb⟩; refine ⟨_, rfl, ?_⟩; have n0_ := Aside0.mk (blk_below (g := gb171) (o := .cells #[.int .i64 a3_0, .int .i64 a3_1, .int .u64 a3_2, .int .u64 a3_3, .bool a3_4, .bool a3_5, .bool a3_6, .bool a3_7, .bool a3_8, .bool a3_9, .bool a3_10] 26 (0, 0)) (by (with_reducible repeat (first | refine blk_drewN ?_ _ | refine blk_drew ?_ | refine blk_alloc ?_ _)); refine blk_far ?_ NB171_184.out _; refine blk_far ?_ NB171_184.out _; refine blk_far ?_ NB171_184.out _; refine blk_far ?_ NB171_184.out _; refine blk_far ?_ NB171_184.out _; refine blk_far ?_ NB171_184.out _; refine blk_far ?_ NB171_184.out _; refine blk_far ?_ NB171_184.out _; refine blk_far ?_ NB171_184.out _; refine blk_far ?_ NB171_184.out _; refine blk_far ?_ NB171_184.out _; (with_reducible repeat (first | refine blk_drewN ?_ _ | refine blk_drew ?_ | refine blk_alloc ?_ _)); exact BK171.out) hb); have n1_ := Aside0.mk (blk_below (g := gb184) (o := .cells #[.int .i64 t214, .int .i64 t215, .int .u64 t216, .int .u64 t217, .bool t218, .bool t219, .bool t220, .bool t221, .bool t222, .bool t223, .bool t224] 26 (0, 0)) (by (with_reducible repeat (first | refine blk_drewN ?_ _ | refine blk_drew ?_ | refine blk_alloc ?_ _)); refine blk_put (cs := #[.int .i64 t214, .int .i64 t215, .int .u64 t216, .int .u64 t217, .bool t218, .bool t219, .bool t220, .bool t221, .bool t222, .bool t223, .bool t182]) ?_ 10 _ rfl; refine blk_put (cs := #[.int .i64 t214, .int .i64 t215, .int .u64 t216, .int .u64 t217, .bool t218, .bool t219, .bool t220, .bool t221, .bool t222, .bool t181, .bool t182]) ?_ 9 _ rfl; refine blk_put (cs := #[.int .i64 t214, .int .i64 t215, .int .u64 t216, .int .u64 t217, .bool t218, .bool t219, .bool t220, .bool t221, .bool t180, .bool t181, .bool t182]) ?_ 8 _ rfl; refine blk_put (cs := #[.int .i64 t214, .int .i64 t215, .int .u64 t216, .int .u64 t217, .bool t218, .bool t219, .bool t220, .bool t179, .bool t180, .bool t181, .bool t182]) ?_ 7 _ rfl; refine blk_put (cs := #[.int .i64 t214, .int .i64 t215, .int .u64 t216, .int .u64 t217, .bool t218, .bool t219, .bool t178, .bool t179, .bool t180, .bool t181, .bool t182]) ?_ 6 _ rfl; refine blk_put (cs := #[.int .i64 t214, .int .i64 t215, .int .u64 t216, .int .u64 t217, .bool t218, .bool t177, .bool t178, .bool t179, .bool t180, .bool t181, .bool t182]) ?_ 5 _ rfl; refine blk_put (cs := #[.int .i64 t214, .int .i64 t215, .int .u64 t216, .int .u64 t217, .bool t176, .bool t177, .bool t178, .bool t179, .bool t180, .bool t181, .bool t182]) ?_ 4 _ rfl; refine blk_put (cs := #[.int .i64 t214, .int .i64 t215, .int .u64 t216, .int .u64 t175, .bool t176, .bool t177, .bool t178, .bool t179, .bool t180, .bool t181, .bool t182]) ?_ 3 _ rfl; refine blk_put (cs := #[.int .i64 t214, .int .i64 t215, .int .u64 t174, .int .u64 t175, .bool t176, .bool t177, .bool t178, .bool t179, .bool t180, .bool t181, .bool t182]) ?_ 2 _ rfl; refine blk_put (cs := #[.int .i64 t214, .int .i64 t173, .int .u64 t174, .int .u64 t175, .bool t176, .bool t177, .bool t178, .bool t179, .bool t180, .bool t181, .bool t182]) ?_ 1 _ rfl; refine blk_put (cs := #[.int .i64 t172, .int .i64 t173, .int .u64 t174, .int .u64 t175, .bool t176, .bool t177, .bool t178, .bool t179, .bool t180, .bool t181, .bool t182]) ?_ 0 _ rfl; (with_reducible repeat (first | refine blk_drewN ?_ _ | refine blk_drew ?_ | refine blk_alloc ?_ _)); exact BK184.out) hb); have n2_ := Aside0.mk (blk_below (g := gb197) (o := .cells #[.int .i64 t185, .int .i64 t186, .int .u64 t187, .int .u64 t188, .bool t189, .bool t190, .bool t191, .bool t192, .bool t193, .bool t194, .bool t195] 26 (0, 0)) (by (with_reducible repeat (first | refine blk_drewN ?_ _ | refine blk_drew ?_ | refine blk_alloc ?_ _)); refine blk_far ?_ NB197_184.out _; refine blk_far ?_ NB197_184.out _; refine blk_far ?_ NB197_184.out _; refine blk_far ?_ NB197_184.out _; refine blk_far ?_ NB197_184.out _; refine blk_far ?_ NB197_184.out _; refine blk_far ?_ NB197_184.out _; refine blk_far ?_ NB197_184.out _; refine blk_far ?_ NB197_184.out _; refine blk_far ?_ NB197_184.out _; refine blk_far ?_ NB197_184.out _; (with_reducible repeat (first | refine blk_drewN ?_ _ | refine blk_drew ?_ | refine blk_alloc ?_ _)); exact BK197.out) hb); have n3_ := Aside0.mk (blk_below (g := gb209) (o := .cells #[.int .i64 t198, .int .i64 t199, .int .u64 t200, .int .u64 t201, .bool t202, .bool t203, .bool t204, .bool t205, .bool t206, .bool t207, .bool t208] 26 (0, 0)) (by (with_reducible repeat (first | refine blk_drewN ?_ _ | refine blk_drew ?_ | refine blk_alloc ?_ _)); refine blk_far ?_ NB209_184.out _; refine blk_far ?_ NB209_184.out _; refine blk_far ?_ NB209_184.out _; refine blk_far ?_ NB209_184.out _; refine blk_far ?_ NB209_184.out _; refine blk_far ?_ NB209_184.out _; refine blk_far ?_ NB209_184.out _; refine blk_far ?_ NB209_184.out _; refine blk_far ?_ NB209_184.out _; refine blk_far ?_ NB209_184.out _; refine blk_far ?_ NB209_184.out _; (with_reducible repeat (first | refine blk_drewN ?_ _ | refine blk_drew ?_ | refine blk_alloc ?_ _)); exact BK209.out) hb); have n4_ := Aside0.mk (below_step (by repeat (first | (with_reducible first | exact HB.out | apply below_alloc | apply pw_below_drewN | apply below_drew1 | refine below_set ?_ GE171.out | refine below_set ?_ GE184.out | refine below_set ?_ GE197.out | refine below_set ?_ GE209.out) | exact HB.out)) hb); clear BK171; clear BK184; clear BK197; clear BK209; clear HB; have BK171 := n0_; have BK184 := n1_; have BK197 := n2_; have BK209 := n3_; have HB := n4_; clear n0_ n1_ n2_ n3_ n4_; (try clear hb); (try clear hb2); (try clear hk); (try clear hi); have hnb67 := NB197_171.out; have hnc67 := NB171_197.out; have hcz68_0 : w66.cell? ⟨gb197, 0, none⟩ = some (.int .i64 t185) := (blk_cell BK197.out 0).trans rfl; have hcz68_1 : w66.cell? ⟨gb197, 1, none⟩ = some (.int .i64 t186) := (blk_cell BK197.out 1).trans rfl; have hcz68_2 : w66.cell? ⟨gb197, 2, none⟩ = some (.int .u64 t187) := (blk_cell BK197.out 2).trans rfl; have hcz68_3 : w66.cell? ⟨gb197, 3, none⟩ = some (.int .u64 t188) := (blk_cell BK197.out 3).trans rfl; have hcz68_4 : w66.cell? ⟨gb197, 4, none⟩ = some (.bool t189) := (blk_cell BK197.out 4).trans rfl; have hcz68_5 : w66.cell? ⟨gb197, 5, none⟩ = some (.bool t190) := (blk_cell BK197.out 5).trans rfl; have hcz68_6 : w66.cell? ⟨gb197, 6, none⟩ = some (.bool t191) := (blk_cell BK197.out 6).trans rfl; have hcz68_7 : w66.cell? ⟨gb197, 7, none⟩ = some (.bool t192) := (blk_cell BK197.out 7).trans rfl; have hcz68_8 : w66.cell? ⟨gb197, 8, none⟩ = some (.bool t193) := (blk_cell BK197.out 8).trans rfl; have hcz68_9 : w66.cell? ⟨gb197, 9, none⟩ = some (.bool t194) := (blk_cell BK197.out 9).trans rfl; have hcz68_10 : w66.cell? ⟨gb197, 10, none⟩ = some (.bool t195) := (blk_cell BK197.out 10).trans rfl; have hfz68_0 := blk_frozen BK197.out 0; have hfz68_1 := blk_frozen BK197.out 1; have hfz68_2 := blk_frozen BK197.out 2; have hfz68_3 := blk_frozen BK197.out 3; have hfz68_4 := blk_frozen BK197.out 4; have hfz68_5 := blk_frozen BK197.out 5; have hfz68_6 := blk_frozen BK197.out 6; have hfz68_7 := blk_frozen BK197.out 7; have hfz68_8 := blk_frozen BK197.out 8; have hfz68_9 := blk_frozen BK197.out 9; have hfz68_10 := blk_frozen BK197.out 10; have hcz69_0 : w66.cell? ⟨gb184, 0, none⟩ = some (.int .i64 t214) := (blk_cell BK184.out 0).trans rfl; have hcz69_1 : w66.cell? ⟨gb184, 1, none⟩ = some (.int .i64 t215) := (blk_cell BK184.out 1).trans rfl; have hcz69_2 : w66.cell? ⟨gb184, 2, none⟩ = some (.int .u64 t216) := (blk_cell BK184.out 2).trans rfl; have hcz69_3 : w66.cell? ⟨gb184, 3, none⟩ = some (.int .u64 t217) := (blk_cell BK184.out 3).trans rfl; have hcz69_4 : w66.cell? ⟨gb184, 4, none⟩ = some (.bool t218) := (blk_cell BK184.out 4).trans rfl; have hcz69_5 : w66.cell? ⟨gb184, 5, none⟩ = some (.bool t219) := (blk_cell BK184.out 5).trans rfl; have hcz69_6 : w66.cell? ⟨gb184, 6, none⟩ = some (.bool t220) := (blk_cell BK184.out 6).trans rfl; have hcz69_7 : w66.cell? ⟨gb184, 7, none⟩ = some (.bool t221) := (blk_cell BK184.out 7).trans rfl; have hcz69_8 : w66.cell? ⟨gb184, 8, none⟩ = some (.bool t222) := (blk_cell BK184.out 8).trans rfl; have hcz69_9 : w66.cell? ⟨gb184, 9, none⟩ = some (.bool t223) := (blk_cell BK184.out 9).trans rfl; have hcz69_10 : w66.cell? ⟨gb184, 10, none⟩ = some (.bool t224) := (blk_cell BK184.out 10).trans rfl; have hfz69_0 := blk_frozen BK184.out 0; have hfz69_1 := blk_frozen BK184.out 1; have hfz69_2 := blk_frozen BK184.out 2; have hfz69_3 := blk_frozen BK184.out 3; have hfz69_4 := blk_frozen BK184.out 4; have hfz69_5 := blk_frozen BK184.out 5; have hfz69_6 := blk_frozen BK184.out 6; have hfz69_7 := blk_frozen BK184.out 7; have hfz69_8 := blk_frozen BK184.out 8; have hfz69_9 := blk_frozen BK184.out 9; have hfz69_10 := blk_frozen BK184.out 10) | (go_at_call 17; (with_reducible refine (lookasidelaw03_lives.calls kj31  t238 _ A52.out).mono ?_); rintro e w70 ⟨rfl, hb⟩; have n0_ := Aside0.mk (blk_below (g := gb171) (o := .cells #[.int .i64 a3_0, .int .i64 a3_1, .int .u64 a3_2, .int .u64 a3_3, .bool a3_4, .bool a3_5, .bool a3_6, .bool a3_7, .bool a3_8, .bool a3_9, .bool a3_10] 26 (0, 0)) (by (with_reducible repeat (first | refine blk_drewN ?_ _ | refine blk_drew ?_ | refine blk_alloc ?_ _)); refine blk_far ?_ NB171_197.out _; refine blk_far ?_ NB171_197.out _; refine blk_far ?_ NB171_197.out _; refine blk_far ?_ NB171_197.out _; refine blk_far ?_ NB171_197.out _; refine blk_far ?_ NB171_197.out _; refine blk_far ?_ NB171_197.out _; refine blk_far ?_ NB171_197.out _; refine blk_far ?_ NB171_197.out _; refine blk_far ?_ NB171_197.out _; refine blk_far ?_ NB171_197.out _; (with_reducible repeat (first | refine blk_drewN ?_ _ | refine blk_drew ?_ | refine blk_alloc ?_ _)); exact BK171.out) hb); have n1_ := Aside0.mk (blk_below (g := gb184) (o := .cells #[.int .i64 t214, .int .i64 t215, .int .u64 t216, .int .u64 t217, .bool t218, .bool t219, .bool t220, .bool t221, .bool t222, .bool t223, .bool t224] 26 (0, 0)) (by (with_reducible repeat (first | refine blk_drewN ?_ _ | refine blk_drew ?_ | refine blk_alloc ?_ _)); refine blk_far ?_ NB184_197.out _; refine blk_far ?_ NB184_197.out _; refine blk_far ?_ NB184_197.out _; refine blk_far ?_ NB184_197.out _; refine blk_far ?_ NB184_197.out _; refine blk_far ?_ NB184_197.out _; refine blk_far ?_ NB184_197.out _; refine blk_far ?_ NB184_197.out _; refine blk_far ?_ NB184_197.out _; refine blk_far ?_ NB184_197.out _; refine blk_far ?_ NB184_197.out _; (with_reducible repeat (first | refine blk_drewN ?_ _ | refine blk_drew ?_ | refine blk_alloc ?_ _)); exact BK184.out) hb); have n2_ := Aside0.mk (blk_below (g := gb197) (o := .cells #[.int .i64 t226, .int .i64 t227, .int .u64 t228, .int .u64 t229, .bool t230, .bool t231, .bool t232, .bool t233, .bool t234, .bool t235, .bool t236] 26 (0, 0)) (by (with_reducible repeat (first | refine blk_drewN ?_ _ | refine blk_drew ?_ | refine blk_alloc ?_ _)); refine blk_put (cs := #[.int .i64 t226, .int .i64 t227, .int .u64 t228, .int .u64 t229, .bool t230, .bool t231, .bool t232, .bool t233, .bool t234, .bool t235, .bool t195]) ?_ 10 _ rfl; refine blk_put (cs := #[.int .i64 t226, .int .i64 t227, .int .u64 t228, .int .u64 t229, .bool t230, .bool t231, .bool t232, .bool t233, .bool t234, .bool t194, .bool t195]) ?_ 9 _ rfl; refine blk_put (cs := #[.int .i64 t226, .int .i64 t227, .int .u64 t228, .int .u64 t229, .bool t230, .bool t231, .bool t232, .bool t233, .bool t193, .bool t194, .bool t195]) ?_ 8 _ rfl; refine blk_put (cs := #[.int .i64 t226, .int .i64 t227, .int .u64 t228, .int .u64 t229, .bool t230, .bool t231, .bool t232, .bool t192, .bool t193, .bool t194, .bool t195]) ?_ 7 _ rfl; refine blk_put (cs := #[.int .i64 t226, .int .i64 t227, .int .u64 t228, .int .u64 t229, .bool t230, .bool t231, .bool t191, .bool t192, .bool t193, .bool t194, .bool t195]) ?_ 6 _ rfl; refine blk_put (cs := #[.int .i64 t226, .int .i64 t227, .int .u64 t228, .int .u64 t229, .bool t230, .bool t190, .bool t191, .bool t192, .bool t193, .bool t194, .bool t195]) ?_ 5 _ rfl; refine blk_put (cs := #[.int .i64 t226, .int .i64 t227, .int .u64 t228, .int .u64 t229, .bool t189, .bool t190, .bool t191, .bool t192, .bool t193, .bool t194, .bool t195]) ?_ 4 _ rfl; refine blk_put (cs := #[.int .i64 t226, .int .i64 t227, .int .u64 t228, .int .u64 t188, .bool t189, .bool t190, .bool t191, .bool t192, .bool t193, .bool t194, .bool t195]) ?_ 3 _ rfl; refine blk_put (cs := #[.int .i64 t226, .int .i64 t227, .int .u64 t187, .int .u64 t188, .bool t189, .bool t190, .bool t191, .bool t192, .bool t193, .bool t194, .bool t195]) ?_ 2 _ rfl; refine blk_put (cs := #[.int .i64 t226, .int .i64 t186, .int .u64 t187, .int .u64 t188, .bool t189, .bool t190, .bool t191, .bool t192, .bool t193, .bool t194, .bool t195]) ?_ 1 _ rfl; refine blk_put (cs := #[.int .i64 t185, .int .i64 t186, .int .u64 t187, .int .u64 t188, .bool t189, .bool t190, .bool t191, .bool t192, .bool t193, .bool t194, .bool t195]) ?_ 0 _ rfl; (with_reducible repeat (first | refine blk_drewN ?_ _ | refine blk_drew ?_ | refine blk_alloc ?_ _)); exact BK197.out) hb); have n3_ := Aside0.mk (blk_below (g := gb209) (o := .cells #[.int .i64 t198, .int .i64 t199, .int .u64 t200, .int .u64 t201, .bool t202, .bool t203, .bool t204, .bool t205, .bool t206, .bool t207, .bool t208] 26 (0, 0)) (by (with_reducible repeat (first | refine blk_drewN ?_ _ | refine blk_drew ?_ | refine blk_alloc ?_ _)); refine blk_far ?_ NB209_197.out _; refine blk_far ?_ NB209_197.out _; refine blk_far ?_ NB209_197.out _; refine blk_far ?_ NB209_197.out _; refine blk_far ?_ NB209_197.out _; refine blk_far ?_ NB209_197.out _; refine blk_far ?_ NB209_197.out _; refine blk_far ?_ NB209_197.out _; refine blk_far ?_ NB209_197.out _; refine blk_far ?_ NB209_197.out _; refine blk_far ?_ NB209_197.out _; (with_reducible repeat (first | refine blk_drewN ?_ _ | refine blk_drew ?_ | refine blk_alloc ?_ _)); exact BK209.out) hb); have n4_ := Aside0.mk (below_step (by repeat (first | (with_reducible first | exact HB.out | apply below_alloc | apply pw_below_drewN | apply below_drew1 | refine below_set ?_ GE171.out | refine below_set ?_ GE184.out | refine below_set ?_ GE197.out | refine below_set ?_ GE209.out) | exact HB.out)) hb); clear BK171; clear BK184; clear BK197; clear BK209; clear HB; have BK171 := n0_; have BK184 := n1_; have BK197 := n2_; have BK209 := n3_; have HB := n4_; clear n0_ n1_ n2_ n3_ n4_; (try clear hb); (try clear hb2); (try clear hk); (try clear hi)))
                  go_ret
                  exact ⟨by first | rfl | (simp [errW_none, errW_some] <;> rfl) | (simp [*, errW_none, errW_some] <;> rfl), by repeat (first | (with_reducible first | exact HB.out | apply below_alloc | apply pw_below_drewN | apply below_drew1 | refine below_set ?_ GE171.out | refine below_set ?_ GE184.out | refine below_set ?_ GE197.out | refine below_set ?_ GE209.out) | exact HB.out)⟩
                · rw [if_neg c51] at H
                  have c51b0 : (t225 == t237) = false := beq_eq_false_iff_ne.mpr c51
                  have c51b1 : (t225 != t237) = true := bne_iff_ne.mpr c51
                  exact absurd ((Option.some.inj H).trans hr_.out) (by decide)
              · rw [if_neg c50] at H
                have c50b0 : (t214 == t226 && (t215 == t227 && (t216 == t228 && (t217 == t229 && ((t218 == t230 && (t219 == t231 && (t220 == t232 && (t221 == t233 && (t222 == t234 && (t223 == t235)))))) && (t224 == t236)))))) = false := by simpa using c50
                (try (have c50b1 : decide (t214 = t226 && (t215 == t227 && (t216 == t228 && (t217 == t229 && ((t218 == t230 && (t219 == t231 && (t220 == t232 && (t221 == t233 && (t222 == t234 && (t223 == t235)))))) && (t224 == t236)))))) = false := by simpa using c50))
                (try (have c50b2 : (t214 == t226 && (t215 == t227 && (t216 == t228 && (t217 == t229 && ((t218 == t230 && (t219 == t231 && (t220 == t232 && (t221 == t233 && (t222 == t234 && (t223 == t235)))))) && (t224 == t236)))))) = false := by simpa using c50))
                (try (have c50b3 : ¬ (t214 = t226 && (t215 == t227 && (t216 == t228 && (t217 == t229 && ((t218 == t230 && (t219 == t231 && (t220 == t232 && (t221 == t233 && (t222 == t234 && (t223 == t235)))))) && (t224 == t236)))))) := by simpa using c50))
                clear c50
                exact absurd ((Option.some.inj H).trans hr_.out) (by decide)
            · rw [if_neg c45] at H
              have c45b0 : decide ((Int.tmod x4_31 128) < 64) = false := decide_eq_false c45
              clear c45
              replace H := Option.bind_eq_some_iff.mp H
              obtain ⟨t239, A710, H⟩ := H
              replace H : ((lookasideref01_Put.f kj31 t211 (wrap64 ((Int.tmod x4_31 128) - 64)) 1 (IntKind.u64.wrap (1 - t239))).bind fun t240 => ((tte_Read.f kj31 t210 t240 t200).bind fun bt241 => ((lookasideref03_Read.f kj31 t210 t240 t200).bind fun bt253 => (if (bt241.1 == bt253.1 && (bt241.2.1 == bt253.2.1 && (bt241.2.2.1 == bt253.2.2.1 && (bt241.2.2.2.1 == bt253.2.2.2.1 && ((bt241.2.2.2.2.1 == bt253.2.2.2.2.1 && (bt241.2.2.2.2.2.1 == bt253.2.2.2.2.2.1 && (bt241.2.2.2.2.2.2.1 == bt253.2.2.2.2.2.2.1 && (bt241.2.2.2.2.2.2.2.1 == bt253.2.2.2.2.2.2.2.1 && (bt241.2.2.2.2.2.2.2.2.1 == bt253.2.2.2.2.2.2.2.2.1 && (bt241.2.2.2.2.2.2.2.2.2.1 == bt253.2.2.2.2.2.2.2.2.2.1)))))) && (bt241.2.2.2.2.2.2.2.2.2.2.1 == bt253.2.2.2.2.2.2.2.2.2.2.1)))))) = true then (if bt241.2.2.2.2.2.2.2.2.2.2.2 = bt253.2.2.2.2.2.2.2.2.2.2.2 then ((lookasidelaw03_lives.f kj31).bind fun t265 => (some t265)) else (some false)) else (some false))))) = some r := H
              have A71 := Aside0.mk A710
              clear A710
              replace H := Option.bind_eq_some_iff.mp H
              obtain ⟨t240, A720, H⟩ := H
              replace H : ((tte_Read.f kj31 t210 t240 t200).bind fun bt241 => ((lookasideref03_Read.f kj31 t210 t240 t200).bind fun bt253 => (if (bt241.1 == bt253.1 && (bt241.2.1 == bt253.2.1 && (bt241.2.2.1 == bt253.2.2.1 && (bt241.2.2.2.1 == bt253.2.2.2.1 && ((bt241.2.2.2.2.1 == bt253.2.2.2.2.1 && (bt241.2.2.2.2.2.1 == bt253.2.2.2.2.2.1 && (bt241.2.2.2.2.2.2.1 == bt253.2.2.2.2.2.2.1 && (bt241.2.2.2.2.2.2.2.1 == bt253.2.2.2.2.2.2.2.1 && (bt241.2.2.2.2.2.2.2.2.1 == bt253.2.2.2.2.2.2.2.2.1 && (bt241.2.2.2.2.2.2.2.2.2.1 == bt253.2.2.2.2.2.2.2.2.2.1)))))) && (bt241.2.2.2.2.2.2.2.2.2.2.1 == bt253.2.2.2.2.2.2.2.2.2.2.1)))))) = true then (if bt241.2.2.2.2.2.2.2.2.2.2.2 = bt253.2.2.2.2.2.2.2.2.2.2.2 then ((lookasidelaw03_lives.f kj31).bind fun t265 => (some t265)) else (some false)) else (some false)))) = some r := H
              have A72 := Aside0.mk A720
              clear A720
              replace H := Option.bind_eq_some_iff.mp H
              obtain ⟨⟨t241, t242, t243, t244, t245, t246, t247, t248, t249, t250, t251, t252⟩, A730, H⟩ := H
              replace H : ((lookasideref03_Read.f kj31 t210 t240 t200).bind fun bt253 => (if (t241 == bt253.1 && (t242 == bt253.2.1 && (t243 == bt253.2.2.1 && (t244 == bt253.2.2.2.1 && ((t245 == bt253.2.2.2.2.1 && (t246 == bt253.2.2.2.2.2.1 && (t247 == bt253.2.2.2.2.2.2.1 && (t248 == bt253.2.2.2.2.2.2.2.1 && (t249 == bt253.2.2.2.2.2.2.2.2.1 && (t250 == bt253.2.2.2.2.2.2.2.2.2.1)))))) && (t251 == bt253.2.2.2.2.2.2.2.2.2.2.1)))))) = true then (if t252 = bt253.2.2.2.2.2.2.2.2.2.2.2 then ((lookasidelaw03_lives.f kj31).bind fun t265 => (some t265)) else (some false)) else (some false))) = some r := H
              have A73 := Aside0.mk A730
              clear A730
              replace H := Option.bind_eq_some_iff.mp H
              obtain ⟨⟨t253, t254, t255, t256, t257, t258, t259, t260, t261, t262, t263, t264⟩, A740, H⟩ := H
              replace H : (if (t241 == t253 && (t242 == t254 && (t243 == t255 && (t244 == t256 && ((t245 == t257 && (t246 == t258 && (t247 == t259 && (t248 == t260 && (t249 == t261 && (t250 == t262)))))) && (t251 == t263)))))) = true then (if t252 = t264 then ((lookasidelaw03_lives.f kj31).bind fun t265 => (some t265)) else (some false)) else (some false)) = some r := H
              have A74 := Aside0.mk A740
              clear A740
              by_cases c75 : (t241 == t253 && (t242 == t254 && (t243 == t255 && (t244 == t256 && ((t245 == t257 && (t246 == t258 && (t247 == t259 && (t248 == t260 && (t249 == t261 && (t250 == t262)))))) && (t251 == t263)))))) = true
              · rw [if_pos c75] at H
                have c75b0 : (t241 == t253 && (t242 == t254 && (t243 == t255 && (t244 == t256 && ((t245 == t257 && (t246 == t258 && (t247 == t259 && (t248 == t260 && (t249 == t261 && (t250 == t262)))))) && (t251 == t263)))))) = true := c75
                (try (have c75b1 : decide (t241 = t253 && (t242 == t254 && (t243 == t255 && (t244 == t256 && ((t245 == t257 && (t246 == t258 && (t247 == t259 && (t248 == t260 && (t249 == t261 && (t250 == t262)))))) && (t251 == t263)))))) = true := by simpa using c75))
                (try (have c75b2 : (t241 == t253 && (t242 == t254 && (t243 == t255 && (t244 == t256 && ((t245 == t257 && (t246 == t258 && (t247 == t259 && (t248 == t260 && (t249 == t261 && (t250 == t262)))))) && (t251 == t263)))))) = true := by simpa using c75))
                clear c75
                by_cases c76 : t252 = t264
                · rw [if_pos c76] at H
                  have c76b0 : (t252 == t264) = true := beq_iff_eq.mpr c76
                  have c76b1 : (t252 != t264) = false := bne_eq_false_iff_eq.mpr c76
                  clear c76
                  replace H := Option.bind_eq_some_iff.mp H
                  obtain ⟨t265, A770, H⟩ := H
                  replace H : (some t265) = some r := H
                  have A77 := Aside0.mk A770
                  clear A770
                  obtain rfl := Option.some.inj H
                  have hnb78 := NB209_171.out
                  have hnc78 := NB171_209.out
                  have hnb79 := NB209_184.out
                  have hnc79 := NB184_209.out
                  have hnb80 := NB209_197.out
                  have hnc80 := NB197_209.out
                  have hcz81_0 : wc.cell? ⟨gb209, 0, none⟩ = some (.int .i64 t198) := (blk_cell BK209.out 0).trans rfl
                  have hcz81_1 : wc.cell? ⟨gb209, 1, none⟩ = some (.int .i64 t199) := (blk_cell BK209.out 1).trans rfl
                  have hcz81_2 : wc.cell? ⟨gb209, 2, none⟩ = some (.int .u64 t200) := (blk_cell BK209.out 2).trans rfl
                  have hcz81_3 : wc.cell? ⟨gb209, 3, none⟩ = some (.int .u64 t201) := (blk_cell BK209.out 3).trans rfl
                  have hcz81_4 : wc.cell? ⟨gb209, 4, none⟩ = some (.bool t202) := (blk_cell BK209.out 4).trans rfl
                  have hcz81_5 : wc.cell? ⟨gb209, 5, none⟩ = some (.bool t203) := (blk_cell BK209.out 5).trans rfl
                  have hcz81_6 : wc.cell? ⟨gb209, 6, none⟩ = some (.bool t204) := (blk_cell BK209.out 6).trans rfl
                  have hcz81_7 : wc.cell? ⟨gb209, 7, none⟩ = some (.bool t205) := (blk_cell BK209.out 7).trans rfl
                  have hcz81_8 : wc.cell? ⟨gb209, 8, none⟩ = some (.bool t206) := (blk_cell BK209.out 8).trans rfl
                  have hcz81_9 : wc.cell? ⟨gb209, 9, none⟩ = some (.bool t207) := (blk_cell BK209.out 9).trans rfl
                  have hcz81_10 : wc.cell? ⟨gb209, 10, none⟩ = some (.bool t208) := (blk_cell BK209.out 10).trans rfl
                  have hfz81_0 := blk_frozen BK209.out 0
                  have hfz81_1 := blk_frozen BK209.out 1
                  have hfz81_2 := blk_frozen BK209.out 2
                  have hfz81_3 := blk_frozen BK209.out 3
                  have hfz81_4 := blk_frozen BK209.out 4
                  have hfz81_5 := blk_frozen BK209.out 5
                  have hfz81_6 := blk_frozen BK209.out 6
                  have hfz81_7 := blk_frozen BK209.out 7
                  have hfz81_8 := blk_frozen BK209.out 8
                  have hfz81_9 := blk_frozen BK209.out 9
                  have hfz81_10 := blk_frozen BK209.out 10
                  go_wp2_with (first | ((with_reducible refine gate_callee (f := 24) rfl ?_); refine goesL_ (some 50) rfl rfl Try.func24 (by kernel_rfl) rfl #[.agg #[.int .i64 t198, .int .i64 t199, .int .u64 t200, .int .u64 t201, .bool t202, .bool t203, .bool t204, .bool t205, .bool t206, .bool t207, .bool t208]] rfl (by (try simp only [List.map_toArray, List.map_cons, List.map_nil]); first | done | rfl | (simp only [List.length_drop, List.length_take]; rfl)) ?_; (with_reducible refine (lookasideref03_Tag.calls kj31 t198 t199 t200 t201 t202 t203 t204 t205 t206 t207 t208 t210 _ A43.out).mono ?_); rintro e w82 ⟨rfl, hb⟩; refine ⟨_, rfl, ?_⟩; have n0_ := Aside0.mk (bb10_ hb BK171.out); have n1_ := Aside0.mk (bb10_ hb BK184.out); have n2_ := Aside0.mk (bb10_ hb BK197.out); have n3_ := Aside0.mk (bb10_ hb BK209.out); have n4_ := Aside0.mk (below_step (by repeat (first | (with_reducible first | exact HB.out | apply below_alloc | apply pw_below_drewN | apply below_drew1 | refine below_set ?_ GE171.out | refine below_set ?_ GE184.out | refine below_set ?_ GE197.out | refine below_set ?_ GE209.out) | exact HB.out)) hb); clear BK171; clear BK184; clear BK197; clear BK209; clear HB; have BK171 := n0_; have BK184 := n1_; have BK197 := n2_; have BK209 := n3_; have HB := n4_; clear n0_ n1_ n2_ n3_ n4_; (try clear hb); (try clear hb2); (try clear hk); (try clear hi); have hcz83_0 : w82.cell? ⟨gb209, 0, none⟩ = some (.int .i64 t198) := (blk_cell BK209.out 0).trans rfl; have hcz83_1 : w82.cell? ⟨gb209, 1, none⟩ = some (.int .i64 t199) := (blk_cell BK209.out 1).trans rfl; have hcz83_2 : w82.cell? ⟨gb209, 2, none⟩ = some (.int .u64 t200) := (blk_cell BK209.out 2).trans rfl; have hcz83_3 : w82.cell? ⟨gb209, 3, none⟩ = some (.int .u64 t201) := (blk_cell BK209.out 3).trans rfl; have hcz83_4 : w82.cell? ⟨gb209, 4, none⟩ = some (.bool t202) := (blk_cell BK209.out 4).trans rfl; have hcz83_5 : w82.cell? ⟨gb209, 5, none⟩ = some (.bool t203) := (blk_cell BK209.out 5).trans rfl; have hcz83_6 : w82.cell? ⟨gb209, 6, none⟩ = some (.bool t204) := (blk_cell BK209.out 6).trans rfl; have hcz83_7 : w82.cell? ⟨gb209, 7, none⟩ = some (.bool t205) := (blk_cell BK209.out 7).trans rfl; have hcz83_8 : w82.cell? ⟨gb209, 8, none⟩ = some (.bool t206) := (blk_cell BK209.out 8).trans rfl; have hcz83_9 : w82.cell? ⟨gb209, 9, none⟩ = some (.bool t207) := (blk_cell BK209.out 9).trans rfl; have hcz83_10 : w82.cell? ⟨gb209, 10, none⟩ = some (.bool t208) := (blk_cell BK209.out 10).trans rfl; have hfz83_0 := blk_frozen BK209.out 0; have hfz83_1 := blk_frozen BK209.out 1; have hfz83_2 := blk_frozen BK209.out 2; have hfz83_3 := blk_frozen BK209.out 3; have hfz83_4 := blk_frozen BK209.out 4; have hfz83_5 := blk_frozen BK209.out 5; have hfz83_6 := blk_frozen BK209.out 6; have hfz83_7 := blk_frozen BK209.out 7; have hfz83_8 := blk_frozen BK209.out 8; have hfz83_9 := blk_frozen BK209.out 9; have hfz83_10 := blk_frozen BK209.out 10) | ((with_reducible refine gate_callee (f := 25) rfl ?_); refine goesL_ (some 52) rfl rfl Try.func25 (by kernel_rfl) rfl #[.agg #[.int .i64 t198, .int .i64 t199, .int .u64 t200, .int .u64 t201, .bool t202, .bool t203, .bool t204, .bool t205, .bool t206, .bool t207, .bool t208]] rfl (by (try simp only [List.map_toArray, List.map_cons, List.map_nil]); first | done | rfl | (simp only [List.length_drop, List.length_take]; rfl)) ?_; (with_reducible refine (lookasideref03_Data.calls kj31 t198 t199 t200 t201 t202 t203 t204 t205 t206 t207 t208 t211 _ A44.out).mono ?_); rintro e w84 ⟨rfl, hb⟩; refine ⟨_, rfl, ?_⟩; have n0_ := Aside0.mk (bb10_ hb BK171.out); have n1_ := Aside0.mk (bb10_ hb BK184.out); have n2_ := Aside0.mk (bb10_ hb BK197.out); have n3_ := Aside0.mk (bb10_ hb BK209.out); have n4_ := Aside0.mk (below_step (by repeat (first | (with_reducible first | exact HB.out | apply below_alloc | apply pw_below_drewN | apply below_drew1 | refine below_set ?_ GE171.out | refine below_set ?_ GE184.out | refine below_set ?_ GE197.out | refine below_set ?_ GE209.out) | exact HB.out)) hb); clear BK171; clear BK184; clear BK197; clear BK209; clear HB; have BK171 := n0_; have BK184 := n1_; have BK197 := n2_; have BK209 := n3_; have HB := n4_; clear n0_ n1_ n2_ n3_ n4_; (try clear hb); (try clear hb2); (try clear hk); (try clear hi)) | ((with_reducible refine gate_callee (f := 35) rfl ?_); refine goesL_ (some 68) rfl rfl Try.func35 (by kernel_rfl) rfl #[.int .u64 t211, .int .i64 (wrap64 ((Int.tmod x4_31 128) - 64))] rfl (by (try simp only [List.map_toArray, List.map_cons, List.map_nil]); first | done | rfl | (simp only [List.length_drop, List.length_take]; rfl)) ?_; (with_reducible refine (lookasideref01_Bit.calls kj31 t211 (wrap64 ((Int.tmod x4_31 128) - 64)) t239 _ A71.out).mono ?_); rintro e w' ⟨rfl, ⟨nd, rfl⟩⟩; refine ⟨_, rfl, ?_⟩; (try (rw [drewN_self w84]; generalize hq_ : World.drewN w84 _ = w84; have n0_ : Aside0 (w84.heap[gb171]? = some (.cells #[.int .i64 a3_0, .int .i64 a3_1, .int .u64 a3_2, .int .u64 a3_3, .bool a3_4, .bool a3_5, .bool a3_6, .bool a3_7, .bool a3_8, .bool a3_9, .bool a3_10] 26 (0, 0))) := ⟨by rw [← hq_]; exact (by (with_reducible repeat (first | refine blk_drewN ?_ _ | refine blk_drew ?_ | refine blk_alloc ?_ _)); exact BK171.out)⟩; have n1_ : Aside0 (w84.heap[gb184]? = some (.cells #[.int .i64 t172, .int .i64 t173, .int .u64 t174, .int .u64 t175, .bool t176, .bool t177, .bool t178, .bool t179, .bool t180, .bool t181, .bool t182] 26 (0, 0))) := ⟨by rw [← hq_]; exact (by (with_reducible repeat (first | refine blk_drewN ?_ _ | refine blk_drew ?_ | refine blk_alloc ?_ _)); exact BK184.out)⟩; have n2_ : Aside0 (w84.heap[gb197]? = some (.cells #[.int .i64 t185, .int .i64 t186, .int .u64 t187, .int .u64 t188, .bool t189, .bool t190, .bool t191, .bool t192, .bool t193, .bool t194, .bool t195] 26 (0, 0))) := ⟨by rw [← hq_]; exact (by (with_reducible repeat (first | refine blk_drewN ?_ _ | refine blk_drew ?_ | refine blk_alloc ?_ _)); exact BK197.out)⟩; have n3_ : Aside0 (w84.heap[gb209]? = some (.cells #[.int .i64 t198, .int .i64 t199, .int .u64 t200, .int .u64 t201, .bool t202, .bool t203, .bool t204, .bool t205, .bool t206, .bool t207, .bool t208] 26 (0, 0))) := ⟨by rw [← hq_]; exact (by (with_reducible repeat (first | refine blk_drewN ?_ _ | refine blk_drew ?_ | refine blk_alloc ?_ _)); exact BK209.out)⟩; have n4_ : Aside0 (Below w.heap.size w w84) := ⟨by rw [← hq_]; exact (by repeat (first | (with_reducible first | exact HB.out | apply below_alloc | apply pw_below_drewN | apply below_drew1 | refine below_set ?_ GE171.out | refine below_set ?_ GE184.out | refine below_set ?_ GE197.out | refine below_set ?_ GE209.out) | exact HB.out))⟩; clear BK171 BK184 BK197 BK209 HB hq_; have BK171 := n0_; have BK184 := n1_; have BK197 := n2_; have BK209 := n3_; have HB := n4_; clear n0_ n1_ n2_ n3_ n4_))) | ((with_reducible refine gate_callee (f := 34) rfl ?_); refine goesL_ (some 70) rfl rfl Try.func34 (by kernel_rfl) rfl #[.int .u64 t211, .int .i64 (wrap64 ((Int.tmod x4_31 128) - 64)), .int .i64 1, .int .u64 (IntKind.u64.wrap (1 - t239))] rfl (by (try simp only [List.map_toArray, List.map_cons, List.map_nil]); first | done | rfl | (simp only [List.length_drop, List.length_take]; rfl)) ?_; (with_reducible refine (lookasideref01_Put.calls kj31 t211 (wrap64 ((Int.tmod x4_31 128) - 64)) 1 (IntKind.u64.wrap (1 - t239)) t240 _ A72.out).mono ?_); rintro e w' ⟨rfl, ⟨nd, rfl⟩⟩; refine ⟨_, rfl, ?_⟩; (try (rw [drewN_self w84]; generalize hq_ : World.drewN w84 _ = w84; have n0_ : Aside0 (w84.heap[gb171]? = some (.cells #[.int .i64 a3_0, .int .i64 a3_1, .int .u64 a3_2, .int .u64 a3_3, .bool a3_4, .bool a3_5, .bool a3_6, .bool a3_7, .bool a3_8, .bool a3_9, .bool a3_10] 26 (0, 0))) := ⟨by rw [← hq_]; exact (by (with_reducible repeat (first | refine blk_drewN ?_ _ | refine blk_drew ?_ | refine blk_alloc ?_ _)); exact BK171.out)⟩; have n1_ : Aside0 (w84.heap[gb184]? = some (.cells #[.int .i64 t172, .int .i64 t173, .int .u64 t174, .int .u64 t175, .bool t176, .bool t177, .bool t178, .bool t179, .bool t180, .bool t181, .bool t182] 26 (0, 0))) := ⟨by rw [← hq_]; exact (by (with_reducible repeat (first | refine blk_drewN ?_ _ | refine blk_drew ?_ | refine blk_alloc ?_ _)); exact BK184.out)⟩; have n2_ : Aside0 (w84.heap[gb197]? = some (.cells #[.int .i64 t185, .int .i64 t186, .int .u64 t187, .int .u64 t188, .bool t189, .bool t190, .bool t191, .bool t192, .bool t193, .bool t194, .bool t195] 26 (0, 0))) := ⟨by rw [← hq_]; exact (by (with_reducible repeat (first | refine blk_drewN ?_ _ | refine blk_drew ?_ | refine blk_alloc ?_ _)); exact BK197.out)⟩; have n3_ : Aside0 (w84.heap[gb209]? = some (.cells #[.int .i64 t198, .int .i64 t199, .int .u64 t200, .int .u64 t201, .bool t202, .bool t203, .bool t204, .bool t205, .bool t206, .bool t207, .bool t208] 26 (0, 0))) := ⟨by rw [← hq_]; exact (by (with_reducible repeat (first | refine blk_drewN ?_ _ | refine blk_drew ?_ | refine blk_alloc ?_ _)); exact BK209.out)⟩; have n4_ : Aside0 (Below w.heap.size w w84) := ⟨by rw [← hq_]; exact (by repeat (first | (with_reducible first | exact HB.out | apply below_alloc | apply pw_below_drewN | apply below_drew1 | refine below_set ?_ GE171.out | refine below_set ?_ GE184.out | refine below_set ?_ GE197.out | refine below_set ?_ GE209.out) | exact HB.out))⟩; clear BK171 BK184 BK197 BK209 HB hq_; have BK171 := n0_; have BK184 := n1_; have BK197 := n2_; have BK209 := n3_; have HB := n4_; clear n0_ n1_ n2_ n3_ n4_)); have hcz85_0 : w84.cell? ⟨gb209, 0, none⟩ = some (.int .i64 t198) := (blk_cell BK209.out 0).trans rfl; have hcz85_1 : w84.cell? ⟨gb209, 1, none⟩ = some (.int .i64 t199) := (blk_cell BK209.out 1).trans rfl; have hcz85_2 : w84.cell? ⟨gb209, 2, none⟩ = some (.int .u64 t200) := (blk_cell BK209.out 2).trans rfl; have hcz85_3 : w84.cell? ⟨gb209, 3, none⟩ = some (.int .u64 t201) := (blk_cell BK209.out 3).trans rfl; have hcz85_4 : w84.cell? ⟨gb209, 4, none⟩ = some (.bool t202) := (blk_cell BK209.out 4).trans rfl; have hcz85_5 : w84.cell? ⟨gb209, 5, none⟩ = some (.bool t203) := (blk_cell BK209.out 5).trans rfl; have hcz85_6 : w84.cell? ⟨gb209, 6, none⟩ = some (.bool t204) := (blk_cell BK209.out 6).trans rfl; have hcz85_7 : w84.cell? ⟨gb209, 7, none⟩ = some (.bool t205) := (blk_cell BK209.out 7).trans rfl; have hcz85_8 : w84.cell? ⟨gb209, 8, none⟩ = some (.bool t206) := (blk_cell BK209.out 8).trans rfl; have hcz85_9 : w84.cell? ⟨gb209, 9, none⟩ = some (.bool t207) := (blk_cell BK209.out 9).trans rfl; have hcz85_10 : w84.cell? ⟨gb209, 10, none⟩ = some (.bool t208) := (blk_cell BK209.out 10).trans rfl; have hfz85_0 := blk_frozen BK209.out 0; have hfz85_1 := blk_frozen BK209.out 1; have hfz85_2 := blk_frozen BK209.out 2; have hfz85_3 := blk_frozen BK209.out 3; have hfz85_4 := blk_frozen BK209.out 4; have hfz85_5 := blk_frozen BK209.out 5; have hfz85_6 := blk_frozen BK209.out 6; have hfz85_7 := blk_frozen BK209.out 7; have hfz85_8 := blk_frozen BK209.out 8; have hfz85_9 := blk_frozen BK209.out 9; have hfz85_10 := blk_frozen BK209.out 10) | ((with_reducible refine gate_callee (f := 32) rfl ?_); refine goesL_ (some 76) rfl rfl Try.func32 (by kernel_rfl) rfl #[.int .u64 t210, .int .u64 t240, .int .u64 t200] rfl (by (try simp only [List.map_toArray, List.map_cons, List.map_nil]); first | done | rfl | (simp only [List.length_drop, List.length_take]; rfl)) ?_; (with_reducible refine (tte_Read.calls kj31 t210 t240 t200 t241 t242 t243 t244 t245 t246 t247 t248 t249 t250 t251 t252 _ A73.out).mono ?_); rintro e w86 ⟨rfl, hb⟩; refine ⟨_, rfl, ?_⟩; have n0_ := Aside0.mk (bb10_ hb BK171.out); have n1_ := Aside0.mk (bb10_ hb BK184.out); have n2_ := Aside0.mk (bb10_ hb BK197.out); have n3_ := Aside0.mk (bb10_ hb BK209.out); have n4_ := Aside0.mk (below_step (by repeat (first | (with_reducible first | exact HB.out | apply below_alloc | apply pw_below_drewN | apply below_drew1 | refine below_set ?_ GE171.out | refine below_set ?_ GE184.out | refine below_set ?_ GE197.out | refine below_set ?_ GE209.out) | exact HB.out)) hb); clear BK171; clear BK184; clear BK197; clear BK209; clear HB; have BK171 := n0_; have BK184 := n1_; have BK197 := n2_; have BK209 := n3_; have HB := n4_; clear n0_ n1_ n2_ n3_ n4_; (try clear hb); (try clear hb2); (try clear hk); (try clear hi); have hnb87 := NB184_171.out; have hnc87 := NB171_184.out; have hnb88 := NB184_197.out; have hnc88 := NB197_184.out; have hcz89_0 : w86.cell? ⟨gb184, 0, none⟩ = some (.int .i64 t172) := (blk_cell BK184.out 0).trans rfl; have hcz89_1 : w86.cell? ⟨gb184, 1, none⟩ = some (.int .i64 t173) := (blk_cell BK184.out 1).trans rfl; have hcz89_2 : w86.cell? ⟨gb184, 2, none⟩ = some (.int .u64 t174) := (blk_cell BK184.out 2).trans rfl; have hcz89_3 : w86.cell? ⟨gb184, 3, none⟩ = some (.int .u64 t175) := (blk_cell BK184.out 3).trans rfl; have hcz89_4 : w86.cell? ⟨gb184, 4, none⟩ = some (.bool t176) := (blk_cell BK184.out 4).trans rfl; have hcz89_5 : w86.cell? ⟨gb184, 5, none⟩ = some (.bool t177) := (blk_cell BK184.out 5).trans rfl; have hcz89_6 : w86.cell? ⟨gb184, 6, none⟩ = some (.bool t178) := (blk_cell BK184.out 6).trans rfl; have hcz89_7 : w86.cell? ⟨gb184, 7, none⟩ = some (.bool t179) := (blk_cell BK184.out 7).trans rfl; have hcz89_8 : w86.cell? ⟨gb184, 8, none⟩ = some (.bool t180) := (blk_cell BK184.out 8).trans rfl; have hcz89_9 : w86.cell? ⟨gb184, 9, none⟩ = some (.bool t181) := (blk_cell BK184.out 9).trans rfl; have hcz89_10 : w86.cell? ⟨gb184, 10, none⟩ = some (.bool t182) := (blk_cell BK184.out 10).trans rfl; have hfz89_0 := blk_frozen BK184.out 0; have hfz89_1 := blk_frozen BK184.out 1; have hfz89_2 := blk_frozen BK184.out 2; have hfz89_3 := blk_frozen BK184.out 3; have hfz89_4 := blk_frozen BK184.out 4; have hfz89_5 := blk_frozen BK184.out 5; have hfz89_6 := blk_frozen BK184.out 6; have hfz89_7 := blk_frozen BK184.out 7; have hfz89_8 := blk_frozen BK184.out 8; have hfz89_9 := blk_frozen BK184.out 9; have hfz89_10 := blk_frozen BK184.out 10; have hcz90_0 : w86.cell? ⟨gb209, 0, none⟩ = some (.int .i64 t198) := (blk_cell BK209.out 0).trans rfl; have hcz90_1 : w86.cell? ⟨gb209, 1, none⟩ = some (.int .i64 t199) := (blk_cell BK209.out 1).trans rfl; have hcz90_2 : w86.cell? ⟨gb209, 2, none⟩ = some (.int .u64 t200) := (blk_cell BK209.out 2).trans rfl; have hcz90_3 : w86.cell? ⟨gb209, 3, none⟩ = some (.int .u64 t201) := (blk_cell BK209.out 3).trans rfl; have hcz90_4 : w86.cell? ⟨gb209, 4, none⟩ = some (.bool t202) := (blk_cell BK209.out 4).trans rfl; have hcz90_5 : w86.cell? ⟨gb209, 5, none⟩ = some (.bool t203) := (blk_cell BK209.out 5).trans rfl; have hcz90_6 : w86.cell? ⟨gb209, 6, none⟩ = some (.bool t204) := (blk_cell BK209.out 6).trans rfl; have hcz90_7 : w86.cell? ⟨gb209, 7, none⟩ = some (.bool t205) := (blk_cell BK209.out 7).trans rfl; have hcz90_8 : w86.cell? ⟨gb209, 8, none⟩ = some (.bool t206) := (blk_cell BK209.out 8).trans rfl; have hcz90_9 : w86.cell? ⟨gb209, 9, none⟩ = some (.bool t207) := (blk_cell BK209.out 9).trans rfl; have hcz90_10 : w86.cell? ⟨gb209, 10, none⟩ = some (.bool t208) := (blk_cell BK209.out 10).trans rfl; have hfz90_0 := blk_frozen BK209.out 0; have hfz90_1 := blk_frozen BK209.out 1; have hfz90_2 := blk_frozen BK209.out 2; have hfz90_3 := blk_frozen BK209.out 3; have hfz90_4 := blk_frozen BK209.out 4; have hfz90_5 := blk_frozen BK209.out 5; have hfz90_6 := blk_frozen BK209.out 6; have hfz90_7 := blk_frozen BK209.out 7; have hfz90_8 := blk_frozen BK209.out 8; have hfz90_9 := blk_frozen BK209.out 9; have hfz90_10 := blk_frozen BK209.out 10) | ((with_reducible refine gate_callee (f := 33) rfl ?_); refine goesL_ (some 84) rfl rfl Try.func33 (by kernel_rfl) rfl #[.int .u64 t210, .int .u64 t240, .int .u64 t200] rfl (by (try simp only [List.map_toArray, List.map_cons, List.map_nil]); first | done | rfl | (simp only [List.length_drop, List.length_take]; rfl)) ?_; (with_reducible refine (lookasideref03_Read.calls kj31 t210 t240 t200 t253 t254 t255 t256 t257 t258 t259 t260 t261 t262 t263 t264 _ A74.out).mono ?_); rintro e w91 ⟨rfl, hb⟩; refine ⟨_, rfl, ?_⟩; have n0_ := Aside0.mk (blk_below (g := gb171) (o := .cells #[.int .i64 a3_0, .int .i64 a3_1, .int .u64 a3_2, .int .u64 a3_3, .bool a3_4, .bool a3_5, .bool a3_6, .bool a3_7, .bool a3_8, .bool a3_9, .bool a3_10] 26 (0, 0)) (by (with_reducible repeat (first | refine blk_drewN ?_ _ | refine blk_drew ?_ | refine blk_alloc ?_ _)); refine blk_far ?_ NB171_184.out _; refine blk_far ?_ NB171_184.out _; refine blk_far ?_ NB171_184.out _; refine blk_far ?_ NB171_184.out _; refine blk_far ?_ NB171_184.out _; refine blk_far ?_ NB171_184.out _; refine blk_far ?_ NB171_184.out _; refine blk_far ?_ NB171_184.out _; refine blk_far ?_ NB171_184.out _; refine blk_far ?_ NB171_184.out _; refine blk_far ?_ NB171_184.out _; (with_reducible repeat (first | refine blk_drewN ?_ _ | refine blk_drew ?_ | refine blk_alloc ?_ _)); exact BK171.out) hb); have n1_ := Aside0.mk (blk_below (g := gb184) (o := .cells #[.int .i64 t241, .int .i64 t242, .int .u64 t243, .int .u64 t244, .bool t245, .bool t246, .bool t247, .bool t248, .bool t249, .bool t250, .bool t251] 26 (0, 0)) (by (with_reducible repeat (first | refine blk_drewN ?_ _ | refine blk_drew ?_ | refine blk_alloc ?_ _)); refine blk_put (cs := #[.int .i64 t241, .int .i64 t242, .int .u64 t243, .int .u64 t244, .bool t245, .bool t246, .bool t247, .bool t248, .bool t249, .bool t250, .bool t182]) ?_ 10 _ rfl; refine blk_put (cs := #[.int .i64 t241, .int .i64 t242, .int .u64 t243, .int .u64 t244, .bool t245, .bool t246, .bool t247, .bool t248, .bool t249, .bool t181, .bool t182]) ?_ 9 _ rfl; refine blk_put (cs := #[.int .i64 t241, .int .i64 t242, .int .u64 t243, .int .u64 t244, .bool t245, .bool t246, .bool t247, .bool t248, .bool t180, .bool t181, .bool t182]) ?_ 8 _ rfl; refine blk_put (cs := #[.int .i64 t241, .int .i64 t242, .int .u64 t243, .int .u64 t244, .bool t245, .bool t246, .bool t247, .bool t179, .bool t180, .bool t181, .bool t182]) ?_ 7 _ rfl; refine blk_put (cs := #[.int .i64 t241, .int .i64 t242, .int .u64 t243, .int .u64 t244, .bool t245, .bool t246, .bool t178, .bool t179, .bool t180, .bool t181, .bool t182]) ?_ 6 _ rfl; refine blk_put (cs := #[.int .i64 t241, .int .i64 t242, .int .u64 t243, .int .u64 t244, .bool t245, .bool t177, .bool t178, .bool t179, .bool t180, .bool t181, .bool t182]) ?_ 5 _ rfl; refine blk_put (cs := #[.int .i64 t241, .int .i64 t242, .int .u64 t243, .int .u64 t244, .bool t176, .bool t177, .bool t178, .bool t179, .bool t180, .bool t181, .bool t182]) ?_ 4 _ rfl; refine blk_put (cs := #[.int .i64 t241, .int .i64 t242, .int .u64 t243, .int .u64 t175, .bool t176, .bool t177, .bool t178, .bool t179, .bool t180, .bool t181, .bool t182]) ?_ 3 _ rfl; refine blk_put (cs := #[.int .i64 t241, .int .i64 t242, .int .u64 t174, .int .u64 t175, .bool t176, .bool t177, .bool t178, .bool t179, .bool t180, .bool t181, .bool t182]) ?_ 2 _ rfl; refine blk_put (cs := #[.int .i64 t241, .int .i64 t173, .int .u64 t174, .int .u64 t175, .bool t176, .bool t177, .bool t178, .bool t179, .bool t180, .bool t181, .bool t182]) ?_ 1 _ rfl; refine blk_put (cs := #[.int .i64 t172, .int .i64 t173, .int .u64 t174, .int .u64 t175, .bool t176, .bool t177, .bool t178, .bool t179, .bool t180, .bool t181, .bool t182]) ?_ 0 _ rfl; (with_reducible repeat (first | refine blk_drewN ?_ _ | refine blk_drew ?_ | refine blk_alloc ?_ _)); exact BK184.out) hb); have n2_ := Aside0.mk (blk_below (g := gb197) (o := .cells #[.int .i64 t185, .int .i64 t186, .int .u64 t187, .int .u64 t188, .bool t189, .bool t190, .bool t191, .bool t192, .bool t193, .bool t194, .bool t195] 26 (0, 0)) (by (with_reducible repeat (first | refine blk_drewN ?_ _ | refine blk_drew ?_ | refine blk_alloc ?_ _)); refine blk_far ?_ NB197_184.out _; refine blk_far ?_ NB197_184.out _; refine blk_far ?_ NB197_184.out _; refine blk_far ?_ NB197_184.out _; refine blk_far ?_ NB197_184.out _; refine blk_far ?_ NB197_184.out _; refine blk_far ?_ NB197_184.out _; refine blk_far ?_ NB197_184.out _; refine blk_far ?_ NB197_184.out _; refine blk_far ?_ NB197_184.out _; refine blk_far ?_ NB197_184.out _; (with_reducible repeat (first | refine blk_drewN ?_ _ | refine blk_drew ?_ | refine blk_alloc ?_ _)); exact BK197.out) hb); have n3_ := Aside0.mk (blk_below (g := gb209) (o := .cells #[.int .i64 t198, .int .i64 t199, .int .u64 t200, .int .u64 t201, .bool t202, .bool t203, .bool t204, .bool t205, .bool t206, .bool t207, .bool t208] 26 (0, 0)) (by (with_reducible repeat (first | refine blk_drewN ?_ _ | refine blk_drew ?_ | refine blk_alloc ?_ _)); refine blk_far ?_ NB209_184.out _; refine blk_far ?_ NB209_184.out _; refine blk_far ?_ NB209_184.out _; refine blk_far ?_ NB209_184.out _; refine blk_far ?_ NB209_184.out _; refine blk_far ?_ NB209_184.out _; refine blk_far ?_ NB209_184.out _; refine blk_far ?_ NB209_184.out _; refine blk_far ?_ NB209_184.out _; refine blk_far ?_ NB209_184.out _; refine blk_far ?_ NB209_184.out _; (with_reducible repeat (first | refine blk_drewN ?_ _ | refine blk_drew ?_ | refine blk_alloc ?_ _)); exact BK209.out) hb); have n4_ := Aside0.mk (below_step (by repeat (first | (with_reducible first | exact HB.out | apply below_alloc | apply pw_below_drewN | apply below_drew1 | refine below_set ?_ GE171.out | refine below_set ?_ GE184.out | refine below_set ?_ GE197.out | refine below_set ?_ GE209.out) | exact HB.out)) hb); clear BK171; clear BK184; clear BK197; clear BK209; clear HB; have BK171 := n0_; have BK184 := n1_; have BK197 := n2_; have BK209 := n3_; have HB := n4_; clear n0_ n1_ n2_ n3_ n4_; (try clear hb); (try clear hb2); (try clear hk); (try clear hi); have hnb92 := NB197_171.out; have hnc92 := NB171_197.out; have hcz93_0 : w91.cell? ⟨gb197, 0, none⟩ = some (.int .i64 t185) := (blk_cell BK197.out 0).trans rfl; have hcz93_1 : w91.cell? ⟨gb197, 1, none⟩ = some (.int .i64 t186) := (blk_cell BK197.out 1).trans rfl; have hcz93_2 : w91.cell? ⟨gb197, 2, none⟩ = some (.int .u64 t187) := (blk_cell BK197.out 2).trans rfl; have hcz93_3 : w91.cell? ⟨gb197, 3, none⟩ = some (.int .u64 t188) := (blk_cell BK197.out 3).trans rfl; have hcz93_4 : w91.cell? ⟨gb197, 4, none⟩ = some (.bool t189) := (blk_cell BK197.out 4).trans rfl; have hcz93_5 : w91.cell? ⟨gb197, 5, none⟩ = some (.bool t190) := (blk_cell BK197.out 5).trans rfl; have hcz93_6 : w91.cell? ⟨gb197, 6, none⟩ = some (.bool t191) := (blk_cell BK197.out 6).trans rfl; have hcz93_7 : w91.cell? ⟨gb197, 7, none⟩ = some (.bool t192) := (blk_cell BK197.out 7).trans rfl; have hcz93_8 : w91.cell? ⟨gb197, 8, none⟩ = some (.bool t193) := (blk_cell BK197.out 8).trans rfl; have hcz93_9 : w91.cell? ⟨gb197, 9, none⟩ = some (.bool t194) := (blk_cell BK197.out 9).trans rfl; have hcz93_10 : w91.cell? ⟨gb197, 10, none⟩ = some (.bool t195) := (blk_cell BK197.out 10).trans rfl; have hfz93_0 := blk_frozen BK197.out 0; have hfz93_1 := blk_frozen BK197.out 1; have hfz93_2 := blk_frozen BK197.out 2; have hfz93_3 := blk_frozen BK197.out 3; have hfz93_4 := blk_frozen BK197.out 4; have hfz93_5 := blk_frozen BK197.out 5; have hfz93_6 := blk_frozen BK197.out 6; have hfz93_7 := blk_frozen BK197.out 7; have hfz93_8 := blk_frozen BK197.out 8; have hfz93_9 := blk_frozen BK197.out 9; have hfz93_10 := blk_frozen BK197.out 10; have hcz94_0 : w91.cell? ⟨gb184, 0, none⟩ = some (.int .i64 t241) := (blk_cell BK184.out 0).trans rfl; have hcz94_1 : w91.cell? ⟨gb184, 1, none⟩ = some (.int .i64 t242) := (blk_cell BK184.out 1).trans rfl; have hcz94_2 : w91.cell? ⟨gb184, 2, none⟩ = some (.int .u64 t243) := (blk_cell BK184.out 2).trans rfl; have hcz94_3 : w91.cell? ⟨gb184, 3, none⟩ = some (.int .u64 t244) := (blk_cell BK184.out 3).trans rfl; have hcz94_4 : w91.cell? ⟨gb184, 4, none⟩ = some (.bool t245) := (blk_cell BK184.out 4).trans rfl; have hcz94_5 : w91.cell? ⟨gb184, 5, none⟩ = some (.bool t246) := (blk_cell BK184.out 5).trans rfl; have hcz94_6 : w91.cell? ⟨gb184, 6, none⟩ = some (.bool t247) := (blk_cell BK184.out 6).trans rfl; have hcz94_7 : w91.cell? ⟨gb184, 7, none⟩ = some (.bool t248) := (blk_cell BK184.out 7).trans rfl; have hcz94_8 : w91.cell? ⟨gb184, 8, none⟩ = some (.bool t249) := (blk_cell BK184.out 8).trans rfl; have hcz94_9 : w91.cell? ⟨gb184, 9, none⟩ = some (.bool t250) := (blk_cell BK184.out 9).trans rfl; have hcz94_10 : w91.cell? ⟨gb184, 10, none⟩ = some (.bool t251) := (blk_cell BK184.out 10).trans rfl; have hfz94_0 := blk_frozen BK184.out 0; have hfz94_1 := blk_frozen BK184.out 1; have hfz94_2 := blk_frozen BK184.out 2; have hfz94_3 := blk_frozen BK184.out 3; have hfz94_4 := blk_frozen BK184.out 4; have hfz94_5 := blk_frozen BK184.out 5; have hfz94_6 := blk_frozen BK184.out 6; have hfz94_7 := blk_frozen BK184.out 7; have hfz94_8 := blk_frozen BK184.out 8; have hfz94_9 := blk_frozen BK184.out 9; have hfz94_10 := blk_frozen BK184.out 10) | (go_at_call 17; (with_reducible refine (lookasidelaw03_lives.calls kj31  t265 _ A77.out).mono ?_); rintro e w95 ⟨rfl, hb⟩; have n0_ := Aside0.mk (blk_below (g := gb171) (o := .cells #[.int .i64 a3_0, .int .i64 a3_1, .int .u64 a3_2, .int .u64 a3_3, .bool a3_4, .bool a3_5, .bool a3_6, .bool a3_7, .bool a3_8, .bool a3_9, .bool a3_10] 26 (0, 0)) (by (with_reducible repeat (first | refine blk_drewN ?_ _ | refine blk_drew ?_ | refine blk_alloc ?_ _)); refine blk_far ?_ NB171_197.out _; refine blk_far ?_ NB171_197.out _; refine blk_far ?_ NB171_197.out _; refine blk_far ?_ NB171_197.out _; refine blk_far ?_ NB171_197.out _; refine blk_far ?_ NB171_197.out _; refine blk_far ?_ NB171_197.out _; refine blk_far ?_ NB171_197.out _; refine blk_far ?_ NB171_197.out _; refine blk_far ?_ NB171_197.out _; refine blk_far ?_ NB171_197.out _; (with_reducible repeat (first | refine blk_drewN ?_ _ | refine blk_drew ?_ | refine blk_alloc ?_ _)); exact BK171.out) hb); have n1_ := Aside0.mk (blk_below (g := gb184) (o := .cells #[.int .i64 t241, .int .i64 t242, .int .u64 t243, .int .u64 t244, .bool t245, .bool t246, .bool t247, .bool t248, .bool t249, .bool t250, .bool t251] 26 (0, 0)) (by (with_reducible repeat (first | refine blk_drewN ?_ _ | refine blk_drew ?_ | refine blk_alloc ?_ _)); refine blk_far ?_ NB184_197.out _; refine blk_far ?_ NB184_197.out _; refine blk_far ?_ NB184_197.out _; refine blk_far ?_ NB184_197.out _; refine blk_far ?_ NB184_197.out _; refine blk_far ?_ NB184_197.out _; refine blk_far ?_ NB184_197.out _; refine blk_far ?_ NB184_197.out _; refine blk_far ?_ NB184_197.out _; refine blk_far ?_ NB184_197.out _; refine blk_far ?_ NB184_197.out _; (with_reducible repeat (first | refine blk_drewN ?_ _ | refine blk_drew ?_ | refine blk_alloc ?_ _)); exact BK184.out) hb); have n2_ := Aside0.mk (blk_below (g := gb197) (o := .cells #[.int .i64 t253, .int .i64 t254, .int .u64 t255, .int .u64 t256, .bool t257, .bool t258, .bool t259, .bool t260, .bool t261, .bool t262, .bool t263] 26 (0, 0)) (by (with_reducible repeat (first | refine blk_drewN ?_ _ | refine blk_drew ?_ | refine blk_alloc ?_ _)); refine blk_put (cs := #[.int .i64 t253, .int .i64 t254, .int .u64 t255, .int .u64 t256, .bool t257, .bool t258, .bool t259, .bool t260, .bool t261, .bool t262, .bool t195]) ?_ 10 _ rfl; refine blk_put (cs := #[.int .i64 t253, .int .i64 t254, .int .u64 t255, .int .u64 t256, .bool t257, .bool t258, .bool t259, .bool t260, .bool t261, .bool t194, .bool t195]) ?_ 9 _ rfl; refine blk_put (cs := #[.int .i64 t253, .int .i64 t254, .int .u64 t255, .int .u64 t256, .bool t257, .bool t258, .bool t259, .bool t260, .bool t193, .bool t194, .bool t195]) ?_ 8 _ rfl; refine blk_put (cs := #[.int .i64 t253, .int .i64 t254, .int .u64 t255, .int .u64 t256, .bool t257, .bool t258, .bool t259, .bool t192, .bool t193, .bool t194, .bool t195]) ?_ 7 _ rfl; refine blk_put (cs := #[.int .i64 t253, .int .i64 t254, .int .u64 t255, .int .u64 t256, .bool t257, .bool t258, .bool t191, .bool t192, .bool t193, .bool t194, .bool t195]) ?_ 6 _ rfl; refine blk_put (cs := #[.int .i64 t253, .int .i64 t254, .int .u64 t255, .int .u64 t256, .bool t257, .bool t190, .bool t191, .bool t192, .bool t193, .bool t194, .bool t195]) ?_ 5 _ rfl; refine blk_put (cs := #[.int .i64 t253, .int .i64 t254, .int .u64 t255, .int .u64 t256, .bool t189, .bool t190, .bool t191, .bool t192, .bool t193, .bool t194, .bool t195]) ?_ 4 _ rfl; refine blk_put (cs := #[.int .i64 t253, .int .i64 t254, .int .u64 t255, .int .u64 t188, .bool t189, .bool t190, .bool t191, .bool t192, .bool t193, .bool t194, .bool t195]) ?_ 3 _ rfl; refine blk_put (cs := #[.int .i64 t253, .int .i64 t254, .int .u64 t187, .int .u64 t188, .bool t189, .bool t190, .bool t191, .bool t192, .bool t193, .bool t194, .bool t195]) ?_ 2 _ rfl; refine blk_put (cs := #[.int .i64 t253, .int .i64 t186, .int .u64 t187, .int .u64 t188, .bool t189, .bool t190, .bool t191, .bool t192, .bool t193, .bool t194, .bool t195]) ?_ 1 _ rfl; refine blk_put (cs := #[.int .i64 t185, .int .i64 t186, .int .u64 t187, .int .u64 t188, .bool t189, .bool t190, .bool t191, .bool t192, .bool t193, .bool t194, .bool t195]) ?_ 0 _ rfl; (with_reducible repeat (first | refine blk_drewN ?_ _ | refine blk_drew ?_ | refine blk_alloc ?_ _)); exact BK197.out) hb); have n3_ := Aside0.mk (blk_below (g := gb209) (o := .cells #[.int .i64 t198, .int .i64 t199, .int .u64 t200, .int .u64 t201, .bool t202, .bool t203, .bool t204, .bool t205, .bool t206, .bool t207, .bool t208] 26 (0, 0)) (by (with_reducible repeat (first | refine blk_drewN ?_ _ | refine blk_drew ?_ | refine blk_alloc ?_ _)); refine blk_far ?_ NB209_197.out _; refine blk_far ?_ NB209_197.out _; refine blk_far ?_ NB209_197.out _; refine blk_far ?_ NB209_197.out _; refine blk_far ?_ NB209_197.out _; refine blk_far ?_ NB209_197.out _; refine blk_far ?_ NB209_197.out _; refine blk_far ?_ NB209_197.out _; refine blk_far ?_ NB209_197.out _; refine blk_far ?_ NB209_197.out _; refine blk_far ?_ NB209_197.out _; (with_reducible repeat (first | refine blk_drewN ?_ _ | refine blk_drew ?_ | refine blk_alloc ?_ _)); exact BK209.out) hb); have n4_ := Aside0.mk (below_step (by repeat (first | (with_reducible first | exact HB.out | apply below_alloc | apply pw_below_drewN | apply below_drew1 | refine below_set ?_ GE171.out | refine below_set ?_ GE184.out | refine below_set ?_ GE197.out | refine below_set ?_ GE209.out) | exact HB.out)) hb); clear BK171; clear BK184; clear BK197; clear BK209; clear HB; have BK171 := n0_; have BK184 := n1_; have BK197 := n2_; have BK209 := n3_; have HB := n4_; clear n0_ n1_ n2_ n3_ n4_; (try clear hb); (try clear hb2); (try clear hk); (try clear hi)))
                  go_ret
                  exact ⟨by first | rfl | (simp [errW_none, errW_some] <;> rfl) | (simp [*, errW_none, errW_some] <;> rfl), by repeat (first | (with_reducible first | exact HB.out | apply below_alloc | apply pw_below_drewN | apply below_drew1 | refine below_set ?_ GE171.out | refine below_set ?_ GE184.out | refine below_set ?_ GE197.out | refine below_set ?_ GE209.out) | exact HB.out)⟩
                · rw [if_neg c76] at H
                  have c76b0 : (t252 == t264) = false := beq_eq_false_iff_ne.mpr c76
                  have c76b1 : (t252 != t264) = true := bne_iff_ne.mpr c76
                  exact absurd ((Option.some.inj H).trans hr_.out) (by decide)
              · rw [if_neg c75] at H
                have c75b0 : (t241 == t253 && (t242 == t254 && (t243 == t255 && (t244 == t256 && ((t245 == t257 && (t246 == t258 && (t247 == t259 && (t248 == t260 && (t249 == t261 && (t250 == t262)))))) && (t251 == t263)))))) = false := by simpa using c75
                (try (have c75b1 : decide (t241 = t253 && (t242 == t254 && (t243 == t255 && (t244 == t256 && ((t245 == t257 && (t246 == t258 && (t247 == t259 && (t248 == t260 && (t249 == t261 && (t250 == t262)))))) && (t251 == t263)))))) = false := by simpa using c75))
                (try (have c75b2 : (t241 == t253 && (t242 == t254 && (t243 == t255 && (t244 == t256 && ((t245 == t257 && (t246 == t258 && (t247 == t259 && (t248 == t260 && (t249 == t261 && (t250 == t262)))))) && (t251 == t263)))))) = false := by simpa using c75))
                (try (have c75b3 : ¬ (t241 = t253 && (t242 == t254 && (t243 == t255 && (t244 == t256 && ((t245 == t257 && (t246 == t258 && (t247 == t259 && (t248 == t260 && (t249 == t261 && (t250 == t262)))))) && (t251 == t263)))))) := by simpa using c75))
                clear c75
                exact absurd ((Option.some.inj H).trans hr_.out) (by decide)

/-- THE ONE PURE STATEMENT of lookasidelaw03_TteReads: yours. -/
def lookasidelaw03_TteReads.Pure : Prop := ∀ (a0 : Int) (a1 : Int) (a2 : Int) (a3_0 : Int) (a3_1 : Int) (a3_2 : Int) (a3_3 : Int) (a3_4 : Bool) (a3_5 : Bool) (a3_6 : Bool) (a3_7 : Bool) (a3_8 : Bool) (a3_9 : Bool) (a3_10 : Bool) (a4 : Int), (Lit.int .u64 a0).wf = true → (Lit.int .u64 a1).wf = true → (Lit.int .u64 a2).wf = true → (Lit.int .i64 a3_0).wf = true → (Lit.int .i64 a3_1).wf = true → (Lit.int .u64 a3_2).wf = true → (Lit.int .u64 a3_3).wf = true → (Lit.int .i64 a4).wf = true → ∃ k, lookasidelaw03_TteReads.f k a0 a1 a2 a3_0 a3_1 a3_2 a3_3 a3_4 a3_5 a3_6 a3_7 a3_8 a3_9 a3_10 a4 = some true
theorem lookasidelaw03_TteReads.walk (P : lookasidelaw03_TteReads.Pure) (a0 : Int) (a1 : Int) (a2 : Int) (a3_0 : Int) (a3_1 : Int) (a3_2 : Int) (a3_3 : Int) (a3_4 : Bool) (a3_5 : Bool) (a3_6 : Bool) (a3_7 : Bool) (a3_8 : Bool) (a3_9 : Bool) (a3_10 : Bool) (a4 : Int) (w : World) (w0 : (Lit.int .u64 a0).wf = true) (w1 : (Lit.int .u64 a1).wf = true) (w2 : (Lit.int .u64 a2).wf = true) (w3_0 : (Lit.int .i64 a3_0).wf = true) (w3_1 : (Lit.int .i64 a3_1).wf = true) (w3_2 : (Lit.int .u64 a3_2).wf = true) (w3_3 : (Lit.int .u64 a3_3).wf = true) (w4 : (Lit.int .i64 a4).wf = true) :
    Calls Try.prog 10 #[.int .u64 a0, .int .u64 a1, .int .u64 a2, .agg #[.int .i64 a3_0, .int .i64 a3_1, .int .u64 a3_2, .int .u64 a3_3, .bool a3_4, .bool a3_5, .bool a3_6, .bool a3_7, .bool a3_8, .bool a3_9, .bool a3_10], .int .i64 a4] w fun e w' => e = .returned (.bool true) ∧ Below w.heap.size w w' := by
  obtain ⟨k, h⟩ := P a0 a1 a2 a3_0 a3_1 a3_2 a3_3 a3_4 a3_5 a3_6 a3_7 a3_8 a3_9 a3_10 a4 w0 w1 w2 w3_0 w3_1 w3_2 w3_3 w4
  refine (lookasidelaw03_TteReads.calls k a0 a1 a2 a3_0 a3_1 a3_2 a3_3 a3_4 a3_5 a3_6 a3_7 a3_8 a3_9 a3_10 a4 true w h rfl).mono ?_
  rintro e w' ⟨rfl, hd⟩
  exact ⟨rfl, hd⟩

end Go.Proofs.Ytecbngibhobgbaa.QTteReads
