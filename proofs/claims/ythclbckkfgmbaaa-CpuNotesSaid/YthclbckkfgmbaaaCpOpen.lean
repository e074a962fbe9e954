/- Accesses, opened out of what a law is handed. -/
import Derived.Test.YthclbckkfgmbaaaTlOpen
namespace Go.Proofs.Ythclbckkfgmbaaa.QTlbPlays
open Go.ChangeShapes Go.WideShapes Go.ChangeAt Go.RowKit Go.Proofs.YthclbckkfgmbaaaW.PrintWords Go.Deep
set_option linter.unusedVariables false
structure Acc where
  f0 : Int
  f1 : Bool
  f2 : Int
structure AccW (a : Acc) : Prop where
  k : (Lit.int .i64 a.f0).wf = true
  v : (Lit.int .u64 a.f2).wf = true
set_option maxRecDepth 100000 in
theorem acc_open {H : Type} {enc : TypeId × Value → H} {w : World} {base : Nat} {spare : Nat → Bool} {held : Bool} {n : Nat} {cs : List Value} {x : DataW H × List MemPlace} (h : DataW.trod enc Try.prog w base spare held n 61 cs = some x) :
    ∃ a : Acc, cs = [.int .i64 a.f0, .bool a.f1, .int .u64 a.f2] ∧ AccW a := by
  obtain ⟨xs, m, _, _, hl, hlen, hg⟩ := DataW.trod_struct Try.underlying61 h
  rw [show Try.prog.cellsOf 61 = 3 from by kernel_rfl] at hl
  match cs, hl with
  | [c0, c1, c2], _ =>
    have g0 := hg 0 _ rfl
    replace g0 : DataW.trod enc Try.prog w base spare held m 3 ((([c0, c1, c2] : List Value).drop 0).take (Try.prog.cellsOf 3)) = xs[0]? := g0
    obtain ⟨y0, hy0⟩ : ∃ y, xs[0]? = some y := ⟨_, List.getElem?_eq_getElem (by rw [hlen]; decide)⟩
    rw [hy0, show Try.prog.cellsOf 3 = 1 from by kernel_rfl] at g0
    replace g0 : DataW.trod enc Try.prog w base spare held m 3 [c0] = some y0 := g0
    have g1 := hg 1 _ rfl
    replace g1 : DataW.trod enc Try.prog w base spare held m 4 ((([c0, c1, c2] : List Value).drop 1).take (Try.prog.cellsOf 4)) = xs[1]? := g1
    obtain ⟨y1, hy1⟩ : ∃ y, xs[1]? = some y := ⟨_, List.getElem?_eq_getElem (by rw [hlen]; decide)⟩
    rw [hy1, show Try.prog.cellsOf 4 = 1 from by kernel_rfl] at g1
    replace g1 : DataW.trod enc Try.prog w base spare held m 4 [c1] = some y1 := g1
    have g2 := hg 2 _ rfl
    replace g2 : DataW.trod enc Try.prog w base spare held m 22 ((([c0, c1, c2] : List Value).drop 2).take (Try.prog.cellsOf 22)) = xs[2]? := g2
    obtain ⟨y2, hy2⟩ : ∃ y, xs[2]? = some y := ⟨_, List.getElem?_eq_getElem (by rw [hlen]; decide)⟩
    rw [hy2, show Try.prog.cellsOf 22 = 1 from by kernel_rfl] at g2
    replace g2 : DataW.trod enc Try.prog w base spare held m 22 [c2] = some y2 := g2
    obtain ⟨b0, e0, _, w0⟩ := DataW.trod_int Try.underlying3 g0
    simp only [List.cons.injEq, and_true] at e0
    obtain rfl := e0
    obtain ⟨b1, e1, _⟩ := DataW.trod_bool Try.underlying4 g1
    simp only [List.cons.injEq, and_true] at e1
    obtain rfl := e1
    obtain ⟨b2, e2, _, w2⟩ := DataW.trod_int Try.underlying22 g2
    simp only [List.cons.injEq, and_true] at e2
    obtain rfl := e2
    exact ⟨⟨b0, b1, b2⟩, rfl, ⟨w0, w2⟩⟩
end Go.Proofs.Ythclbckkfgmbaaa.QTlbPlays
