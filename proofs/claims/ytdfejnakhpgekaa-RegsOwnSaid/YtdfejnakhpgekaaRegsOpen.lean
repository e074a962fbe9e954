/- A list of deeds, opened out of what a law is handed. -/
import Derived.Test.YtdfejnakhpgekaaRegsDeeds
import Derived.Deep.Slices
import Derived.DataElems
import Derived.DataReads
import Derived.WalkKit
import Derived.ProofKit
import Derived.OpenShut
import Derived.ShutString
import Derived.ChangeOld
import Derived.Below
namespace Go.Proofs.Ytdfejnakhpgekaa.QRegsPlays
open Go.ChangeShapes Go.WideShapes Go.ChangeAt Go.RowKit Go.Proofs.YtdfejnakhpgekaaW.PrintWords Go.Deep
set_option linter.unusedVariables false
set_option maxRecDepth 100000 in
theorem openDeed {H : Type} {enc : TypeId × Value → H} {w : World} {base : Nat} {spare : Nat → Bool} {held : Bool} {n : Nat} {cs : List Value} {x : DataW H × List MemPlace} (h : DataW.trod enc Try.prog w base spare held n 42 cs = some x) :
    ∃ (kind asi un num place v : Int) (store priv : Bool), cs = [.int .i64 kind, .int .i64 asi, .int .i64 un, .int .i64 num, .int .u64 place, .int .u64 v, .bool store, .bool priv] ∧ (Lit.int .i64 kind).wf = true ∧ (Lit.int .i64 asi).wf = true ∧ (Lit.int .i64 un).wf = true ∧ (Lit.int .i64 num).wf = true ∧ (Lit.int .u64 place).wf = true ∧ (Lit.int .u64 v).wf = true := by
  obtain ⟨xs, m, _, _, hl, hlen, hg⟩ := DataW.trod_struct Try.underlying42 h
  rw [show Try.prog.cellsOf 42 = 8 from by kernel_rfl] at hl
  match cs, hl with
  | [c0, c1, c2, c3, c4, c5, c6, c7], _ =>
    have g0 := hg 0 _ rfl
    replace g0 : DataW.trod enc Try.prog w base spare held m 3 ((([c0, c1, c2, c3, c4, c5, c6, c7] : List Value).drop 0).take (Try.prog.cellsOf 3)) = xs[0]? := g0
    obtain ⟨y0, hy0⟩ : ∃ y, xs[0]? = some y := ⟨_, List.getElem?_eq_getElem (by rw [hlen]; decide)⟩
    rw [hy0, show Try.prog.cellsOf 3 = 1 from by kernel_rfl] at g0
    replace g0 : DataW.trod enc Try.prog w base spare held m 3 [c0] = some y0 := g0
    have g1 := hg 1 _ rfl
    replace g1 : DataW.trod enc Try.prog w base spare held m 3 ((([c0, c1, c2, c3, c4, c5, c6, c7] : List Value).drop 1).take (Try.prog.cellsOf 3)) = xs[1]? := g1
    obtain ⟨y1, hy1⟩ : ∃ y, xs[1]? = some y := ⟨_, List.getElem?_eq_getElem (by rw [hlen]; decide)⟩
    rw [hy1, show Try.prog.cellsOf 3 = 1 from by kernel_rfl] at g1
    replace g1 : DataW.trod enc Try.prog w base spare held m 3 [c1] = some y1 := g1
    have g2 := hg 2 _ rfl
    replace g2 : DataW.trod enc Try.prog w base spare held m 3 ((([c0, c1, c2, c3, c4, c5, c6, c7] : List Value).drop 2).take (Try.prog.cellsOf 3)) = xs[2]? := g2
    obtain ⟨y2, hy2⟩ : ∃ y, xs[2]? = some y := ⟨_, List.getElem?_eq_getElem (by rw [hlen]; decide)⟩
    rw [hy2, show Try.prog.cellsOf 3 = 1 from by kernel_rfl] at g2
    replace g2 : DataW.trod enc Try.prog w base spare held m 3 [c2] = some y2 := g2
    have g3 := hg 3 _ rfl
    replace g3 : DataW.trod enc Try.prog w base spare held m 3 ((([c0, c1, c2, c3, c4, c5, c6, c7] : List Value).drop 3).take (Try.prog.cellsOf 3)) = xs[3]? := g3
    obtain ⟨y3, hy3⟩ : ∃ y, xs[3]? = some y := ⟨_, List.getElem?_eq_getElem (by rw [hlen]; decide)⟩
    rw [hy3, show Try.prog.cellsOf 3 = 1 from by kernel_rfl] at g3
    replace g3 : DataW.trod enc Try.prog w base spare held m 3 [c3] = some y3 := g3
    have g4 := hg 4 _ rfl
    replace g4 : DataW.trod enc Try.prog w base spare held m 22 ((([c0, c1, c2, c3, c4, c5, c6, c7] : List Value).drop 4).take (Try.prog.cellsOf 22)) = xs[4]? := g4
    obtain ⟨y4, hy4⟩ : ∃ y, xs[4]? = some y := ⟨_, List.getElem?_eq_getElem (by rw [hlen]; decide)⟩
    rw [hy4, show Try.prog.cellsOf 22 = 1 from by kernel_rfl] at g4
    replace g4 : DataW.trod enc Try.prog w base spare held m 22 [c4] = some y4 := g4
    have g5 := hg 5 _ rfl
    replace g5 : DataW.trod enc Try.prog w base spare held m 22 ((([c0, c1, c2, c3, c4, c5, c6, c7] : List Value).drop 5).take (Try.prog.cellsOf 22)) = xs[5]? := g5
    obtain ⟨y5, hy5⟩ : ∃ y, xs[5]? = some y := ⟨_, List.getElem?_eq_getElem (by rw [hlen]; decide)⟩
    rw [hy5, show Try.prog.cellsOf 22 = 1 from by kernel_rfl] at g5
    replace g5 : DataW.trod enc Try.prog w base spare held m 22 [c5] = some y5 := g5
    have g6 := hg 6 _ rfl
    replace g6 : DataW.trod enc Try.prog w base spare held m 4 ((([c0, c1, c2, c3, c4, c5, c6, c7] : List Value).drop 6).take (Try.prog.cellsOf 4)) = xs[6]? := g6
    obtain ⟨y6, hy6⟩ : ∃ y, xs[6]? = some y := ⟨_, List.getElem?_eq_getElem (by rw [hlen]; decide)⟩
    rw [hy6, show Try.prog.cellsOf 4 = 1 from by kernel_rfl] at g6
    replace g6 : DataW.trod enc Try.prog w base spare held m 4 [c6] = some y6 := g6
    have g7 := hg 7 _ rfl
    replace g7 : DataW.trod enc Try.prog w base spare held m 4 ((([c0, c1, c2, c3, c4, c5, c6, c7] : List Value).drop 7).take (Try.prog.cellsOf 4)) = xs[7]? := g7
    obtain ⟨y7, hy7⟩ : ∃ y, xs[7]? = some y := ⟨_, List.getElem?_eq_getElem (by rw [hlen]; decide)⟩
    rw [hy7, show Try.prog.cellsOf 4 = 1 from by kernel_rfl] at g7
    replace g7 : DataW.trod enc Try.prog w base spare held m 4 [c7] = some y7 := g7
    obtain ⟨kind, e0, _, w0⟩ := DataW.trod_int Try.underlying3 g0
    simp only [List.cons.injEq, and_true] at e0
    obtain rfl := e0
    obtain ⟨asi, e1, _, w1⟩ := DataW.trod_int Try.underlying3 g1
    simp only [List.cons.injEq, and_true] at e1
    obtain rfl := e1
    obtain ⟨un, e2, _, w2⟩ := DataW.trod_int Try.underlying3 g2
    simp only [List.cons.injEq, and_true] at e2
    obtain rfl := e2
    obtain ⟨num, e3, _, w3⟩ := DataW.trod_int Try.underlying3 g3
    simp only [List.cons.injEq, and_true] at e3
    obtain rfl := e3
    obtain ⟨place, e4, _, w4⟩ := DataW.trod_int Try.underlying22 g4
    simp only [List.cons.injEq, and_true] at e4
    obtain rfl := e4
    obtain ⟨v, e5, _, w5⟩ := DataW.trod_int Try.underlying22 g5
    simp only [List.cons.injEq, and_true] at e5
    obtain rfl := e5
    obtain ⟨store, e6, _⟩ := DataW.trod_bool Try.underlying4 g6
    simp only [List.cons.injEq, and_true] at e6
    obtain rfl := e6
    obtain ⟨priv, e7, _⟩ := DataW.trod_bool Try.underlying4 g7
    simp only [List.cons.injEq, and_true] at e7
    obtain rfl := e7
    exact ⟨kind, asi, un, num, place, v, store, priv, rfl, w0, w1, w2, w3, w4, w5⟩
theorem deeds_open {H : Type} {enc : TypeId × Value → H} {w : World} {base : Nat} {spare : Nat → Bool} {held : Bool} {n : Nat} {a : Option Addr} {len cap : Nat} {x : DataW H × List MemPlace} (h : DataW.trod enc Try.prog w base spare held n 36 [.slice a len cap] = some x) : Deeds w a len ∧ len ≤ maxLen := by
  rcases open_slice Try.underlying36 h with ⟨hcs, _⟩ | ⟨y, l, c, m, n', D, Pl, hcs, _, hl, hm, hmm, _, hx⟩
  · obtain ⟨rfl, rfl, rfl⟩ : a = none ∧ len = 0 ∧ cap = 0 := by simpa using hcs
    exact ⟨.inl ⟨rfl, rfl⟩, Nat.zero_le _⟩
  · obtain ⟨rfl, rfl, rfl⟩ : a = some y ∧ len = l ∧ cap = c := by simpa using hcs
    refine ⟨.inr ⟨y, rfl, fun j hj => ?_⟩, Nat.le_trans hl hm⟩
    obtain ⟨cs', hc, ht⟩ := hx j (by rw [hmm]; split <;> omega)
    rw [show Try.prog.cellsOf 42 = 8 from by kernel_rfl] at hc
    obtain ⟨kind, asi, un, num, place, v, store, priv, e, w0, w1, w2, w3, w4, w5⟩ := openDeed ht
    subst e
    obtain ⟨_, _, hg⟩ := World.cells?_some hc
    have g0 := hg 0 (by omega)
    rw [Addr.add_add] at g0
    have g1 := hg 1 (by omega)
    rw [Addr.add_add, add_field _ _ 1 (by omega)] at g1
    have g2 := hg 2 (by omega)
    rw [Addr.add_add, add_field _ _ 2 (by omega)] at g2
    have g3 := hg 3 (by omega)
    rw [Addr.add_add, add_field _ _ 3 (by omega)] at g3
    have g4 := hg 4 (by omega)
    rw [Addr.add_add, add_field _ _ 4 (by omega)] at g4
    have g5 := hg 5 (by omega)
    rw [Addr.add_add, add_field _ _ 5 (by omega)] at g5
    have g6 := hg 6 (by omega)
    rw [Addr.add_add, add_field _ _ 6 (by omega)] at g6
    have g7 := hg 7 (by omega)
    rw [Addr.add_add, add_field _ _ 7 (by omega)] at g7
    exact ⟨kind, asi, un, num, place, v, store, priv, w1, w4, w5, g0, g1, g2, g3, g4, g5, g6, g7⟩
end Go.Proofs.Ytdfejnakhpgekaa.QRegsPlays
