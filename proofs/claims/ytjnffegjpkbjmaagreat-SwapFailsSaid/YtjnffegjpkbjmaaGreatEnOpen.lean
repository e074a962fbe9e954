/- Entries, opened out of what a law is handed. -/
import Derived.Test.YtjnffegjpkbjmaaGreatTsT
import Derived.Deep.Slices
import Derived.DataElems
import Derived.DataReads
import Derived.WalkKit
import Derived.ProofKit
import Derived.OpenShut
import Derived.ShutString
import Derived.ChangeOld
import Derived.Below
namespace Go.Proofs.YtjnffegjpkbjmaaGreat.Mem
open Go.Proofs.YtjnffegjpkbjmaaGreat.QTsbPlays Go.ChangeShapes Go.WideShapes Go.ChangeAt Go.RowKit Go.Proofs.YtjnffegjpkbjmaaGreatW.PrintWords Go.Deep
set_option linter.unusedVariables false
abbrev Ent := S41
structure EntW (e : Ent) : Prop where
  s : (Lit.int .i64 e.f0).wf = true
  c : (Lit.int .i64 e.f1).wf = true
  v : (Lit.int .u64 e.f2).wf = true
  p : (Lit.int .u64 e.f3).wf = true
theorem cell_lt {w : World} {a : Addr} {v : Value} (h : w.cell? a = some v) : a.block < w.heap.size := by
  unfold World.cell? at h
  split at h
  · rename_i hb
    exact blk_lt hb
  · cases h
theorem cell_grown {W W' : World} {a : Addr} {v : Value} (h : W.cell? a = some v) (hg : W.grownBy W' none) : W'.cell? a = some v := (World.cell?_of_block (w := W) (hg.block a.block (cell_lt h) (by simp))).trans h
/-- An entry's cells. -/
abbrev entA (e : Ent) : Array Value := #[.int .i64 e.f0, .int .i64 e.f1, .int .u64 e.f2, .int .u64 e.f3, .bool e.f4.f0, .bool e.f4.f1, .bool e.f4.f2, .bool e.f4.f3, .bool e.f4.f4, .bool e.f4.f5, .bool e.f5]
set_option maxRecDepth 100000 in
theorem attr_open {H : Type} {enc : TypeId × Value → H} {w : World} {base : Nat} {spare : Nat → Bool} {held : Bool} {n : Nat} {cs : List Value} {x : DataW H × List MemPlace} (h : DataW.trod enc Tryz.prog w base spare held n 39 cs = some x) :
    ∃ a : S39, cs = [.bool a.f0, .bool a.f1, .bool a.f2, .bool a.f3, .bool a.f4, .bool a.f5] := by
  obtain ⟨xs, m, _, _, hl, hlen, hg⟩ := DataW.trod_struct Tryz.underlying39 h
  rw [show Tryz.prog.cellsOf 39 = 6 from by kernel_rfl] at hl
  match cs, hl with
  | [c0, c1, c2, c3, c4, c5], _ =>
    have g0 := hg 0 _ rfl
    replace g0 : DataW.trod enc Tryz.prog w base spare held m 4 ((([c0, c1, c2, c3, c4, c5] : List Value).drop 0).take (Tryz.prog.cellsOf 4)) = xs[0]? := g0
    obtain ⟨y0, hy0⟩ : ∃ y, xs[0]? = some y := ⟨_, List.getElem?_eq_getElem (by rw [hlen]; decide)⟩
    rw [hy0, show Tryz.prog.cellsOf 4 = 1 from by kernel_rfl] at g0
    replace g0 : DataW.trod enc Tryz.prog w base spare held m 4 [c0] = some y0 := g0
    have g1 := hg 1 _ rfl
    replace g1 : DataW.trod enc Tryz.prog w base spare held m 4 ((([c0, c1, c2, c3, c4, c5] : List Value).drop 1).take (Tryz.prog.cellsOf 4)) = xs[1]? := g1
    obtain ⟨y1, hy1⟩ : ∃ y, xs[1]? = some y := ⟨_, List.getElem?_eq_getElem (by rw [hlen]; decide)⟩
    rw [hy1, show Tryz.prog.cellsOf 4 = 1 from by kernel_rfl] at g1
    replace g1 : DataW.trod enc Tryz.prog w base spare held m 4 [c1] = some y1 := g1
    have g2 := hg 2 _ rfl
    replace g2 : DataW.trod enc Tryz.prog w base spare held m 4 ((([c0, c1, c2, c3, c4, c5] : List Value).drop 2).take (Tryz.prog.cellsOf 4)) = xs[2]? := g2
    obtain ⟨y2, hy2⟩ : ∃ y, xs[2]? = some y := ⟨_, List.getElem?_eq_getElem (by rw [hlen]; decide)⟩
    rw [hy2, show Tryz.prog.cellsOf 4 = 1 from by kernel_rfl] at g2
    replace g2 : DataW.trod enc Tryz.prog w base spare held m 4 [c2] = some y2 := g2
    have g3 := hg 3 _ rfl
    replace g3 : DataW.trod enc Tryz.prog w base spare held m 4 ((([c0, c1, c2, c3, c4, c5] : List Value).drop 3).take (Tryz.prog.cellsOf 4)) = xs[3]? := g3
    obtain ⟨y3, hy3⟩ : ∃ y, xs[3]? = some y := ⟨_, List.getElem?_eq_getElem (by rw [hlen]; decide)⟩
    rw [hy3, show Tryz.prog.cellsOf 4 = 1 from by kernel_rfl] at g3
    replace g3 : DataW.trod enc Tryz.prog w base spare held m 4 [c3] = some y3 := g3
    have g4 := hg 4 _ rfl
    replace g4 : DataW.trod enc Tryz.prog w base spare held m 4 ((([c0, c1, c2, c3, c4, c5] : List Value).drop 4).take (Tryz.prog.cellsOf 4)) = xs[4]? := g4
    obtain ⟨y4, hy4⟩ : ∃ y, xs[4]? = some y := ⟨_, List.getElem?_eq_getElem (by rw [hlen]; decide)⟩
    rw [hy4, show Tryz.prog.cellsOf 4 = 1 from by kernel_rfl] at g4
    replace g4 : DataW.trod enc Tryz.prog w base spare held m 4 [c4] = some y4 := g4
    have g5 := hg 5 _ rfl
    replace g5 : DataW.trod enc Tryz.prog w base spare held m 4 ((([c0, c1, c2, c3, c4, c5] : List Value).drop 5).take (Tryz.prog.cellsOf 4)) = xs[5]? := g5
    obtain ⟨y5, hy5⟩ : ∃ y, xs[5]? = some y := ⟨_, List.getElem?_eq_getElem (by rw [hlen]; decide)⟩
    rw [hy5, show Tryz.prog.cellsOf 4 = 1 from by kernel_rfl] at g5
    replace g5 : DataW.trod enc Tryz.prog w base spare held m 4 [c5] = some y5 := g5
    obtain ⟨b0, e0, _⟩ := DataW.trod_bool Tryz.underlying4 g0
    simp only [List.cons.injEq, and_true] at e0
    obtain rfl := e0
    obtain ⟨b1, e1, _⟩ := DataW.trod_bool Tryz.underlying4 g1
    simp only [List.cons.injEq, and_true] at e1
    obtain rfl := e1
    obtain ⟨b2, e2, _⟩ := DataW.trod_bool Tryz.underlying4 g2
    simp only [List.cons.injEq, and_true] at e2
    obtain rfl := e2
    obtain ⟨b3, e3, _⟩ := DataW.trod_bool Tryz.underlying4 g3
    simp only [List.cons.injEq, and_true] at e3
    obtain rfl := e3
    obtain ⟨b4, e4, _⟩ := DataW.trod_bool Tryz.underlying4 g4
    simp only [List.cons.injEq, and_true] at e4
    obtain rfl := e4
    obtain ⟨b5, e5, _⟩ := DataW.trod_bool Tryz.underlying4 g5
    simp only [List.cons.injEq, and_true] at e5
    obtain rfl := e5
    exact ⟨⟨b0, b1, b2, b3, b4, b5⟩, rfl⟩
set_option maxRecDepth 100000 in
theorem ent_open {H : Type} {enc : TypeId × Value → H} {w : World} {base : Nat} {spare : Nat → Bool} {held : Bool} {n : Nat} {cs : List Value} {x : DataW H × List MemPlace} (h : DataW.trod enc Tryz.prog w base spare held n 41 cs = some x) :
    ∃ e : Ent, cs = [.int .i64 e.f0, .int .i64 e.f1, .int .u64 e.f2, .int .u64 e.f3, .bool e.f4.f0, .bool e.f4.f1, .bool e.f4.f2, .bool e.f4.f3, .bool e.f4.f4, .bool e.f4.f5, .bool e.f5] ∧ EntW e := by
  obtain ⟨xs, m, _, _, hl, hlen, hg⟩ := DataW.trod_struct Tryz.underlying41 h
  rw [show Tryz.prog.cellsOf 41 = 11 from by kernel_rfl] at hl
  match cs, hl with
  | [c0, c1, c2, c3, c4, c5, c6, c7, c8, c9, c10], _ =>
    have g0 := hg 0 _ rfl
    replace g0 : DataW.trod enc Tryz.prog w base spare held m 3 ((([c0, c1, c2, c3, c4, c5, c6, c7, c8, c9, c10] : List Value).drop 0).take (Tryz.prog.cellsOf 3)) = xs[0]? := g0
    obtain ⟨y0, hy0⟩ : ∃ y, xs[0]? = some y := ⟨_, List.getElem?_eq_getElem (by rw [hlen]; decide)⟩
    rw [hy0, show Tryz.prog.cellsOf 3 = 1 from by kernel_rfl] at g0
    replace g0 : DataW.trod enc Tryz.prog w base spare held m 3 [c0] = some y0 := g0
    have g1 := hg 1 _ rfl
    replace g1 : DataW.trod enc Tryz.prog w base spare held m 3 ((([c0, c1, c2, c3, c4, c5, c6, c7, c8, c9, c10] : List Value).drop 1).take (Tryz.prog.cellsOf 3)) = xs[1]? := g1
    obtain ⟨y1, hy1⟩ : ∃ y, xs[1]? = some y := ⟨_, List.getElem?_eq_getElem (by rw [hlen]; decide)⟩
    rw [hy1, show Tryz.prog.cellsOf 3 = 1 from by kernel_rfl] at g1
    replace g1 : DataW.trod enc Tryz.prog w base spare held m 3 [c1] = some y1 := g1
    have g2 := hg 2 _ rfl
    replace g2 : DataW.trod enc Tryz.prog w base spare held m 37 ((([c0, c1, c2, c3, c4, c5, c6, c7, c8, c9, c10] : List Value).drop 2).take (Tryz.prog.cellsOf 37)) = xs[2]? := g2
    obtain ⟨y2, hy2⟩ : ∃ y, xs[2]? = some y := ⟨_, List.getElem?_eq_getElem (by rw [hlen]; decide)⟩
    rw [hy2, show Tryz.prog.cellsOf 37 = 1 from by kernel_rfl] at g2
    replace g2 : DataW.trod enc Tryz.prog w base spare held m 37 [c2] = some y2 := g2
    have g3 := hg 3 _ rfl
    replace g3 : DataW.trod enc Tryz.prog w base spare held m 37 ((([c0, c1, c2, c3, c4, c5, c6, c7, c8, c9, c10] : List Value).drop 3).take (Tryz.prog.cellsOf 37)) = xs[3]? := g3
    obtain ⟨y3, hy3⟩ : ∃ y, xs[3]? = some y := ⟨_, List.getElem?_eq_getElem (by rw [hlen]; decide)⟩
    rw [hy3, show Tryz.prog.cellsOf 37 = 1 from by kernel_rfl] at g3
    replace g3 : DataW.trod enc Tryz.prog w base spare held m 37 [c3] = some y3 := g3
    have g4 := hg 4 _ rfl
    replace g4 : DataW.trod enc Tryz.prog w base spare held m 39 ((([c0, c1, c2, c3, c4, c5, c6, c7, c8, c9, c10] : List Value).drop 4).take (Tryz.prog.cellsOf 39)) = xs[4]? := g4
    obtain ⟨y4, hy4⟩ : ∃ y, xs[4]? = some y := ⟨_, List.getElem?_eq_getElem (by rw [hlen]; decide)⟩
    rw [hy4, show Tryz.prog.cellsOf 39 = 6 from by kernel_rfl] at g4
    replace g4 : DataW.trod enc Tryz.prog w base spare held m 39 [c4, c5, c6, c7, c8, c9] = some y4 := g4
    have g5 := hg 5 _ rfl
    replace g5 : DataW.trod enc Tryz.prog w base spare held m 4 ((([c0, c1, c2, c3, c4, c5, c6, c7, c8, c9, c10] : List Value).drop 10).take (Tryz.prog.cellsOf 4)) = xs[5]? := g5
    obtain ⟨y5, hy5⟩ : ∃ y, xs[5]? = some y := ⟨_, List.getElem?_eq_getElem (by rw [hlen]; decide)⟩
    rw [hy5, show Tryz.prog.cellsOf 4 = 1 from by kernel_rfl] at g5
    replace g5 : DataW.trod enc Tryz.prog w base spare held m 4 [c10] = some y5 := g5
    obtain ⟨b0, e0, _, w0⟩ := DataW.trod_int Tryz.underlying3 g0
    simp only [List.cons.injEq, and_true] at e0
    obtain rfl := e0
    obtain ⟨b1, e1, _, w1⟩ := DataW.trod_int Tryz.underlying3 g1
    simp only [List.cons.injEq, and_true] at e1
    obtain rfl := e1
    obtain ⟨b2, e2, _, w2⟩ := DataW.trod_int Tryz.underlying37 g2
    simp only [List.cons.injEq, and_true] at e2
    obtain rfl := e2
    obtain ⟨b3, e3, _, w3⟩ := DataW.trod_int Tryz.underlying37 g3
    simp only [List.cons.injEq, and_true] at e3
    obtain rfl := e3
    obtain ⟨b4, e4⟩ := attr_open g4
    simp only [List.cons.injEq, and_true] at e4
    obtain ⟨rfl, rfl, rfl, rfl, rfl, rfl⟩ := e4
    obtain ⟨b5, e5, _⟩ := DataW.trod_bool Tryz.underlying4 g5
    simp only [List.cons.injEq, and_true] at e5
    obtain rfl := e5
    exact ⟨⟨b0, b1, b2, b3, b4, b5⟩, rfl, ⟨w0, w1, w2, w3⟩⟩
/-- The cells of an entry in a row. -/
structure EntAt (w : World) (y : Addr) (e : Ent) : Prop where
  wf : EntW e
  c0 : w.cell? (y) = some (.int .i64 e.f0)
  c1 : w.cell? ⟨(y).block, (y).off + 1, none⟩ = some (.int .i64 e.f1)
  c2 : w.cell? ⟨(y).block, (y).off + 2, none⟩ = some (.int .u64 e.f2)
  c3 : w.cell? ⟨(y).block, (y).off + 3, none⟩ = some (.int .u64 e.f3)
  c4 : w.cell? ⟨(y).block, (y).off + 4, none⟩ = some (.bool e.f4.f0)
  c5 : w.cell? ⟨(y).block, (y).off + 5, none⟩ = some (.bool e.f4.f1)
  c6 : w.cell? ⟨(y).block, (y).off + 6, none⟩ = some (.bool e.f4.f2)
  c7 : w.cell? ⟨(y).block, (y).off + 7, none⟩ = some (.bool e.f4.f3)
  c8 : w.cell? ⟨(y).block, (y).off + 8, none⟩ = some (.bool e.f4.f4)
  c9 : w.cell? ⟨(y).block, (y).off + 9, none⟩ = some (.bool e.f4.f5)
  c10 : w.cell? ⟨(y).block, (y).off + 10, none⟩ = some (.bool e.f5)
theorem EntAt.grown {w w' : World} {y : Addr} {e : Ent} (h : EntAt w y e) (hg : w.grownBy w' none) : EntAt w' y e := ⟨h.wf, cell_grown h.c0 hg, cell_grown h.c1 hg, cell_grown h.c2 hg, cell_grown h.c3 hg, cell_grown h.c4 hg, cell_grown h.c5 hg, cell_grown h.c6 hg, cell_grown h.c7 hg, cell_grown h.c8 hg, cell_grown h.c9 hg, cell_grown h.c10 hg⟩
def Ents (w : World) (a : Option Addr) (len : Nat) : Prop := (a = none ∧ len = 0) ∨ ∃ x, a = some x ∧ ∀ j, j < len → ∃ e, EntAt w (x.add (j * 11)) e
theorem Ents.at {w : World} {a : Option Addr} {len : Nat} (h : Ents w a len) (j : Nat) (hj : j < len) : ∃ x e, a = some x ∧ EntAt w (x.add (j * 11)) e := by
  rcases h with ⟨_, e⟩ | ⟨x, rfl, h⟩
  · omega
  · obtain ⟨e, he⟩ := h j hj
    exact ⟨x, e, rfl, he⟩
theorem Ents.grown {w w' : World} {a : Option Addr} {len : Nat} (h : Ents w a len) (hg : w.grownBy w' none) : Ents w' a len := by
  rcases h with e | ⟨x, rfl, h⟩
  · exact .inl e
  · exact .inr ⟨x, rfl, fun j hj => by obtain ⟨e, he⟩ := h j hj; exact ⟨e, he.grown hg⟩⟩
theorem ents_open {H : Type} {enc : TypeId × Value → H} {w : World} {base : Nat} {spare : Nat → Bool} {held : Bool} {n : Nat} {a : Option Addr} {len cap : Nat} {x : DataW H × List MemPlace} (h : DataW.trod enc Tryz.prog w base spare held n 22 [.slice a len cap] = some x) : Ents w a len ∧ len ≤ maxLen := by
  rcases open_slice Tryz.underlying22 h with ⟨hcs, _⟩ | ⟨y, l, c, m, n', D, Pl, hcs, _, hl, hm, hmm, _, hx⟩
  · obtain ⟨rfl, rfl, rfl⟩ : a = none ∧ len = 0 ∧ cap = 0 := by simpa using hcs
    exact ⟨.inl ⟨rfl, rfl⟩, Nat.zero_le _⟩
  · obtain ⟨rfl, rfl, rfl⟩ : a = some y ∧ len = l ∧ cap = c := by simpa using hcs
    refine ⟨.inr ⟨y, rfl, fun j hj => ?_⟩, Nat.le_trans hl hm⟩
    obtain ⟨cs', hc, ht⟩ := hx j (by rw [hmm]; split <;> omega)
    rw [show Tryz.prog.cellsOf 41 = 11 from by kernel_rfl] at hc
    obtain ⟨e, he, hw⟩ := ent_open ht
    subst he
    obtain ⟨_, _, hg⟩ := World.cells?_some hc
    have g0 := hg 0 (by omega)
    rw [Addr.add_add] at g0
    have g1 := hg 1 (by omega)
    rw [Addr.add_add, add_field _ _ 1 (by omega)] at g1
    have g2 := hg 2 (by omega)
    rw [Addr.add_add, add_field _ _ 2 (by omega)] at g2
    have g3 := hg 3 (by omega)
    rw [Addr.add_add, add_field _ _ 3 (by omega)] at g3
    have g4 := hg 4 (by omega)
    rw [Addr.add_add, add_field _ _ 4 (by omega)] at g4
    have g5 := hg 5 (by omega)
    rw [Addr.add_add, add_field _ _ 5 (by omega)] at g5
    have g6 := hg 6 (by omega)
    rw [Addr.add_add, add_field _ _ 6 (by omega)] at g6
    have g7 := hg 7 (by omega)
    rw [Addr.add_add, add_field _ _ 7 (by omega)] at g7
    have g8 := hg 8 (by omega)
    rw [Addr.add_add, add_field _ _ 8 (by omega)] at g8
    have g9 := hg 9 (by omega)
    rw [Addr.add_add, add_field _ _ 9 (by omega)] at g9
    have g10 := hg 10 (by omega)
    rw [Addr.add_add, add_field _ _ 10 (by omega)] at g10
    exact ⟨e, hw, g0, g1, g2, g3, g4, g5, g6, g7, g8, g9, g10⟩
end Go.Proofs.YtjnffegjpkbjmaaGreat.Mem
