/- A deed that puts an entry, of a TSB and of the document's. -/
import Derived.Test.YtjnffegjpkbjmaaTpG
/- merged: YtjnffegjpkbjmaaDsOpen -/
namespace Go.Proofs.Ytjnffegjpkbjmaa.Mem
open Go.Proofs.Ytjnffegjpkbjmaa.QTsbPlays Go.ChangeShapes Go.WideShapes Go.ChangeAt Go.RowKit Go.Proofs.YtjnffegjpkbjmaaW.PrintWords Go.Deep
set_option linter.unusedVariables false
set_option maxRecDepth 100000 in
theorem deed_open {H : Type} {enc : TypeId × Value → H} {w : World} {base : Nat} {spare : Nat → Bool} {held : Bool} {n : Nat} {cs : List Value} {x : DataW H × List MemPlace} (h : DataW.trod enc Try.prog w base spare held n 52 cs = some x) :
  ∃ (kd cx va : Int) (e : Ent) (raw : Bool), cs = [.int .i64 kd, .int .i64 cx, .int .u64 va, .int .i64 e.f0, .int .i64 e.f1, .int .u64 e.f2, .int .u64 e.f3, .bool e.f4.f0, .bool e.f4.f1, .bool e.f4.f2, .bool e.f4.f3, .bool e.f4.f4, .bool e.f4.f5, .bool e.f5, .bool raw] ∧ (Lit.int .u64 va).wf = true ∧ EntW e := by
 obtain ⟨xs, m, _, _, hl, hlen, hg⟩ := DataW.trod_struct Try.underlying52 h
 rw [show Try.prog.cellsOf 52 = 15 from by kernel_rfl] at hl
 match cs, hl with
 | [c0, c1, c2, c3, c4, c5, c6, c7, c8, c9, c10, c11, c12, c13, c14], _ =>
  have g0 := hg 0 _ rfl
  replace g0 : DataW.trod enc Try.prog w base spare held m 3 ((([c0, c1, c2, c3, c4, c5, c6, c7, c8, c9, c10, c11, c12, c13, c14] : List Value).drop 0).take (Try.prog.cellsOf 3)) = xs[0]? := g0
  obtain ⟨y0, hy0⟩ : ∃ y, xs[0]? = some y := ⟨_, List.getElem?_eq_getElem (by rw [hlen]; decide)⟩
  rw [hy0, show Try.prog.cellsOf 3 = 1 from by kernel_rfl] at g0
  replace g0 : DataW.trod enc Try.prog w base spare held m 3 [c0] = some y0 := g0
  have g1 := hg 1 _ rfl
  replace g1 : DataW.trod enc Try.prog w base spare held m 3 ((([c0, c1, c2, c3, c4, c5, c6, c7, c8, c9, c10, c11, c12, c13, c14] : List Value).drop 1).take (Try.prog.cellsOf 3)) = xs[1]? := g1
  obtain ⟨y1, hy1⟩ : ∃ y, xs[1]? = some y := ⟨_, List.getElem?_eq_getElem (by rw [hlen]; decide)⟩
  rw [hy1, show Try.prog.cellsOf 3 = 1 from by kernel_rfl] at g1
  replace g1 : DataW.trod enc Try.prog w base spare held m 3 [c1] = some y1 := g1
  have g2 := hg 2 _ rfl
  replace g2 : DataW.trod enc Try.prog w base spare held m 38 ((([c0, c1, c2, c3, c4, c5, c6, c7, c8, c9, c10, c11, c12, c13, c14] : List Value).drop 2).take (Try.prog.cellsOf 38)) = xs[2]? := g2
  obtain ⟨y2, hy2⟩ : ∃ y, xs[2]? = some y := ⟨_, List.getElem?_eq_getElem (by rw [hlen]; decide)⟩
  rw [hy2, show Try.prog.cellsOf 38 = 1 from by kernel_rfl] at g2
  replace g2 : DataW.trod enc Try.prog w base spare held m 38 [c2] = some y2 := g2
  have g3 := hg 3 _ rfl
  replace g3 : DataW.trod enc Try.prog w base spare held m 50 ((([c0, c1, c2, c3, c4, c5, c6, c7, c8, c9, c10, c11, c12, c13, c14] : List Value).drop 3).take (Try.prog.cellsOf 50)) = xs[3]? := g3
  obtain ⟨y3, hy3⟩ : ∃ y, xs[3]? = some y := ⟨_, List.getElem?_eq_getElem (by rw [hlen]; decide)⟩
  rw [hy3, show Try.prog.cellsOf 50 = 11 from by kernel_rfl] at g3
  replace g3 : DataW.trod enc Try.prog w base spare held m 50 [c3, c4, c5, c6, c7, c8, c9, c10, c11, c12, c13] = some y3 := g3
  have g4 := hg 4 _ rfl
  replace g4 : DataW.trod enc Try.prog w base spare held m 4 ((([c0, c1, c2, c3, c4, c5, c6, c7, c8, c9, c10, c11, c12, c13, c14] : List Value).drop 14).take (Try.prog.cellsOf 4)) = xs[4]? := g4
  obtain ⟨y4, hy4⟩ : ∃ y, xs[4]? = some y := ⟨_, List.getElem?_eq_getElem (by rw [hlen]; decide)⟩
  rw [hy4, show Try.prog.cellsOf 4 = 1 from by kernel_rfl] at g4
  replace g4 : DataW.trod enc Try.prog w base spare held m 4 [c14] = some y4 := g4
  obtain ⟨b0, e0, _, w0⟩ := DataW.trod_int Try.underlying3 g0
  simp only [List.cons.injEq, and_true] at e0
  obtain rfl := e0
  obtain ⟨b1, e1, _, w1⟩ := DataW.trod_int Try.underlying3 g1
  simp only [List.cons.injEq, and_true] at e1
  obtain rfl := e1
  obtain ⟨b2, e2, _, w2⟩ := DataW.trod_int Try.underlying38 g2
  simp only [List.cons.injEq, and_true] at e2
  obtain rfl := e2
  obtain ⟨e, e3, we⟩ := ent_open g3
  simp only [List.cons.injEq, and_true] at e3
  obtain ⟨rfl, rfl, rfl, rfl, rfl, rfl, rfl, rfl, rfl, rfl, rfl⟩ := e3
  obtain ⟨b4, e4, _⟩ := DataW.trod_bool Try.underlying4 g4
  simp only [List.cons.injEq, and_true] at e4
  obtain rfl := e4
  exact ⟨b0, b1, b2, e, b4, rfl, w2, we⟩
structure DeedAt (w : World) (y : Addr) (kd cx va : Int) (e : Ent) (raw : Bool) : Prop where
 hva : (Lit.int .u64 va).wf = true
 he : EntW e
 c0 : w.cell? (y) = some (.int .i64 kd)
 c1 : w.cell? ⟨(y).block, (y).off + 1, none⟩ = some (.int .i64 cx)
 c2 : w.cell? ⟨(y).block, (y).off + 2, none⟩ = some (.int .u64 va)
 c3 : w.cell? ⟨(y).block, (y).off + 3, none⟩ = some (.int .i64 e.f0)
 c4 : w.cell? ⟨(y).block, (y).off + 4, none⟩ = some (.int .i64 e.f1)
 c5 : w.cell? ⟨(y).block, (y).off + 5, none⟩ = some (.int .u64 e.f2)
 c6 : w.cell? ⟨(y).block, (y).off + 6, none⟩ = some (.int .u64 e.f3)
 c7 : w.cell? ⟨(y).block, (y).off + 7, none⟩ = some (.bool e.f4.f0)
 c8 : w.cell? ⟨(y).block, (y).off + 8, none⟩ = some (.bool e.f4.f1)
 c9 : w.cell? ⟨(y).block, (y).off + 9, none⟩ = some (.bool e.f4.f2)
 c10 : w.cell? ⟨(y).block, (y).off + 10, none⟩ = some (.bool e.f4.f3)
 c11 : w.cell? ⟨(y).block, (y).off + 11, none⟩ = some (.bool e.f4.f4)
 c12 : w.cell? ⟨(y).block, (y).off + 12, none⟩ = some (.bool e.f4.f5)
 c13 : w.cell? ⟨(y).block, (y).off + 13, none⟩ = some (.bool e.f5)
 c14 : w.cell? ⟨(y).block, (y).off + 14, none⟩ = some (.bool raw)
theorem DeedAt.grown {w w' : World} {y : Addr} {kd cx va : Int} {e : Ent} {raw : Bool} (h : DeedAt w y kd cx va e raw) (hg : w.grownBy w' none) : DeedAt w' y kd cx va e raw := ⟨h.hva, h.he, cell_grown h.c0 hg, cell_grown h.c1 hg, cell_grown h.c2 hg, cell_grown h.c3 hg, cell_grown h.c4 hg, cell_grown h.c5 hg, cell_grown h.c6 hg, cell_grown h.c7 hg, cell_grown h.c8 hg, cell_grown h.c9 hg, cell_grown h.c10 hg, cell_grown h.c11 hg, cell_grown h.c12 hg, cell_grown h.c13 hg, cell_grown h.c14 hg⟩
def Deeds (w : World) (a : Option Addr) (len : Nat) : Prop := (a = none ∧ len = 0) ∨ ∃ x, a = some x ∧ ∀ j, j < len → ∃ kd cx va e raw, DeedAt w (x.add (j * 15)) kd cx va e raw
theorem Deeds.at {w : World} {a : Option Addr} {len : Nat} (h : Deeds w a len) (j : Nat) (hj : j < len) : ∃ x kd cx va e raw, a = some x ∧ DeedAt w (x.add (j * 15)) kd cx va e raw := by
 rcases h with ⟨_, e⟩ | ⟨x, rfl, h⟩
 ·omega
 ·obtain ⟨kd, cx, va, e, raw, he⟩ := h j hj
  exact ⟨x, kd, cx, va, e, raw, rfl, he⟩
theorem deeds_open {H : Type} {enc : TypeId × Value → H} {w : World} {base : Nat} {spare : Nat → Bool} {held : Bool} {n : Nat} {a : Option Addr} {len cap : Nat} {x : DataW H × List MemPlace} (h : DataW.trod enc Try.prog w base spare held n 79 [.slice a len cap] = some x) : Deeds w a len ∧ len ≤ maxLen := by
 rcases open_slice Try.underlying79 h with ⟨hcs, _⟩ | ⟨y, l, c, m, n', D, Pl, hcs, _, hl, hm, hmm, _, hx⟩
 ·obtain ⟨rfl, rfl, rfl⟩ : a = none ∧ len = 0 ∧ cap = 0 := by simpa using hcs
  exact ⟨.inl ⟨rfl, rfl⟩, Nat.zero_le _⟩
 ·obtain ⟨rfl, rfl, rfl⟩ : a = some y ∧ len = l ∧ cap = c := by simpa using hcs
  refine ⟨.inr ⟨y, rfl, fun j hj => ?_⟩, Nat.le_trans hl hm⟩
  obtain ⟨cs', hc, ht⟩ := hx j (by rw [hmm]; split <;> omega)
  rw [show Try.prog.cellsOf 52 = 15 from by kernel_rfl] at hc
  obtain ⟨kd, cx, va, e, raw, he, h1, h2⟩ := deed_open ht
  subst he
  obtain ⟨_, _, hg⟩ := World.cells?_some hc
  have g0 := hg 0 (by omega)
  rw [Addr.add_add] at g0
  have g1 := hg 1 (by omega)
  rw [Addr.add_add, add_field _ _ 1 (by omega)] at g1
  have g2 := hg 2 (by omega)
  rw [Addr.add_add, add_field _ _ 2 (by omega)] at g2
  have g3 := hg 3 (by omega)
  rw [Addr.add_add, add_field _ _ 3 (by omega)] at g3
  have g4 := hg 4 (by omega)
  rw [Addr.add_add, add_field _ _ 4 (by omega)] at g4
  have g5 := hg 5 (by omega)
  rw [Addr.add_add, add_field _ _ 5 (by omega)] at g5
  have g6 := hg 6 (by omega)
  rw [Addr.add_add, add_field _ _ 6 (by omega)] at g6
  have g7 := hg 7 (by omega)
  rw [Addr.add_add, add_field _ _ 7 (by omega)] at g7
  have g8 := hg 8 (by omega)
  rw [Addr.add_add, add_field _ _ 8 (by omega)] at g8
  have g9 := hg 9 (by omega)
  rw [Addr.add_add, add_field _ _ 9 (by omega)] at g9
  have g10 := hg 10 (by omega)
  rw [Addr.add_add, add_field _ _ 10 (by omega)] at g10
  have g11 := hg 11 (by omega)
  rw [Addr.add_add, add_field _ _ 11 (by omega)] at g11
  have g12 := hg 12 (by omega)
  rw [Addr.add_add, add_field _ _ 12 (by omega)] at g12
  have g13 := hg 13 (by omega)
  rw [Addr.add_add, add_field _ _ 13 (by omega)] at g13
  have g14 := hg 14 (by omega)
  rw [Addr.add_add, add_field _ _ 14 (by omega)] at g14
  exact ⟨kd, cx, va, e, raw, h1, h2, g0, g1, g2, g3, g4, g5, g6, g7, g8, g9, g10, g11, g12, g13, g14⟩
end Go.Proofs.Ytjnffegjpkbjmaa.Mem
namespace Go.Proofs.Ytjnffegjpkbjmaa.Mem
open Go.RowKit Go.Maps Go.Proofs.YtjnffegjpkbjmaaW.PrintWords Go.Proofs.YtjnffegjpkbjmaaW.PrintLast Go.Proofs.YtjnffegjpkbjmaaW.PrintMore Go.Proofs.Ytjnffegjpkbjmaa.QTsbPlays Go.Proofs.Ytjnffegjpkbjmaa.Pure
set_option linter.unusedSimpArgs false
set_option linter.unusedVariables false
section
set_option maxHeartbeats 2000000
set_option maxRecDepth 100000
theorem cz15 {W : World} {g : Nat} {t : TypeId} {a0 a1 a2 a3 a4 a5 a6 a7 a8 a9 a10 a11 a12 a13 a14 : Value} (h : W.heap[g]? = some (.cells #[a0, a1, a2, a3, a4, a5, a6, a7, a8, a9, a10, a11, a12, a13, a14] t (0, 0))) : W.cell? ⟨g, 0, none⟩ = some a0 ∧ W.cell? ⟨g, 1, none⟩ = some a1 ∧ W.cell? ⟨g, 2, none⟩ = some a2 ∧ W.cell? ⟨g, 3, none⟩ = some a3 ∧ W.cell? ⟨g, 4, none⟩ = some a4 ∧ W.cell? ⟨g, 5, none⟩ = some a5 ∧ W.cell? ⟨g, 6, none⟩ = some a6 ∧ W.cell? ⟨g, 7, none⟩ = some a7 ∧ W.cell? ⟨g, 8, none⟩ = some a8 ∧ W.cell? ⟨g, 9, none⟩ = some a9 ∧ W.cell? ⟨g, 10, none⟩ = some a10 ∧ W.cell? ⟨g, 11, none⟩ = some a11 ∧ W.cell? ⟨g, 12, none⟩ = some a12 ∧ W.cell? ⟨g, 13, none⟩ = some a13 ∧ W.cell? ⟨g, 14, none⟩ = some a14 := ⟨(blk_cell h 0).trans rfl, (blk_cell h 1).trans rfl, (blk_cell h 2).trans rfl, (blk_cell h 3).trans rfl, (blk_cell h 4).trans rfl, (blk_cell h 5).trans rfl, (blk_cell h 6).trans rfl, (blk_cell h 7).trans rfl, (blk_cell h 8).trans rfl, (blk_cell h 9).trans rfl, (blk_cell h 10).trans rfl, (blk_cell h 11).trans rfl, (blk_cell h 12).trans rfl, (blk_cell h 13).trans rfl, (blk_cell h 14).trans rfl⟩
theorem DWw.data {N : Nat} {ws : Nat → Wd} {l : List WS} (h : DWw N ws l) {i : Nat} (hi : i < N) (d : Nat) : DWw N (setW ws i ((ws i).1, d)) (pW l (i : Int) (gW l (i : Int)).1 (d : Int)) := by
 have e := h i hi
 rw [e]
 exact h.set i _ _ (fun j => gW_pW l _ _ _ j)
theorem DWw.tag {N : Nat} {ws : Nat → Wd} {l : List WS} (h : DWw N ws l) {i : Nat} (hi : i < N) (t : Nat) : DWw N (setW ws i (t, (ws i).2)) (pW l (i : Int) (t : Int) (gW l (i : Int)).2) := by
 have e := h i hi
 rw [e]
 exact h.set i _ _ (fun j => gW_pW l _ _ _ j)
theorem puts_calls {B : Nat} {w0 W : World} {p mb pt : Nat} {sz : Int} {base N s n : Nat} {grade : Int} {ws : Nat → Wd} {l : List WS} {A : Option Addr} {c : Nat} (b : TB base N s sz) (hQ : QW B w0 p mb pt sz base N s grade n ws W) (hdw : DWw N ws l) (hlk : LOK N l) (hR : Kd.R k122 122 W B (fun _ => True) (.slice A l.length c) (l)) (hB : B ≤ W.heap.size) (hmb : B ≤ mb) (hn : n ≤ 300000) (hl : l.length ≤ 1000) (kd cx va : Int) (raw : Bool) (e : Ent) (he : EntW e) :
  Calls Try.prog 82 #[.pointer (some ⟨pt, 0, none⟩), .agg #[.int .i64 (s : Int), .int .i64 (N : Int), .slice A l.length c], .agg #[.int .i64 kd, .int .i64 cx, .int .u64 va, .int .i64 e.f0, .int .i64 e.f1, .int .u64 e.f2, .int .u64 e.f3, .bool e.f4.f0, .bool e.f4.f1, .bool e.f4.f2, .bool e.f4.f3, .bool e.f4.f4, .bool e.f4.f5, .bool e.f5, .bool raw]] W fun x W' => ∃ ws' l' A' c', x = .returned (.tuple #[.agg #[.int .i64 (s : Int), .int .i64 (N : Int), .slice A' l'.length c'], .bool true]) ∧ QW B w0 p mb pt sz base N s grade (n + 2 * N + 3) ws' W' ∧ DWw N ws' l' ∧ LOK N l' ∧ Kd.R k122 122 W' B (fun _ => True) (.slice A' l'.length c') (l') ∧ l'.length ≤ l.length + 3 ∧ W.grownBy W' (some mb) := by
 have hu := Try.underlying44
 have hu2 := Try.underlying50
 have hu3 := Try.underlying52
 have HWE := Aside0.mk he
 clear he
 have HTB := Aside0.mk b
 have HQ := Aside0.mk hQ
 have HDW := Aside0.mk hdw
 have HLK := Aside0.mk hlk
 have HRL := Aside0.mk hR
 have HBW := Aside0.mk (And.intro hB hmb)
 have HNN := Aside0.mk (And.intro hn hl)
 clear b hQ hdw hlk hR hB hmb hn hl
 have hgb0 := World.grownBy_alloc (W) (.cells #[.int .i64 (s : Int), .int .i64 (N : Int), .slice A l.length c] 44) none
 have hb4 := heap_alloc_new (W) (.cells #[.int .i64 (s : Int), .int .i64 (N : Int), .slice A l.length c] 44)
 have hgb1 := World.grownBy_alloc ((W).alloc (.cells #[.int .i64 (s : Int), .int .i64 (N : Int), .slice A l.length c] 44)) (.cells #[.int .i64 kd, .int .i64 cx, .int .u64 va, .int .i64 e.f0, .int .i64 e.f1, .int .u64 e.f2, .int .u64 e.f3, .bool e.f4.f0, .bool e.f4.f1, .bool e.f4.f2, .bool e.f4.f3, .bool e.f4.f4, .bool e.f4.f5, .bool e.f5, .bool raw] 52) none
 have hb5 := heap_alloc_new ((W).alloc (.cells #[.int .i64 (s : Int), .int .i64 (N : Int), .slice A l.length c] 44)) (.cells #[.int .i64 kd, .int .i64 cx, .int .u64 va, .int .i64 e.f0, .int .i64 e.f1, .int .u64 e.f2, .int .u64 e.f3, .bool e.f4.f0, .bool e.f4.f1, .bool e.f4.f2, .bool e.f4.f3, .bool e.f4.f4, .bool e.f4.f5, .bool e.f5, .bool raw] 52)
 have hz1 : ((W).alloc (.cells #[.int .i64 (s : Int), .int .i64 (N : Int), .slice A l.length c] 44)).heap.size = W.heap.size + 1 := by simp only [World.size_alloc]
 rw [hz1] at hb5
 have hgb2 := World.grownBy_alloc (((W).alloc (.cells #[.int .i64 (s : Int), .int .i64 (N : Int), .slice A l.length c] 44)).alloc (.cells #[.int .i64 kd, .int .i64 cx, .int .u64 va, .int .i64 e.f0, .int .i64 e.f1, .int .u64 e.f2, .int .u64 e.f3, .bool e.f4.f0, .bool e.f4.f1, .bool e.f4.f2, .bool e.f4.f3, .bool e.f4.f4, .bool e.f4.f5, .bool e.f5, .bool raw] 52)) (.cells #[.int .i64 0, .int .i64 0, .slice none 0 0] 44) none
 have hb6 := heap_alloc_new (((W).alloc (.cells #[.int .i64 (s : Int), .int .i64 (N : Int), .slice A l.length c] 44)).alloc (.cells #[.int .i64 kd, .int .i64 cx, .int .u64 va, .int .i64 e.f0, .int .i64 e.f1, .int .u64 e.f2, .int .u64 e.f3, .bool e.f4.f0, .bool e.f4.f1, .bool e.f4.f2, .bool e.f4.f3, .bool e.f4.f4, .bool e.f4.f5, .bool e.f5, .bool raw] 52)) (.cells #[.int .i64 0, .int .i64 0, .slice none 0 0] 44)
 have hz2 : (((W).alloc (.cells #[.int .i64 (s : Int), .int .i64 (N : Int), .slice A l.length c] 44)).alloc (.cells #[.int .i64 kd, .int .i64 cx, .int .u64 va, .int .i64 e.f0, .int .i64 e.f1, .int .u64 e.f2, .int .u64 e.f3, .bool e.f4.f0, .bool e.f4.f1, .bool e.f4.f2, .bool e.f4.f3, .bool e.f4.f4, .bool e.f4.f5, .bool e.f5, .bool raw] 52)).heap.size = W.heap.size + 2 := by simp only [World.size_alloc]
 rw [hz2] at hb6
 have HG := Aside0.mk (grown_two (grown_two hgb0 hgb1) hgb2)
 have HB4 := Aside0.mk (blk_grown (blk_grown hb4 hgb1) hgb2)
 have HB5 := Aside0.mk (blk_grown hb5 hgb2)
 have HB6 := Aside0.mk hb6
 clear hgb0 hgb1 hgb2 hb4 hb5 hb6 hz1 hz2
 replace HQ := Aside0.mk (HQ.out.same HG.out)
 replace HRL := Aside0.mk (Kd.R_grown HRL.out HG.out (by simp))
 replace HG := Aside0.mk (grown_but HG.out (some mb))
 obtain ⟨h4, hh4⟩ : ∃ z, z = W.heap.size := ⟨_, rfl⟩
 obtain ⟨h5, hh5⟩ : ∃ z, z = W.heap.size + 1 := ⟨_, rfl⟩
 obtain ⟨h6, hh6⟩ : ∃ z, z = W.heap.size + 2 := ⟨_, rfl⟩
 have HH := Aside0.mk (show h4 = W.heap.size ∧ h5 = h4 + 1 ∧ h6 = h4 + 2 by omega)
 obtain ⟨q0, q1, q2⟩ := cz3q HB4.out
 obtain ⟨d0, d1, d2, d3, d4, d5, d6, d7, d8, d9, d10, d11, d12, d13, d14⟩ := cz15 HB5.out
 go_enter Try.func82, Try.ntmps82
 go_wp2_with fail
 rw [← hh4] at HB4
 rw [← hh5] at HB5
 rw [← hh6] at HB6
 rw [← hh6, ← hh5, ← hh4]
 clear hh4 hh5 hh6 q0 q1 q2 d0 d1 d2 d3 d4 d5 d6 d7 d8 d9 d10 d11 d12 d13 d14
 refine (entry_any kd cx va raw e HWE.out s HTB.out.hs _).mono ?_
 rintro x0 w2 ⟨rfl, hg⟩
 replace HB4 := Aside0.mk (blk_grown HB4.out hg)
 replace HB5 := Aside0.mk (blk_grown HB5.out hg)
 replace HB6 := Aside0.mk (blk_grown HB6.out hg)
 replace HG := Aside0.mk (grown_two HG.out (grown_but hg (some mb)))
 replace HQ := Aside0.mk (HQ.out.same hg)
 replace HRL := Aside0.mk (Kd.R_grown HRL.out hg (by simp))
 obtain ⟨E, hE⟩ : ∃ z, z = dE raw s e := ⟨_, rfl⟩
 have HWX := Aside0.mk (show EntW E by rw [hE]; exact dE_wf HWE.out HTB.out.hs)
 rw [← hE]
 clear hg hE HWE
 have hg := World.grownBy_alloc w2 (.cells (entA E) 50) none
 have HB8 := Aside0.mk (heap_alloc_new w2 (.cells (entA E) 50))
 have HH8 := Aside0.mk (show h4 < w2.heap.size ∧ h5 < w2.heap.size ∧ h6 < w2.heap.size from ⟨blk_lt HB4.out, blk_lt HB5.out, blk_lt HB6.out⟩)
 replace HB4 := Aside0.mk (blk_grown HB4.out hg)
 replace HB5 := Aside0.mk (blk_grown HB5.out hg)
 replace HB6 := Aside0.mk (blk_grown HB6.out hg)
 replace HG := Aside0.mk (grown_two HG.out (grown_but hg (some mb)))
 replace HQ := Aside0.mk (HQ.out.same hg)
 replace HRL := Aside0.mk (Kd.R_grown HRL.out hg (by simp))
 clear hg
 obtain ⟨q0, q1, q2⟩ := cz3q HB4.out
 obtain ⟨z0, z1, z2, z3, z4, z5, z6, z7, z8, z9, z10⟩ := tte_Read.cz11 HB8.out
 go_wp2_with fail
 generalize w2.heap.size = h8 at HB8 HH8 ⊢
 generalize w2.alloc (.cells (entA E) 50) = w3 at HG HB4 HB5 HB6 HB8 HRL HQ ⊢
 clear q0 q1 q2 z0 z1 z2 z3 z4 z5 z6 z7 z8 z9 z10
 refine (lookasideref10_May.calls 500 _ _ A c l _ _ _ _ _ _ _ _ _ _ _ _ _ (Kd.R_reads' HRL.out).2.2 (Kd.R_reads' HRL.out).2.1 (may_r HWX.out s N l)).mono ?_
 rintro x0 w4 ⟨rfl, hb⟩
 have hg := below_grown hb
 replace HB4 := Aside0.mk (blk_grown HB4.out hg)
 replace HB5 := Aside0.mk (blk_grown HB5.out hg)
 replace HB6 := Aside0.mk (blk_grown HB6.out hg)
 replace HB8 := Aside0.mk (blk_grown HB8.out hg)
 replace HG := Aside0.mk (grown_two HG.out (grown_but hg (some mb)))
 replace HQ := Aside0.mk (HQ.out.same hg)
 replace HRL := Aside0.mk (Kd.R_grown HRL.out hg (by simp))
 clear hg hb
 have HNX := Aside0.mk (World.grownBy_alloc w4 (.cells #[.int .i64 (s : Int), .int .i64 (N : Int), .slice A l.length c] 44) none)
 have HB11 := Aside0.mk (heap_alloc_new w4 (.cells #[.int .i64 (s : Int), .int .i64 (N : Int), .slice A l.length c] 44))
 have HH11 := Aside0.mk (show h4 < w4.heap.size ∧ h5 < w4.heap.size ∧ h6 < w4.heap.size ∧ h8 < w4.heap.size ∧ W.heap.size ≤ w4.heap.size from ⟨blk_lt HB4.out, blk_lt HB5.out, blk_lt HB6.out, blk_lt HB8.out, HG.out.size⟩)
 have hkk : (kd == 0) = true ∨ ((kd == 0) = false ∧ (kd == 5) = true) ∨ ((kd == 0) = false ∧ (kd == 5) = false) := by
  cases kd == 0 <;> cases kd == 5 <;> simp
 cases hm : mayE s E
 case' true =>
  obtain ⟨g, hgo, hgs, rfl⟩ := may_ge HWX.out hm
  have HGO := Aside0.mk (And.intro hgo hgs)
  replace HB8 := Aside0.mk (show w4.heap[h8]? = some (.cells (geA g) 50 (0, 0)) from HB8.out)
  clear hm hgo hgs HWX
 case' false =>
  have HMY := Aside0.mk (And.intro (may_p HWX.out) (show (Pure.mayOf E.f0 E.f1 E.f2.toNat E.f3.toNat E.f4.f4 E.f5 && E.f0 == (s : Int)) = false from hm))
  clear hm HWX
 all_goals
  obtain ⟨q0, q1, q2⟩ := cz3q HB4.out
  obtain ⟨z0, z1, z2, z3, z4, z5, z6, z7, z8, z9, z10⟩ := tte_Read.cz11 (blk_grown HB8.out HNX.out)
  obtain ⟨d0, d1, d2, d3, d4, d5, d6, d7, d8, d9, d10, d11, d12, d13, d14⟩ := cz15 (blk_grown HB5.out HNX.out)
  rcases hkk with hk | ⟨hk, hk5⟩ | ⟨hk, hk5⟩
 ·go_wp2_with fail
  clear q0 q1 q2 z0 z1 z2 z3 z4 z5 z6 z7 z8 z9 z10 d0 d1 d2 d3 d4 d5 d6 d7 d8 d9 d10 d11 d12 d13 d14
  have hg := HNX.out
  replace HB4 := Aside0.mk (blk_grown HB4.out hg)
  replace HB5 := Aside0.mk (blk_grown HB5.out hg)
  replace HB6 := Aside0.mk (blk_grown HB6.out hg)
  replace HB8 := Aside0.mk (blk_grown HB8.out hg)
  replace HG := Aside0.mk (grown_two HG.out (grown_but hg (some mb)))
  replace HQ := Aside0.mk (HQ.out.same hg)
  replace HRL := Aside0.mk (Kd.R_grown HRL.out hg (by simp))
  clear hg HNX
  generalize w4.heap.size = h11 at HB11 HH11 ⊢
  generalize w4.alloc (.cells #[.int .i64 (s : Int), .int .i64 (N : Int), .slice A l.length c] 44) = w5 at HG HB4 HB5 HB6 HB8 HB11 HRL HQ ⊢
  refine (tinsertno_calls HQ.out.row _ _ _ _ _ _ _ _ _ _ _ 500 _ HMY.out.1 HMY.out.2).mono ?_
  rintro x0 w6 ⟨rfl, hg⟩
  replace HB6 := Aside0.mk (blk_grown HB6.out hg)
  replace HB11 := Aside0.mk (blk_grown HB11.out hg)
  replace HG := Aside0.mk (grown_two HG.out (grown_but hg (some mb)))
  replace HQ := Aside0.mk (HQ.out.same hg)
  replace HRL := Aside0.mk (Kd.R_grown HRL.out hg (by simp))
  clear hg
  replace HQ := Aside0.mk (HQ.out.mono (show n ≤ n + 2 * N + 3 by omega))
  have HDX := HDW
  have HLX := Aside0.mk (And.intro HLK.out (show l.length ≤ l.length + 3 by omega))
  obtain ⟨q0, q1, q2⟩ := cz3q HB11.out
  go_wp2_with (((with_reducible refine gate_store (t := 44) (p := 6) rfl ?_); refine wpList_store_row rfl 44 (.tmp 6) (.tmp 50) rfl h6 #[.int .i64 (s : Int), .int .i64 (N : Int), .slice A l.length c] rfl rfl 44 _ HB6.out (by kernel_rfl) rfl (by kernel_rfl) ?_; have SHB6 := Aside0.mk (setRow_heap _ h6 _ #[.int .i64 (s : Int), .int .i64 (N : Int), .slice A l.length c] _ _ HB6.out); have THB6 := Aside0.mk (grown_row w6 h6 #[.int .i64 (s : Int), .int .i64 (N : Int), .slice A l.length c])))
  replace HQ := Aside0.mk (HQ.out.kept THB6.out HB6.out (by decide) (by decide) (by have := HBW.out; have := HH.out; omega))
  have HRZ := Aside0.mk (Kd.R_mono (ok' := fun _ => True) (Kd.R_grown (Kd.R_types HRL.out HB6.out (by decide)) THB6.out (fun k hk e => hk.2 (Option.some.inj e))) (fun _ _ => trivial))
  replace HG := Aside0.mk (grown_loc HG.out THB6.out (by have := HH.out; omega))
  obtain ⟨q0, q1, q2⟩ := cz3q SHB6.out
  exact bodyPost_ret (v := .tuple #[.agg #[.int .i64 (s : Int), .int .i64 (N : Int), .slice A l.length c], .bool true]) (by simp [results, Try.f82, go_sem, q0, q1, q2]) rfl ⟨_, _, _, _, rfl, HQ.out, HDX.out, HLX.out.1, HRZ.out, HLX.out.2, HG.out⟩
 ·go_wp2_with fail
  clear q0 q1 q2 z0 z1 z2 z3 z4 z5 z6 z7 z8 z9 z10 d0 d1 d2 d3 d4 d5 d6 d7 d8 d9 d10 d11 d12 d13 d14
  have hg := HNX.out
  replace HB4 := Aside0.mk (blk_grown HB4.out hg)
  replace HB5 := Aside0.mk (blk_grown HB5.out hg)
  replace HB6 := Aside0.mk (blk_grown HB6.out hg)
  replace HB8 := Aside0.mk (blk_grown HB8.out hg)
  replace HG := Aside0.mk (grown_two HG.out (grown_but hg (some mb)))
  replace HQ := Aside0.mk (HQ.out.same hg)
  replace HRL := Aside0.mk (Kd.R_grown HRL.out hg (by simp))
  clear hg HNX
  generalize w4.heap.size = h11 at HB11 HH11 ⊢
  generalize w4.alloc (.cells #[.int .i64 (s : Int), .int .i64 (N : Int), .slice A l.length c] 44) = w5 at HG HB4 HB5 HB6 HB8 HB11 HRL HQ ⊢
  refine (tputdatano_calls HQ.out.row _ _ _ _ _ _ _ _ _ _ _ 500 _ HMY.out.1 HMY.out.2).mono ?_
  rintro x0 w6 ⟨rfl, hg⟩
  replace HB6 := Aside0.mk (blk_grown HB6.out hg)
  replace HB11 := Aside0.mk (blk_grown HB11.out hg)
  replace HG := Aside0.mk (grown_two HG.out (grown_but hg (some mb)))
  replace HQ := Aside0.mk (HQ.out.same hg)
  replace HRL := Aside0.mk (Kd.R_grown HRL.out hg (by simp))
  clear hg
  replace HQ := Aside0.mk (HQ.out.mono (show n ≤ n + 2 * N + 3 by omega))
  have HDX := HDW
  have HLX := Aside0.mk (And.intro HLK.out (show l.length ≤ l.length + 3 by omega))
  obtain ⟨q0, q1, q2⟩ := cz3q HB11.out
  go_wp2_with (((with_reducible refine gate_store (t := 44) (p := 6) rfl ?_); refine wpList_store_row rfl 44 (.tmp 6) (.tmp 50) rfl h6 #[.int .i64 (s : Int), .int .i64 (N : Int), .slice A l.length c] rfl rfl 44 _ HB6.out (by kernel_rfl) rfl (by kernel_rfl) ?_; have SHB6 := Aside0.mk (setRow_heap _ h6 _ #[.int .i64 (s : Int), .int .i64 (N : Int), .slice A l.length c] _ _ HB6.out); have THB6 := Aside0.mk (grown_row w6 h6 #[.int .i64 (s : Int), .int .i64 (N : Int), .slice A l.length c])))
  replace HQ := Aside0.mk (HQ.out.kept THB6.out HB6.out (by decide) (by decide) (by have := HBW.out; have := HH.out; omega))
  have HRZ := Aside0.mk (Kd.R_mono (ok' := fun _ => True) (Kd.R_grown (Kd.R_types HRL.out HB6.out (by decide)) THB6.out (fun k hk e => hk.2 (Option.some.inj e))) (fun _ _ => trivial))
  replace HG := Aside0.mk (grown_loc HG.out THB6.out (by have := HH.out; omega))
  obtain ⟨q0, q1, q2⟩ := cz3q SHB6.out
  exact bodyPost_ret (v := .tuple #[.agg #[.int .i64 (s : Int), .int .i64 (N : Int), .slice A l.length c], .bool true]) (by simp [results, Try.f82, go_sem, q0, q1, q2]) rfl ⟨_, _, _, _, rfl, HQ.out, HDX.out, HLX.out.1, HRZ.out, HLX.out.2, HG.out⟩
 ·go_wp2_with fail
  clear q0 q1 q2 z0 z1 z2 z3 z4 z5 z6 z7 z8 z9 z10 d0 d1 d2 d3 d4 d5 d6 d7 d8 d9 d10 d11 d12 d13 d14
  have hg := HNX.out
  replace HB4 := Aside0.mk (blk_grown HB4.out hg)
  replace HB5 := Aside0.mk (blk_grown HB5.out hg)
  replace HB6 := Aside0.mk (blk_grown HB6.out hg)
  replace HB8 := Aside0.mk (blk_grown HB8.out hg)
  replace HG := Aside0.mk (grown_two HG.out (grown_but hg (some mb)))
  replace HQ := Aside0.mk (HQ.out.same hg)
  replace HRL := Aside0.mk (Kd.R_grown HRL.out hg (by simp))
  clear hg HNX
  generalize w4.heap.size = h11 at HB11 HH11 ⊢
  generalize w4.alloc (.cells #[.int .i64 (s : Int), .int .i64 (N : Int), .slice A l.length c] 44) = w5 at HG HB4 HB5 HB6 HB8 HB11 HRL HQ ⊢
  refine (tputtagno_calls HQ.out.row _ _ _ _ _ _ _ _ _ _ _ 500 _ HMY.out.1 HMY.out.2).mono ?_
  rintro x0 w6 ⟨rfl, hg⟩
  replace HB6 := Aside0.mk (blk_grown HB6.out hg)
  replace HB11 := Aside0.mk (blk_grown HB11.out hg)
  replace HG := Aside0.mk (grown_two HG.out (grown_but hg (some mb)))
  replace HQ := Aside0.mk (HQ.out.same hg)
  replace HRL := Aside0.mk (Kd.R_grown HRL.out hg (by simp))
  clear hg
  replace HQ := Aside0.mk (HQ.out.mono (show n ≤ n + 2 * N + 3 by omega))
  have HDX := HDW
  have HLX := Aside0.mk (And.intro HLK.out (show l.length ≤ l.length + 3 by omega))
  obtain ⟨q0, q1, q2⟩ := cz3q HB11.out
  go_wp2_with (((with_reducible refine gate_store (t := 44) (p := 6) rfl ?_); refine wpList_store_row rfl 44 (.tmp 6) (.tmp 50) rfl h6 #[.int .i64 (s : Int), .int .i64 (N : Int), .slice A l.length c] rfl rfl 44 _ HB6.out (by kernel_rfl) rfl (by kernel_rfl) ?_; have SHB6 := Aside0.mk (setRow_heap _ h6 _ #[.int .i64 (s : Int), .int .i64 (N : Int), .slice A l.length c] _ _ HB6.out); have THB6 := Aside0.mk (grown_row w6 h6 #[.int .i64 (s : Int), .int .i64 (N : Int), .slice A l.length c])))
  replace HQ := Aside0.mk (HQ.out.kept THB6.out HB6.out (by decide) (by decide) (by have := HBW.out; have := HH.out; omega))
  have HRZ := Aside0.mk (Kd.R_mono (ok' := fun _ => True) (Kd.R_grown (Kd.R_types HRL.out HB6.out (by decide)) THB6.out (fun k hk e => hk.2 (Option.some.inj e))) (fun _ _ => trivial))
  replace HG := Aside0.mk (grown_loc HG.out THB6.out (by have := HH.out; omega))
  obtain ⟨q0, q1, q2⟩ := cz3q SHB6.out
  exact bodyPost_ret (v := .tuple #[.agg #[.int .i64 (s : Int), .int .i64 (N : Int), .slice A l.length c], .bool true]) (by simp [results, Try.f82, go_sem, q0, q1, q2]) rfl ⟨_, _, _, _, rfl, HQ.out, HDX.out, HLX.out.1, HRZ.out, HLX.out.2, HG.out⟩
 ·go_wp2_with fail
  clear q0 q1 q2 z0 z1 z2 z3 z4 z5 z6 z7 z8 z9 z10 d0 d1 d2 d3 d4 d5 d6 d7 d8 d9 d10 d11 d12 d13 d14
  have hg := HNX.out
  replace HB4 := Aside0.mk (blk_grown HB4.out hg)
  replace HB5 := Aside0.mk (blk_grown HB5.out hg)
  replace HB6 := Aside0.mk (blk_grown HB6.out hg)
  replace HB8 := Aside0.mk (blk_grown HB8.out hg)
  replace HG := Aside0.mk (grown_two HG.out (grown_but hg (some mb)))
  replace HQ := Aside0.mk (HQ.out.same hg)
  replace HRL := Aside0.mk (Kd.R_grown HRL.out hg (by simp))
  clear hg HNX
  generalize w4.heap.size = h11 at HB11 HH11 ⊢
  generalize w4.alloc (.cells #[.int .i64 (s : Int), .int .i64 (N : Int), .slice A l.length c] 44) = w5 at HG HB4 HB5 HB6 HB8 HB11 HRL HQ ⊢
  refine (w_insert HTB.out HQ.out g HGO.out.1 HGO.out.2 (by have := HNN.out; omega)).mono ?_
  rintro x0 w6 ⟨rfl, hM, hg⟩
  replace HB4 := Aside0.mk ((hg.block _ (blk_lt HB4.out) (fun e => HQ.out.nb _ _ _ HB4.out (Option.some.inj e))).trans HB4.out)
  replace HB5 := Aside0.mk ((hg.block _ (blk_lt HB5.out) (fun e => HQ.out.nb _ _ _ HB5.out (Option.some.inj e))).trans HB5.out)
  replace HB6 := Aside0.mk ((hg.block _ (blk_lt HB6.out) (fun e => HQ.out.nb _ _ _ HB6.out (Option.some.inj e))).trans HB6.out)
  replace HB8 := Aside0.mk ((hg.block _ (blk_lt HB8.out) (fun e => HQ.out.nb _ _ _ HB8.out (Option.some.inj e))).trans HB8.out)
  replace HB11 := Aside0.mk ((hg.block _ (blk_lt HB11.out) (fun e => HQ.out.nb _ _ _ HB11.out (Option.some.inj e))).trans HB11.out)
  replace HRL := Aside0.mk (Kd.R_mono (ok' := fun _ => True) (Kd.R_grown (Kd.R_bound HRL.out) hg (fun k hk e => by obtain ⟨_, _, _, q, _, cs, hc⟩ := hk; exact HQ.out.nb k cs q hc (Option.some.inj e))) (fun _ _ => trivial))
  replace HG := Aside0.mk (grown_two HG.out hg)
  replace HQ := Aside0.mk (hM.mono (show n + 3 ≤ n + 2 * N + 3 by omega))
  have HDX := Aside0.mk (show DWw N (setW ws (plcOf N (s : Int) g.v) (g.tag, g.data)) (insW l (plcOf N (s : Int) g.v : Int) (g.tag : Int) (g.data : Int)) from HDW.out.set _ _ _ (fun j => gW_ins l _ _ _ j))
  have HLX := Aside0.mk (show LOK N (insW l (plcOf N (s : Int) g.v : Int) (g.tag : Int) (g.data : Int)) ∧ ((insW l (plcOf N (s : Int) g.v : Int) (g.tag : Int) (g.data : Int))).length ≤ l.length + 3 from ⟨HLK.out.ins (HTB.out.in _) _ _, insW_len _ _ _ _⟩)
  clear hM hg HDW HLK
  obtain ⟨q0, q1, q2⟩ := cz3q HB4.out
  obtain ⟨z0, z1, z2, z3, z4, z5, z6, z7, z8, z9, z10⟩ := tte_Read.cz11 HB8.out
  go_wp2_with fail
  clear q0 q1 q2 z0 z1 z2 z3 z4 z5 z6 z7 z8 z9 z10
  refine (rinsert_calls HTB.out.hs HTB.out.h1 HTB.out.hN g HGO.out.1 HGO.out.2 (Kd.R_reads' HRL.out).2.2 (Kd.R_reads' HRL.out).2.1 (by have := HNN.out; omega)).mono ?_
  rintro x0 w7 ⟨v2, rfl, hR, hg⟩
  generalize (insW l (plcOf N (s : Int) g.v : Int) (g.tag : Int) (g.data : Int)) = l2 at hR HDX HLX
  generalize (setW ws (plcOf N (s : Int) g.v) (g.tag, g.data)) = ws2 at HQ HDX
  obtain ⟨A2, c2, rfl⟩ := Kd.R_slice hR
  have HR2 := Aside0.mk (Kd.R_lower hR (show B ≤ w6.heap.size from Nat.le_trans HBW.out.1 HG.out.size))
  replace HB6 := Aside0.mk (blk_grown HB6.out hg)
  replace HB11 := Aside0.mk (blk_grown HB11.out hg)
  replace HG := Aside0.mk (grown_two HG.out (grown_but hg (some mb)))
  replace HQ := Aside0.mk (HQ.out.same hg)
  clear hR hg HRL HB4 HB5 HB8
  go_wp2_with (first | ((with_reducible refine gate_store (t := 44) (p := 11) rfl ?_); refine wpList_store_row rfl 44 (.tmp 11) (.tmp 40) rfl h11 #[.int .i64 (s : Int), .int .i64 (N : Int), .slice A2 l2.length c2] rfl rfl 44 _ HB11.out (by kernel_rfl) rfl (by kernel_rfl) ?_; have SHB11 := Aside0.mk (setRow_heap _ h11 _ #[.int .i64 (s : Int), .int .i64 (N : Int), .slice A2 l2.length c2] _ _ HB11.out); have THB11 := Aside0.mk (grown_row w7 h11 #[.int .i64 (s : Int), .int .i64 (N : Int), .slice A2 l2.length c2]); replace HQ := Aside0.mk (HQ.out.kept THB11.out HB11.out (by decide) (by decide) (by have := HBW.out; have := HH11.out; omega)); have HRL := Aside0.mk (Kd.R_mono (ok' := fun _ => True) (Kd.R_grown (Kd.R_types HR2.out HB11.out (by decide)) THB11.out (fun k hk e => hk.2 (Option.some.inj e))) (fun _ _ => trivial)); replace HB6 := Aside0.mk ((THB11.out.block h6 (blk_lt HB6.out) (fun e => by have := Option.some.inj e; have := HH11.out; omega)).trans HB6.out); replace HG := Aside0.mk (grown_loc HG.out THB11.out (by have := HH11.out; omega)); replace HB11 := Aside0.mk SHB11.out; generalize World.setRow w7 h11 #[.int .i64 (s : Int), .int .i64 (N : Int), .slice A2 l2.length c2] = w8 at HQ HRL HB6 HG HB11 ⊢; clear SHB11 THB11 HR2; obtain ⟨q0, q1, q2⟩ := cz3q HB11.out) | ((with_reducible refine gate_store (t := 44) (p := 6) rfl ?_); refine wpList_store_row rfl 44 (.tmp 6) (.tmp 50) rfl h6 #[.int .i64 (s : Int), .int .i64 (N : Int), .slice A2 l2.length c2] rfl rfl 44 _ HB6.out (by kernel_rfl) rfl (by kernel_rfl) ?_; have SHB6 := Aside0.mk (setRow_heap _ h6 _ #[.int .i64 (s : Int), .int .i64 (N : Int), .slice A2 l2.length c2] _ _ HB6.out); have THB6 := Aside0.mk (grown_row w8 h6 #[.int .i64 (s : Int), .int .i64 (N : Int), .slice A2 l2.length c2])))
  replace HQ := Aside0.mk (HQ.out.kept THB6.out HB6.out (by decide) (by decide) (by have := HBW.out; have := HH.out; omega))
  have HRZ := Aside0.mk (Kd.R_mono (ok' := fun _ => True) (Kd.R_grown (Kd.R_types HRL.out HB6.out (by decide)) THB6.out (fun k hk e => hk.2 (Option.some.inj e))) (fun _ _ => trivial))
  replace HG := Aside0.mk (grown_loc HG.out THB6.out (by have := HH.out; omega))
  obtain ⟨q0, q1, q2⟩ := cz3q SHB6.out
  exact bodyPost_ret (v := .tuple #[.agg #[.int .i64 (s : Int), .int .i64 (N : Int), .slice A2 l2.length c2], .bool true]) (by simp [results, Try.f82, go_sem, q0, q1, q2]) rfl ⟨_, _, _, _, rfl, HQ.out, HDX.out, HLX.out.1, HRZ.out, HLX.out.2, HG.out⟩
 ·go_wp2_with fail
  clear q0 q1 q2 z0 z1 z2 z3 z4 z5 z6 z7 z8 z9 z10 d0 d1 d2 d3 d4 d5 d6 d7 d8 d9 d10 d11 d12 d13 d14
  have hg := HNX.out
  replace HB4 := Aside0.mk (blk_grown HB4.out hg)
  replace HB5 := Aside0.mk (blk_grown HB5.out hg)
  replace HB6 := Aside0.mk (blk_grown HB6.out hg)
  replace HB8 := Aside0.mk (blk_grown HB8.out hg)
  replace HG := Aside0.mk (grown_two HG.out (grown_but hg (some mb)))
  replace HQ := Aside0.mk (HQ.out.same hg)
  replace HRL := Aside0.mk (Kd.R_grown HRL.out hg (by simp))
  clear hg HNX
  generalize w4.heap.size = h11 at HB11 HH11 ⊢
  generalize w4.alloc (.cells #[.int .i64 (s : Int), .int .i64 (N : Int), .slice A l.length c] 44) = w5 at HG HB4 HB5 HB6 HB8 HB11 HRL HQ ⊢
  refine (w_data HTB.out HQ.out g HGO.out.1 HGO.out.2 (by have := HNN.out; omega)).mono ?_
  rintro x0 w6 ⟨rfl, hM, hg⟩
  replace HB4 := Aside0.mk ((hg.block _ (blk_lt HB4.out) (fun e => HQ.out.nb _ _ _ HB4.out (Option.some.inj e))).trans HB4.out)
  replace HB5 := Aside0.mk ((hg.block _ (blk_lt HB5.out) (fun e => HQ.out.nb _ _ _ HB5.out (Option.some.inj e))).trans HB5.out)
  replace HB6 := Aside0.mk ((hg.block _ (blk_lt HB6.out) (fun e => HQ.out.nb _ _ _ HB6.out (Option.some.inj e))).trans HB6.out)
  replace HB8 := Aside0.mk ((hg.block _ (blk_lt HB8.out) (fun e => HQ.out.nb _ _ _ HB8.out (Option.some.inj e))).trans HB8.out)
  replace HB11 := Aside0.mk ((hg.block _ (blk_lt HB11.out) (fun e => HQ.out.nb _ _ _ HB11.out (Option.some.inj e))).trans HB11.out)
  replace HRL := Aside0.mk (Kd.R_mono (ok' := fun _ => True) (Kd.R_grown (Kd.R_bound HRL.out) hg (fun k hk e => by obtain ⟨_, _, _, q, _, cs, hc⟩ := hk; exact HQ.out.nb k cs q hc (Option.some.inj e))) (fun _ _ => trivial))
  replace HG := Aside0.mk (grown_two HG.out hg)
  replace HQ := Aside0.mk (hM.mono (show n + 1 ≤ n + 2 * N + 3 by omega))
  have HDX := Aside0.mk (show DWw N (setW ws (plcOf N (s : Int) g.v) ((ws (plcOf N (s : Int) g.v)).1, g.data)) (pW l (plcOf N (s : Int) g.v : Int) (gW l (plcOf N (s : Int) g.v : Int)).1 (g.data : Int)) from HDW.out.data (HTB.out.in _) _)
  have HLX := Aside0.mk (show LOK N (pW l (plcOf N (s : Int) g.v : Int) (gW l (plcOf N (s : Int) g.v : Int)).1 (g.data : Int)) ∧ ((pW l (plcOf N (s : Int) g.v : Int) (gW l (plcOf N (s : Int) g.v : Int)).1 (g.data : Int))).length ≤ l.length + 3 from ⟨HLK.out.put (HTB.out.in _) _ _, Nat.le_trans (pW_len _ _ _ _) (by omega)⟩)
  clear hM hg HDW HLK
  obtain ⟨q0, q1, q2⟩ := cz3q HB4.out
  obtain ⟨z0, z1, z2, z3, z4, z5, z6, z7, z8, z9, z10⟩ := tte_Read.cz11 HB8.out
  go_wp2_with fail
  clear q0 q1 q2 z0 z1 z2 z3 z4 z5 z6 z7 z8 z9 z10
  refine (rputdata_calls HTB.out.hs HTB.out.h1 HTB.out.hN g HGO.out.1 HGO.out.2 (Kd.R_reads' HRL.out).2.2 (Kd.R_reads' HRL.out).2.1 (by have := HNN.out; omega)).mono ?_
  rintro x0 w7 ⟨v2, rfl, hR, hg⟩
  generalize (pW l (plcOf N (s : Int) g.v : Int) (gW l (plcOf N (s : Int) g.v : Int)).1 (g.data : Int)) = l2 at hR HDX HLX
  generalize (setW ws (plcOf N (s : Int) g.v) ((ws (plcOf N (s : Int) g.v)).1, g.data)) = ws2 at HQ HDX
  obtain ⟨A2, c2, rfl⟩ := Kd.R_slice hR
  have HR2 := Aside0.mk (Kd.R_lower hR (show B ≤ w6.heap.size from Nat.le_trans HBW.out.1 HG.out.size))
  replace HB6 := Aside0.mk (blk_grown HB6.out hg)
  replace HB11 := Aside0.mk (blk_grown HB11.out hg)
  replace HG := Aside0.mk (grown_two HG.out (grown_but hg (some mb)))
  replace HQ := Aside0.mk (HQ.out.same hg)
  clear hR hg HRL HB4 HB5 HB8
  go_wp2_with (first | ((with_reducible refine gate_store (t := 44) (p := 11) rfl ?_); refine wpList_store_row rfl 44 (.tmp 11) (.tmp 49) rfl h11 #[.int .i64 (s : Int), .int .i64 (N : Int), .slice A2 l2.length c2] rfl rfl 44 _ HB11.out (by kernel_rfl) rfl (by kernel_rfl) ?_; have SHB11 := Aside0.mk (setRow_heap _ h11 _ #[.int .i64 (s : Int), .int .i64 (N : Int), .slice A2 l2.length c2] _ _ HB11.out); have THB11 := Aside0.mk (grown_row w7 h11 #[.int .i64 (s : Int), .int .i64 (N : Int), .slice A2 l2.length c2]); replace HQ := Aside0.mk (HQ.out.kept THB11.out HB11.out (by decide) (by decide) (by have := HBW.out; have := HH11.out; omega)); have HRL := Aside0.mk (Kd.R_mono (ok' := fun _ => True) (Kd.R_grown (Kd.R_types HR2.out HB11.out (by decide)) THB11.out (fun k hk e => hk.2 (Option.some.inj e))) (fun _ _ => trivial)); replace HB6 := Aside0.mk ((THB11.out.block h6 (blk_lt HB6.out) (fun e => by have := Option.some.inj e; have := HH11.out; omega)).trans HB6.out); replace HG := Aside0.mk (grown_loc HG.out THB11.out (by have := HH11.out; omega)); replace HB11 := Aside0.mk SHB11.out; generalize World.setRow w7 h11 #[.int .i64 (s : Int), .int .i64 (N : Int), .slice A2 l2.length c2] = w8 at HQ HRL HB6 HG HB11 ⊢; clear SHB11 THB11 HR2; obtain ⟨q0, q1, q2⟩ := cz3q HB11.out) | ((with_reducible refine gate_store (t := 44) (p := 6) rfl ?_); refine wpList_store_row rfl 44 (.tmp 6) (.tmp 50) rfl h6 #[.int .i64 (s : Int), .int .i64 (N : Int), .slice A2 l2.length c2] rfl rfl 44 _ HB6.out (by kernel_rfl) rfl (by kernel_rfl) ?_; have SHB6 := Aside0.mk (setRow_heap _ h6 _ #[.int .i64 (s : Int), .int .i64 (N : Int), .slice A2 l2.length c2] _ _ HB6.out); have THB6 := Aside0.mk (grown_row w8 h6 #[.int .i64 (s : Int), .int .i64 (N : Int), .slice A2 l2.length c2])))
  replace HQ := Aside0.mk (HQ.out.kept THB6.out HB6.out (by decide) (by decide) (by have := HBW.out; have := HH.out; omega))
  have HRZ := Aside0.mk (Kd.R_mono (ok' := fun _ => True) (Kd.R_grown (Kd.R_types HRL.out HB6.out (by decide)) THB6.out (fun k hk e => hk.2 (Option.some.inj e))) (fun _ _ => trivial))
  replace HG := Aside0.mk (grown_loc HG.out THB6.out (by have := HH.out; omega))
  obtain ⟨q0, q1, q2⟩ := cz3q SHB6.out
  exact bodyPost_ret (v := .tuple #[.agg #[.int .i64 (s : Int), .int .i64 (N : Int), .slice A2 l2.length c2], .bool true]) (by simp [results, Try.f82, go_sem, q0, q1, q2]) rfl ⟨_, _, _, _, rfl, HQ.out, HDX.out, HLX.out.1, HRZ.out, HLX.out.2, HG.out⟩
 ·go_wp2_with fail
  clear q0 q1 q2 z0 z1 z2 z3 z4 z5 z6 z7 z8 z9 z10 d0 d1 d2 d3 d4 d5 d6 d7 d8 d9 d10 d11 d12 d13 d14
  have hg := HNX.out
  replace HB4 := Aside0.mk (blk_grown HB4.out hg)
  replace HB5 := Aside0.mk (blk_grown HB5.out hg)
  replace HB6 := Aside0.mk (blk_grown HB6.out hg)
  replace HB8 := Aside0.mk (blk_grown HB8.out hg)
  replace HG := Aside0.mk (grown_two HG.out (grown_but hg (some mb)))
  replace HQ := Aside0.mk (HQ.out.same hg)
  replace HRL := Aside0.mk (Kd.R_grown HRL.out hg (by simp))
  clear hg HNX
  generalize w4.heap.size = h11 at HB11 HH11 ⊢
  generalize w4.alloc (.cells #[.int .i64 (s : Int), .int .i64 (N : Int), .slice A l.length c] 44) = w5 at HG HB4 HB5 HB6 HB8 HB11 HRL HQ ⊢
  refine (w_tag HTB.out HQ.out g HGO.out.1 HGO.out.2 (by have := HNN.out; omega)).mono ?_
  rintro x0 w6 ⟨rfl, hM, hg⟩
  replace HB4 := Aside0.mk ((hg.block _ (blk_lt HB4.out) (fun e => HQ.out.nb _ _ _ HB4.out (Option.some.inj e))).trans HB4.out)
  replace HB5 := Aside0.mk ((hg.block _ (blk_lt HB5.out) (fun e => HQ.out.nb _ _ _ HB5.out (Option.some.inj e))).trans HB5.out)
  replace HB6 := Aside0.mk ((hg.block _ (blk_lt HB6.out) (fun e => HQ.out.nb _ _ _ HB6.out (Option.some.inj e))).trans HB6.out)
  replace HB8 := Aside0.mk ((hg.block _ (blk_lt HB8.out) (fun e => HQ.out.nb _ _ _ HB8.out (Option.some.inj e))).trans HB8.out)
  replace HB11 := Aside0.mk ((hg.block _ (blk_lt HB11.out) (fun e => HQ.out.nb _ _ _ HB11.out (Option.some.inj e))).trans HB11.out)
  replace HRL := Aside0.mk (Kd.R_mono (ok' := fun _ => True) (Kd.R_grown (Kd.R_bound HRL.out) hg (fun k hk e => by obtain ⟨_, _, _, q, _, cs, hc⟩ := hk; exact HQ.out.nb k cs q hc (Option.some.inj e))) (fun _ _ => trivial))
  replace HG := Aside0.mk (grown_two HG.out hg)
  replace HQ := Aside0.mk (hM.mono (show n + 1 ≤ n + 2 * N + 3 by omega))
  have HDX := Aside0.mk (show DWw N (setW ws (plcOf N (s : Int) g.v) (g.tag, (ws (plcOf N (s : Int) g.v)).2)) (pW l (plcOf N (s : Int) g.v : Int) (g.tag : Int) (gW l (plcOf N (s : Int) g.v : Int)).2) from HDW.out.tag (HTB.out.in _) _)
  have HLX := Aside0.mk (show LOK N (pW l (plcOf N (s : Int) g.v : Int) (g.tag : Int) (gW l (plcOf N (s : Int) g.v : Int)).2) ∧ ((pW l (plcOf N (s : Int) g.v : Int) (g.tag : Int) (gW l (plcOf N (s : Int) g.v : Int)).2)).length ≤ l.length + 3 from ⟨HLK.out.put (HTB.out.in _) _ _, Nat.le_trans (pW_len _ _ _ _) (by omega)⟩)
  clear hM hg HDW HLK
  obtain ⟨q0, q1, q2⟩ := cz3q HB4.out
  obtain ⟨z0, z1, z2, z3, z4, z5, z6, z7, z8, z9, z10⟩ := tte_Read.cz11 HB8.out
  go_wp2_with fail
  clear q0 q1 q2 z0 z1 z2 z3 z4 z5 z6 z7 z8 z9 z10
  refine (rputtag_calls HTB.out.hs HTB.out.h1 HTB.out.hN g HGO.out.1 HGO.out.2 (Kd.R_reads' HRL.out).2.2 (Kd.R_reads' HRL.out).2.1 (by have := HNN.out; omega)).mono ?_
  rintro x0 w7 ⟨v2, rfl, hR, hg⟩
  generalize (pW l (plcOf N (s : Int) g.v : Int) (g.tag : Int) (gW l (plcOf N (s : Int) g.v : Int)).2) = l2 at hR HDX HLX
  generalize (setW ws (plcOf N (s : Int) g.v) (g.tag, (ws (plcOf N (s : Int) g.v)).2)) = ws2 at HQ HDX
  obtain ⟨A2, c2, rfl⟩ := Kd.R_slice hR
  have HR2 := Aside0.mk (Kd.R_lower hR (show B ≤ w6.heap.size from Nat.le_trans HBW.out.1 HG.out.size))
  replace HB6 := Aside0.mk (blk_grown HB6.out hg)
  replace HB11 := Aside0.mk (blk_grown HB11.out hg)
  replace HG := Aside0.mk (grown_two HG.out (grown_but hg (some mb)))
  replace HQ := Aside0.mk (HQ.out.same hg)
  clear hR hg HRL HB4 HB5 HB8
  go_wp2_with (first | ((with_reducible refine gate_store (t := 44) (p := 11) rfl ?_); refine wpList_store_row rfl 44 (.tmp 11) (.tmp 31) rfl h11 #[.int .i64 (s : Int), .int .i64 (N : Int), .slice A2 l2.length c2] rfl rfl 44 _ HB11.out (by kernel_rfl) rfl (by kernel_rfl) ?_; have SHB11 := Aside0.mk (setRow_heap _ h11 _ #[.int .i64 (s : Int), .int .i64 (N : Int), .slice A2 l2.length c2] _ _ HB11.out); have THB11 := Aside0.mk (grown_row w7 h11 #[.int .i64 (s : Int), .int .i64 (N : Int), .slice A2 l2.length c2]); replace HQ := Aside0.mk (HQ.out.kept THB11.out HB11.out (by decide) (by decide) (by have := HBW.out; have := HH11.out; omega)); have HRL := Aside0.mk (Kd.R_mono (ok' := fun _ => True) (Kd.R_grown (Kd.R_types HR2.out HB11.out (by decide)) THB11.out (fun k hk e => hk.2 (Option.some.inj e))) (fun _ _ => trivial)); replace HB6 := Aside0.mk ((THB11.out.block h6 (blk_lt HB6.out) (fun e => by have := Option.some.inj e; have := HH11.out; omega)).trans HB6.out); replace HG := Aside0.mk (grown_loc HG.out THB11.out (by have := HH11.out; omega)); replace HB11 := Aside0.mk SHB11.out; generalize World.setRow w7 h11 #[.int .i64 (s : Int), .int .i64 (N : Int), .slice A2 l2.length c2] = w8 at HQ HRL HB6 HG HB11 ⊢; clear SHB11 THB11 HR2; obtain ⟨q0, q1, q2⟩ := cz3q HB11.out) | ((with_reducible refine gate_store (t := 44) (p := 6) rfl ?_); refine wpList_store_row rfl 44 (.tmp 6) (.tmp 50) rfl h6 #[.int .i64 (s : Int), .int .i64 (N : Int), .slice A2 l2.length c2] rfl rfl 44 _ HB6.out (by kernel_rfl) rfl (by kernel_rfl) ?_; have SHB6 := Aside0.mk (setRow_heap _ h6 _ #[.int .i64 (s : Int), .int .i64 (N : Int), .slice A2 l2.length c2] _ _ HB6.out); have THB6 := Aside0.mk (grown_row w8 h6 #[.int .i64 (s : Int), .int .i64 (N : Int), .slice A2 l2.length c2])))
  replace HQ := Aside0.mk (HQ.out.kept THB6.out HB6.out (by decide) (by decide) (by have := HBW.out; have := HH.out; omega))
  have HRZ := Aside0.mk (Kd.R_mono (ok' := fun _ => True) (Kd.R_grown (Kd.R_types HRL.out HB6.out (by decide)) THB6.out (fun k hk e => hk.2 (Option.some.inj e))) (fun _ _ => trivial))
  replace HG := Aside0.mk (grown_loc HG.out THB6.out (by have := HH.out; omega))
  obtain ⟨q0, q1, q2⟩ := cz3q SHB6.out
  exact bodyPost_ret (v := .tuple #[.agg #[.int .i64 (s : Int), .int .i64 (N : Int), .slice A2 l2.length c2], .bool true]) (by simp [results, Try.f82, go_sem, q0, q1, q2]) rfl ⟨_, _, _, _, rfl, HQ.out, HDX.out, HLX.out.1, HRZ.out, HLX.out.2, HG.out⟩
end
end Go.Proofs.Ytjnffegjpkbjmaa.Mem
-- halved
