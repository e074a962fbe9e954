/- The entry of a TSB's place, at its own address. -/
import Derived.Deep.Slices
import Derived.DataElems
import Derived.DataReads
import Derived.WalkKit
import Derived.ProofKit
import Derived.OpenShut
import Derived.ShutString
import Derived.ChangeOld
import Derived.Below
import Derived.Test.YtjnffegjpkbjmaaTsB
/- merged: YtjnffegjpkbjmaaEnOpen -/
namespace Go.Proofs.Ytjnffegjpkbjmaa.Mem
open Go.Proofs.Ytjnffegjpkbjmaa.QTsbPlays Go.ChangeShapes Go.WideShapes Go.ChangeAt Go.RowKit Go.Proofs.YtjnffegjpkbjmaaW.PrintWords Go.Deep
set_option linter.unusedVariables false
abbrev Ent := S50
structure EntW (e : Ent) : Prop where
 s : (Lit.int .i64 e.f0).wf = true
 c : (Lit.int .i64 e.f1).wf = true
 v : (Lit.int .u64 e.f2).wf = true
 p : (Lit.int .u64 e.f3).wf = true
theorem cell_lt {w : World} {a : Addr} {v : Value} (h : w.cell? a = some v) : a.block < w.heap.size := by
 unfold World.cell? at h
 split at h
 ·rename_i hb
  exact blk_lt hb
 ·cases h
theorem cell_grown {W W' : World} {a : Addr} {v : Value} (h : W.cell? a = some v) (hg : W.grownBy W' none) : W'.cell? a = some v := (World.cell?_of_block (w := W) (hg.block a.block (cell_lt h) (by simp))).trans h
/-- An entry's cells. -/
abbrev entA (e : Ent) : Array Value := #[.int .i64 e.f0, .int .i64 e.f1, .int .u64 e.f2, .int .u64 e.f3, .bool e.f4.f0, .bool e.f4.f1, .bool e.f4.f2, .bool e.f4.f3, .bool e.f4.f4, .bool e.f4.f5, .bool e.f5]
set_option maxRecDepth 100000 in
theorem attr_open {H : Type} {enc : TypeId × Value → H} {w : World} {base : Nat} {spare : Nat → Bool} {held : Bool} {n : Nat} {cs : List Value} {x : DataW H × List MemPlace} (h : DataW.trod enc Try.prog w base spare held n 48 cs = some x) :
  ∃ a : S48, cs = [.bool a.f0, .bool a.f1, .bool a.f2, .bool a.f3, .bool a.f4, .bool a.f5] := by
 obtain ⟨xs, m, _, _, hl, hlen, hg⟩ := DataW.trod_struct Try.underlying48 h
 rw [show Try.prog.cellsOf 48 = 6 from by kernel_rfl] at hl
 match cs, hl with
 | [c0, c1, c2, c3, c4, c5], _ =>
  have g0 := hg 0 _ rfl
  replace g0 : DataW.trod enc Try.prog w base spare held m 4 ((([c0, c1, c2, c3, c4, c5] : List Value).drop 0).take (Try.prog.cellsOf 4)) = xs[0]? := g0
  obtain ⟨y0, hy0⟩ : ∃ y, xs[0]? = some y := ⟨_, List.getElem?_eq_getElem (by rw [hlen]; decide)⟩
  rw [hy0, show Try.prog.cellsOf 4 = 1 from by kernel_rfl] at g0
  replace g0 : DataW.trod enc Try.prog w base spare held m 4 [c0] = some y0 := g0
  have g1 := hg 1 _ rfl
  replace g1 : DataW.trod enc Try.prog w base spare held m 4 ((([c0, c1, c2, c3, c4, c5] : List Value).drop 1).take (Try.prog.cellsOf 4)) = xs[1]? := g1
  obtain ⟨y1, hy1⟩ : ∃ y, xs[1]? = some y := ⟨_, List.getElem?_eq_getElem (by rw [hlen]; decide)⟩
  rw [hy1, show Try.prog.cellsOf 4 = 1 from by kernel_rfl] at g1
  replace g1 : DataW.trod enc Try.prog w base spare held m 4 [c1] = some y1 := g1
  have g2 := hg 2 _ rfl
  replace g2 : DataW.trod enc Try.prog w base spare held m 4 ((([c0, c1, c2, c3, c4, c5] : List Value).drop 2).take (Try.prog.cellsOf 4)) = xs[2]? := g2
  obtain ⟨y2, hy2⟩ : ∃ y, xs[2]? = some y := ⟨_, List.getElem?_eq_getElem (by rw [hlen]; decide)⟩
  rw [hy2, show Try.prog.cellsOf 4 = 1 from by kernel_rfl] at g2
  replace g2 : DataW.trod enc Try.prog w base spare held m 4 [c2] = some y2 := g2
  have g3 := hg 3 _ rfl
  replace g3 : DataW.trod enc Try.prog w base spare held m 4 ((([c0, c1, c2, c3, c4, c5] : List Value).drop 3).take (Try.prog.cellsOf 4)) = xs[3]? := g3
  obtain ⟨y3, hy3⟩ : ∃ y, xs[3]? = some y := ⟨_, List.getElem?_eq_getElem (by rw [hlen]; decide)⟩
  rw [hy3, show Try.prog.cellsOf 4 = 1 from by kernel_rfl] at g3
  replace g3 : DataW.trod enc Try.prog w base spare held m 4 [c3] = some y3 := g3
  have g4 := hg 4 _ rfl
  replace g4 : DataW.trod enc Try.prog w base spare held m 4 ((([c0, c1, c2, c3, c4, c5] : List Value).drop 4).take (Try.prog.cellsOf 4)) = xs[4]? := g4
  obtain ⟨y4, hy4⟩ : ∃ y, xs[4]? = some y := ⟨_, List.getElem?_eq_getElem (by rw [hlen]; decide)⟩
  rw [hy4, show Try.prog.cellsOf 4 = 1 from by kernel_rfl] at g4
  replace g4 : DataW.trod enc Try.prog w base spare held m 4 [c4] = some y4 := g4
  have g5 := hg 5 _ rfl
  replace g5 : DataW.trod enc Try.prog w base spare held m 4 ((([c0, c1, c2, c3, c4, c5] : List Value).drop 5).take (Try.prog.cellsOf 4)) = xs[5]? := g5
  obtain ⟨y5, hy5⟩ : ∃ y, xs[5]? = some y := ⟨_, List.getElem?_eq_getElem (by rw [hlen]; decide)⟩
  rw [hy5, show Try.prog.cellsOf 4 = 1 from by kernel_rfl] at g5
  replace g5 : DataW.trod enc Try.prog w base spare held m 4 [c5] = some y5 := g5
  obtain ⟨b0, e0, _⟩ := DataW.trod_bool Try.underlying4 g0
  simp only [List.cons.injEq, and_true] at e0
  obtain rfl := e0
  obtain ⟨b1, e1, _⟩ := DataW.trod_bool Try.underlying4 g1
  simp only [List.cons.injEq, and_true] at e1
  obtain rfl := e1
  obtain ⟨b2, e2, _⟩ := DataW.trod_bool Try.underlying4 g2
  simp only [List.cons.injEq, and_true] at e2
  obtain rfl := e2
  obtain ⟨b3, e3, _⟩ := DataW.trod_bool Try.underlying4 g3
  simp only [List.cons.injEq, and_true] at e3
  obtain rfl := e3
  obtain ⟨b4, e4, _⟩ := DataW.trod_bool Try.underlying4 g4
  simp only [List.cons.injEq, and_true] at e4
  obtain rfl := e4
  obtain ⟨b5, e5, _⟩ := DataW.trod_bool Try.underlying4 g5
  simp only [List.cons.injEq, and_true] at e5
  obtain rfl := e5
  exact ⟨⟨b0, b1, b2, b3, b4, b5⟩, rfl⟩
set_option maxRecDepth 100000 in
theorem ent_open {H : Type} {enc : TypeId × Value → H} {w : World} {base : Nat} {spare : Nat → Bool} {held : Bool} {n : Nat} {cs : List Value} {x : DataW H × List MemPlace} (h : DataW.trod enc Try.prog w base spare held n 50 cs = some x) :
  ∃ e : Ent, cs = [.int .i64 e.f0, .int .i64 e.f1, .int .u64 e.f2, .int .u64 e.f3, .bool e.f4.f0, .bool e.f4.f1, .bool e.f4.f2, .bool e.f4.f3, .bool e.f4.f4, .bool e.f4.f5, .bool e.f5] ∧ EntW e := by
 obtain ⟨xs, m, _, _, hl, hlen, hg⟩ := DataW.trod_struct Try.underlying50 h
 rw [show Try.prog.cellsOf 50 = 11 from by kernel_rfl] at hl
 match cs, hl with
 | [c0, c1, c2, c3, c4, c5, c6, c7, c8, c9, c10], _ =>
  have g0 := hg 0 _ rfl
  replace g0 : DataW.trod enc Try.prog w base spare held m 3 ((([c0, c1, c2, c3, c4, c5, c6, c7, c8, c9, c10] : List Value).drop 0).take (Try.prog.cellsOf 3)) = xs[0]? := g0
  obtain ⟨y0, hy0⟩ : ∃ y, xs[0]? = some y := ⟨_, List.getElem?_eq_getElem (by rw [hlen]; decide)⟩
  rw [hy0, show Try.prog.cellsOf 3 = 1 from by kernel_rfl] at g0
  replace g0 : DataW.trod enc Try.prog w base spare held m 3 [c0] = some y0 := g0
  have g1 := hg 1 _ rfl
  replace g1 : DataW.trod enc Try.prog w base spare held m 3 ((([c0, c1, c2, c3, c4, c5, c6, c7, c8, c9, c10] : List Value).drop 1).take (Try.prog.cellsOf 3)) = xs[1]? := g1
  obtain ⟨y1, hy1⟩ : ∃ y, xs[1]? = some y := ⟨_, List.getElem?_eq_getElem (by rw [hlen]; decide)⟩
  rw [hy1, show Try.prog.cellsOf 3 = 1 from by kernel_rfl] at g1
  replace g1 : DataW.trod enc Try.prog w base spare held m 3 [c1] = some y1 := g1
  have g2 := hg 2 _ rfl
  replace g2 : DataW.trod enc Try.prog w base spare held m 38 ((([c0, c1, c2, c3, c4, c5, c6, c7, c8, c9, c10] : List Value).drop 2).take (Try.prog.cellsOf 38)) = xs[2]? := g2
  obtain ⟨y2, hy2⟩ : ∃ y, xs[2]? = some y := ⟨_, List.getElem?_eq_getElem (by rw [hlen]; decide)⟩
  rw [hy2, show Try.prog.cellsOf 38 = 1 from by kernel_rfl] at g2
  replace g2 : DataW.trod enc Try.prog w base spare held m 38 [c2] = some y2 := g2
  have g3 := hg 3 _ rfl
  replace g3 : DataW.trod enc Try.prog w base spare held m 38 ((([c0, c1, c2, c3, c4, c5, c6, c7, c8, c9, c10] : List Value).drop 3).take (Try.prog.cellsOf 38)) = xs[3]? := g3
  obtain ⟨y3, hy3⟩ : ∃ y, xs[3]? = some y := ⟨_, List.getElem?_eq_getElem (by rw [hlen]; decide)⟩
  rw [hy3, show Try.prog.cellsOf 38 = 1 from by kernel_rfl] at g3
  replace g3 : DataW.trod enc Try.prog w base spare held m 38 [c3] = some y3 := g3
  have g4 := hg 4 _ rfl
  replace g4 : DataW.trod enc Try.prog w base spare held m 48 ((([c0, c1, c2, c3, c4, c5, c6, c7, c8, c9, c10] : List Value).drop 4).take (Try.prog.cellsOf 48)) = xs[4]? := g4
  obtain ⟨y4, hy4⟩ : ∃ y, xs[4]? = some y := ⟨_, List.getElem?_eq_getElem (by rw [hlen]; decide)⟩
  rw [hy4, show Try.prog.cellsOf 48 = 6 from by kernel_rfl] at g4
  replace g4 : DataW.trod enc Try.prog w base spare held m 48 [c4, c5, c6, c7, c8, c9] = some y4 := g4
  have g5 := hg 5 _ rfl
  replace g5 : DataW.trod enc Try.prog w base spare held m 4 ((([c0, c1, c2, c3, c4, c5, c6, c7, c8, c9, c10] : List Value).drop 10).take (Try.prog.cellsOf 4)) = xs[5]? := g5
  obtain ⟨y5, hy5⟩ : ∃ y, xs[5]? = some y := ⟨_, List.getElem?_eq_getElem (by rw [hlen]; decide)⟩
  rw [hy5, show Try.prog.cellsOf 4 = 1 from by kernel_rfl] at g5
  replace g5 : DataW.trod enc Try.prog w base spare held m 4 [c10] = some y5 := g5
  obtain ⟨b0, e0, _, w0⟩ := DataW.trod_int Try.underlying3 g0
  simp only [List.cons.injEq, and_true] at e0
  obtain rfl := e0
  obtain ⟨b1, e1, _, w1⟩ := DataW.trod_int Try.underlying3 g1
  simp only [List.cons.injEq, and_true] at e1
  obtain rfl := e1
  obtain ⟨b2, e2, _, w2⟩ := DataW.trod_int Try.underlying38 g2
  simp only [List.cons.injEq, and_true] at e2
  obtain rfl := e2
  obtain ⟨b3, e3, _, w3⟩ := DataW.trod_int Try.underlying38 g3
  simp only [List.cons.injEq, and_true] at e3
  obtain rfl := e3
  obtain ⟨b4, e4⟩ := attr_open g4
  simp only [List.cons.injEq, and_true] at e4
  obtain ⟨rfl, rfl, rfl, rfl, rfl, rfl⟩ := e4
  obtain ⟨b5, e5, _⟩ := DataW.trod_bool Try.underlying4 g5
  simp only [List.cons.injEq, and_true] at e5
  obtain rfl := e5
  exact ⟨⟨b0, b1, b2, b3, b4, b5⟩, rfl, ⟨w0, w1, w2, w3⟩⟩
/-- The cells of an entry in a row. -/
structure EntAt (w : World) (y : Addr) (e : Ent) : Prop where
 wf : EntW e
 c0 : w.cell? (y) = some (.int .i64 e.f0)
 c1 : w.cell? ⟨(y).block, (y).off + 1, none⟩ = some (.int .i64 e.f1)
 c2 : w.cell? ⟨(y).block, (y).off + 2, none⟩ = some (.int .u64 e.f2)
 c3 : w.cell? ⟨(y).block, (y).off + 3, none⟩ = some (.int .u64 e.f3)
 c4 : w.cell? ⟨(y).block, (y).off + 4, none⟩ = some (.bool e.f4.f0)
 c5 : w.cell? ⟨(y).block, (y).off + 5, none⟩ = some (.bool e.f4.f1)
 c6 : w.cell? ⟨(y).block, (y).off + 6, none⟩ = some (.bool e.f4.f2)
 c7 : w.cell? ⟨(y).block, (y).off + 7, none⟩ = some (.bool e.f4.f3)
 c8 : w.cell? ⟨(y).block, (y).off + 8, none⟩ = some (.bool e.f4.f4)
 c9 : w.cell? ⟨(y).block, (y).off + 9, none⟩ = some (.bool e.f4.f5)
 c10 : w.cell? ⟨(y).block, (y).off + 10, none⟩ = some (.bool e.f5)
theorem EntAt.grown {w w' : World} {y : Addr} {e : Ent} (h : EntAt w y e) (hg : w.grownBy w' none) : EntAt w' y e := ⟨h.wf, cell_grown h.c0 hg, cell_grown h.c1 hg, cell_grown h.c2 hg, cell_grown h.c3 hg, cell_grown h.c4 hg, cell_grown h.c5 hg, cell_grown h.c6 hg, cell_grown h.c7 hg, cell_grown h.c8 hg, cell_grown h.c9 hg, cell_grown h.c10 hg⟩
def Ents (w : World) (a : Option Addr) (len : Nat) : Prop := (a = none ∧ len = 0) ∨ ∃ x, a = some x ∧ ∀ j, j < len → ∃ e, EntAt w (x.add (j * 11)) e
theorem Ents.at {w : World} {a : Option Addr} {len : Nat} (h : Ents w a len) (j : Nat) (hj : j < len) : ∃ x e, a = some x ∧ EntAt w (x.add (j * 11)) e := by
 rcases h with ⟨_, e⟩ | ⟨x, rfl, h⟩
 ·omega
 ·obtain ⟨e, he⟩ := h j hj
  exact ⟨x, e, rfl, he⟩
theorem Ents.grown {w w' : World} {a : Option Addr} {len : Nat} (h : Ents w a len) (hg : w.grownBy w' none) : Ents w' a len := by
 rcases h with e | ⟨x, rfl, h⟩
 ·exact .inl e
 ·exact .inr ⟨x, rfl, fun j hj => by obtain ⟨e, he⟩ := h j hj; exact ⟨e, he.grown hg⟩⟩
end Go.Proofs.Ytjnffegjpkbjmaa.Mem
/- merged: YtjnffegjpkbjmaaTsLv -/
namespace Go.Proofs.Ytjnffegjpkbjmaa.Mem
open Go.RowKit Go.Maps Go.Proofs.YtjnffegjpkbjmaaW.PrintWords Go.Proofs.YtjnffegjpkbjmaaW.PrintLast Go.Proofs.YtjnffegjpkbjmaaW.PrintMore Go.Proofs.Ytjnffegjpkbjmaa.QTsbPlays Go.Proofs.Ytjnffegjpkbjmaa.Pure
set_option linter.unusedSimpArgs false
set_option linter.unusedVariables false
section
set_option maxHeartbeats 2000000
set_option maxRecDepth 100000
theorem tlen_calls {W pt p} {base : Int} {N : Nat} {size grade : Int} (kt : W.heap[pt]? = some (.cells (TCs p base N size grade) 95 (0, 0))) : Calls Try.prog 17 #[.pointer (some ⟨pt, 0, none⟩)] W fun e W' => e = .returned (.int .i64 N) ∧ W.grownBy W' none := by
 obtain ⟨y0, y1, y2, y3, y4⟩ := cz5 kt
 clear kt
 go_enter Try.func17, Try.ntmps17
 go_wp2
 go_ret
 exact ⟨rfl, grown_refl _ _⟩
theorem tb_lives : TB 0 512 0 8192 := ⟨by decide, by decide, by decide, by decide, by decide, by decide, by decide⟩
def g0 : GE := (⟨0, 1, 8192, 16384, false, false, false, false, false, false⟩ : GE)
theorem g0_ok : g0.ok := ⟨by decide, by decide, by decide, by decide, by decide, by decide, by decide, by decide⟩
theorem lives10 (W : World) : Calls Try.prog 26 #[] W fun e W' => e = .returned (.bool true) ∧ W.grownBy W' none := by
 have hu := Try.underlying50
 go_enter Try.func26, Try.ntmps26
 go_wp2_with fail
 refine (new_calls (Below.refl W.heap.size W) (Nat.le_refl _) 8192 (by decide) (by decide)).mono ?_
 rintro x0 w1 ⟨p, mb, rfl, hM, hg, hmb, hp⟩
 have HM := Aside0.mk hM
 have HG := Aside0.mk hg
 have HPM := Aside0.mk (And.intro hmb hp)
 clear hM hg hmb hp
 go_wp2_with fail
 refine (tnew_calls (base := 0) (N := 512) HM.out (pPlaces 0 0 (by decide) (by decide)) (by decide) (by decide) (by decide) (by decide) (by decide) (by decide) (by decide)).mono ?_
 rintro x0 w2 ⟨pt, rfl, hM, hT, hpt, hg⟩
 have HT := Aside0.mk hT
 replace HG := Aside0.mk (grown_loc HG.out hg HPM.out.1)
 replace HM := Aside0.mk hM
 have HD := Aside0.mk (show Holds (clearD (.map []) 0 (List.range 512)) 0 512 0 (fun _ => (BADW, 0)) from cleared tb_lives _ isMap_empty)
 clear hM hT hpt hg
 go_wp2_with fail
 have HA := Aside0.mk (World.grownBy_alloc w2 (.cells #[.int .i64 0, .int .i64 1, .int .u64 8192, .int .u64 16384, .bool false, .bool false, .bool false, .bool false, .bool false, .bool false, .bool true] 50) none)
 have HB4 := Aside0.mk (heap_alloc_new w2 (.cells #[.int .i64 0, .int .i64 1, .int .u64 8192, .int .u64 16384, .bool false, .bool false, .bool false, .bool false, .bool false, .bool false, .bool true] 50))
 generalize w2.heap.size = h4 at HB4 ⊢
 refine (q_insert tb_lives (HM.out.same HA.out) HD.out (blk_grown HT.out HA.out) g0 g0_ok rfl (by decide)).mono ?_
 rintro x0 w3 ⟨rfl, ⟨D, hM, hD, _⟩, hg⟩
 replace HB4 := Aside0.mk ((hg.block h4 (blk_lt HB4.out) (fun e => (HM.out.same HA.out).nb _ _ _ HB4.out (Option.some.inj e))).trans HB4.out)
 replace HT := Aside0.mk ((hg.block pt (blk_lt (blk_grown HT.out HA.out)) (fun e => HM.out.nb _ _ _ HT.out (Option.some.inj e))).trans (blk_grown HT.out HA.out))
 replace HG := Aside0.mk (grown_loc (grown_two HG.out HA.out) hg HPM.out.1)
 replace HM := Aside0.mk hM
 replace HD := Aside0.mk hD
 have HI := Aside0.mk (show Is 512 0 (plcOf 512 (0 : Nat) 8200) (setW (fun _ => (BADW, 0)) (plcOf 512 (0 : Nat) g0.v) (g0.tag, g0.data) (plcOf 512 (0 : Nat) 8200)) (some g0) from .ent g0 g0_ok rfl (by decide) (by decide))
 clear hM hD hg HA
 go_wp2_with fail
 refine (q_find tb_lives HM.out HD.out HT.out 8200 (by decide) 1 (some g0) HI.out).mono ?_
 rintro x0 w4 ⟨hx0, hg⟩
 obtain rfl : x0 = .returned (.tuple #[.agg #[.int .i64 0, .int .i64 1, .int .u64 8192, .int .u64 16384, .bool false, .bool false, .bool false, .bool false, .bool false, .bool false, .bool true], .bool true]) := hx0.trans (by rw [show findO (some g0) 8200 1 = some g0 from rfl]; rfl)
 replace HB4 := Aside0.mk (blk_grown HB4.out hg)
 replace HT := Aside0.mk (blk_grown HT.out hg)
 replace HG := Aside0.mk (grown_two HG.out hg)
 replace HM := Aside0.mk (HM.out.same hg)
 clear hg hx0
 go_wp2_with fail
 have HA := Aside0.mk (World.grownBy_alloc w4 (.cells #[.int .i64 0, .int .i64 1, .int .u64 8192, .int .u64 16384, .bool false, .bool false, .bool false, .bool false, .bool false, .bool false, .bool true] 50) none)
 have HB6 := Aside0.mk (heap_alloc_new w4 (.cells #[.int .i64 0, .int .i64 1, .int .u64 8192, .int .u64 16384, .bool false, .bool false, .bool false, .bool false, .bool false, .bool false, .bool true] 50))
 have HNE := Aside0.mk (blk_lt HB4.out)
 generalize w4.heap.size = h6 at HB6 HNE ⊢
 replace HB4 := Aside0.mk (blk_grown HB4.out HA.out)
 replace HT := Aside0.mk (blk_grown HT.out HA.out)
 replace HG := Aside0.mk (grown_two HG.out HA.out)
 replace HM := Aside0.mk (HM.out.same HA.out)
 refine (q_find tb_lives HM.out HD.out HT.out 8200 (by decide) 2 (some g0) HI.out).mono ?_
 rintro x0 w5 ⟨hx0, hg⟩
 obtain rfl : x0 = .returned (.tuple #[.agg #[.int .i64 0, .int .i64 0, .int .u64 0, .int .u64 0, .bool false, .bool false, .bool false, .bool false, .bool false, .bool false, .bool false], .bool false]) := hx0.trans (by rw [show findO (some g0) 8200 2 = none from rfl]; rfl)
 replace HB4 := Aside0.mk (blk_grown HB4.out hg)
 replace HB6 := Aside0.mk (blk_grown HB6.out hg)
 replace HT := Aside0.mk (blk_grown HT.out hg)
 replace HG := Aside0.mk (grown_two HG.out hg)
 replace HM := Aside0.mk (HM.out.same hg)
 clear hg hx0 HA
 have HA := Aside0.mk (World.grownBy_alloc w5 (.cells #[.int .i64 0, .int .i64 0, .int .u64 0, .int .u64 0, .bool false, .bool false, .bool false, .bool false, .bool false, .bool false, .bool false] 50) none)
 replace HB4 := Aside0.mk (blk_grown HB4.out HA.out)
 replace HB6 := Aside0.mk (blk_grown HB6.out HA.out)
 replace HT := Aside0.mk (blk_grown HT.out HA.out)
 replace HG := Aside0.mk (grown_two HG.out HA.out)
 clear HA
 obtain ⟨z0, z1, z2, z3, z4, z5, z6, z7, z8, z9, z10⟩ := tte_Read.cz11 HB4.out
 obtain ⟨t0, t1, t2, t3, t4, t5, t6, t7, t8, t9, t10⟩ := tte_Read.cz11 HB6.out
 go_wp2_with (go_at_call 17; refine (tlen_calls HT.out).mono ?_; rintro e w6 ⟨rfl, hg⟩; replace HG := Aside0.mk (grown_two HG.out hg); have hz4 := tte_Read.cz11 (blk_grown HB4.out hg); have hz6 := tte_Read.cz11 (blk_grown HB6.out hg); clear hg z0 z1 z2 z3 z4 z5 z6 z7 z8 z9 z10 t0 t1 t2 t3 t4 t5 t6 t7 t8 t9 t10; obtain ⟨z0, z1, z2, z3, z4, z5, z6, z7, z8, z9, z10⟩ := hz4; obtain ⟨t0, t1, t2, t3, t4, t5, t6, t7, t8, t9, t10⟩ := hz6)
 go_ret
 exact ⟨rfl, HG.out⟩
end
end Go.Proofs.Ytjnffegjpkbjmaa.Mem
/- merged: YtjnffegjpkbjmaaTsR -/
set_option linter.unusedVariables false
set_option linter.unusedSimpArgs false
namespace Go.Proofs.Ytjnffegjpkbjmaa.Pure
open Go.RowKit Go.Proofs.Ytjnffegjpkbjmaa.QTsbPlays Go.Proofs.YtjnffegjpkbjmaaW.PrintWords Go.Proofs.YtjnffegjpkbjmaaW.PrintLast Go.Proofs.YtjnffegjpkbjmaaW.PrintMore
/-- The entry of words, at an address. -/
def readW (w : Nat × Nat) (A : Nat) : Option GE :=
 if (readOf w.1 w.2 A).2.2.2.2.2.2.2.2.2.2.2 = 0 then some ⟨sOf w.2, cOf w.1, vOf w.2 A, paOf w.2, bitOf w.2 2, bitOf w.2 4, bitOf w.2 8, bitOf w.2 64, bitOf w.2 1, bitOf w.2 1152921504606846976⟩ else none
theorem readOf_cases (t d A : Nat) : (∃ q : Int, (q != 0) = true ∧ readOf t d A = (0, 0, 0, 0, false, false, false, false, false, false, false, q)) ∨
  (readOf t d A = ((sOf d : Int), (cOf t : Int), (vOf d A : Int), (paOf d : Int), bitOf d 2, bitOf d 4, bitOf d 8, bitOf d 64, bitOf d 1, bitOf d 1152921504606846976, true, 0) ∧ d / 9223372036854775808 % 2 = 1 ∧ mayOf (sOf d : Int) (cOf t : Int) (vOf d A) (paOf d) (bitOf d 1) true = true ∧ tagOf (cOf t) (vOf d A) (bitOf d 1) = t ∧ dataOf (sOf d) (paOf d) (bitOf d 2) (bitOf d 4) (bitOf d 8) (bitOf d 64) (bitOf d 1) (bitOf d 1152921504606846976) = d) := by
 unfold readOf
 split
 ·exact .inl ⟨3, by decide, rfl⟩
 ·split
  ·rename_i hv
   unfold entOf
   split
   ·rename_i hm
    split
    ·rename_i ht
     split
     ·rename_i hd
      exact .inr ⟨rfl, hv, hm, ht, hd⟩
     ·exact .inl ⟨2, by decide, rfl⟩
    ·exact .inl ⟨2, by decide, rfl⟩
   ·exact .inl ⟨2, by decide, rfl⟩
  ·exact .inl ⟨11, by decide, rfl⟩
theorem mayOf_ok {s c va pa : Nat} {w p x l g q : Bool} (h : mayOf (s : Int) (c : Int) va pa g true = true) (hva : va < 18446744073709551616) : (GE.mk s c va pa w p x l g q).ok := by
 unfold mayOf at h
 simp only [Bool.true_and, Bool.and_eq_true, decide_eq_true_eq, Bool.not_eq_true', decide_eq_false_iff_not] at h
 obtain ⟨h1, h2, h3, h4, h5, h6, h7, h8⟩ := h
 have h1' := h1
 unfold okSize at h1'
 refine ⟨?_, ?_, hva, h5, h6, h7, h8, fun hg => ?_⟩
 ·show s < 4; omega
 ·show c < 8192; omega
 ·show c = 0
  replace hg : g = true := hg
  subst hg
  simpa using h4
/-- What is read: nothing, or an entry whose words these are. -/
theorem readW_spec (w : Nat × Nat) (A : Nat) (hA : A < 18446744073709551616) : (readW w A = none ∧ ∃ q : Int, (q != 0) = true ∧ readOf w.1 w.2 A = (0, 0, 0, 0, false, false, false, false, false, false, false, q)) ∨
  ∃ g : GE, readW w A = some g ∧ readOf w.1 w.2 A = ((g.s : Int), (g.c : Int), (g.v : Int), (g.p : Int), g.w, g.pr, g.x, g.l, g.g, g.q, true, 0) ∧ g.ok ∧ w = (g.tag, g.data) ∧ A / bytesOf (g.s : Int) * bytesOf (g.s : Int) = g.v ∧ w.2 ≠ 0 ∧ sOf w.2 = g.s := by
 rcases readOf_cases w.1 w.2 A with ⟨q, hq, h⟩ | ⟨h, hv, hm, ht, hd⟩
 ·refine .inl ⟨?_, q, hq, h⟩
  unfold readW
  rw [h]
  exact if_neg (by simpa using hq)
 ·refine .inr ⟨⟨sOf w.2, cOf w.1, vOf w.2 A, paOf w.2, bitOf w.2 2, bitOf w.2 4, bitOf w.2 8, bitOf w.2 64, bitOf w.2 1, bitOf w.2 1152921504606846976⟩, ?_, h, mayOf_ok hm (vOf_lt _ _ hA), ?_, rfl, fun e => ?_, rfl⟩
  ·unfold readW
   rw [h]
   exact if_pos rfl
  ·exact Prod.ext ht.symm hd.symm
  ·rw [e] at hv; simp at hv
theorem readW_bad (d A : Nat) : readW (9223372036854775807, d) A = none := by
 obtain ⟨f0, f1, f2, f3, b4, b5, b6, b7, b8, b9, b10, q, hr, hq⟩ := read_bad d A
 unfold readW
 rw [show readOf (9223372036854775807, d).1 (9223372036854775807, d).2 A = _ from hr]
 exact if_neg (by simpa using hq)
theorem shl_bits (i s : Nat) (hs : s < 4) (hi : i < 4096) : shl .u64 (i : Int) (13 + 3 * (s : Int)) = ((i * bytesOf (s : Int) : Nat) : Int) := by
 have e : (13 + 3 * (s : Int)) = ((13 + 3 * s : Nat) : Int) := by omega
 rw [e, m_shl _ _ (by omega)]
 match s, hs with
 | 0, _ => simp only [bytesOf]; simp; omega
 | 1, _ => simp only [bytesOf]; simp; omega
 | 2, _ => simp only [bytesOf]; simp; omega
 | 3, _ => simp only [bytesOf]; simp; omega
theorem bytes_le (s : Nat) : bytesOf (s : Int) ≤ 4194304 := by
 unfold bytesOf
 repeat' split
 all_goals omega
theorem num_own {base i N s a Y Z K : Nat} {q : Int} (hN : N ≤ 4096) (hi : i < N) (hbl : i * bytesOf (s : Int) < 18446744073709551616) (ha : a = base + 16 * i) (hq : q = 13 + 3 * (s : Int)) (hs : s < 4) (hY : Y = i * bytesOf (s : Int)) (hZ : Z = Y % 4194304) (hK : K = 16 * i) :
  IntKind.u64.wrap ((a : Int) - (base : Int)) = (K : Int) ∧ Int.tdiv (K : Int) 16 = (i : Int) ∧ IntKind.u64.wrap (i : Int) = (i : Int) ∧ IntKind.u64.wrap ((i : Int) * 2 ^ q.toNat) = (Y : Int) ∧ Int.tmod (Y : Int) 4194304 = (Z : Int) := by
 refine ⟨by rw [IntKind.wrap_u64]; omega, ?_, by rw [IntKind.wrap_u64]; omega, ?_, ?_⟩
 ·rw [hK, show Int.tdiv ((16 * i : Nat) : Int) 16 = ((16 * i / 16 : Nat) : Int) from rfl, Nat.mul_div_cancel_left _ (by decide)]
 ·have hq2 : q.toNat = 13 + 3 * s := by omega
  have hb : bytesOf (s : Int) = 2 ^ (13 + 3 * s) := by
   have h : ∀ s : Fin 4, bytesOf ((s : Nat) : Int) = 2 ^ (13 + 3 * (s : Nat)) := by decide
   exact h ⟨s, hs⟩
  rw [hq2]
  have e : (i : Int) * 2 ^ (13 + 3 * s) = (Y : Int) := by rw [hY, hb]; simp
  rw [e]
  exact m_wu _ (by omega)
 ·rw [hZ]; rfl
/-- A place's own address. -/
def ownVa (s i : Nat) (tag : Nat) : Nat := (tag % 4194304 * 4194304 + (if tag / 2097152 % 2 = 1 then 18446726481523507200 else 0) + i * bytesOf (s : Int) % 4194304) % 18446744073709551616
theorem ownVa_lt (s i tag : Nat) : ownVa s i tag < 18446744073709551616 := Nat.mod_lt _ (by decide)
/-- The entry of a place, at its own address. -/
def ownW (N s i : Nat) (w : Nat × Nat) : Option GE := if plcOf N (s : Int) (ownVa s i w.1) = i then readW w (ownVa s i w.1) else none
theorem ownW_bad (N s i d : Nat) : ownW N s i (9223372036854775807, d) = none := by
 unfold ownW
 rw [readW_bad]
 split <;> rfl
end Go.Proofs.Ytjnffegjpkbjmaa.Pure
/- merged: YtjnffegjpkbjmaaTsEn -/
namespace Go.Proofs.Ytjnffegjpkbjmaa.Mem
open Go.RowKit Go.Maps Go.Proofs.YtjnffegjpkbjmaaW.PrintWords Go.Proofs.YtjnffegjpkbjmaaW.PrintLast Go.Proofs.YtjnffegjpkbjmaaW.PrintMore Go.Proofs.Ytjnffegjpkbjmaa.QTsbPlays Go.Proofs.Ytjnffegjpkbjmaa.Pure
set_option linter.unusedSimpArgs false
set_option linter.unusedVariables false
section
set_option maxHeartbeats 1000000
set_option maxRecDepth 100000
def geE (s : Nat) (e : Ent) : GE := geOf s e.f1 e.f2.toNat e.f3.toNat e.f4.f0 e.f4.f1 e.f4.f2 e.f4.f3 e.f4.f4 e.f4.f5
theorem geE_ok (s : Nat) (e : Ent) (hs : s < 4) : (geE s e).ok := geOf_ok s _ _ _ _ _ _ _ _ _ hs
theorem below_of_grown {W W1 : World} (h : W.grownBy W1 none) : Below W.heap.size W W1 := ⟨h.os, h.tape, h.output, h.size, fun k hk => h.block k hk (by simp)⟩
end
end Go.Proofs.Ytjnffegjpkbjmaa.Mem
/- merged: YtjnffegjpkbjmaaTsW -/
namespace Go.Proofs.Ytjnffegjpkbjmaa.Mem
open Go.RowKit Go.Maps Go.Proofs.YtjnffegjpkbjmaaW.PrintWords Go.Proofs.YtjnffegjpkbjmaaW.PrintLast Go.Proofs.YtjnffegjpkbjmaaW.PrintMore Go.Proofs.Ytjnffegjpkbjmaa.QTsbPlays Go.Proofs.Ytjnffegjpkbjmaa.Pure
set_option linter.unusedSimpArgs false
set_option linter.unusedVariables false
section
set_option maxHeartbeats 1000000
set_option maxRecDepth 100000
section
variable {B : Nat} {w0 W : World} {p mb : Nat} {sz : Int} {n : Nat} {D : DataW Unit} {pt base N s : Nat} {grade : Int} {ws : Nat → Wd}
theorem q_read (b : TB base N s sz) (h : Mem B w0 p mb sz n D W) (hD : Holds D base N s ws) (kt : W.heap[pt]? = some (.cells (TCs p base N s grade) 95 (0, 0))) (i : Nat) (hi : i < N) (va : Nat) (hva : va < 18446744073709551616) :
  Calls Try.prog 58 #[.pointer (some ⟨pt, 0, none⟩), .int .u64 ((base + 16 * i : Nat) : Int), .int .u64 va] W fun e W' => e = .returned (foundV (readW (ws i) va)) ∧ W.grownBy W' none := by
 obtain ⟨a1, a2, a3, a4, a5, a6⟩ := b.at8 hi
 have e1 := hD.tag _ hi
 have e2 := hD.data _ hi
 have e3 := hD.lt _ hi
 have e4 := hD.size _ hi
 rcases readW_spec (ws i) va hva with ⟨hn, q, hq, hr⟩ | ⟨g, hg, hr, hok, hw, hA, h0, hs⟩
 ·rw [hn]
  refine tread_no h kt 0 0 0 0 false false false false false false false 500 _ va q a1 a5 ?_ hq
  rw [e1, e2, pRead _ _ _ e3.1 e3.2 hva 500 (by decide), hr]
 ·obtain rfl : g.s = s := by rcases e4 with e | e; exact absurd e h0; exact hs.symm.trans e
  rw [hg]
  refine tread_yes h kt _ _ _ _ _ _ _ _ _ _ 500 _ va a1 a5 ?_
  rw [e1, e2, pRead _ _ _ e3.1 e3.2 hva 500 (by decide), hr]
theorem q_findW (b : TB base N s sz) (h : Mem B w0 p mb sz n D W) (hD : Holds D base N s ws) (kt : W.heap[pt]? = some (.cells (TCs p base N s grade) 95 (0, 0))) (va : Nat) (hva : va < 18446744073709551616) (ctx : Int) :
  Calls Try.prog 24 #[.pointer (some ⟨pt, 0, none⟩), .int .u64 va, .int .i64 ctx] W fun e W' => e = .returned (foundV (findO (readW (ws (plcOf N (s : Int) va)) va) va ctx)) ∧ W.grownBy W' none := by
 have hi := b.in va
 obtain ⟨a1, a2, a3, a4, a5, a6⟩ := b.at8 hi
 have e1 := hD.tag _ hi
 have e2 := hD.data _ hi
 have e3 := hD.lt _ hi
 have e4 := hD.size _ hi
 have hsl := b.slot va hva
 generalize plcOf N (s : Int) va = i at hi a1 a2 a3 a4 a5 a6 e1 e2 e3 e4 hsl ⊢
 rcases readW_spec (ws i) va hva with ⟨hn, q, hq, hr⟩ | ⟨g, hg, hr, hok, hw, hA, h0, hs⟩
 ·rw [hn]
  refine tfind_no h kt 0 0 0 0 false false false false false false false 500 va ctx _ q hsl a1 a5 ?_ hq
  rw [e1, e2, pRead _ _ _ e3.1 e3.2 hva 500 (by decide), hr]
 ·obtain rfl : g.s = s := by rcases e4 with e | e; exact absurd e h0; exact hs.symm.trans e
  rw [hg]
  have hrr : tte_Read.f 500 (rd D (((base + 16 * i : Nat) : Int) / 8)) (rd D (((base + 16 * i : Nat) : Int) / 8 + 1)) va = some ((g.s : Int), (g.c : Int), (g.v : Int), (g.p : Int), g.w, g.pr, g.x, g.l, g.g, g.q, true, 0) := by
   rw [e1, e2, pRead _ _ _ e3.1 e3.2 hva 500 (by decide), hr]
  by_cases hh : g.hit va ctx = true
  ·refine (tfind_yes h kt _ _ _ _ _ _ _ _ _ _ 500 500 va ctx _ hsl a1 a5 hrr ((hok.hits hva ctx).trans (congrArg some hh))).mono ?_
   rintro e W' ⟨rfl, hgr⟩
   exact ⟨by simp only [findO, if_pos hh]; rfl, hgr⟩
  ·have hf : g.hit va ctx = false := by simpa using hh
   refine (tfind_nohit h kt _ _ _ _ _ _ _ _ _ _ 500 500 va ctx _ hsl a1 a5 hrr ((hok.hits hva ctx).trans (congrArg some hf))).mono ?_
   rintro e W' ⟨rfl, hgr⟩
   exact ⟨by simp only [findO, if_neg hh]; rfl, hgr⟩
/-- What Find, read and own answer, as an entry. -/
def rowE : Option GE → Ent
 | some g => ⟨g.s, g.c, g.v, g.p, ⟨g.w, g.pr, g.x, g.l, g.g, g.q⟩, true⟩
 | none => ⟨0, 0, 0, 0, ⟨false, false, false, false, false, false⟩, false⟩
theorem foundV_row (o : Option GE) : foundV o = .tuple #[.agg (entA (rowE o)), .bool o.isSome] := by cases o <;> rfl
end
/-- The address that a place's tag tells. -/
theorem or_high (x : Nat) (hx : x < 17592186044416) : bits .or .u64 (x : Int) 18446726481523507200 = ((x + 18446726481523507200 : Nat) : Int) := by
 have h := u64_or_nat x 18446726481523507200 (by omega) (by decide)
 rw [show ((18446726481523507200 : Nat) : Int) = 18446726481523507200 from rfl] at h
 rw [h]
 refine congrArg Nat.cast ?_
 have h2 := Nat.two_pow_add_eq_or_of_lt (i := 44) (b := x) (by omega) 1048575
 rw [show 2 ^ 44 * 1048575 = 18446726481523507200 from rfl] at h2
 rw [Nat.or_comm, ← h2, Nat.add_comm]
end
end Go.Proofs.Ytjnffegjpkbjmaa.Mem
namespace Go.Proofs.Ytjnffegjpkbjmaa.Mem
open Go.RowKit Go.Maps Go.Proofs.YtjnffegjpkbjmaaW.PrintWords Go.Proofs.YtjnffegjpkbjmaaW.PrintLast Go.Proofs.YtjnffegjpkbjmaaW.PrintMore Go.Proofs.Ytjnffegjpkbjmaa.QTsbPlays Go.Proofs.Ytjnffegjpkbjmaa.Pure
set_option linter.unusedSimpArgs false
set_option linter.unusedVariables false
section
set_option maxHeartbeats 2000000
set_option maxRecDepth 100000
noncomputable def town5_T : Bool × List (List Nat × List Nat) := rtab .any (opsOf Try.f72 5)
theorem town5_tab : rtab .any (opsOf Try.f72 5) = town5_T := rfl
theorem own_calls {B : Nat} {w0 W : World} {p mb : Nat} {sz : Int} {n : Nat} {D : DataW Unit} {pt base N s : Nat} {grade : Int} {ws : Nat → Wd} (b : TB base N s sz) (h : Mem B w0 p mb sz n D W) (hD : Holds D base N s ws) (kt : W.heap[pt]? = some (.cells (TCs p base N s grade) 95 (0, 0))) (i : Nat) (hi : i < N) :
  Calls Try.prog 72 #[.pointer (some ⟨pt, 0, none⟩), .int .u64 ((base + 16 * i : Nat) : Int)] W fun e W' => e = .returned (foundV (ownW N s i (ws i))) ∧ W.grownBy W' none := by
 have hu := Try.underlying50
 obtain ⟨a1, a2, a3, a4, a5, a6⟩ := b.at8 hi
 have HQR := Aside0.mk (fun (W1 : World) (hM : Mem B w0 p mb sz n D W1) (k1 : W1.heap[pt]? = some (.cells (TCs p base N s grade) 95 (0, 0))) (va : Nat) (hva : va < 18446744073709551616) => q_read b hM hD k1 i hi va hva)
 have hlt := hD.lt _ hi
 have ht := hD.tag _ hi
 have HA1 := Aside0.mk a1
 have HA5 := Aside0.mk a5
 have hiN := b.hN
 have hsz := b.hsz
 have hz := b.hz
 have hb16 := b.hb
 have HB := Aside0.mk b
 have HDD := Aside0.mk hD
 obtain ⟨a, ha⟩ : ∃ a, a = base + 16 * i := ⟨_, rfl⟩
 have HAE := Aside0.mk ha
 rw [← ha] at HA1 HA5 HQR ht ⊢
 clear ha
 obtain ⟨tag, htag⟩ : ∃ t, t = (ws i).1 := ⟨_, rfl⟩
 rw [← htag] at hlt ht
 have HTG := Aside0.mk ht
 have HTL := Aside0.mk hlt.1
 have HTE := Aside0.mk htag
 clear a1 a2 a3 a4 a5 a6 ht hlt htag
 have hA := World.grownBy_alloc W (.cells #[.int .i64 0, .int .i64 0, .int .u64 0, .int .u64 0, .bool false, .bool false, .bool false, .bool false, .bool false, .bool false, .bool false] 50) none
 have HG := Aside0.mk hA
 have HM := Aside0.mk (h.same hA)
 have HT := Aside0.mk (blk_grown kt hA)
 have HB4 := Aside0.mk (heap_alloc_new W (.cells #[.int .i64 0, .int .i64 0, .int .u64 0, .int .u64 0, .bool false, .bool false, .bool false, .bool false, .bool false, .bool false, .bool false] 50))
 have HI := Aside0.mk hi
 clear h kt hA
 obtain ⟨N0, hN0⟩ : ∃ N0, N0 = W.heap.size := ⟨_, rfl⟩
 have HNN := Aside0.mk hN0
 have HN0 := Aside0.mk (show N0 = W.heap.size from hN0)
 clear hN0
 obtain ⟨q, hq⟩ : ∃ q : Int, q = 13 + 3 * (s : Int) := ⟨_, rfl⟩
 have hq0 : 0 ≤ q := by omega
 have hq64 : q ≤ 64 := by have := b.hs; omega
 have HPB := Aside0.mk (show page_Bits.f (s : Int) = some q by rw [hq, pBits, if_pos (show okSize (s : Int) by have := b.hs; unfold okSize; omega)])
 obtain ⟨T, hT⟩ : ∃ T, T = tag % 4194304 := ⟨_, rfl⟩
 have HTT := Aside0.mk hT
 have HGET := Aside0.mk (show field_Get.f (tag : Int) 0 22 = some (T : Int) by
  rw [hT]
  have := fGet tag HTL.out 0 22 (by omega) (by omega)
  simp only [Nat.pow_zero, Nat.div_one] at this
  exact this)
 have HBIT := Aside0.mk (show field_Bit.f (tag : Int) 21 = some (decide (tag / 2097152 % 2 = 1)) from pBit tag HTL.out 21 (by omega))
 have HMSK := Aside0.mk (show field_Mask.f 44 20 = some 18446726481523507200 by
  have := fMask 44 20 (by omega) (by omega)
  simp only [show ((2 ^ 20 - 1) * 2 ^ 44 : Nat) = 18446726481523507200 from rfl] at this
  exact this)
 obtain ⟨X0, hX0⟩ : ∃ X, X = T * 4194304 := ⟨_, rfl⟩
 have HX0 := Aside0.mk (show X0 = tag % 4194304 * 4194304 ∧ X0 < 17592186044416 by omega)
 have HX1 := Aside0.mk hX0
 clear hX0 hT
 have HSH := Aside0.mk (show IntKind.u64.wrap ((T : Int) * 4194304) = (X0 : Int) by
  have := HX1.out
  have := HX0.out
  rw [IntKind.wrap_u64]
  omega)
 have HSB := Aside0.mk (shl_bits i s b.hs (by omega))
 rw [← hq] at HSB
 have hbl : i * Pure.bytesOf (s : Int) < 18446744073709551616 := by
  have := Nat.mul_le_mul (show i ≤ 4096 by omega) (bytes_le s)
  omega
 obtain ⟨Y, hY⟩ : ∃ Y, Y = i * Pure.bytesOf (s : Int) := ⟨_, rfl⟩
 obtain ⟨Z, hZ⟩ : ∃ Z, Z = Y % 4194304 := ⟨_, rfl⟩
 obtain ⟨K, hK⟩ : ∃ K, K = 16 * i := ⟨_, rfl⟩
 have HNUM := Aside0.mk (show IntKind.u64.wrap ((a : Int) - (base : Int)) = (K : Int) ∧ Int.tdiv (K : Int) 16 = (i : Int) ∧ IntKind.u64.wrap (i : Int) = (i : Int) ∧ IntKind.u64.wrap ((i : Int) * 2 ^ q.toNat) = (Y : Int) ∧ Int.tmod (Y : Int) 4194304 = (Z : Int) from num_own hiN hi hbl HAE.out hq b.hs hY hZ hK)
 have HYZ := Aside0.mk (show i * Pure.bytesOf (s : Int) % 4194304 = Z by rw [hZ, hY])
 clear b hD hY hZ hK hq HSB hbl
 go_enter Try.func72, Try.ntmps72
 obtain ⟨y0, y1, y2, y3, y4⟩ := cz5 HT.out
 go_wp2_with fail
 generalize W.heap.size = h4 at HB4 HN0 ⊢
 refine (pair_ok HM.out (a : Int) HA1.out HA5.out).mono ?_
 rintro x0 wp ⟨hx, he⟩
 rw [HTG.out] at hx
 subst hx
 have hg : (W.alloc (.cells #[.int .i64 0, .int .i64 0, .int .u64 0, .int .u64 0, .bool false, .bool false, .bool false, .bool false, .bool false, .bool false, .bool false] 50)).grownBy wp none := by rw [he]; exact grown_drew _ _
 clear he y0 y1 y2 y3 y4
 replace HG := Aside0.mk (grown_two HG.out hg)
 replace HM := Aside0.mk (HM.out.same hg)
 replace HT := Aside0.mk (blk_grown HT.out hg)
 replace HB4 := Aside0.mk (blk_grown HB4.out hg)
 clear hg
 go_wp2_with fail
 refine (field_Get.calls _ _ _ _ _ HGET.out).mono ?_
 rintro x0 w2 ⟨rfl, hd⟩
 have hg := drawn_grown hd
 clear hd
 replace HG := Aside0.mk (grown_two HG.out hg)
 replace HM := Aside0.mk (HM.out.same hg)
 replace HT := Aside0.mk (blk_grown HT.out hg)
 replace HB4 := Aside0.mk (blk_grown HB4.out hg)
 clear hg
 have hsh := HSH.out
 go_wp2_with fail
 clear hsh
 refine (field_Bit.calls _ _ _ _ HBIT.out).mono ?_
 rintro x0 w3 ⟨rfl, hd⟩
 have hg := drawn_grown hd
 clear hd
 replace HG := Aside0.mk (grown_two HG.out hg)
 replace HM := Aside0.mk (HM.out.same hg)
 replace HT := Aside0.mk (blk_grown HT.out hg)
 replace HB4 := Aside0.mk (blk_grown HB4.out hg)
 clear hg
 by_cases hbit : tag / 2097152 % 2 = 1
 ·have hdt : decide (tag / 2097152 % 2 = 1) = true := decide_eq_true hbit
  go_wp2_with fail
  refine (field_Mask.calls _ _ _ _ HMSK.out).mono ?_
  rintro x0 w4 ⟨rfl, hd⟩
  have hg := drawn_grown hd
  clear hd
  replace HG := Aside0.mk (grown_two HG.out hg)
  replace HM := Aside0.mk (HM.out.same hg)
  replace HT := Aside0.mk (blk_grown HT.out hg)
  replace HB4 := Aside0.mk (blk_grown HB4.out hg)
  clear hg
  obtain ⟨X, hX⟩ : ∃ X, X = X0 + 18446726481523507200 := ⟨_, rfl⟩
  have hor : bits .or .u64 (X0 : Int) 18446726481523507200 = (X : Int) := by rw [hX]; exact or_high _ HX0.out.2
  have HVA := Aside0.mk (show (X + Z) % 18446744073709551616 = ownVa s i tag by unfold ownVa; rw [if_pos hbit, hX, HX0.out.1, HYZ.out])
  clear hX
  go_upto_region 5 with fail
  clear hor
  clear hbit hdt
  obtain ⟨va, hva⟩ : ∃ va, va = ownVa s i tag := ⟨_, rfl⟩
  have HVL := Aside0.mk (show va < 18446744073709551616 by rw [hva]; exact ownVa_lt _ _ _)
  rw [← hva] at HVA
  have HVE := Aside0.mk hva
  clear hva
  have HSUM := Aside0.mk (show IntKind.u64.wrap ((X : Int) + (Z : Int)) = (va : Int) by rw [IntKind.wrap_u64, ← HVA.out]; omega)
  have hgd := grown_drew w4 none
  replace HG := Aside0.mk (grown_two HG.out hgd)
  replace HM := Aside0.mk (HM.out.same hgd)
  replace HT := Aside0.mk (blk_grown HT.out hgd)
  replace HB4 := Aside0.mk (blk_grown HB4.out hgd)
  clear hgd
  refine start_ (n := 17) (S := fun w' => w'.heap[pt]? = some (.cells (TCs p base N s grade) 95 (0, 0))) (ds := []) #[false, false, false, false, false, false, false, false, false, false, false, false, false, false, false, false, false] (by kernel_rfl) rfl rfl HT.out (fun hHeld => ?_)
  refine with_tab town5_tab (fun HT_ => ?_)
  refine pure_ (i := 0) (N := some 28) (v := ?_) (a' := ?_) #[true, false, false, false, false, false, false, false, false, false, false, false, false, false, false, false, false] rfl rfl (any_of HT_.out (by kernel_rfl)) (fun _ _ _ h => h) (Or.inl ⟨by rfl, ?_⟩) ?_ ?_
  rotate_left
  ·intro w'
   go_simp
   with_reducible rfl
  rotate_left
  ·simp only [ap_]
   rfl
  refine pure_ (i := 1) (N := some 29) (v := ?_) (a' := ?_) #[true, true, false, false, false, false, false, false, false, false, false, false, false, false, false, false, false] rfl rfl (any_of HT_.out (by kernel_rfl)) (fun _ _ _ h => h) (Or.inl ⟨by rfl, ?_⟩) ?_ ?_
  rotate_left
  ·intro w'
   go_simp
   with_reducible rfl
  rotate_left
  ·simp only [ap_]
   rfl
  refine pure_ (i := 2) (N := some 30) (v := ?_) (a' := ?_) #[true, true, true, false, false, false, false, false, false, false, false, false, false, false, false, false, false] rfl rfl (any_of HT_.out (by kernel_rfl)) (fun _ _ _ h => h) (Or.inl ⟨by rfl, ?_⟩) ?_ ?_
  rotate_left
  ·intro w'
   go_simp
   with_reducible rfl
  rotate_left
  ·simp only [ap_]
   rfl
  refine pure_ (i := 3) (N := some 31) (v := .pointer (some ⟨pt, 0, none⟩)) (a' := ?_) #[true, true, true, true, false, false, false, false, false, false, false, false, false, false, false, false, false] rfl rfl (any_of HT_.out (by kernel_rfl)) (fun _ _ _ h => h) (Or.inl ⟨by rfl, ?_⟩) ?_ ?_
  ·intro w'
   go_simp
  rotate_left
  ·simp only [ap_]
   rfl
  refine pure_ (i := 4) (N := some 32) (v := ?_) (a' := ?_) #[true, true, true, true, true, false, false, false, false, false, false, false, false, false, false, false, false] rfl rfl (any_of HT_.out (by kernel_rfl)) (fun _ _ _ h => h) (Or.inl ⟨by rfl, ?_⟩) ?_ ?_
  rotate_left
  ·intro w'
   go_simp
   with_reducible rfl
  rotate_left
  ·simp only [ap_]
   rfl
  refine pure_ (i := 8) (N := some 36) (v := ?_) (a' := ?_) #[true, true, true, true, true, false, false, false, true, false, false, false, false, false, false, false, false] rfl rfl (any_of HT_.out (by kernel_rfl)) (fun _ _ _ h => h) (Or.inl ⟨by rfl, ?_⟩) ?_ ?_
  rotate_left
  ·intro w'
   go_simp
   with_reducible rfl
  rotate_left
  ·simp only [ap_]
   rfl
  refine pure_ (i := 9) (N := some 37) (v := .pointer (some ⟨pt, 0, none⟩)) (a' := ?_) #[true, true, true, true, true, false, false, false, true, true, false, false, false, false, false, false, false] rfl rfl (any_of HT_.out (by kernel_rfl)) (fun _ _ _ h => h) (Or.inl ⟨by rfl, ?_⟩) ?_ ?_
  ·intro w'
   go_simp
  rotate_left
  ·simp only [ap_]
   rfl
  refine pure_ (i := 10) (N := some 38) (v := ?_) (a' := ?_) #[true, true, true, true, true, false, false, false, true, true, true, false, false, false, false, false, false] rfl rfl (any_of HT_.out (by kernel_rfl)) (fun _ _ _ h => h) (Or.inl ⟨by rfl, ?_⟩) ?_ ?_
  rotate_left
  ·intro w'
   go_simp
   with_reducible rfl
  rotate_left
  ·simp only [ap_]
   rfl
  refine take_ (i := 5) (N := some 33) (v := .int .u64 (base : Int)) (a' := ?_) #[true, true, true, true, true, true, false, false, true, true, true, false, false, false, false, false, false] rfl rfl (take_of HT_.out (by kernel_rfl)) (fun _ _ _ h => h) (Or.inl ⟨by rfl, ?_⟩) hHeld ?_ ?_
  ·rintro w' s1
   obtain ⟨y0, y1, y2, y3, y4⟩ := cz5 s1
   go_simp
  rotate_left
  ·simp only [ap_]
   rfl
  refine pure_ (i := 6) (N := some 34) (v := .int .u64 (K : Int)) (a' := ?_) #[true, true, true, true, true, true, true, false, true, true, true, false, false, false, false, false, false] rfl rfl (any_of HT_.out (by kernel_rfl)) (fun _ _ _ h => h) (Or.inl ⟨by rfl, ?_⟩) ?_ ?_
  ·intro w'
   have e1 := HNUM.out.1
   go_simp
   first | done | rw [e1] | rfl
  rotate_left
  ·simp only [ap_]
   rfl
  refine pure_ (i := 7) (N := some 35) (v := .int .u64 (i : Int)) (a' := ?_) #[true, true, true, true, true, true, true, true, true, true, true, false, false, false, false, false, false] rfl rfl (any_of HT_.out (by kernel_rfl)) (fun _ _ _ h => h) (Or.inl ⟨by rfl, ?_⟩) ?_ ?_
  ·intro w'
   have e1 := HNUM.out.2.1
   have e2 := HNUM.out.2.2.1
   go_simp
   first | done | rw [e2] | rw [e1, e2] | rw [e1]
  rotate_left
  ·simp only [ap_]
   rfl
  refine take_ (i := 11) (N := some 39) (v := .int .i64 (s : Int)) (a' := ?_) #[true, true, true, true, true, true, true, true, true, true, true, true, false, false, false, false, false] rfl rfl (take_of HT_.out (by kernel_rfl)) (fun _ _ _ h => h) (Or.inl ⟨by rfl, ?_⟩) hHeld ?_ ?_
  ·rintro w' s1
   obtain ⟨y0, y1, y2, y3, y4⟩ := cz5 s1
   go_simp
  rotate_left
  ·simp only [ap_]
   rfl
  refine one_ (i := 12) (N := some 40) #[true, true, true, true, true, true, true, true, true, true, true, true, true, false, false, false, false] rfl rfl (one_of HT_.out (by kernel_rfl)) (by decide) (fun K hK => ?_)
  refine goes_ Try.func76 (by kernel_rfl) rfl #[.int .i64 (s : Int)] (by rfl) rfl rfl (by (try simp only [List.map_toArray, List.map_cons, List.map_nil]); first | done | rfl) ?_
  refine (page_Bits.calls _ _ _ HPB.out).mono ?_
  rintro x0 wn ⟨rfl, hd⟩
  have hg := drawn_grown hd
  have hs : wn.heap[pt]? = some (.cells (TCs p base N s grade) 95 (0, 0)) := blk_grown hHeld hg
  replace HG := Aside0.mk (grown_two HG.out hg)
  replace HM := Aside0.mk (HM.out.same hg)
  replace HT := Aside0.mk (blk_grown HT.out hg)
  replace HB4 := Aside0.mk (blk_grown HB4.out hg)
  clear hd hg
  refine ⟨_, rfl, ?_⟩
  refine hK.out _ _ hs (fun hHeld => ?_)
  clear hK K
  refine norm_ (a' := ?_) ?_ ?_
  rotate_left
  ·show Act.put _ (some 40) _ = _
   simp only [ap_]
   rfl
  refine pure_ (i := 13) (N := some 41) (v := .int .u64 (Y : Int)) (a' := ?_) #[true, true, true, true, true, true, true, true, true, true, true, true, true, true, false, false, false] rfl rfl (any_of HT_.out (by kernel_rfl)) (fun _ _ _ h => h) (Or.inl ⟨by rfl, ?_⟩) ?_ ?_
  ·intro w'
   have e1 := HNUM.out.2.2.2.1
   go_simp
   first | done | rw [e1] | rfl
  rotate_left
  ·simp only [ap_]
   rfl
  refine pure_ (i := 14) (N := some 42) (v := .int .u64 (Z : Int)) (a' := ?_) #[true, true, true, true, true, true, true, true, true, true, true, true, true, true, true, false, false] rfl rfl (any_of HT_.out (by kernel_rfl)) (fun _ _ _ h => h) (Or.inl ⟨by rfl, ?_⟩) ?_ ?_
  ·intro w'
   have e1 := HNUM.out.2.2.2.2
   go_simp
   first | done | rw [e1] | rfl
  rotate_left
  ·simp only [ap_]
   rfl
  refine pure_ (i := 15) (N := some 43) (v := .int .u64 (va : Int)) (a' := ?_) #[true, true, true, true, true, true, true, true, true, true, true, true, true, true, true, true, false] rfl rfl (any_of HT_.out (by kernel_rfl)) (fun _ _ _ h => h) (Or.inl ⟨by rfl, ?_⟩) ?_ ?_
  ·intro w'
   have e1 := HSUM.out
   go_simp
   first | done | rw [e1] | rfl
  rotate_left
  ·simp only [ap_]
   rfl
  refine pure_ (i := 16) (N := some 9) (v := ?_) (a' := ?_) #[true, true, true, true, true, true, true, true, true, true, true, true, true, true, true, true, true] rfl rfl (any_of HT_.out (by kernel_rfl)) (fun _ _ _ h => h) (Or.inl ⟨by rfl, ?_⟩) ?_ ?_
  rotate_left
  ·intro w'
   go_simp
   with_reducible rfl
  rotate_left
  ·simp only [ap_]
   rfl
  refine done_ (done_of HT_.out (by kernel_rfl)) ?_
  go_wp2_with fail
  refine (tat_calls HT.out va _ (HB.out.slot va HVL.out)).mono ?_
  rintro x0 w6 ⟨rfl, hg⟩
  replace HG := Aside0.mk (grown_two HG.out hg)
  replace HM := Aside0.mk (HM.out.same hg)
  replace HT := Aside0.mk (blk_grown HT.out hg)
  replace HB4 := Aside0.mk (blk_grown HB4.out hg)
  clear hg
  obtain ⟨z, hz⟩ : ∃ z, z = base + 16 * plcOf N (s : Int) va := ⟨_, rfl⟩
  rw [← hz]
  by_cases hza : z = a
  ·have HOW := Aside0.mk (show ownW N s i (ws i) = readW (ws i) va by
    have e : plcOf N (s : Int) va = i := by have := HAE.out; omega
    unfold ownW
    rw [← HTE.out, ← HVE.out, if_pos e])
   rw [hza]
   clear hz hza
   go_wp2_with fail
   refine (HQR.out _ HM.out HT.out va HVL.out).mono ?_
   rintro x0 w7 ⟨hx, hg⟩
   rw [← HOW.out, foundV_row] at hx
   generalize hff : ownW N s i (ws i) = ff at hx
   obtain ⟨er, her⟩ : ∃ er, er = rowE ff := ⟨_, rfl⟩
   obtain ⟨fs, hfs⟩ : ∃ fs, fs = ff.isSome := ⟨_, rfl⟩
   rw [← her, ← hfs] at hx
   subst hx
   have HRES := Aside0.mk (show foundV (ownW N s i (ws i)) = .tuple #[.agg (entA er), .bool fs] by rw [foundV_row, hff, ← her, ← hfs])
   clear hff her hfs HOW
   replace HG := Aside0.mk (grown_two HG.out hg)
   replace HM := Aside0.mk (HM.out.same hg)
   replace HT := Aside0.mk (blk_grown HT.out hg)
   replace HB4 := Aside0.mk (blk_grown HB4.out hg)
   clear hg
   go_wp2_with (((with_reducible refine gate_store (t := 50) (p := 4) rfl ?_); refine wpList_store_row rfl 50 (.tmp 4) (.tmp 54) rfl h4 (entA er) rfl rfl 50 _ HB4.out (by kernel_rfl) rfl (by kernel_rfl) ?_; have SHB4 := Aside0.mk (setRow_heap _ h4 _ (entA er) _ _ HB4.out); have THB4 := Aside0.mk (grown_row w7 h4 (entA er))))
   replace HG := Aside0.mk (grown_loc HG.out THB4.out (by have := HN0.out; have := HNN.out; omega))
   obtain ⟨z0, z1, z2, z3, z4, z5, z6, z7, z8, z9, z10⟩ := tte_Read.cz11 SHB4.out
   go_wp2
   exact bodyPost_ret (v := .tuple #[.agg (entA er), .bool fs]) (by simp [results, Try.f72, go_sem, z0, z1, z2, z3, z4, z5, z6, z7, z8, z9, z10]) rfl ⟨by rw [HRES.out], HG.out⟩
  ·have hzb : ((z : Int) != (a : Int)) = true := bne_iff_ne.2 (by omega)
   have HOW := Aside0.mk (show foundV (ownW N s i (ws i)) = .tuple #[.agg #[.int .i64 0, .int .i64 0, .int .u64 0, .int .u64 0, .bool false, .bool false, .bool false, .bool false, .bool false, .bool false, .bool false], .bool false] by
    have e : ¬ plcOf N (s : Int) va = i := by have := HAE.out; omega
    unfold ownW
    rw [← HTE.out, ← HVE.out, if_neg e]
    rfl)
   clear hz hza
   go_wp2_with (((with_reducible refine gate_store (t := 50) (p := 4) rfl ?_); refine wpList_store_row rfl 50 (.tmp 4) (.tmp 49) rfl h4 #[.int .i64 0, .int .i64 0, .int .u64 0, .int .u64 0, .bool false, .bool false, .bool false, .bool false, .bool false, .bool false, .bool false] rfl rfl 50 _ HB4.out (by kernel_rfl) rfl (by kernel_rfl) ?_; have SHB4 := Aside0.mk (setRow_heap _ h4 _ #[.int .i64 0, .int .i64 0, .int .u64 0, .int .u64 0, .bool false, .bool false, .bool false, .bool false, .bool false, .bool false, .bool false] _ _ HB4.out); have THB4 := Aside0.mk (grown_row w6 h4 #[.int .i64 0, .int .i64 0, .int .u64 0, .int .u64 0, .bool false, .bool false, .bool false, .bool false, .bool false, .bool false, .bool false])))
   replace HG := Aside0.mk (grown_loc HG.out THB4.out (by have := HN0.out; have := HNN.out; omega))
   obtain ⟨z0, z1, z2, z3, z4, z5, z6, z7, z8, z9, z10⟩ := tte_Read.cz11 SHB4.out
   go_wp2
   exact bodyPost_ret (v := .tuple #[.agg #[.int .i64 0, .int .i64 0, .int .u64 0, .int .u64 0, .bool false, .bool false, .bool false, .bool false, .bool false, .bool false, .bool false], .bool false]) (by simp [results, Try.f72, go_sem, z0, z1, z2, z3, z4, z5, z6, z7, z8, z9, z10]) rfl ⟨by rw [HOW.out], HG.out⟩
 ·have hdt : decide (tag / 2097152 % 2 = 1) = false := decide_eq_false hbit
  obtain ⟨X, hX⟩ : ∃ X, X = X0 := ⟨_, rfl⟩
  have HVA := Aside0.mk (show (X + Z) % 18446744073709551616 = ownVa s i tag by unfold ownVa; rw [if_neg hbit, hX, HX0.out.1, Nat.add_zero, HYZ.out])
  rw [← hX]
  clear hX
  go_upto_region 5 with fail
  clear hbit hdt
  obtain ⟨va, hva⟩ : ∃ va, va = ownVa s i tag := ⟨_, rfl⟩
  have HVL := Aside0.mk (show va < 18446744073709551616 by rw [hva]; exact ownVa_lt _ _ _)
  rw [← hva] at HVA
  have HVE := Aside0.mk hva
  clear hva
  have HSUM := Aside0.mk (show IntKind.u64.wrap ((X : Int) + (Z : Int)) = (va : Int) by rw [IntKind.wrap_u64, ← HVA.out]; omega)
  have hgd := grown_drew w3 none
  replace HG := Aside0.mk (grown_two HG.out hgd)
  replace HM := Aside0.mk (HM.out.same hgd)
  replace HT := Aside0.mk (blk_grown HT.out hgd)
  replace HB4 := Aside0.mk (blk_grown HB4.out hgd)
  clear hgd
  refine start_ (n := 17) (S := fun w' => w'.heap[pt]? = some (.cells (TCs p base N s grade) 95 (0, 0))) (ds := []) #[false, false, false, false, false, false, false, false, false, false, false, false, false, false, false, false, false] (by kernel_rfl) rfl rfl HT.out (fun hHeld => ?_)
  refine with_tab town5_tab (fun HT_ => ?_)
  refine pure_ (i := 0) (N := some 28) (v := ?_) (a' := ?_) #[true, false, false, false, false, false, false, false, false, false, false, false, false, false, false, false, false] rfl rfl (any_of HT_.out (by kernel_rfl)) (fun _ _ _ h => h) (Or.inl ⟨by rfl, ?_⟩) ?_ ?_
  rotate_left
  ·intro w'
   go_simp
   with_reducible rfl
  rotate_left
  ·simp only [ap_]
   rfl
  refine pure_ (i := 1) (N := some 29) (v := ?_) (a' := ?_) #[true, true, false, false, false, false, false, false, false, false, false, false, false, false, false, false, false] rfl rfl (any_of HT_.out (by kernel_rfl)) (fun _ _ _ h => h) (Or.inl ⟨by rfl, ?_⟩) ?_ ?_
  rotate_left
  ·intro w'
   go_simp
   with_reducible rfl
  rotate_left
  ·simp only [ap_]
   rfl
  refine pure_ (i := 2) (N := some 30) (v := ?_) (a' := ?_) #[true, true, true, false, false, false, false, false, false, false, false, false, false, false, false, false, false] rfl rfl (any_of HT_.out (by kernel_rfl)) (fun _ _ _ h => h) (Or.inl ⟨by rfl, ?_⟩) ?_ ?_
  rotate_left
  ·intro w'
   go_simp
   with_reducible rfl
  rotate_left
  ·simp only [ap_]
   rfl
  refine pure_ (i := 3) (N := some 31) (v := .pointer (some ⟨pt, 0, none⟩)) (a' := ?_) #[true, true, true, true, false, false, false, false, false, false, false, false, false, false, false, false, false] rfl rfl (any_of HT_.out (by kernel_rfl)) (fun _ _ _ h => h) (Or.inl ⟨by rfl, ?_⟩) ?_ ?_
  ·intro w'
   go_simp
  rotate_left
  ·simp only [ap_]
   rfl
  refine pure_ (i := 4) (N := some 32) (v := ?_) (a' := ?_) #[true, true, true, true, true, false, false, false, false, false, false, false, false, false, false, false, false] rfl rfl (any_of HT_.out (by kernel_rfl)) (fun _ _ _ h => h) (Or.inl ⟨by rfl, ?_⟩) ?_ ?_
  rotate_left
  ·intro w'
   go_simp
   with_reducible rfl
  rotate_left
  ·simp only [ap_]
   rfl
  refine pure_ (i := 8) (N := some 36) (v := ?_) (a' := ?_) #[true, true, true, true, true, false, false, false, true, false, false, false, false, false, false, false, false] rfl rfl (any_of HT_.out (by kernel_rfl)) (fun _ _ _ h => h) (Or.inl ⟨by rfl, ?_⟩) ?_ ?_
  rotate_left
  ·intro w'
   go_simp
   with_reducible rfl
  rotate_left
  ·simp only [ap_]
   rfl
  refine pure_ (i := 9) (N := some 37) (v := .pointer (some ⟨pt, 0, none⟩)) (a' := ?_) #[true, true, true, true, true, false, false, false, true, true, false, false, false, false, false, false, false] rfl rfl (any_of HT_.out (by kernel_rfl)) (fun _ _ _ h => h) (Or.inl ⟨by rfl, ?_⟩) ?_ ?_
  ·intro w'
   go_simp
  rotate_left
  ·simp only [ap_]
   rfl
  refine pure_ (i := 10) (N := some 38) (v := ?_) (a' := ?_) #[true, true, true, true, true, false, false, false, true, true, true, false, false, false, false, false, false] rfl rfl (any_of HT_.out (by kernel_rfl)) (fun _ _ _ h => h) (Or.inl ⟨by rfl, ?_⟩) ?_ ?_
  rotate_left
  ·intro w'
   go_simp
   with_reducible rfl
  rotate_left
  ·simp only [ap_]
   rfl
  refine take_ (i := 5) (N := some 33) (v := .int .u64 (base : Int)) (a' := ?_) #[true, true, true, true, true, true, false, false, true, true, true, false, false, false, false, false, false] rfl rfl (take_of HT_.out (by kernel_rfl)) (fun _ _ _ h => h) (Or.inl ⟨by rfl, ?_⟩) hHeld ?_ ?_
  ·rintro w' s1
   obtain ⟨y0, y1, y2, y3, y4⟩ := cz5 s1
   go_simp
  rotate_left
  ·simp only [ap_]
   rfl
  refine pure_ (i := 6) (N := some 34) (v := .int .u64 (K : Int)) (a' := ?_) #[true, true, true, true, true, true, true, false, true, true, true, false, false, false, false, false, false] rfl rfl (any_of HT_.out (by kernel_rfl)) (fun _ _ _ h => h) (Or.inl ⟨by rfl, ?_⟩) ?_ ?_
  ·intro w'
   have e1 := HNUM.out.1
   go_simp
   first | done | rw [e1] | rfl
  rotate_left
  ·simp only [ap_]
   rfl
  refine pure_ (i := 7) (N := some 35) (v := .int .u64 (i : Int)) (a' := ?_) #[true, true, true, true, true, true, true, true, true, true, true, false, false, false, false, false, false] rfl rfl (any_of HT_.out (by kernel_rfl)) (fun _ _ _ h => h) (Or.inl ⟨by rfl, ?_⟩) ?_ ?_
  ·intro w'
   have e1 := HNUM.out.2.1
   have e2 := HNUM.out.2.2.1
   go_simp
   first | done | rw [e2] | rw [e1, e2] | rw [e1]
  rotate_left
  ·simp only [ap_]
   rfl
  refine take_ (i := 11) (N := some 39) (v := .int .i64 (s : Int)) (a' := ?_) #[true, true, true, true, true, true, true, true, true, true, true, true, false, false, false, false, false] rfl rfl (take_of HT_.out (by kernel_rfl)) (fun _ _ _ h => h) (Or.inl ⟨by rfl, ?_⟩) hHeld ?_ ?_
  ·rintro w' s1
   obtain ⟨y0, y1, y2, y3, y4⟩ := cz5 s1
   go_simp
  rotate_left
  ·simp only [ap_]
   rfl
  refine one_ (i := 12) (N := some 40) #[true, true, true, true, true, true, true, true, true, true, true, true, true, false, false, false, false] rfl rfl (one_of HT_.out (by kernel_rfl)) (by decide) (fun K hK => ?_)
  refine goes_ Try.func76 (by kernel_rfl) rfl #[.int .i64 (s : Int)] (by rfl) rfl rfl (by (try simp only [List.map_toArray, List.map_cons, List.map_nil]); first | done | rfl) ?_
  refine (page_Bits.calls _ _ _ HPB.out).mono ?_
  rintro x0 wn ⟨rfl, hd⟩
  have hg := drawn_grown hd
  have hs : wn.heap[pt]? = some (.cells (TCs p base N s grade) 95 (0, 0)) := blk_grown hHeld hg
  replace HG := Aside0.mk (grown_two HG.out hg)
  replace HM := Aside0.mk (HM.out.same hg)
  replace HT := Aside0.mk (blk_grown HT.out hg)
  replace HB4 := Aside0.mk (blk_grown HB4.out hg)
  clear hd hg
  refine ⟨_, rfl, ?_⟩
  refine hK.out _ _ hs (fun hHeld => ?_)
  clear hK K
  refine norm_ (a' := ?_) ?_ ?_
  rotate_left
  ·show Act.put _ (some 40) _ = _
   simp only [ap_]
   rfl
  refine pure_ (i := 13) (N := some 41) (v := .int .u64 (Y : Int)) (a' := ?_) #[true, true, true, true, true, true, true, true, true, true, true, true, true, true, false, false, false] rfl rfl (any_of HT_.out (by kernel_rfl)) (fun _ _ _ h => h) (Or.inl ⟨by rfl, ?_⟩) ?_ ?_
  ·intro w'
   have e1 := HNUM.out.2.2.2.1
   go_simp
   first | done | rw [e1] | rfl
  rotate_left
  ·simp only [ap_]
   rfl
  refine pure_ (i := 14) (N := some 42) (v := .int .u64 (Z : Int)) (a' := ?_) #[true, true, true, true, true, true, true, true, true, true, true, true, true, true, true, false, false] rfl rfl (any_of HT_.out (by kernel_rfl)) (fun _ _ _ h => h) (Or.inl ⟨by rfl, ?_⟩) ?_ ?_
  ·intro w'
   have e1 := HNUM.out.2.2.2.2
   go_simp
   first | done | rw [e1] | rfl
  rotate_left
  ·simp only [ap_]
   rfl
  refine pure_ (i := 15) (N := some 43) (v := .int .u64 (va : Int)) (a' := ?_) #[true, true, true, true, true, true, true, true, true, true, true, true, true, true, true, true, false] rfl rfl (any_of HT_.out (by kernel_rfl)) (fun _ _ _ h => h) (Or.inl ⟨by rfl, ?_⟩) ?_ ?_
  ·intro w'
   have e1 := HSUM.out
   go_simp
   first | done | rw [e1] | rfl
  rotate_left
  ·simp only [ap_]
   rfl
  refine pure_ (i := 16) (N := some 9) (v := ?_) (a' := ?_) #[true, true, true, true, true, true, true, true, true, true, true, true, true, true, true, true, true] rfl rfl (any_of HT_.out (by kernel_rfl)) (fun _ _ _ h => h) (Or.inl ⟨by rfl, ?_⟩) ?_ ?_
  rotate_left
  ·intro w'
   go_simp
   with_reducible rfl
  rotate_left
  ·simp only [ap_]
   rfl
  refine done_ (done_of HT_.out (by kernel_rfl)) ?_
  go_wp2_with fail
  refine (tat_calls HT.out va _ (HB.out.slot va HVL.out)).mono ?_
  rintro x0 w6 ⟨rfl, hg⟩
  replace HG := Aside0.mk (grown_two HG.out hg)
  replace HM := Aside0.mk (HM.out.same hg)
  replace HT := Aside0.mk (blk_grown HT.out hg)
  replace HB4 := Aside0.mk (blk_grown HB4.out hg)
  clear hg
  obtain ⟨z, hz⟩ : ∃ z, z = base + 16 * plcOf N (s : Int) va := ⟨_, rfl⟩
  rw [← hz]
  by_cases hza : z = a
  ·have HOW := Aside0.mk (show ownW N s i (ws i) = readW (ws i) va by
    have e : plcOf N (s : Int) va = i := by have := HAE.out; omega
    unfold ownW
    rw [← HTE.out, ← HVE.out, if_pos e])
   rw [hza]
   clear hz hza
   go_wp2_with fail
   refine (HQR.out _ HM.out HT.out va HVL.out).mono ?_
   rintro x0 w7 ⟨hx, hg⟩
   rw [← HOW.out, foundV_row] at hx
   generalize hff : ownW N s i (ws i) = ff at hx
   obtain ⟨er, her⟩ : ∃ er, er = rowE ff := ⟨_, rfl⟩
   obtain ⟨fs, hfs⟩ : ∃ fs, fs = ff.isSome := ⟨_, rfl⟩
   rw [← her, ← hfs] at hx
   subst hx
   have HRES := Aside0.mk (show foundV (ownW N s i (ws i)) = .tuple #[.agg (entA er), .bool fs] by rw [foundV_row, hff, ← her, ← hfs])
   clear hff her hfs HOW
   replace HG := Aside0.mk (grown_two HG.out hg)
   replace HM := Aside0.mk (HM.out.same hg)
   replace HT := Aside0.mk (blk_grown HT.out hg)
   replace HB4 := Aside0.mk (blk_grown HB4.out hg)
   clear hg
   go_wp2_with (((with_reducible refine gate_store (t := 50) (p := 4) rfl ?_); refine wpList_store_row rfl 50 (.tmp 4) (.tmp 54) rfl h4 (entA er) rfl rfl 50 _ HB4.out (by kernel_rfl) rfl (by kernel_rfl) ?_; have SHB4 := Aside0.mk (setRow_heap _ h4 _ (entA er) _ _ HB4.out); have THB4 := Aside0.mk (grown_row w7 h4 (entA er))))
   replace HG := Aside0.mk (grown_loc HG.out THB4.out (by have := HN0.out; have := HNN.out; omega))
   obtain ⟨z0, z1, z2, z3, z4, z5, z6, z7, z8, z9, z10⟩ := tte_Read.cz11 SHB4.out
   go_wp2
   exact bodyPost_ret (v := .tuple #[.agg (entA er), .bool fs]) (by simp [results, Try.f72, go_sem, z0, z1, z2, z3, z4, z5, z6, z7, z8, z9, z10]) rfl ⟨by rw [HRES.out], HG.out⟩
  ·have hzb : ((z : Int) != (a : Int)) = true := bne_iff_ne.2 (by omega)
   have HOW := Aside0.mk (show foundV (ownW N s i (ws i)) = .tuple #[.agg #[.int .i64 0, .int .i64 0, .int .u64 0, .int .u64 0, .bool false, .bool false, .bool false, .bool false, .bool false, .bool false, .bool false], .bool false] by
    have e : ¬ plcOf N (s : Int) va = i := by have := HAE.out; omega
    unfold ownW
    rw [← HTE.out, ← HVE.out, if_neg e]
    rfl)
   clear hz hza
   go_wp2_with (((with_reducible refine gate_store (t := 50) (p := 4) rfl ?_); refine wpList_store_row rfl 50 (.tmp 4) (.tmp 49) rfl h4 #[.int .i64 0, .int .i64 0, .int .u64 0, .int .u64 0, .bool false, .bool false, .bool false, .bool false, .bool false, .bool false, .bool false] rfl rfl 50 _ HB4.out (by kernel_rfl) rfl (by kernel_rfl) ?_; have SHB4 := Aside0.mk (setRow_heap _ h4 _ #[.int .i64 0, .int .i64 0, .int .u64 0, .int .u64 0, .bool false, .bool false, .bool false, .bool false, .bool false, .bool false, .bool false] _ _ HB4.out); have THB4 := Aside0.mk (grown_row w6 h4 #[.int .i64 0, .int .i64 0, .int .u64 0, .int .u64 0, .bool false, .bool false, .bool false, .bool false, .bool false, .bool false, .bool false])))
   replace HG := Aside0.mk (grown_loc HG.out THB4.out (by have := HN0.out; have := HNN.out; omega))
   obtain ⟨z0, z1, z2, z3, z4, z5, z6, z7, z8, z9, z10⟩ := tte_Read.cz11 SHB4.out
   go_wp2
   exact bodyPost_ret (v := .tuple #[.agg #[.int .i64 0, .int .i64 0, .int .u64 0, .int .u64 0, .bool false, .bool false, .bool false, .bool false, .bool false, .bool false, .bool false], .bool false]) (by simp [results, Try.f72, go_sem, z0, z1, z2, z3, z4, z5, z6, z7, z8, z9, z10]) rfl ⟨by rw [HOW.out], HG.out⟩
end
end Go.Proofs.Ytjnffegjpkbjmaa.Mem
-- halved
