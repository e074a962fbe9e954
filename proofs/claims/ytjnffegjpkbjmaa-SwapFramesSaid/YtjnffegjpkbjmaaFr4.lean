/- open: how many free frames stand one behind the other from one on; whatever numbers. -/
import Derived.Test.YtjnffegjpkbjmaaQTsbPlaysx40
import Derived.Test.YtjnffegjpkbjmaaQTsbPlaysx43
import Derived.Below
/- merged: Fr3 -/
/- merged: Fr2 -/
/- merged: Fr1 -/
/- merged: Fr0 -/
namespace Go.Proofs.Ytjnffegjpkbjmaa.QFramesPlays
open Go.Proofs.Ytjnffegjpkbjmaa.QTsbPlays
open Go.RowKit Go.Proofs.YtjnffegjpkbjmaaW.PrintWords Go.Proofs.YtjnffegjpkbjmaaW.PrintLast Go.Proofs.YtjnffegjpkbjmaaW.PrintMore
set_option linter.unusedSimpArgs false
set_option linter.unusedVariables false
section
set_option maxHeartbeats 1000000
set_option maxRecDepth 100000
/-- Frames at p (their row at r, made ahead of p): which are taken, how many are said to be free. -/
structure Fr (B : Nat) (w0 : World) (p r : Nat) (ts : List Bool) (free : Int) (W : World) : Prop where
  below : Below B w0 W
  hr : B ≤ r
  hp : p = r + 1
  row : W.heap[p]? = some (.cells #[.slice (some ⟨r, 0, none⟩) ts.length ts.length, .int .i64 free] 93 (0, 0))
  bits : W.heap[r]? = some (.cells (ts.map Value.bool).toArray 4 (0, 0))
  len : ts.length ≤ 65536
theorem Fr.rp {B w0 p r ts free W} (h : Fr B w0 p r ts free W) : r < p := by rw [h.hp]; exact Nat.lt_succ_self _
theorem Fr.lt {B w0 p r ts free W} (h : Fr B w0 p r ts free W) : p < W.heap.size := blk_lt h.row
theorem Fr.kept {B w0 p r ts free W row W'} (h : Fr B w0 p r ts free W) (hg : W.grownBy W' row) (h1 : some p ≠ row) (h2 : some r ≠ row) (h3 : ∀ k, row = some k → B ≤ k) : Fr B w0 p r ts free W' :=
  ⟨h.below.grown hg (Nat.le_of_lt (Nat.lt_of_le_of_lt h.hr (Nat.lt_trans h.rp h.lt))) h3, h.hr, h.hp, (hg.block p h.lt h1).trans h.row, (hg.block r (Nat.lt_trans h.rp h.lt) h2).trans h.bits, h.len⟩
theorem Fr.same {B w0 p r ts free W W'} (h : Fr B w0 p r ts free W) (hg : W.grownBy W' none) : Fr B w0 p r ts free W' := h.kept hg (by simp) (by simp) (fun _ e => by cases e)
/-- The world as it was ahead of the block p: what a printed contract calls the world that came in. -/
def trunc (W : World) (p : Nat) : World := { W with heap := W.heap.extract 0 p }
theorem trunc_size {W : World} {p : Nat} (h : p < W.heap.size) : (trunc W p).heap.size = p := by
  simp [trunc]; omega
theorem trunc_at {W : World} {p k : Nat} (h : p < W.heap.size) (hk : k < p) : (trunc W p).heap[k]? = W.heap[k]? := by
  simp [trunc, Array.getElem?_extract]
  omega
theorem trunc_below {W : World} {p : Nat} (h : p < W.heap.size) : Below (trunc W p).heap.size (trunc W p) W :=
  ⟨rfl, rfl, rfl, by rw [trunc_size h]; omega, fun k hk => (trunc_at h (by rw [trunc_size h] at hk; exact hk)).symm⟩
theorem Fr.isS {B w0 p r ts free W} (h : Fr B w0 p r ts free W) : IsS93 (trunc W p) W p ts free := by
  refine ⟨some ⟨r, 0, none⟩, ts.length, h.row, ⟨by rw [trunc_size h.lt]; exact Nat.le_refl _, by rw [trunc_size h.lt, h.hp]; rfl, rfl⟩, ?_⟩
  refine Kd.C_of_reads (enc := Value.bool) (d := false) (h1 := fun _ => rfl) ⟨rfl, by have := h.len; omega, fun _ => ⟨⟨r, 0, none⟩, rfl, fun j hj => ?_⟩⟩
  have e : (⟨r, 0, none⟩ : Addr).add j = ⟨r, j, none⟩ := by unfold Addr.add; split <;> simp_all
  rw [e]
  show World.cell? _ _ = _
  unfold World.cell?
  simp only
  rw [trunc_at h.lt h.rp, h.bits]
  simp [List.getD, hj]
theorem Fr.after {B w0 p r ts free free' W W'} (h : Fr B w0 p r ts free W) (hi : IsS93 (trunc W p) W' p ts free') (hb : Below (trunc W p).heap.size (trunc W p) W') (hk : KeepBut W W' p none) : Fr B w0 p r ts free' W' ∧ W.grownBy W' (some p) := by
  have hg : W.grownBy W' (some p) := ⟨hb.os, hb.tape, hb.output, hk.1, fun i hi hn => hk.2 i hi (fun e => hn (by rw [e])) (by simp)⟩
  obtain ⟨A, c, hrow, ⟨_, hA, hc⟩, _⟩ := hi
  rw [trunc_size h.lt, h.hp] at hA
  subst hA
  subst hc
  have hrp := h.rp
  refine ⟨⟨h.below.grown hg (Nat.le_trans h.hr (Nat.le_of_lt (Nat.lt_trans hrp h.lt))) (fun k e => by cases e; exact Nat.le_trans h.hr (Nat.le_of_lt hrp)), h.hr, h.hp, ?_, (hg.block r (Nat.lt_trans hrp h.lt) (fun e => by cases e; exact Nat.lt_irrefl _ hrp)).trans h.bits, h.len⟩, hg⟩
  rw [hrow]
  rfl
/-- Where nothing is changed: not even the state's own block. -/
theorem Fr.after0 {B w0 p r ts free W W'} (h : Fr B w0 p r ts free W) (hi : IsS93 (trunc W p) W' p ts free) (hb : Below (trunc W p).heap.size (trunc W p) W') (hk : KeepBut W W' p none) : W.grownBy W' none := by
  obtain ⟨A, c, hrow, ⟨_, hA, hc⟩, _⟩ := hi
  rw [trunc_size h.lt, h.hp] at hA
  subst hA
  subst hc
  refine ⟨hb.os, hb.tape, hb.output, hk.1, fun i hi' _ => ?_⟩
  by_cases e : i = p
  · subst e
    rw [hrow, h.row]
    rfl
  · exact hk.2 i hi' e (by simp)
theorem grown_refl (W : World) (row : Option Nat) : W.grownBy W row := ⟨rfl, rfl, rfl, Nat.le_refl _, fun _ _ _ => rfl⟩
theorem grown_two {W W1 W2 : World} {row : Option Nat} (h : W.grownBy W1 row) (k : W1.grownBy W2 row) : W.grownBy W2 row := ⟨k.os.trans h.os, k.tape.trans h.tape, k.output.trans h.output, Nat.le_trans h.size k.size, fun i hi hn => (k.block i (Nat.lt_of_lt_of_le hi h.size) hn).trans (h.block i hi hn)⟩
end
end Go.Proofs.Ytjnffegjpkbjmaa.QFramesPlays
namespace Go.Proofs.Ytjnffegjpkbjmaa.QFramesPlays
open Go.Proofs.Ytjnffegjpkbjmaa.QTsbPlays
open Go.RowKit Go.Proofs.YtjnffegjpkbjmaaW.PrintWords Go.Proofs.YtjnffegjpkbjmaaW.PrintLast Go.Proofs.YtjnffegjpkbjmaaW.PrintMore
set_option linter.unusedSimpArgs false
set_option linter.unusedVariables false
section
set_option maxHeartbeats 1000000
set_option maxRecDepth 100000
attribute [local go_sem] max2_int min2_int max_two min_two
theorem made_bools (n : Nat) : madeCells #[Value.bool false] n = ((List.replicate n false).map Value.bool).toArray := by
  unfold madeCells
  apply Array.ext
  · simp
  · intro i h1 h2
    simp [Nat.mod_one]
theorem fr_made {B w0 W} (hb : Below B w0 W) (hB : B ≤ W.heap.size) (m : Int) (h0 : 0 ≤ m) (h1 : m ≤ 65536) : Fr B w0 (W.heap.size + 1) W.heap.size (List.replicate m.toNat false) m ((W.alloc (.cells (madeCells #[.bool false] m.toNat) 4)).alloc (.cells #[.slice (some ⟨W.heap.size, 0, none⟩) m.toNat m.toNat, .int .i64 m] 93)) := by
  have e1 : (W.alloc (.cells (madeCells #[.bool false] m.toNat) 4)).heap.size = W.heap.size + 1 := by simp
  refine ⟨(hb.alloc hB _).alloc (by rw [e1]; omega) _, hB, rfl, ?_, ?_, by simp; omega⟩
  · rw [← e1, heap_alloc_new]
    simp
  · have e2 := (World.grownBy_alloc (W.alloc (.cells (madeCells #[.bool false] m.toNat) 4)) (.cells #[.slice (some ⟨W.heap.size, 0, none⟩) m.toNat m.toNat, .int .i64 m] 93) none).block W.heap.size (by rw [e1]; omega) (by simp)
    rw [e2, heap_alloc_new, made_bools]
theorem fr_new {B w0 W} (hb : Below B w0 W) (hB : B ≤ W.heap.size) (n q m : Int) (hq : mx n 0 = q) (hm : mn q 65536 = m) (h0 : 0 ≤ m) (h1 : m ≤ 65536) :
    Calls Try.prog 49 #[.int .i64 n] W fun e W' => e = .returned (.pointer (some ⟨W.heap.size + 1, 0, none⟩)) ∧ Fr B w0 (W.heap.size + 1) W.heap.size (List.replicate m.toNat false) m W' ∧ W.grownBy W' none := by
  have HB := Aside0.mk hb
  clear hb
  have hq_ : (if n < 0 then 0 else n) = q := hq
  have hm_ : (if 65536 < q then 65536 else q) = m := hm
  clear hq hm
  have hmk := print_make_int (P := Try.prog) 91 4 (.bool false) 1 Try.underlying91 info4 rfl (by omega) m h0 (by omega)
  go_enter Try.func49, Try.ntmps49
  go_wp2
  go_ret
  exact ⟨rfl, fr_made HB.out hB m h0 h1, grown_of_below (below_alloc (below_alloc (Below.refl _ _) _) _) none⟩
end
end Go.Proofs.Ytjnffegjpkbjmaa.QFramesPlays
namespace Go.Proofs.Ytjnffegjpkbjmaa.QFramesPlays
open Go.Proofs.Ytjnffegjpkbjmaa.QTsbPlays
open Go.RowKit Go.Proofs.YtjnffegjpkbjmaaW.PrintWords Go.Proofs.YtjnffegjpkbjmaaW.PrintLast Go.Proofs.YtjnffegjpkbjmaaW.PrintMore
set_option linter.unusedSimpArgs false
set_option linter.unusedVariables false
section
set_option maxHeartbeats 1000000
set_option maxRecDepth 100000
def setN (ts : List Bool) (a : Nat) (b : Bool) : Nat → List Bool
  | 0 => ts
  | k + 1 => (setN ts a b k).set (a + k) b
theorem setN_len (ts : List Bool) (a : Nat) (b : Bool) (k : Nat) : (setN ts a b k).length = ts.length := by
  induction k with
  | zero => rfl
  | succ k ih => simp [setN, ih]
/-- What else is the same. -/
structure FrK (W : World) (p r : Nat) (W' : World) : Prop where
  os : W'.os = W.os
  tape : W'.tape = W.tape
  output : W'.output = W.output
  size : W.heap.size ≤ W'.heap.size
  block : ∀ k, k < W.heap.size → k ≠ p → k ≠ r → W'.heap[k]? = W.heap[k]?
theorem FrK.refl (W : World) (p r : Nat) : FrK W p r W := ⟨rfl, rfl, rfl, Nat.le_refl _, fun _ _ _ _ => rfl⟩
theorem FrK.set {W : World} {p r : Nat} {W' : World} (h : FrK W p r W') (a : Addr) (ha : a.block = p ∨ a.block = r) (u : Value) : FrK W p r (W'.setCell a u) :=
  ⟨h.os, h.tape, h.output, by simpa [World.setCell] using h.size, fun k hk h1 h2 => (Below.heap_setCell W' a u k (by rintro rfl; rcases ha with e | e <;> first | exact h1 e | exact h2 e)).trans (h.block k hk h1 h2)⟩
theorem Fr.setBit {B w0 p r ts free W} (h : Fr B w0 p r ts free W) (i : Nat) (b : Bool) : Fr B w0 p r (ts.set i b) free (W.setCell ⟨r, i, none⟩ (.bool b)) := by
  have hne : p ≠ r := Nat.ne_of_gt h.rp
  refine ⟨h.below.setCell h.hr _, h.hr, h.hp, ?_, ?_, by simpa using h.len⟩
  · rw [blk_far h.row hne, List.length_set]
  · rw [blk_set h.bits]
    congr 2
    simp [List.map_set]
theorem Fr.setFree {B w0 p r ts free W} (h : Fr B w0 p r ts free W) (x : Int) : Fr B w0 p r ts x (W.setCell ⟨p, 1, none⟩ (.int .i64 x)) := by
  have hne : r ≠ p := Nat.ne_of_lt h.rp
  refine ⟨h.below.setCell (Nat.le_trans h.hr (Nat.le_of_lt h.rp)) _, h.hr, h.hp, ?_, blk_far h.bits hne _, h.len⟩
  rw [blk_set h.row]
  rfl
theorem Fr.cells {B w0 p r ts free W} (h : Fr B w0 p r ts free W) : W.cell? ⟨p, 0, none⟩ = some (.slice (some ⟨r, 0, none⟩) ts.length ts.length) ∧ W.cell? ⟨p, 1, none⟩ = some (.int .i64 free) ∧ W.frozen? ⟨p, 1, none⟩ = false := ⟨(blk_cell h.row 0).trans rfl, (blk_cell h.row 1).trans rfl, blk_frozen h.row 1⟩
theorem Fr.bit {B w0 p r ts free W} (h : Fr B w0 p r ts free W) (i : Nat) (hi : i < ts.length) : W.cell? ⟨r, i, none⟩ = some (.bool (ts.getD i false)) ∧ W.frozen? ⟨r, i, none⟩ = false := by
  refine ⟨(blk_cell h.bits i).trans ?_, blk_frozen h.bits i⟩
  simp [List.getD, hi]
theorem fr_turn {B w0 p r ts free W} (h : Fr B w0 p r ts free W) (a n : Nat) (b : Bool) (han : a + n ≤ ts.length) (hf0 : 0 ≤ free) (hf1 : free ≤ 65536) :
    Calls Try.prog 129 #[.pointer (some ⟨p, 0, none⟩), .int .i64 a, .int .i64 n, .bool b] W fun e W' => e = .returned (.tuple #[]) ∧ Fr B w0 p r (setN ts a b n) (if b then free - n else free + n) W' ∧ FrK W p r W' := by
  have hl := h.len
  have HM := Aside0.mk h
  have HK := Aside0.mk (FrK.refl W p r)
  clear h
  go_enter Try.func129, Try.ntmps129
  go_wp2
  go_loopw [10] (fun v10 wr => ∃ (k : Nat), v10 = .int .i64 k ∧ k ≤ n ∧ Aside0 (Fr B w0 p r (setN ts a b k) free wr) ∧ Aside0 (FrK W p r wr)) (fun v10 _ => n - (intOf v10).toNat)
  case atStart => exact ⟨0, rfl, by omega, HM, HK⟩
  case round =>
    clear HM HK
    obtain ⟨k, rfl, hk, HM, HK⟩ := hrel
    obtain ⟨c0, c1, f1⟩ := HM.out.cells
    by_cases h1 : k < n
    · have h1' : (k : Int) < (n : Int) := by omega
      have p1 : (0 : Int) ≤ (a : Int) + (k : Int) := by omega
      have q1 : (a : Int) + (k : Int) < (ts.length : Int) := by omega
      rw [setN_len] at c0
      have hw : wrap64 ((a : Int) + (k : Int)) = ((a + k : Nat) : Int) := by unfold wrap64; omega
      have p2 : (0 : Int) ≤ ((a + k : Nat) : Int) := by omega
      have q2 : ((a + k : Nat) : Int) < (ts.length : Int) := by omega
      obtain ⟨b0, f0⟩ := HM.out.bit (a + k) (by rw [setN_len]; omega)
      go_wp2
      go_roundw
      case rel => exact ⟨k + 1, by go_num, by omega, ⟨HM.out.setBit (a + k) b⟩, ⟨HK.out.set ⟨r, a + k, none⟩ (.inr rfl) _⟩⟩
      case measure => simp [intOf]; omega
    · obtain rfl : k = n := by omega
      cases b
      · go_wp2
        go_end0
        exact ⟨rfl, HM.out.setFree _, HK.out.set ⟨p, 1, none⟩ (.inl rfl) _⟩
      · go_wp2
        go_end0
        exact ⟨rfl, HM.out.setFree _, HK.out.set ⟨p, 1, none⟩ (.inl rfl) _⟩
end
end Go.Proofs.Ytjnffegjpkbjmaa.QFramesPlays
namespace Go.Proofs.Ytjnffegjpkbjmaa.QFramesPlays
open Go.Proofs.Ytjnffegjpkbjmaa.QTsbPlays
open Go.RowKit Go.Proofs.YtjnffegjpkbjmaaW.PrintWords Go.Proofs.YtjnffegjpkbjmaaW.PrintLast Go.Proofs.YtjnffegjpkbjmaaW.PrintMore
set_option linter.unusedSimpArgs false
set_option linter.unusedVariables false
section
set_option maxHeartbeats 1000000
set_option maxRecDepth 100000
theorem FrK.of_grown {W W' : World} {p r : Nat} (h : W.grownBy W' none) : FrK W p r W' := ⟨h.os, h.tape, h.output, h.size, fun k hk _ _ => h.block k hk (by simp)⟩
theorem FrK.trans {W W1 W2 : World} {p r : Nat} (h : FrK W p r W1) (k : FrK W1 p r W2) : FrK W p r W2 := ⟨k.os.trans h.os, k.tape.trans h.tape, k.output.trans h.output, Nat.le_trans h.size k.size, fun i hi h1 h2 => (k.block i (Nat.lt_of_lt_of_le hi h.size) h1 h2).trans (h.block i hi h1 h2)⟩
def inOf (ts : List Bool) (a n : Int) : Bool := decide (0 ≤ a ∧ a < ts.length ∧ n ≤ ts.length - a)
theorem in_f {ts : List Bool} (hl : ts.length ≤ 65536) (free a n : Int) : frames_Frames_in.f ts free a n = some (inOf ts a n, free) := by
  unfold frames_Frames_in.f inOf
  by_cases h1 : 0 ≤ a
  · rw [if_pos h1]
    by_cases h2 : a < (ts.length : Int)
    · rw [if_pos h2, show wrap64 ((ts.length : Int) - a) = ts.length - a by unfold wrap64; omega]
      simp [h1, h2]
    · rw [if_neg h2]
      simp [h2]
  · rw [if_neg h1]
    simp [h1]
theorem fr_in_eq {B w0 p r ts free W} (h : Fr B w0 p r ts free W) (a n : Int) (b : Bool) (hb : inOf ts a n = b) : Calls Try.prog 133 #[.pointer (some ⟨p, 0, none⟩), .int .i64 a, .int .i64 n] W fun e W' => e = .returned (.bool b) ∧ Fr B w0 p r ts free W' ∧ W.grownBy W' none := by
  subst hb
  exact (frames_Frames_in.calls p ts free a n _ _ (trunc W p) W h.isS (trunc_below h.lt) (in_f h.len free a n)).mono fun e W' z => ⟨z.1, h.same (h.after0 z.2.1 z.2.2.1 z.2.2.2), h.after0 z.2.1 z.2.2.1 z.2.2.2⟩
end
end Go.Proofs.Ytjnffegjpkbjmaa.QFramesPlays
namespace Go.Proofs.Ytjnffegjpkbjmaa.QFramesPlays
open Go.Proofs.Ytjnffegjpkbjmaa.QTsbPlays
open Go.RowKit Go.Proofs.YtjnffegjpkbjmaaW.PrintWords Go.Proofs.YtjnffegjpkbjmaaW.PrintLast Go.Proofs.YtjnffegjpkbjmaaW.PrintMore
set_option linter.unusedSimpArgs false
set_option linter.unusedVariables false
section
set_option maxHeartbeats 1000000
set_option maxRecDepth 100000
/-- k free frames from a on. -/
def FreeIn (ts : List Bool) (a k : Nat) : Prop := ∀ i, i < k → a + i < ts.length ∧ ts.getD (a + i) false = false
theorem fr_open {B w0 p r ts free W} (h : Fr B w0 p r ts free W) (a m : Nat) (ha : a ≤ 70000) (hm : m ≤ 70000) :
    Calls Try.prog 134 #[.pointer (some ⟨p, 0, none⟩), .int .i64 a, .int .i64 m] W fun e W' => ∃ k : Nat, e = .returned (.int .i64 k) ∧ k ≤ m ∧ FreeIn ts a k ∧ (k = m ∨ ts.length ≤ a + k ∨ ts.getD (a + k) false = true) ∧ Fr B w0 p r ts free W' ∧ W.grownBy W' none := by
  have hl := h.len
  have HM := Aside0.mk h
  have HK := Aside0.mk (grown_refl W none)
  clear h
  go_enter Try.func134, Try.ntmps134
  go_wp2
  go_loopw [7] (fun v7 wr => ∃ (k : Nat), v7 = .int .i64 k ∧ k ≤ m ∧ Aside0 (FreeIn ts a k) ∧ Aside0 (Fr B w0 p r ts free wr) ∧ Aside0 (W.grownBy wr none)) (fun v7 _ => m - (intOf v7).toNat)
  case atStart => exact ⟨0, rfl, by omega, ⟨fun i hi => by omega⟩, HM, HK⟩
  case round =>
    clear HM HK
    obtain ⟨k, rfl, hk, HA, HM, HK⟩ := hrel
    by_cases h1 : k < m
    · have h1' : (k : Int) < (m : Int) := by omega
      have hw : wrap64 ((a : Int) + (k : Int)) = (a : Int) + (k : Int) := by unfold wrap64; omega
      by_cases h2 : a + k < ts.length
      · have HI := Aside0.mk (show inOf ts ((a : Int) + (k : Int)) 1 = true by unfold inOf; exact decide_eq_true ⟨by omega, by omega, by omega⟩)
        have p1 : (0 : Int) ≤ (a : Int) + (k : Int) := by omega
        have q1 : (a : Int) + (k : Int) < (ts.length : Int) := by omega
        cases hb : ts.getD (a + k) false with
        | true =>
          have HB := Aside0.mk hb
          clear hb
          go_wp2_with (first | (go_at_call 133; refine (fr_in_eq HM.out _ _ _ HI.out).mono ?_; rintro e w1 ⟨rfl, hM, hg⟩; have HM1 := Aside0.mk hM; have HK1 := Aside0.mk (grown_two HK.out hg); obtain ⟨d0, d1, d2⟩ := hM.cells; have b0 := (hM.bit (a + k) h2).1; rw [HB.out] at b0; clear hM hg HM HK) | go_in)
          go_ret
          exact ⟨k, rfl, hk, HA.out, .inr (.inr HB.out), HM1.out, HK1.out⟩
        | false =>
          have HA2 := Aside0.mk (show FreeIn ts a (k + 1) from fun i hi => by
            by_cases e : i = k
            · subst e; exact ⟨h2, hb⟩
            · exact HA.out i (by omega))
          have HB := Aside0.mk hb
          clear hb
          go_wp2_with (first | (go_at_call 133; refine (fr_in_eq HM.out _ _ _ HI.out).mono ?_; rintro e w1 ⟨rfl, hM, hg⟩; have HM1 := Aside0.mk hM; have HK1 := Aside0.mk (grown_two HK.out hg); obtain ⟨d0, d1, d2⟩ := hM.cells; have b0 := (hM.bit (a + k) h2).1; rw [HB.out] at b0; clear hM hg HM HK) | go_in)
          go_roundw
          case rel => exact ⟨k + 1, by go_num, by omega, HA2, HM1, HK1⟩
          case measure => simp [intOf]; omega
      · have HI := Aside0.mk (show inOf ts ((a : Int) + (k : Int)) 1 = false by unfold inOf; exact decide_eq_false (fun x => h2 (by omega)))
        go_wp2_with (first | (go_at_call 133; refine (fr_in_eq HM.out _ _ _ HI.out).mono ?_; rintro e w1 ⟨rfl, hM, hg⟩; have HM1 := Aside0.mk hM; have HK1 := Aside0.mk (grown_two HK.out hg); obtain ⟨d0, d1, d2⟩ := hM.cells; clear hM hg HM HK) | go_in)
        go_ret
        exact ⟨k, rfl, hk, HA.out, .inr (.inl (by omega)), HM1.out, HK1.out⟩
    · obtain rfl : k = m := by omega
      go_wp2
      go_ret
      exact ⟨k, rfl, hk, HA.out, .inl rfl, HM.out, HK.out⟩
end
end Go.Proofs.Ytjnffegjpkbjmaa.QFramesPlays
