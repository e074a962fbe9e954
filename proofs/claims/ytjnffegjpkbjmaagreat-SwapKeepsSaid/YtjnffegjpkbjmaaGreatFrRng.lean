/- A region that draws its order, walked by hand inside a fence that lets in every function and has no depth (an iterator's rounds are run there); no conditions. -/
import Derived.Test.YtjnffegjpkbjmaaGreatQTsbPlaysx40
import Derived.Test.YtjnffegjpkbjmaaGreatQTsbPlaysx43
import Derived.Below
import Derived.OrdersIn
import Derived.OrdersHeld
import Derived.OwnWalkIn
import Derived.RangeFuncCalls
import Derived.RangeFuncSeq
/- merged: YtjnffegjpkbjmaaGreatFr2 -/
/- merged: YtjnffegjpkbjmaaGreatFr0 -/
namespace Go.Proofs.YtjnffegjpkbjmaaGreat.QFramesPlays
open Go.Proofs.YtjnffegjpkbjmaaGreat.QTsbPlays
open Go.RowKit Go.Proofs.YtjnffegjpkbjmaaGreatW.PrintWords Go.Proofs.YtjnffegjpkbjmaaGreatW.PrintLast Go.Proofs.YtjnffegjpkbjmaaGreatW.PrintMore
set_option linter.unusedSimpArgs false
set_option linter.unusedVariables false
section
set_option maxHeartbeats 1000000
set_option maxRecDepth 100000
/-- Frames at p (their row at r, made ahead of p): which are taken, how many are said to be free. -/
structure Fr (B : Nat) (w0 : World) (p r : Nat) (ts : List Bool) (free : Int) (W : World) : Prop where
  below : Below B w0 W
  hr : B ≤ r
  hp : p = r + 1
  row : W.heap[p]? = some (.cells #[.slice (some ⟨r, 0, none⟩) ts.length ts.length, .int .i64 free] 89 (0, 0))
  bits : W.heap[r]? = some (.cells (ts.map Value.bool).toArray 4 (0, 0))
  len : ts.length ≤ 65536
theorem Fr.rp {B w0 p r ts free W} (h : Fr B w0 p r ts free W) : r < p := by rw [h.hp]; exact Nat.lt_succ_self _
theorem Fr.lt {B w0 p r ts free W} (h : Fr B w0 p r ts free W) : p < W.heap.size := blk_lt h.row
theorem Fr.kept {B w0 p r ts free W row W'} (h : Fr B w0 p r ts free W) (hg : W.grownBy W' row) (h1 : some p ≠ row) (h2 : some r ≠ row) (h3 : ∀ k, row = some k → B ≤ k) : Fr B w0 p r ts free W' :=
  ⟨h.below.grown hg (Nat.le_of_lt (Nat.lt_of_le_of_lt h.hr (Nat.lt_trans h.rp h.lt))) h3, h.hr, h.hp, (hg.block p h.lt h1).trans h.row, (hg.block r (Nat.lt_trans h.rp h.lt) h2).trans h.bits, h.len⟩
theorem Fr.same {B w0 p r ts free W W'} (h : Fr B w0 p r ts free W) (hg : W.grownBy W' none) : Fr B w0 p r ts free W' := h.kept hg (by simp) (by simp) (fun _ e => by cases e)
/-- The world as it was ahead of the block p: what a printed contract calls the world that came in. -/
def trunc (W : World) (p : Nat) : World := { W with heap := W.heap.extract 0 p }
theorem trunc_size {W : World} {p : Nat} (h : p < W.heap.size) : (trunc W p).heap.size = p := by
  simp [trunc]; omega
theorem trunc_at {W : World} {p k : Nat} (h : p < W.heap.size) (hk : k < p) : (trunc W p).heap[k]? = W.heap[k]? := by
  simp [trunc, Array.getElem?_extract]
  omega
theorem trunc_below {W : World} {p : Nat} (h : p < W.heap.size) : Below (trunc W p).heap.size (trunc W p) W :=
  ⟨rfl, rfl, rfl, by rw [trunc_size h]; omega, fun k hk => (trunc_at h (by rw [trunc_size h] at hk; exact hk)).symm⟩
theorem Fr.isS {B w0 p r ts free W} (h : Fr B w0 p r ts free W) : IsS89 (trunc W p) W p ts free := by
  refine ⟨some ⟨r, 0, none⟩, ts.length, h.row, ⟨by rw [trunc_size h.lt]; exact Nat.le_refl _, by rw [trunc_size h.lt, h.hp]; rfl, rfl⟩, ?_⟩
  refine Kd.C_of_reads (enc := Value.bool) (d := false) (h1 := fun _ => rfl) ⟨rfl, by have := h.len; omega, fun _ => ⟨⟨r, 0, none⟩, rfl, fun j hj => ?_⟩⟩
  have e : (⟨r, 0, none⟩ : Addr).add j = ⟨r, j, none⟩ := by unfold Addr.add; split <;> simp_all
  rw [e]
  show World.cell? _ _ = _
  unfold World.cell?
  simp only
  rw [trunc_at h.lt h.rp, h.bits]
  simp [List.getD, hj]
theorem Fr.after {B w0 p r ts free free' W W'} (h : Fr B w0 p r ts free W) (hi : IsS89 (trunc W p) W' p ts free') (hb : Below (trunc W p).heap.size (trunc W p) W') (hk : KeepBut W W' p none) : Fr B w0 p r ts free' W' ∧ W.grownBy W' (some p) := by
  have hg : W.grownBy W' (some p) := ⟨hb.os, hb.tape, hb.output, hk.1, fun i hi hn => hk.2 i hi (fun e => hn (by rw [e])) (by simp)⟩
  obtain ⟨A, c, hrow, ⟨_, hA, hc⟩, _⟩ := hi
  rw [trunc_size h.lt, h.hp] at hA
  subst hA
  subst hc
  have hrp := h.rp
  refine ⟨⟨h.below.grown hg (Nat.le_trans h.hr (Nat.le_of_lt (Nat.lt_trans hrp h.lt))) (fun k e => by cases e; exact Nat.le_trans h.hr (Nat.le_of_lt hrp)), h.hr, h.hp, ?_, (hg.block r (Nat.lt_trans hrp h.lt) (fun e => by cases e; exact Nat.lt_irrefl _ hrp)).trans h.bits, h.len⟩, hg⟩
  rw [hrow]
  rfl
/-- Where nothing is changed: not even the state's own block. -/
theorem Fr.after0 {B w0 p r ts free W W'} (h : Fr B w0 p r ts free W) (hi : IsS89 (trunc W p) W' p ts free) (hb : Below (trunc W p).heap.size (trunc W p) W') (hk : KeepBut W W' p none) : W.grownBy W' none := by
  obtain ⟨A, c, hrow, ⟨_, hA, hc⟩, _⟩ := hi
  rw [trunc_size h.lt, h.hp] at hA
  subst hA
  subst hc
  refine ⟨hb.os, hb.tape, hb.output, hk.1, fun i hi' _ => ?_⟩
  by_cases e : i = p
  · subst e
    rw [hrow, h.row]
    rfl
  · exact hk.2 i hi' e (by simp)
theorem grown_refl (W : World) (row : Option Nat) : W.grownBy W row := ⟨rfl, rfl, rfl, Nat.le_refl _, fun _ _ _ => rfl⟩
theorem grown_two {W W1 W2 : World} {row : Option Nat} (h : W.grownBy W1 row) (k : W1.grownBy W2 row) : W.grownBy W2 row := ⟨k.os.trans h.os, k.tape.trans h.tape, k.output.trans h.output, Nat.le_trans h.size k.size, fun i hi hn => (k.block i (Nat.lt_of_lt_of_le hi h.size) hn).trans (h.block i hi hn)⟩
end
end Go.Proofs.YtjnffegjpkbjmaaGreat.QFramesPlays
/- merged: YtjnffegjpkbjmaaGreatFr1 -/
namespace Go.Proofs.YtjnffegjpkbjmaaGreat.QFramesPlays
open Go.Proofs.YtjnffegjpkbjmaaGreat.QTsbPlays
open Go.RowKit Go.Proofs.YtjnffegjpkbjmaaGreatW.PrintWords Go.Proofs.YtjnffegjpkbjmaaGreatW.PrintLast Go.Proofs.YtjnffegjpkbjmaaGreatW.PrintMore
set_option linter.unusedSimpArgs false
set_option linter.unusedVariables false
section
set_option maxHeartbeats 1000000
set_option maxRecDepth 100000
attribute [local go_sem] max2_int min2_int max_two min_two
theorem made_bools (n : Nat) : madeCells #[Value.bool false] n = ((List.replicate n false).map Value.bool).toArray := by
  unfold madeCells
  apply Array.ext
  · simp
  · intro i h1 h2
    simp [Nat.mod_one]
theorem fr_made {B w0 W} (hb : Below B w0 W) (hB : B ≤ W.heap.size) (m : Int) (h0 : 0 ≤ m) (h1 : m ≤ 65536) : Fr B w0 (W.heap.size + 1) W.heap.size (List.replicate m.toNat false) m ((W.alloc (.cells (madeCells #[.bool false] m.toNat) 4)).alloc (.cells #[.slice (some ⟨W.heap.size, 0, none⟩) m.toNat m.toNat, .int .i64 m] 89)) := by
  have e1 : (W.alloc (.cells (madeCells #[.bool false] m.toNat) 4)).heap.size = W.heap.size + 1 := by simp
  refine ⟨(hb.alloc hB _).alloc (by rw [e1]; omega) _, hB, rfl, ?_, ?_, by simp; omega⟩
  · rw [← e1, heap_alloc_new]
    simp
  · have e2 := (World.grownBy_alloc (W.alloc (.cells (madeCells #[.bool false] m.toNat) 4)) (.cells #[.slice (some ⟨W.heap.size, 0, none⟩) m.toNat m.toNat, .int .i64 m] 89) none).block W.heap.size (by rw [e1]; omega) (by simp)
    rw [e2, heap_alloc_new, made_bools]
theorem fr_new {B w0 W} (hb : Below B w0 W) (hB : B ≤ W.heap.size) (n q m : Int) (hq : mx n 0 = q) (hm : mn q 65536 = m) (h0 : 0 ≤ m) (h1 : m ≤ 65536) :
    Calls Tryz.prog 22 #[.int .i64 n] W fun e W' => e = .returned (.pointer (some ⟨W.heap.size + 1, 0, none⟩)) ∧ Fr B w0 (W.heap.size + 1) W.heap.size (List.replicate m.toNat false) m W' ∧ W.grownBy W' none := by
  have HB := Aside0.mk hb
  clear hb
  have hq_ : (if n < 0 then 0 else n) = q := hq
  have hm_ : (if 65536 < q then 65536 else q) = m := hm
  clear hq hm
  have hmk := print_make_int (P := Tryz.prog) 87 4 (.bool false) 1 Tryz.underlying87 info4 rfl (by omega) m h0 (by omega)
  go_enter Tryz.func22, Tryz.ntmps22
  go_wp2
  go_ret
  exact ⟨rfl, fr_made HB.out hB m h0 h1, grown_of_below (below_alloc (below_alloc (Below.refl _ _) _) _) none⟩
end
end Go.Proofs.YtjnffegjpkbjmaaGreat.QFramesPlays
namespace Go.Proofs.YtjnffegjpkbjmaaGreat.QFramesPlays
open Go.Proofs.YtjnffegjpkbjmaaGreat.QTsbPlays
open Go.RowKit Go.Proofs.YtjnffegjpkbjmaaGreatW.PrintWords Go.Proofs.YtjnffegjpkbjmaaGreatW.PrintLast Go.Proofs.YtjnffegjpkbjmaaGreatW.PrintMore
set_option linter.unusedSimpArgs false
set_option linter.unusedVariables false
section
set_option maxHeartbeats 1000000
set_option maxRecDepth 100000
def setN (ts : List Bool) (a : Nat) (b : Bool) : Nat → List Bool
  | 0 => ts
  | k + 1 => (setN ts a b k).set (a + k) b
theorem setN_len (ts : List Bool) (a : Nat) (b : Bool) (k : Nat) : (setN ts a b k).length = ts.length := by
  induction k with
  | zero => rfl
  | succ k ih => simp [setN, ih]
/-- What else is the same. -/
structure FrK (W : World) (p r : Nat) (W' : World) : Prop where
  os : W'.os = W.os
  tape : W'.tape = W.tape
  output : W'.output = W.output
  size : W.heap.size ≤ W'.heap.size
  block : ∀ k, k < W.heap.size → k ≠ p → k ≠ r → W'.heap[k]? = W.heap[k]?
theorem FrK.refl (W : World) (p r : Nat) : FrK W p r W := ⟨rfl, rfl, rfl, Nat.le_refl _, fun _ _ _ _ => rfl⟩
theorem FrK.set {W : World} {p r : Nat} {W' : World} (h : FrK W p r W') (a : Addr) (ha : a.block = p ∨ a.block = r) (u : Value) : FrK W p r (W'.setCell a u) :=
  ⟨h.os, h.tape, h.output, by simpa [World.setCell] using h.size, fun k hk h1 h2 => (Below.heap_setCell W' a u k (by rintro rfl; rcases ha with e | e <;> first | exact h1 e | exact h2 e)).trans (h.block k hk h1 h2)⟩
theorem Fr.setBit {B w0 p r ts free W} (h : Fr B w0 p r ts free W) (i : Nat) (b : Bool) : Fr B w0 p r (ts.set i b) free (W.setCell ⟨r, i, none⟩ (.bool b)) := by
  have hne : p ≠ r := Nat.ne_of_gt h.rp
  refine ⟨h.below.setCell h.hr _, h.hr, h.hp, ?_, ?_, by simpa using h.len⟩
  · rw [blk_far h.row hne, List.length_set]
  · rw [blk_set h.bits]
    congr 2
    simp [List.map_set]
theorem Fr.setFree {B w0 p r ts free W} (h : Fr B w0 p r ts free W) (x : Int) : Fr B w0 p r ts x (W.setCell ⟨p, 1, none⟩ (.int .i64 x)) := by
  have hne : r ≠ p := Nat.ne_of_lt h.rp
  refine ⟨h.below.setCell (Nat.le_trans h.hr (Nat.le_of_lt h.rp)) _, h.hr, h.hp, ?_, blk_far h.bits hne _, h.len⟩
  rw [blk_set h.row]
  rfl
theorem Fr.cells {B w0 p r ts free W} (h : Fr B w0 p r ts free W) : W.cell? ⟨p, 0, none⟩ = some (.slice (some ⟨r, 0, none⟩) ts.length ts.length) ∧ W.cell? ⟨p, 1, none⟩ = some (.int .i64 free) ∧ W.frozen? ⟨p, 1, none⟩ = false := ⟨(blk_cell h.row 0).trans rfl, (blk_cell h.row 1).trans rfl, blk_frozen h.row 1⟩
theorem Fr.bit {B w0 p r ts free W} (h : Fr B w0 p r ts free W) (i : Nat) (hi : i < ts.length) : W.cell? ⟨r, i, none⟩ = some (.bool (ts.getD i false)) ∧ W.frozen? ⟨r, i, none⟩ = false := by
  refine ⟨(blk_cell h.bits i).trans ?_, blk_frozen h.bits i⟩
  simp [List.getD, hi]
theorem fr_turn {B w0 p r ts free W} (h : Fr B w0 p r ts free W) (a n : Nat) (b : Bool) (han : a + n ≤ ts.length) (hf0 : 0 ≤ free) (hf1 : free ≤ 65536) :
    Calls Tryz.prog 80 #[.pointer (some ⟨p, 0, none⟩), .int .i64 a, .int .i64 n, .bool b] W fun e W' => e = .returned (.tuple #[]) ∧ Fr B w0 p r (setN ts a b n) (if b then free - n else free + n) W' ∧ FrK W p r W' := by
  have hl := h.len
  have HM := Aside0.mk h
  have HK := Aside0.mk (FrK.refl W p r)
  clear h
  go_enter Tryz.func80, Tryz.ntmps80
  go_wp2
  go_loopw [10] (fun v10 wr => ∃ (k : Nat), v10 = .int .i64 k ∧ k ≤ n ∧ Aside0 (Fr B w0 p r (setN ts a b k) free wr) ∧ Aside0 (FrK W p r wr)) (fun v10 _ => n - (intOf v10).toNat)
  case atStart => exact ⟨0, rfl, by omega, HM, HK⟩
  case round =>
    clear HM HK
    obtain ⟨k, rfl, hk, HM, HK⟩ := hrel
    obtain ⟨c0, c1, f1⟩ := HM.out.cells
    by_cases h1 : k < n
    · have h1' : (k : Int) < (n : Int) := by omega
      have p1 : (0 : Int) ≤ (a : Int) + (k : Int) := by omega
      have q1 : (a : Int) + (k : Int) < (ts.length : Int) := by omega
      rw [setN_len] at c0
      have hw : wrap64 ((a : Int) + (k : Int)) = ((a + k : Nat) : Int) := by unfold wrap64; omega
      have p2 : (0 : Int) ≤ ((a + k : Nat) : Int) := by omega
      have q2 : ((a + k : Nat) : Int) < (ts.length : Int) := by omega
      obtain ⟨b0, f0⟩ := HM.out.bit (a + k) (by rw [setN_len]; omega)
      go_wp2
      go_roundw
      case rel => exact ⟨k + 1, by go_num, by omega, ⟨HM.out.setBit (a + k) b⟩, ⟨HK.out.set ⟨r, a + k, none⟩ (.inr rfl) _⟩⟩
      case measure => simp [intOf]; omega
    · obtain rfl : k = n := by omega
      cases b
      · go_wp2
        go_end0
        exact ⟨rfl, HM.out.setFree _, HK.out.set ⟨p, 1, none⟩ (.inl rfl) _⟩
      · go_wp2
        go_end0
        exact ⟨rfl, HM.out.setFree _, HK.out.set ⟨p, 1, none⟩ (.inl rfl) _⟩
end
end Go.Proofs.YtjnffegjpkbjmaaGreat.QFramesPlays
/- merged: YtjnffegjpkbjmaaGreatFr3 -/
namespace Go.Proofs.YtjnffegjpkbjmaaGreat.QFramesPlays
open Go.Proofs.YtjnffegjpkbjmaaGreat.QTsbPlays
open Go.RowKit Go.Proofs.YtjnffegjpkbjmaaGreatW.PrintWords Go.Proofs.YtjnffegjpkbjmaaGreatW.PrintLast Go.Proofs.YtjnffegjpkbjmaaGreatW.PrintMore
set_option linter.unusedSimpArgs false
set_option linter.unusedVariables false
section
set_option maxHeartbeats 1000000
set_option maxRecDepth 100000
theorem FrK.of_grown {W W' : World} {p r : Nat} (h : W.grownBy W' none) : FrK W p r W' := ⟨h.os, h.tape, h.output, h.size, fun k hk _ _ => h.block k hk (by simp)⟩
theorem FrK.trans {W W1 W2 : World} {p r : Nat} (h : FrK W p r W1) (k : FrK W1 p r W2) : FrK W p r W2 := ⟨k.os.trans h.os, k.tape.trans h.tape, k.output.trans h.output, Nat.le_trans h.size k.size, fun i hi h1 h2 => (k.block i (Nat.lt_of_lt_of_le hi h.size) h1 h2).trans (h.block i hi h1 h2)⟩
def inOf (ts : List Bool) (a n : Int) : Bool := decide (0 ≤ a ∧ a < ts.length ∧ n ≤ ts.length - a)
theorem in_f {ts : List Bool} (hl : ts.length ≤ 65536) (free a n : Int) : frames_Frames_in.f ts free a n = some (inOf ts a n, free) := by
  unfold frames_Frames_in.f inOf
  by_cases h1 : 0 ≤ a
  · rw [if_pos h1]
    by_cases h2 : a < (ts.length : Int)
    · rw [if_pos h2, show wrap64 ((ts.length : Int) - a) = ts.length - a by unfold wrap64; omega]
      simp [h1, h2]
    · rw [if_neg h2]
      simp [h2]
  · rw [if_neg h1]
    simp [h1]
theorem fr_in_eq {B w0 p r ts free W} (h : Fr B w0 p r ts free W) (a n : Int) (b : Bool) (hb : inOf ts a n = b) : Calls Tryz.prog 79 #[.pointer (some ⟨p, 0, none⟩), .int .i64 a, .int .i64 n] W fun e W' => e = .returned (.bool b) ∧ Fr B w0 p r ts free W' ∧ W.grownBy W' none := by
  subst hb
  exact (frames_Frames_in.calls p ts free a n _ _ (trunc W p) W h.isS (trunc_below h.lt) (in_f h.len free a n)).mono fun e W' z => ⟨z.1, h.same (h.after0 z.2.1 z.2.2.1 z.2.2.2), h.after0 z.2.1 z.2.2.1 z.2.2.2⟩
def AllIn (ts : List Bool) (a n : Nat) : Prop := ∀ i, i < n → ts.getD (a + i) false = true
theorem fr_give_in {B w0 p r ts free W} (h : Fr B w0 p r ts free W) (a n : Nat) (hn : 1 ≤ n) (han : a + n ≤ ts.length) (hf0 : 0 ≤ free) (hf1 : free ≤ 65536) :
    Calls Tryz.prog 49 #[.pointer (some ⟨p, 0, none⟩), .int .i64 a, .int .i64 n] W fun e W' => ∃ c, e = .returned (.int .i64 c) ∧ (AllIn ts a n → c = 0 ∧ Fr B w0 p r (setN ts a false n) (free + n) W') ∧ (¬ AllIn ts a n → c = 11 ∧ Fr B w0 p r ts free W') ∧ FrK W p r W' := by
  have HM := Aside0.mk h
  have hl := h.len
  have HI := Aside0.mk (show inOf ts a n = true by unfold inOf; exact decide_eq_true ⟨by omega, by omega, by omega⟩)
  have hn' : (1 : Int) ≤ (n : Int) := by omega
  clear h
  go_enter Tryz.func49, Tryz.ntmps49
  go_wp2_with (first | (go_at_call 79; refine (fr_in_eq HM.out _ _ _ HI.out).mono ?_; rintro e w1 ⟨rfl, hM, hg⟩; have HM1 := Aside0.mk hM; have HK1 := Aside0.mk (FrK.of_grown (p := p) (r := r) hg); clear hM hg HM) | go_in)
  go_loopw [18] (fun v18 wr => ∃ (k : Nat), v18 = .int .i64 k ∧ k ≤ n ∧ Aside0 (AllIn ts a k) ∧ Aside0 (Fr B w0 p r ts free wr) ∧ Aside0 (FrK W p r wr)) (fun v18 _ => n - (intOf v18).toNat)
  case atStart => exact ⟨0, rfl, by omega, ⟨fun i hi => by omega⟩, HM1, HK1⟩
  case round =>
    clear HM1 HK1
    obtain ⟨k, rfl, hk, HA, HM, HK⟩ := hrel
    obtain ⟨c0, c1, f1⟩ := HM.out.cells
    by_cases h1 : k < n
    · have h1' : (k : Int) < (n : Int) := by omega
      have p1 : (0 : Int) ≤ (a : Int) + (k : Int) := by omega
      have q1 : (a : Int) + (k : Int) < (ts.length : Int) := by omega
      have hw : wrap64 ((a : Int) + (k : Int)) = ((a + k : Nat) : Int) := by unfold wrap64; omega
      have p2 : (0 : Int) ≤ ((a + k : Nat) : Int) := by omega
      have q2 : ((a + k : Nat) : Int) < (ts.length : Int) := by omega
      obtain ⟨b0, f0⟩ := HM.out.bit (a + k) (by omega)
      cases hb : ts.getD (a + k) false with
      | true =>
        rw [hb] at b0
        have HA2 := Aside0.mk (show AllIn ts a (k + 1) from fun i hi => by
          by_cases e : i = k
          · subst e; exact hb
          · exact HA.out i (by omega))
        clear hb
        go_wp2
        go_roundw
        case rel => exact ⟨k + 1, by go_num, by omega, HA2, HM, HK⟩
        case measure => simp [intOf]; omega
      | false =>
        rw [hb] at b0
        have HN := Aside0.mk (show ¬ AllIn ts a n from fun x => by have := x k h1; rw [hb] at this; cases this)
        clear hb
        go_wp2
        go_ret
        exact ⟨11, rfl, fun x => absurd x HN.out, fun _ => ⟨rfl, HM.out⟩, HK.out⟩
    · obtain rfl : k = n := by omega
      go_wp2_with (first | (go_at_call 80; refine (fr_turn HM.out a k false (by omega) hf0 hf1).mono ?_; rintro e w2 ⟨rfl, hM, hg⟩; have HM2 := Aside0.mk hM; have HK2 := Aside0.mk (HK.out.trans hg); clear hM hg HM HK) | go_in)
      go_ret
      exact ⟨0, rfl, fun _ => ⟨rfl, HM2.out⟩, fun x => absurd HA.out x, HK2.out⟩
end
end Go.Proofs.YtjnffegjpkbjmaaGreat.QFramesPlays
/- merged: YtjnffegjpkbjmaaGreatFr4 -/
namespace Go.Proofs.YtjnffegjpkbjmaaGreat.QFramesPlays
open Go.Proofs.YtjnffegjpkbjmaaGreat.QTsbPlays
open Go.RowKit Go.Proofs.YtjnffegjpkbjmaaGreatW.PrintWords Go.Proofs.YtjnffegjpkbjmaaGreatW.PrintLast Go.Proofs.YtjnffegjpkbjmaaGreatW.PrintMore
set_option linter.unusedSimpArgs false
set_option linter.unusedVariables false
section
set_option maxHeartbeats 1000000
set_option maxRecDepth 100000
/-- k free frames from a on. -/
def FreeIn (ts : List Bool) (a k : Nat) : Prop := ∀ i, i < k → a + i < ts.length ∧ ts.getD (a + i) false = false
theorem fr_open {B w0 p r ts free W} (h : Fr B w0 p r ts free W) (a m : Nat) (ha : a ≤ 70000) (hm : m ≤ 70000) :
    Calls Tryz.prog 115 #[.pointer (some ⟨p, 0, none⟩), .int .i64 a, .int .i64 m] W fun e W' => ∃ k : Nat, e = .returned (.int .i64 k) ∧ k ≤ m ∧ FreeIn ts a k ∧ (k = m ∨ ts.length ≤ a + k ∨ ts.getD (a + k) false = true) ∧ Fr B w0 p r ts free W' ∧ W.grownBy W' none := by
  have hl := h.len
  have HM := Aside0.mk h
  have HK := Aside0.mk (grown_refl W none)
  clear h
  go_enter Tryz.func115, Tryz.ntmps115
  go_wp2
  go_loopw [7] (fun v7 wr => ∃ (k : Nat), v7 = .int .i64 k ∧ k ≤ m ∧ Aside0 (FreeIn ts a k) ∧ Aside0 (Fr B w0 p r ts free wr) ∧ Aside0 (W.grownBy wr none)) (fun v7 _ => m - (intOf v7).toNat)
  case atStart => exact ⟨0, rfl, by omega, ⟨fun i hi => by omega⟩, HM, HK⟩
  case round =>
    clear HM HK
    obtain ⟨k, rfl, hk, HA, HM, HK⟩ := hrel
    by_cases h1 : k < m
    · have h1' : (k : Int) < (m : Int) := by omega
      have hw : wrap64 ((a : Int) + (k : Int)) = (a : Int) + (k : Int) := by unfold wrap64; omega
      by_cases h2 : a + k < ts.length
      · have HI := Aside0.mk (show inOf ts ((a : Int) + (k : Int)) 1 = true by unfold inOf; exact decide_eq_true ⟨by omega, by omega, by omega⟩)
        have p1 : (0 : Int) ≤ (a : Int) + (k : Int) := by omega
        have q1 : (a : Int) + (k : Int) < (ts.length : Int) := by omega
        cases hb : ts.getD (a + k) false with
        | true =>
          have HB := Aside0.mk hb
          clear hb
          go_wp2_with (first | (go_at_call 79; refine (fr_in_eq HM.out _ _ _ HI.out).mono ?_; rintro e w1 ⟨rfl, hM, hg⟩; have HM1 := Aside0.mk hM; have HK1 := Aside0.mk (grown_two HK.out hg); obtain ⟨d0, d1, d2⟩ := hM.cells; have b0 := (hM.bit (a + k) h2).1; rw [HB.out] at b0; clear hM hg HM HK) | go_in)
          go_ret
          exact ⟨k, rfl, hk, HA.out, .inr (.inr HB.out), HM1.out, HK1.out⟩
        | false =>
          have HA2 := Aside0.mk (show FreeIn ts a (k + 1) from fun i hi => by
            by_cases e : i = k
            · subst e; exact ⟨h2, hb⟩
            · exact HA.out i (by omega))
          have HB := Aside0.mk hb
          clear hb
          go_wp2_with (first | (go_at_call 79; refine (fr_in_eq HM.out _ _ _ HI.out).mono ?_; rintro e w1 ⟨rfl, hM, hg⟩; have HM1 := Aside0.mk hM; have HK1 := Aside0.mk (grown_two HK.out hg); obtain ⟨d0, d1, d2⟩ := hM.cells; have b0 := (hM.bit (a + k) h2).1; rw [HB.out] at b0; clear hM hg HM HK) | go_in)
          go_roundw
          case rel => exact ⟨k + 1, by go_num, by omega, HA2, HM1, HK1⟩
          case measure => simp [intOf]; omega
      · have HI := Aside0.mk (show inOf ts ((a : Int) + (k : Int)) 1 = false by unfold inOf; exact decide_eq_false (fun x => h2 (by omega)))
        go_wp2_with (first | (go_at_call 79; refine (fr_in_eq HM.out _ _ _ HI.out).mono ?_; rintro e w1 ⟨rfl, hM, hg⟩; have HM1 := Aside0.mk hM; have HK1 := Aside0.mk (grown_two HK.out hg); obtain ⟨d0, d1, d2⟩ := hM.cells; clear hM hg HM HK) | go_in)
        go_ret
        exact ⟨k, rfl, hk, HA.out, .inr (.inl (by omega)), HM1.out, HK1.out⟩
    · obtain rfl : k = m := by omega
      go_wp2
      go_ret
      exact ⟨k, rfl, hk, HA.out, .inl rfl, HM.out, HK.out⟩
end
end Go.Proofs.YtjnffegjpkbjmaaGreat.QFramesPlays
namespace Go.Proofs.YtjnffegjpkbjmaaGreat.QFramesPlays
open Go.Proofs.YtjnffegjpkbjmaaGreat.QTsbPlays
open Go.RowKit Go.Proofs.YtjnffegjpkbjmaaGreatW.PrintWords Go.Proofs.YtjnffegjpkbjmaaGreatW.PrintLast Go.Proofs.YtjnffegjpkbjmaaGreatW.PrintMore
set_option linter.unusedSimpArgs false
set_option linter.unusedVariables false
section
variable {F : Fence} {n : Nat} {P : Program} {ops : Array Oper} {Q : Exit → Act → World → Prop} {md : Region.Mode} {S : World → Prop} {ds : List Nat}
/-- The fence lets in every function, and has no depth. -/
structure Wd (F : Fence) : Prop where
  fn : ∀ f, F.fn f
  depth : F.depth = none
  calls : ∀ {n : Nat} {P : Program} {f : FuncId} {args : Array Value} {w : World} {R : Ending → World → Prop}, Calls P f args w R → CallsIn F n P f args w R
theorem wd_wide : Wd Fence.wide := ⟨fun _ => trivial, rfl, fun h => callsIn_wide.2 h⟩
theorem YieldsIf.wpOpIn {i : Nat} {o : Oper} {v : Value} {a : Act} (hF : Wd F) (hnd : ∀ c, o.op ≠ .defer c) (hi : ops[i]? = some o) (hy : YieldsIf P ops S o v a)
    {K : Act → World → Prop} {w : World} (hS : S w) (h : K (a.put o.dst v) w) : wpOpIn F n P ops Q i K a w := by
  unfold Go.wpOpIn
  simp only [hi]
  rcases hy with ⟨hw, hv⟩ | ⟨hw, rfl⟩
  · simp only [hw, if_true, Oper.wpIn, Oper.semAt_plain F _ _ hnd, hv w hS, Oper.uponIn]
    exact ⟨fun f _ => hF.fn f, h⟩
  · simp only [hw, Bool.false_eq_true, if_false]
    exact ⟨fun f _ => hF.fn f, h⟩
theorem wpOpIn_putIf {j : Nat} {oi oj : Oper} {v : Value} (hF : Wd F) (hnd : ∀ c, oj.op ≠ .defer c) (hj : ops[j]? = some oj) (hap : oi.apart ops oj = true)
    (hsi : ∀ cs b, oi.op ≠ .select cs b) (hsj : ∀ cs b, oj.op ≠ .select cs b)
    (hQ : ∀ c a w, Q (.panic c) (a.put oi.dst v) w → Q (.panic c) a w) {K : Act → World → Prop} {a : Act} {w : World}
    (hy : YieldsIf P ops S oi v a) (h : wpOpIn F n P ops Q j K (a.put oi.dst v) w) :
    wpOpIn F n P ops Q j (fun a' w' => YieldsIf P ops S oi v a' ∧ K (a'.put oi.dst v) w') a w := by
  obtain ⟨h1, h2, h3⟩ := Oper.apart_spec hap
  have keep : ∀ (a : Act), YieldsIf P ops S oi v a → ∀ u, YieldsIf P ops S oi v (a.put oj.dst u) := fun a hy u =>
    hy.of_same (execOp_put oi hsi a oj.dst u h3) (wanted_put oi a oj.dst u h3)
  have keepD : ∀ d, YieldsIf P ops S oi v { a with defers := d :: a.defers } := fun d => hy.of_same rfl rfl
  unfold wpOpIn at *
  simp only [hj] at *
  rw [wanted_put oj a oi.dst v h1] at h
  split
  · rename_i hw
    simp only [hw, if_true] at h
    unfold Oper.wpIn at *
    refine ⟨fun f _ => hF.fn f, ?_⟩
    have h := h.2
    rw [Oper.semAt_plain F _ _ hnd, execOp_put oj hsj a oi.dst v h1] at h
    rw [Oper.semAt_plain F _ _ hnd]
    generalize (execOp a.eval oj).run P w = r at *
    cases r with
    | ok x w' =>
      cases x <;> simp only [Oper.uponIn] at h ⊢
      case value u => exact ⟨keep a hy u, by rw [← Act.put_comm a v u h2]; exact h⟩
      case skip => exact ⟨keep a hy _, by rw [← Act.put_comm a v undef h2]; exact h⟩
      case defer d =>
        refine ⟨keep _ (keepD d) _, ?_⟩
        rw [← Act.put_comm _ v undef h2, ← Act.put_defers]
        exact h
      case enter f args =>
        refine ⟨h.1, CallsIn.mono h.2 fun e w'' he => ?_⟩
        cases e with
        | returned u => exact ⟨keep a hy u, by rw [← Act.put_comm a v u h2]; exact he⟩
        | panicked c => exact hQ _ _ _ he
        | outgrown => exact he
      case row row args => exact ⟨h.1, RowsIn.mono h.2 fun u w'' he => ⟨keep a hy u, by rw [← Act.put_comm a v u h2]; exact he⟩⟩
      case round l f tmps assign body =>
        refine ⟨h.1, RoundIn.mono h.2 fun e w'' he => ?_⟩
        cases e with
        | returned u => exact ⟨keep a hy u, by rw [← Act.put_comm a v u h2]; exact he⟩
        | panicked c => exact hQ _ _ _ he
        | outgrown => exact he
    | halt x w' =>
      cases x <;> simp only [Oper.uponIn] at h ⊢
      case panic u => exact hQ _ _ _ h
  · rename_i hw
    simp only [hw] at h
    exact ⟨fun f _ => hF.fn f, keep a hy _, by rw [← Act.put_comm a v undef h2]; exact h.2⟩
def noDefer (ops : Array Oper) : Bool := ops.all fun o => match o.op with | .defer _ => false | _ => true
theorem noDefer_spec (h : noDefer ops = true) {j : Nat} {o : Oper} (hj : ops[j]? = some o) : ∀ c, o.op ≠ .defer c := by
  intro c hc
  obtain ⟨hlt, he⟩ := Array.getElem?_eq_some_iff.1 hj
  have h1 := Array.all_eq_true.1 h j hlt
  rw [he, hc] at h1
  cases h1
/-- Whatever order is picked from here on, and S holds behind every operation, those of ds apart. -/
def wpAnyW (F : Fence) (n : Nat) (P : Program) (md : Region.Mode) (ops : Array Oper) (Q : Exit → Act → World → Prop) (S : World → Prop) (ds : List Nat) : Nat → Array Bool → Act → World → Prop
  | 0, listed, a, w => Region.ready md ops listed = [] ∧ Q .normal a w
  | fuel + 1, listed, a, w =>
    (Region.ready md ops listed = [] → Q .normal a w) ∧
    ∀ i ∈ Region.ready md ops listed, wpOpIn F n P ops Q i (fun a' w' => (i ∉ ds → S w → S w') ∧ wpAnyW F n P md ops Q S ds fuel (listed.setIfInBounds i true) a' w') a w
theorem wpAnyIn_of_W : ∀ (fuel : Nat) (listed : Array Bool) (a : Act) (w : World), wpAnyW F n P md ops Q S ds fuel listed a w → wpAnyIn F n P md ops Q fuel listed a w
  | 0, _, _, _, h => h
  | fuel + 1, _, _, _, h => ⟨h.1, fun i hi => wpOpIn_mono (fun a' w' h' => wpAnyIn_of_W fuel _ a' w' h'.2) (h.2 i hi)⟩
theorem wpAnyW_first {i : Nat} {oi : Oper} {v : Value} (hF : Wd F) (hD : noDefer ops = true) (hi : ops[i]? = some oi) (hsel : ∀ (j : Nat) (o : Oper) cs b, ops[j]? = some o → o.op ≠ .select cs b)
    (hQ : ∀ c a w, Q (.panic c) (a.put oi.dst v) w → Q (.panic c) a w) (m : Nat) :
    ∀ (fuel : Nat) (listed : Array Bool) (a : Act) (w : World),
      (∀ j oj, ops[j]? = some oj → j ≠ i → listed.getD j true = false → (∀ e ∈ oj.after, Region.binds md e = true → e.on ≠ i) → oi.apart ops oj = true) →
      ListedClosed md ops listed → (∀ d ∈ ds, listed.getD d true = false → Region.reachB md ops i m d = true) →
      i ∈ Region.ready md ops listed → YieldsIf P ops S oi v a → S w →
      wpAnyW F n P md ops Q S ds fuel (listed.setIfInBounds i true) (a.put oi.dst v) w → wpAnyW F n P md ops Q S ds (fuel + 1) listed a w := by
  intro fuel
  induction fuel with
  | zero =>
    intro listed a w _ _ _ hr hy hS H
    refine ⟨fun h => (by rw [h] at hr; cases hr), fun j hj => ?_⟩
    by_cases hji : j = i
    · subst hji; exact YieldsIf.wpOpIn hF (noDefer_spec hD hi) hi hy hS ⟨fun _ h => h, H⟩
    · have := ready_mono hj hji
      rw [H.1] at this
      cases this
  | succ fuel ih =>
    intro listed a w hfree hc hd hr hy hS H
    refine ⟨fun h => (by rw [h] at hr; cases hr), fun j hj => ?_⟩
    by_cases hji : j = i
    · subst hji; exact YieldsIf.wpOpIn hF (noDefer_spec hD hi) hi hy hS ⟨fun _ h => h, H⟩
    · have h1 := H.2 j (ready_mono hj hji)
      obtain ⟨hjun, oj, hoj, hall⟩ := mem_ready.1 hj
      have hiun := (mem_ready.1 hr).1
      have hnot : ∀ e ∈ oj.after, Region.binds md e = true → e.on ≠ i := fun e he hb heq => by
        have h1 := hall e he hb
        rw [heq] at h1
        rcases Nat.lt_or_ge i listed.size with h' | h'
        · simp [h'] at hiun h1; rw [hiun] at h1; cases h1
        · simp [Array.getElem?_eq_none h'] at h1
      have hjd : j ∉ ds := fun hm => Region.reach_not_ready hc (hd j hm hjun) hiun hj
      have h2 := wpOpIn_putIf hF (noDefer_spec hD hoj) hoj (hfree j oj hoj hji hjun hnot) (fun cs b => hsel i oi cs b hi) (fun cs b => hsel j oj cs b hoj) hQ hy h1
      have hfree' : ∀ k ok, ops[k]? = some ok → k ≠ i → (listed.setIfInBounds j true).getD k true = false →
          (∀ e ∈ ok.after, Region.binds md e = true → e.on ≠ i) → oi.apart ops ok = true := fun k ok hk hki hun hno => by
        refine hfree k ok hk hki ?_ hno
        by_cases hjk : j = k
        · subst hjk; exact hjun
        · rw [getD_set_ne true hjk] at hun; exact hun
      have hd' : ∀ d ∈ ds, (listed.setIfInBounds j true).getD d true = false → Region.reachB md ops i m d = true := fun d hm hun => by
        refine hd d hm ?_
        by_cases hjk : j = d
        · subst hjk; exact hjun
        · rw [getD_set_ne true hjk] at hun; exact hun
      refine wpOpIn_mono (fun a' w' h3 => ⟨h3.2.1, ih (listed.setIfInBounds j true) a' w' hfree' (hc.set hj) hd' (ready_mono hr (Ne.symm hji)) h3.1 (h3.2.1 hjd hS) ?_⟩) h2
      rw [Array.setIfInBounds_comm _ _ hji]
      exact h3.2.2
theorem wpAnyW_any {i : Nat} {oi : Oper} {v : Value} (hF : Wd F) (hD : noDefer ops = true) (hi : ops[i]? = some oi) (hsel : ∀ (j : Nat) (o : Oper) cs b, ops[j]? = some o → o.op ≠ .select cs b)
    (hQ : ∀ c a w, Q (.panic c) (a.put oi.dst v) w → Q (.panic c) a w) :
    ∀ (fuel : Nat) (listed : Array Bool) (a : Act) (w : World),
      (∀ j oj, ops[j]? = some oj → j ≠ i → listed.getD j true = false → (∀ e ∈ oj.after, Region.binds md e = true → e.on ≠ i) → oi.apart ops oj = true) →
      i ∈ Region.ready md ops listed → Yields P ops oi v a →
      wpAnyW F n P md ops Q S ds fuel (listed.setIfInBounds i true) (a.put oi.dst v) w → wpAnyW F n P md ops Q S ds (fuel + 1) listed a w := by
  intro fuel
  induction fuel with
  | zero =>
    intro listed a w _ hr hy H
    refine ⟨fun h => (by rw [h] at hr; cases hr), fun j hj => ?_⟩
    by_cases hji : j = i
    · subst hji; exact YieldsIf.wpOpIn hF (noDefer_spec hD hi) hi (hy.yieldsIf (S := fun _ => True)) trivial ⟨fun _ h => h, H⟩
    · have := ready_mono hj hji
      rw [H.1] at this
      cases this
  | succ fuel ih =>
    intro listed a w hfree hr hy H
    refine ⟨fun h => (by rw [h] at hr; cases hr), fun j hj => ?_⟩
    by_cases hji : j = i
    · subst hji; exact YieldsIf.wpOpIn hF (noDefer_spec hD hi) hi (hy.yieldsIf (S := fun _ => True)) trivial ⟨fun _ h => h, H⟩
    · have h1 := H.2 j (ready_mono hj hji)
      obtain ⟨hjun, oj, hoj, hall⟩ := mem_ready.1 hj
      have hiun := (mem_ready.1 hr).1
      have hnot : ∀ e ∈ oj.after, Region.binds md e = true → e.on ≠ i := fun e he hb heq => by
        have h1 := hall e he hb
        rw [heq] at h1
        rcases Nat.lt_or_ge i listed.size with h' | h'
        · simp [h'] at hiun h1; rw [hiun] at h1; cases h1
        · simp [Array.getElem?_eq_none h'] at h1
      have h2 := wpOpIn_putIf (S := fun _ => True) hF (noDefer_spec hD hoj) hoj (hfree j oj hoj hji hjun hnot) (fun cs b => hsel i oi cs b hi) (fun cs b => hsel j oj cs b hoj) hQ hy.yieldsIf h1
      have hfree' : ∀ k ok, ops[k]? = some ok → k ≠ i → (listed.setIfInBounds j true).getD k true = false →
          (∀ e ∈ ok.after, Region.binds md e = true → e.on ≠ i) → oi.apart ops ok = true := fun k ok hk hki hun hno => by
        refine hfree k ok hk hki ?_ hno
        by_cases hjk : j = k
        · subst hjk; exact hjun
        · rw [getD_set_ne true hjk] at hun; exact hun
      have back : ∀ {a : Act}, YieldsIf P ops (fun _ => True) oi v a → Yields P ops oi v a := fun h => h.imp (fun x => ⟨x.1, fun w => x.2 w trivial⟩) id
      refine wpOpIn_mono (fun a' w' h3 => ⟨h3.2.1, ih (listed.setIfInBounds j true) a' w' hfree' (ready_mono hr (Ne.symm hji)) (back h3.1) ?_⟩) h2
      rw [Array.setIfInBounds_comm _ _ hji]
      exact h3.2.2
theorem startW {id m : Nat} {a : Act} {w : World} (l : Array Bool) (hm : P.follows .mixedOrders = true) (hn : ops.size = m) (hl : Array.replicate m false = l) (hS : S w.drew)
    (h : S w.drew → wpAnyW F n P .any ops Q S ds m l a w.drew) : (Code.region id ops true).wpIn F n P Q a w := by
  subst hn
  subst hl
  exact wpIn_region_any hm (wpAnyIn_of_W _ _ _ _ (h hS))
theorem withW {T : Bool × List (List Nat × List Nat)} {m : Nat} {l : Array Bool} {a : Act} {w : World} (hT : rtab md ops = T) (hD : noDefer ops = true) (h : Aside0 (rtab md ops = T) → Aside0 (noDefer ops = true) → wpAnyW F n P md ops Q S ds m l a w) : wpAnyW F n P md ops Q S ds m l a w := h ⟨hT⟩ ⟨hD⟩
/-- An operation that yields in every world: taken first. -/
theorem pureW {i : Nat} {N : Option Tmp} {oi : Oper} {v : Value} {fuel : Nat} {l : Array Bool} {a : Act} {w : World} (hF : Wd F) (hD : noDefer ops = true) (l' : Array Bool) (hi : ops[i]? = some oi) (hN : oi.dst = N) (hc : anyB md ops l l' i = true)
    (hQ : ∀ c a w, Q (.panic c) (a.put oi.dst v) w → Q (.panic c) a w) (hy : Yields P ops oi v a) {a' : Act} (ha : a.put N v = a')
    (h : wpAnyW F n P md ops Q S ds fuel l' a' w) : wpAnyW F n P md ops Q S ds (fuel + 1) l a w := by
  subst ha
  subst hN
  simp only [anyB, Bool.and_eq_true, beq_iff_eq] at hc
  obtain ⟨⟨⟨h1, h2⟩, h3⟩, h6⟩ := hc
  subst h6
  exact wpAnyW_any hF hD hi (Region.noSelect_spec h1) hQ fuel l a w (Region.free_spec hi h2) (by simpa using h3) hy h
/-- An operation that yields in every world that meets S: taken first. -/
theorem takeW {i : Nat} {N : Option Tmp} {oi : Oper} {v : Value} {fuel : Nat} {l : Array Bool} {a : Act} {w : World} (hF : Wd F) (hD : noDefer ops = true) (l' : Array Bool) (hi : ops[i]? = some oi) (hN : oi.dst = N) (hc : takeB md ops ds l l' i = true)
    (hQ : ∀ c a w, Q (.panic c) (a.put oi.dst v) w → Q (.panic c) a w) (hy : YieldsIf P ops S oi v a) (hS : S w) {a' : Act} (ha : a.put N v = a')
    (h : wpAnyW F n P md ops Q S ds fuel l' a' w) : wpAnyW F n P md ops Q S ds (fuel + 1) l a w := by
  subst ha
  subst hN
  simp only [takeB, Bool.and_eq_true, beq_iff_eq] at hc
  obtain ⟨⟨⟨⟨⟨h1, h2⟩, h3⟩, h4⟩, h5⟩, h6⟩ := hc
  subst h6
  exact wpAnyW_first hF hD hi (Region.noSelect_spec h1) hQ ops.size fuel l a w (Region.free_spec hi h2) (Region.closedB_spec h4)
    (fun d hm hun => by have := List.all_eq_true.1 h5 d hm; rw [hun] at this; simpa using this) (by simpa using h3) hy hS h
theorem oneW {i : Nat} {N : Option Tmp} {oi : Oper} {fuel : Nat} {l : Array Bool} {a : Act} {w : World} (hF : Wd F) (l' : Array Bool) (hi : ops[i]? = some oi) (hN : oi.dst = N) (hc : readyB md ops l l' i = true)
    (h : ∀ K : Act → World → Prop, Shut (∀ a' w', (i ∉ ds → S w → S w') → wpAnyW F n P md ops Q S ds fuel l' a' w' → K a' w') → if Region.wanted oi (yielded ops a.tmps) = true then Oper.wpIn F n P oi a w K Q else K (a.put N undef) w) :
    wpAnyW F n P md ops Q S ds (fuel + 1) l a w := by
  subst hN
  simp only [readyB, Bool.and_eq_true, beq_iff_eq] at hc
  obtain ⟨h1, h2⟩ := hc
  subst h2
  refine ⟨fun h0 => (by rw [h1] at h0; cases h0), fun j hj => ?_⟩
  rw [h1] at hj
  obtain rfl : j = i := by simpa using hj
  have h3 := h (fun a' w' => (j ∉ ds → S w → S w') ∧ wpAnyW F n P md ops Q S ds fuel (l.setIfInBounds j true) a' w') (fun a' w' hS hW => ⟨hS, hW⟩)
  unfold wpOpIn
  simp only [hi]
  split
  · rename_i hw
    rw [if_pos hw] at h3
    exact h3
  · rename_i hw
    rw [if_neg hw] at h3
    exact ⟨fun f _ => hF.fn f, h3⟩
theorem doneW {l : Array Bool} {a : Act} {w : World} {m : Nat} (hr : (Region.ready md ops l == []) = true) (h : Q .normal a w) : wpAnyW F n P md ops Q S ds m l a w := by
  have hr' : Region.ready md ops l = [] := by simpa using hr
  cases m with
  | zero => exact ⟨hr', h⟩
  | succ m => exact ⟨fun _ => h, by rw [hr']; simp⟩
theorem normW {fuel : Nat} {l : Array Bool} {a a' : Act} {w : World} (ha : a = a') (h : wpAnyW F n P md ops Q S ds fuel l a' w) : wpAnyW F n P md ops Q S ds fuel l a w := by
  subst ha
  exact h
/-- A call of a Go function, by its contract. -/
theorem goesW {oi : Oper} {N : Option Tmp} {a : Act} {w : World} {K : Act → World → Prop} {f : FuncId} {fn : Func} {xs : Array Operand} {ts : Array TypeId} (hF : Wd F) (hf : P.funcs[f]? = some fn) (hname : (fn.name == "runtime.NumGoroutine") = false) (hb : fn.body.isSome = true) (args : Array Value)
    (hw : Region.wanted oi (yielded ops a.tmps) = true) (hN : oi.dst = N) (hop : oi.op = .call { callee := .value (.func f), args := xs, argTypes := ts }) (hargs : xs.map a.eval = args)
    (h : Calls P f args w fun e w' => ∃ v, e = .returned v ∧ K (a.put N v) w') : if Region.wanted oi (yielded ops a.tmps) = true then Oper.wpIn F n P oi a w K Q else K (a.put N undef) w := by
  rw [if_pos hw]
  subst hN
  have he := enters_ hf hname hb args w
  have hrun : (execOp a.eval oi).run P w = .ok (.enter f args) w := by
    unfold execOp
    simp [hop, resolve, Deferred.ofValue, invoke, Act.eval, hargs, he]
  unfold Oper.wpIn
  refine ⟨fun f _ => hF.fn f, ?_⟩
  rw [Oper.semAt_plain F _ _ (by rw [hop]; intro c hc; cases hc), hrun, Oper.uponIn_enter]
  refine ⟨fun h0 => (by rw [hF.depth] at h0; cases h0), (hF.calls h).mono fun e w'' hh => ?_⟩
  obtain ⟨v, rfl, hk⟩ := hh
  exact hk
/-- A call of yield. -/
theorem yieldW {oi : Oper} {N : Option Tmp} {a : Act} {w : World} {K : Act → World → Prop} {t : Operand} {xs : Array Operand} {ts : Array TypeId} {l : Nat} (hF : Wd F) (args : Array Value)
    (hw : Region.wanted oi (yielded ops a.tmps) = true) (hN : oi.dst = N) (hop : oi.op = .call { callee := .value t, args := xs, argTypes := ts }) (ht : a.eval t = .func (.yield l) #[] #[]) (hargs : xs.map a.eval = args)
    (h : YieldAt F (n - 1) P l args w fun e w' => ∃ v, e = .returned v ∧ K (a.put N v) w') : if Region.wanted oi (yielded ops a.tmps) = true then Oper.wpIn F n P oi a w K Q else K (a.put N undef) w := by
  rw [if_pos hw]
  subst hN
  obtain ⟨fn, tmps, assign, body, hy, hR⟩ := h
  have hrun : (execOp a.eval oi).run P w = .ok (.round l fn tmps assign body) w := by
    unfold execOp
    simp [hop, resolve, Deferred.ofValue, invoke, ht, hargs, hy]
  unfold Oper.wpIn
  refine ⟨fun f _ => hF.fn f, ?_⟩
  rw [Oper.semAt_plain F _ _ (by rw [hop]; intro c hc; cases hc), hrun, Oper.uponIn_round]
  refine ⟨fun h0 => (by rw [hF.depth] at h0; cases h0), hR.mono fun e w'' hh => ?_⟩
  obtain ⟨v, rfl, hk⟩ := hh
  exact hk
end
end Go.Proofs.YtjnffegjpkbjmaaGreat.QFramesPlays
