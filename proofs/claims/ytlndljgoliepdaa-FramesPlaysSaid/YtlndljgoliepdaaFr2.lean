/- turn: frames taken, or given back, one behind the other; at whatever numbers that are there. -/
import Derived.Test.YtlndljgoliepdaaFr1
namespace Go.Proofs.Ytlndljgoliepdaa.QFramesPlays
open Go.RowKit Go.Proofs.YtlndljgoliepdaaW.PrintWords Go.Proofs.YtlndljgoliepdaaW.PrintLast Go.Proofs.YtlndljgoliepdaaW.PrintMore
set_option linter.unusedSimpArgs false
set_option linter.unusedVariables false
section
set_option maxHeartbeats 1000000
set_option maxRecDepth 100000
def setN (ts : List Bool) (a : Nat) (b : Bool) : Nat → List Bool
  | 0 => ts
  | k + 1 => (setN ts a b k).set (a + k) b
theorem setN_len (ts : List Bool) (a : Nat) (b : Bool) (k : Nat) : (setN ts a b k).length = ts.length := by
  induction k with
  | zero => rfl
  | succ k ih => simp [setN, ih]
/-- What else is the same. -/
structure FrK (W : World) (p r : Nat) (W' : World) : Prop where
  os : W'.os = W.os
  tape : W'.tape = W.tape
  output : W'.output = W.output
  size : W.heap.size ≤ W'.heap.size
  block : ∀ k, k < W.heap.size → k ≠ p → k ≠ r → W'.heap[k]? = W.heap[k]?
theorem FrK.refl (W : World) (p r : Nat) : FrK W p r W := ⟨rfl, rfl, rfl, Nat.le_refl _, fun _ _ _ _ => rfl⟩
theorem FrK.set {W : World} {p r : Nat} {W' : World} (h : FrK W p r W') (a : Addr) (ha : a.block = p ∨ a.block = r) (u : Value) : FrK W p r (W'.setCell a u) :=
  ⟨h.os, h.tape, h.output, by simpa [World.setCell] using h.size, fun k hk h1 h2 => (Below.heap_setCell W' a u k (by rintro rfl; rcases ha with e | e <;> first | exact h1 e | exact h2 e)).trans (h.block k hk h1 h2)⟩
theorem Fr.setBit {B w0 p r ts free W} (h : Fr B w0 p r ts free W) (i : Nat) (b : Bool) : Fr B w0 p r (ts.set i b) free (W.setCell ⟨r, i, none⟩ (.bool b)) := by
  have hne : p ≠ r := Nat.ne_of_gt h.rp
  refine ⟨h.below.setCell h.hr _, h.hr, h.hp, ?_, ?_, by simpa using h.len⟩
  · rw [blk_far h.row hne, List.length_set]
  · rw [blk_set h.bits]
    congr 2
    simp [List.map_set]
theorem Fr.setFree {B w0 p r ts free W} (h : Fr B w0 p r ts free W) (x : Int) : Fr B w0 p r ts x (W.setCell ⟨p, 1, none⟩ (.int .i64 x)) := by
  have hne : r ≠ p := Nat.ne_of_lt h.rp
  refine ⟨h.below.setCell (Nat.le_trans h.hr (Nat.le_of_lt h.rp)) _, h.hr, h.hp, ?_, blk_far h.bits hne _, h.len⟩
  rw [blk_set h.row]
  rfl
theorem Fr.cells {B w0 p r ts free W} (h : Fr B w0 p r ts free W) : W.cell? ⟨p, 0, none⟩ = some (.slice (some ⟨r, 0, none⟩) ts.length ts.length) ∧ W.cell? ⟨p, 1, none⟩ = some (.int .i64 free) ∧ W.frozen? ⟨p, 1, none⟩ = false := ⟨(blk_cell h.row 0).trans rfl, (blk_cell h.row 1).trans rfl, blk_frozen h.row 1⟩
theorem Fr.bit {B w0 p r ts free W} (h : Fr B w0 p r ts free W) (i : Nat) (hi : i < ts.length) : W.cell? ⟨r, i, none⟩ = some (.bool (ts.getD i false)) ∧ W.frozen? ⟨r, i, none⟩ = false := by
  refine ⟨(blk_cell h.bits i).trans ?_, blk_frozen h.bits i⟩
  simp [List.getD, hi]
theorem add_r (r i : Nat) : (⟨r, 0, none⟩ : Addr).add i = ⟨r, i, none⟩ := by unfold Addr.add; split <;> simp_all
theorem fr_turn {B w0 p r ts free W} (h : Fr B w0 p r ts free W) (a n : Nat) (b : Bool) (han : a + n ≤ ts.length) (hf0 : 0 ≤ free) (hf1 : free ≤ 65536) :
    Calls Try.prog 57 #[.pointer (some ⟨p, 0, none⟩), .int .i64 a, .int .i64 n, .bool b] W fun e W' => e = .returned (.tuple #[]) ∧ Fr B w0 p r (setN ts a b n) (if b then free - n else free + n) W' ∧ FrK W p r W' := by
  have hl := h.len
  have HM := Aside0.mk h
  have HK := Aside0.mk (FrK.refl W p r)
  clear h
  go_enter Try.func57, Try.ntmps57
  go_wp2
  go_loopw [10] (fun v10 wr => ∃ (k : Nat), v10 = .int .i64 k ∧ k ≤ n ∧ Aside0 (Fr B w0 p r (setN ts a b k) free wr) ∧ Aside0 (FrK W p r wr)) (fun v10 _ => n - (intOf v10).toNat)
  case atStart => exact ⟨0, rfl, by omega, HM, HK⟩
  case round =>
    clear HM HK
    obtain ⟨k, rfl, hk, HM, HK⟩ := hrel
    obtain ⟨c0, c1, f1⟩ := HM.out.cells
    by_cases h1 : k < n
    · have h1' : (k : Int) < (n : Int) := by omega
      have p1 : (0 : Int) ≤ (a : Int) + (k : Int) := by omega
      have q1 : (a : Int) + (k : Int) < (ts.length : Int) := by omega
      rw [setN_len] at c0
      have hw : wrap64 ((a : Int) + (k : Int)) = ((a + k : Nat) : Int) := by unfold wrap64; omega
      have p2 : (0 : Int) ≤ ((a + k : Nat) : Int) := by omega
      have q2 : ((a + k : Nat) : Int) < (ts.length : Int) := by omega
      obtain ⟨b0, f0⟩ := HM.out.bit (a + k) (by rw [setN_len]; omega)
      go_wp2
      go_roundw
      case rel => exact ⟨k + 1, by go_num, by omega, ⟨HM.out.setBit (a + k) b⟩, ⟨HK.out.set ⟨r, a + k, none⟩ (.inr rfl) _⟩⟩
      case measure => simp [intOf]; omega
    · obtain rfl : k = n := by omega
      cases b
      · go_wp2
        go_end0
        exact ⟨rfl, HM.out.setFree _, HK.out.set ⟨p, 1, none⟩ (.inl rfl) _⟩
      · go_wp2
        go_end0
        exact ⟨rfl, HM.out.setFree _, HK.out.set ⟨p, 1, none⟩ (.inl rfl) _⟩
end
end Go.Proofs.Ytlndljgoliepdaa.QFramesPlays
