/- What frames behind a pointer are (their block, their row), at all times; what is read of them by the printed contracts; no conditions. -/
import Derived.Test.YtlndljgoliepdaaQFramesPlaysx1
import Derived.Below
namespace Go.Proofs.Ytlndljgoliepdaa.QFramesPlays
open Go.RowKit Go.Proofs.YtlndljgoliepdaaW.PrintWords Go.Proofs.YtlndljgoliepdaaW.PrintLast Go.Proofs.YtlndljgoliepdaaW.PrintMore
set_option linter.unusedSimpArgs false
set_option linter.unusedVariables false
section
set_option maxHeartbeats 1000000
set_option maxRecDepth 100000
/-- Frames at p (their row at r, made ahead of p): which are taken, how many are said to be free. -/
structure Fr (B : Nat) (w0 : World) (p r : Nat) (ts : List Bool) (free : Int) (W : World) : Prop where
  below : Below B w0 W
  hr : B ≤ r
  hp : p = r + 1
  row : W.heap[p]? = some (.cells #[.slice (some ⟨r, 0, none⟩) ts.length ts.length, .int .i64 free] 94 (0, 0))
  bits : W.heap[r]? = some (.cells (ts.map Value.bool).toArray 4 (0, 0))
  len : ts.length ≤ 65536
theorem Fr.rp {B w0 p r ts free W} (h : Fr B w0 p r ts free W) : r < p := by rw [h.hp]; exact Nat.lt_succ_self _
theorem Fr.lt {B w0 p r ts free W} (h : Fr B w0 p r ts free W) : p < W.heap.size := blk_lt h.row
theorem Fr.kept {B w0 p r ts free W row W'} (h : Fr B w0 p r ts free W) (hg : W.grownBy W' row) (h1 : some p ≠ row) (h2 : some r ≠ row) (h3 : ∀ k, row = some k → B ≤ k) : Fr B w0 p r ts free W' :=
  ⟨h.below.grown hg (Nat.le_of_lt (Nat.lt_of_le_of_lt h.hr (Nat.lt_trans h.rp h.lt))) h3, h.hr, h.hp, (hg.block p h.lt h1).trans h.row, (hg.block r (Nat.lt_trans h.rp h.lt) h2).trans h.bits, h.len⟩
theorem Fr.same {B w0 p r ts free W W'} (h : Fr B w0 p r ts free W) (hg : W.grownBy W' none) : Fr B w0 p r ts free W' := h.kept hg (by simp) (by simp) (fun _ e => by cases e)
/-- The world as it was ahead of the block p: what a printed contract calls the world that came in. -/
def trunc (W : World) (p : Nat) : World := { W with heap := W.heap.extract 0 p }
theorem trunc_size {W : World} {p : Nat} (h : p < W.heap.size) : (trunc W p).heap.size = p := by
  simp [trunc]; omega
theorem trunc_at {W : World} {p k : Nat} (h : p < W.heap.size) (hk : k < p) : (trunc W p).heap[k]? = W.heap[k]? := by
  simp [trunc, Array.getElem?_extract]
  omega
theorem trunc_below {W : World} {p : Nat} (h : p < W.heap.size) : Below (trunc W p).heap.size (trunc W p) W :=
  ⟨rfl, rfl, rfl, by rw [trunc_size h]; omega, fun k hk => (trunc_at h (by rw [trunc_size h] at hk; exact hk)).symm⟩
theorem Fr.isS {B w0 p r ts free W} (h : Fr B w0 p r ts free W) : IsS94 (trunc W p) W p ts free := by
  refine ⟨some ⟨r, 0, none⟩, ts.length, h.row, ⟨by rw [trunc_size h.lt]; exact Nat.le_refl _, by rw [trunc_size h.lt, h.hp]; rfl, rfl⟩, ?_⟩
  refine Kd.C_of_reads (enc := Value.bool) (d := false) (h1 := fun _ => rfl) ⟨rfl, by have := h.len; omega, fun _ => ⟨⟨r, 0, none⟩, rfl, fun j hj => ?_⟩⟩
  have e : (⟨r, 0, none⟩ : Addr).add j = ⟨r, j, none⟩ := by unfold Addr.add; split <;> simp_all
  rw [e]
  show World.cell? _ _ = _
  unfold World.cell?
  simp only
  rw [trunc_at h.lt h.rp, h.bits]
  simp [List.getD, hj]
theorem Fr.after {B w0 p r ts free free' W W'} (h : Fr B w0 p r ts free W) (hi : IsS94 (trunc W p) W' p ts free') (hb : Below (trunc W p).heap.size (trunc W p) W') (hk : KeepBut W W' p none) : Fr B w0 p r ts free' W' ∧ W.grownBy W' (some p) := by
  have hg : W.grownBy W' (some p) := ⟨hb.os, hb.tape, hb.output, hk.1, fun i hi hn => hk.2 i hi (fun e => hn (by rw [e])) (by simp)⟩
  obtain ⟨A, c, hrow, ⟨_, hA, hc⟩, _⟩ := hi
  rw [trunc_size h.lt, h.hp] at hA
  subst hA
  subst hc
  have hrp := h.rp
  refine ⟨⟨h.below.grown hg (Nat.le_trans h.hr (Nat.le_of_lt (Nat.lt_trans hrp h.lt))) (fun k e => by cases e; exact Nat.le_trans h.hr (Nat.le_of_lt hrp)), h.hr, h.hp, ?_, (hg.block r (Nat.lt_trans hrp h.lt) (fun e => by cases e; exact Nat.lt_irrefl _ hrp)).trans h.bits, h.len⟩, hg⟩
  rw [hrow]
  rfl
/-- Where nothing is changed: not even the state's own block. -/
theorem Fr.after0 {B w0 p r ts free W W'} (h : Fr B w0 p r ts free W) (hi : IsS94 (trunc W p) W' p ts free) (hb : Below (trunc W p).heap.size (trunc W p) W') (hk : KeepBut W W' p none) : W.grownBy W' none := by
  obtain ⟨A, c, hrow, ⟨_, hA, hc⟩, _⟩ := hi
  rw [trunc_size h.lt, h.hp] at hA
  subst hA
  subst hc
  refine ⟨hb.os, hb.tape, hb.output, hk.1, fun i hi' _ => ?_⟩
  by_cases e : i = p
  · subst e
    rw [hrow, h.row]
    rfl
  · exact hk.2 i hi' e (by simp)
theorem grown_refl (W : World) (row : Option Nat) : W.grownBy W row := ⟨rfl, rfl, rfl, Nat.le_refl _, fun _ _ _ => rfl⟩
theorem grown_two {W W1 W2 : World} {row : Option Nat} (h : W.grownBy W1 row) (k : W1.grownBy W2 row) : W.grownBy W2 row := ⟨k.os.trans h.os, k.tape.trans h.tape, k.output.trans h.output, Nat.le_trans h.size k.size, fun i hi hn => (k.block i (Nat.lt_of_lt_of_le hi h.size) hn).trans (h.block i hi hn)⟩
end
end Go.Proofs.Ytlndljgoliepdaa.QFramesPlays
