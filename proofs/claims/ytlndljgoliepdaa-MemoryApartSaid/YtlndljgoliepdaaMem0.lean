/- What a memory behind a pointer is (its block, its map), and what Memory.may tells of it; no conditions. -/
import Derived.Test.YtlndljgoliepdaaProg
import Derived.Below
import Derived.OwnWalk
import Derived.Maps.Own
import Derived.Maps.OwnSet
import Derived.Maps.OwnOps
import Derived.Maps.RangeWalk
import Derived.Maps.Ext
import Derived.WalkKit
import Derived.KernelRfl
import Derived.Test.YtlndljgoliepdaaWWords
import Derived.Test.YtlndljgoliepdaaWLast
import Derived.Test.YtlndljgoliepdaaWMore
namespace Go.Proofs.Ytlndljgoliepdaa.Mem
open Go.RowKit Go.Maps Go.Proofs.YtlndljgoliepdaaW.PrintWords Go.Proofs.YtlndljgoliepdaaW.PrintLast Go.Proofs.YtlndljgoliepdaaW.PrintMore

theorem law22 : Keyed Try.prog 22 := int_keyed Try.underlying22
theorem zero22 (w : World) : (zeroValue 22).run Try.prog w = .ok (.int .u64 0) w := by kernel_rfl

/-- A memory behind a pointer: its block, its map's block, its size, what the map reads as; below B the world is as it was. -/
structure Mem (B : Nat) (w0 : World) (p mb : Nat) (sz : Int) (n : Nat) (D : DataW Unit) (W : World) : Prop where
  below : Below B w0 W
  hp : B ≤ p
  hm : B ≤ mb
  hB : B ≤ W.heap.size
  row : W.heap[p]? = some (.cells #[.int .u64 sz, .map (some mb)] 83 (0, 0))
  own : W.ownsMap Try.prog 22 (plainElem Try.prog 22) mb n D
  wfs : (Lit.int .u64 sz).wf = true

/-- What Memory.may tells. -/
def mayOf (sz a n each : Int) : Int := if a % each ≠ 0 then 4 else if n > 0 ∧ (a ≥ sz ∨ n > sz - a) then 5 else 0
theorem Mem.cells {B w0 p mb sz n D W} (h : Mem B w0 p mb sz n D W) : W.cell? ⟨p, 0, none⟩ = some (.int .u64 sz) ∧ W.cell? ⟨p, 1, none⟩ = some (.map (some mb)) := ⟨(blk_cell h.row 0).trans rfl, (blk_cell h.row 1).trans rfl⟩
theorem u64_b {a : Int} (h : (Lit.int .u64 a).wf = true) : 0 ≤ a ∧ a < 18446744073709551616 := by
  simp [Lit.wf, IntKind.min, IntKind.max, IntKind.signed, IntKind.bits] at h; omega
theorem Mem.lt {B w0 p mb sz n D W} (h : Mem B w0 p mb sz n D W) : p < W.heap.size := blk_lt h.row
theorem Mem.ne {B w0 p mb sz n D W} (h : Mem B w0 p mb sz n D W) : p ≠ mb := by
  intro e; subst e
  obtain ⟨es, clock, hb, _⟩ := h.own
  have := h.row; rw [hb] at this; cases this
theorem Mem.step {B w0 p mb sz n D W n' D' W'} (h : Mem B w0 p mb sz n D W) (hg : W.grownBy W' (some mb)) (ho : W'.ownsMap Try.prog 22 (plainElem Try.prog 22) mb n' D') : Mem B w0 p mb sz n' D' W' :=
  ⟨h.below.grown hg h.hB (fun k e => by cases e; exact h.hm), h.hp, h.hm, Nat.le_trans h.hB hg.size, (hg.block p h.lt (fun e => h.ne (Option.some.inj e))).trans h.row, ho, h.wfs⟩
/-- Another thing is written, or new memory is made. -/
theorem Mem.kept {B w0 p mb sz n D W row W'} (h : Mem B w0 p mb sz n D W) (hg : W.grownBy W' row) (h1 : some mb ≠ row) (h2 : some p ≠ row) (h3 : ∀ k, row = some k → B ≤ k) : Mem B w0 p mb sz n D W' :=
  ⟨h.below.grown hg h.hB h3, h.hp, h.hm, Nat.le_trans h.hB hg.size, (hg.block p h.lt h2).trans h.row, h.own.kept hg h1, h.wfs⟩
theorem Mem.same {B w0 p mb sz n D W W'} (h : Mem B w0 p mb sz n D W) (hg : W.grownBy W' none) : Mem B w0 p mb sz n D W' := h.kept hg (by simp) (by simp) (fun _ e => by cases e)
theorem grown_refl (W : World) (row : Option Nat) : W.grownBy W row := ⟨rfl, rfl, rfl, Nat.le_refl _, fun _ _ _ => rfl⟩
theorem grown_two {W W1 W2 : World} {row : Option Nat} (h : W.grownBy W1 row) (k : W1.grownBy W2 row) : W.grownBy W2 row := ⟨k.os.trans h.os, k.tape.trans h.tape, k.output.trans h.output, Nat.le_trans h.size k.size, fun i hi hn => (k.block i (Nat.lt_of_lt_of_le hi h.size) hn).trans (h.block i hi hn)⟩
theorem grown_drew (W : World) (row : Option Nat) : W.grownBy W.drew row := ⟨rfl, rfl, rfl, Nat.le_refl _, fun _ _ _ => rfl⟩
/-- All that was made since the base is the call's own. -/
theorem grown_end {w0 : World} {p mb sz n D W} (h : Mem w0.heap.size w0 p mb sz n D W) : w0.grownBy W none := ⟨h.below.os, h.below.tape, h.below.output, h.below.size, fun k hk _ => h.below.block k hk⟩
theorem Mem.more {B w0 p mb sz n D W n'} (h : Mem B w0 p mb sz n D W) (hn : n ≤ n') : Mem B w0 p mb sz n' D W := ⟨h.below, h.hp, h.hm, h.hB, h.row, h.own.mono hn, h.wfs⟩

/-- The word at a place. -/
def rd (D : DataW Unit) (k : Int) : Int := match D.atKey (.int .u64 k) (.lit (.int .u64 0)) with | .lit (.int _ c) => c | _ => 0
/-- A word stands at a place. -/
def st (D : DataW Unit) (k v : Int) : DataW Unit := if v = 0 then D.del (.int .u64 k) else D.put (.int .u64 k) (.lit (.int .u64 v))
theorem rd_of {D : DataW Unit} {k c : Int} (h : D.atKey (.int .u64 k) (.lit (.int .u64 0)) = .lit (.int .u64 c)) : c = rd D k := by unfold rd; rw [h]
theorem wf_div {a : Int} (h : (Lit.int .u64 a).wf = true) : (Lit.int .u64 (a / 8)).wf = true := by
  have := u64_b h
  simp [Lit.wf, IntKind.min, IntKind.max, IntKind.signed, IntKind.bits]; omega
section
set_option maxHeartbeats 400000
theorem may_bad {each : Int} (he : each = 8 ∨ each = 16) (p : Nat) (a n : Int) (W : World) (ha : 0 ≤ a) (h : a % each ≠ 0) :
    Calls Try.prog 44 #[.pointer (some ⟨p, 0, none⟩), .int .u64 a, .int .u64 n, .int .u64 each] W fun e W' => e = .returned (.int .i64 4) ∧ W' = W := by
  have h1 : (a % each != 0) = true := bne_iff_ne.mpr h
  clear h
  rcases he with rfl | rfl
  all_goals
    go_enter Try.func44, Try.ntmps44
    go_wp2
    go_ret
    exact ⟨rfl, rfl⟩
theorem may_none {each : Int} (he : each = 1 ∨ each = 8 ∨ each = 16) (p : Nat) (a : Int) (W : World) (ha : 0 ≤ a) (h : a % each = 0) :
    Calls Try.prog 44 #[.pointer (some ⟨p, 0, none⟩), .int .u64 a, .int .u64 0, .int .u64 each] W fun e W' => e = .returned (.int .i64 0) ∧ W' = W := by
  have h1 : (a % each != 0) = false := bne_eq_false_iff_eq.mpr h
  clear h
  rcases he with rfl | rfl | rfl
  all_goals
    go_enter Try.func44, Try.ntmps44
    go_wp2
    go_ret
    exact ⟨rfl, rfl⟩
theorem may_far {B w0 p mb sz k D W} (hM : Mem B w0 p mb sz k D W) {each : Int} (he : each = 1 ∨ each = 8 ∨ each = 16) (a n : Int) (ha : 0 ≤ a) (h : a % each = 0) (hn : 0 < n) (hs : sz ≤ a) :
    Calls Try.prog 44 #[.pointer (some ⟨p, 0, none⟩), .int .u64 a, .int .u64 n, .int .u64 each] W fun e W' => e = .returned (.int .i64 5) ∧ W' = W := by
  have h1 : (a % each != 0) = false := bne_eq_false_iff_eq.mpr h
  obtain ⟨c0, c1⟩ := hM.cells
  clear h hM
  rcases he with rfl | rfl | rfl
  all_goals
    go_enter Try.func44, Try.ntmps44
    go_wp2
    go_ret
    exact ⟨rfl, rfl⟩
theorem may_in {B w0 p mb sz k D W} (hM : Mem B w0 p mb sz k D W) {each : Int} (he : each = 1 ∨ each = 8 ∨ each = 16) (a n : Int) (ha : 0 ≤ a) (h : a % each = 0) (hn : 0 < n) (hs : a < sz) (c : Int) (hc : c = if sz - a < n then 5 else 0) :
    Calls Try.prog 44 #[.pointer (some ⟨p, 0, none⟩), .int .u64 a, .int .u64 n, .int .u64 each] W fun e W' => e = .returned (.int .i64 c) ∧ W' = W := by
  have h1 : (a % each != 0) = false := bne_eq_false_iff_eq.mpr h
  obtain ⟨c0, c1⟩ := hM.cells
  obtain ⟨b0, b1⟩ := u64_b hM.wfs
  clear h hM
  by_cases hk : sz - a < n
  · rw [if_pos hk] at hc
    subst hc
    rcases he with rfl | rfl | rfl
    all_goals
      go_enter Try.func44, Try.ntmps44
      go_wp2
      go_ret
      exact ⟨rfl, rfl⟩
  · rw [if_neg hk] at hc
    subst hc
    rcases he with rfl | rfl | rfl
    all_goals
      go_enter Try.func44, Try.ntmps44
      go_wp2
      go_ret
      exact ⟨rfl, rfl⟩
end
end Go.Proofs.Ytlndljgoliepdaa.Mem
