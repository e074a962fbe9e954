/- What registers behind a pointer are (their block, their map), at all times; no conditions. -/
import Derived.Test.YtdfejnakhpgekaaQRegsPlaysx5
import Derived.Maps.Own
import Derived.Maps.OwnSet
import Derived.Maps.OwnOps
import Derived.Maps.Ext
import Derived.OpenShut
import Derived.DeepKeys4
namespace Go.Proofs.Ytdfejnakhpgekaa.QRegsPlays
open Go.RowKit Go.Maps Go.Proofs.YtdfejnakhpgekaaW.PrintWords Go.Proofs.YtdfejnakhpgekaaW.PrintLast Go.Proofs.YtdfejnakhpgekaaW.PrintMore
set_option linter.unusedSimpArgs false
set_option linter.unusedVariables false
section
set_option maxHeartbeats 1000000
set_option maxRecDepth 100000
theorem laidOut : laidOutB Try.prog = true := by kernel_rfl
theorem keyRow : (102 : TypeId) < Try.prog.types.size := of_decide_eq_true (by kernel_rfl)
theorem keyWide : (match Try.prog.underlying 102 with | some (.array _ _) | some (.struct _) => true | _ => false) = true := by rw [Try.underlying102]
theorem keyLaw : WideMaps.KeyLaw Try.prog 102 := deep_law_laid laidOut (m := 2) (by omega) keyRow (by kernel_rfl) keyWide
theorem lawK : Keyed Try.prog 102 := Keyed.of_law keyLaw
theorem zeroU (w : World) : (zeroValue 22).run Try.prog w = .ok (.int .u64 0) w := by kernel_rfl
def klit (a p : Int) : Lit := .string (keyBytes [.int .i64 a, .int .u64 p])
theorem keyAt (a p : Int) (ha : (Lit.int .i64 a).wf = true) (hp : (Lit.int .u64 p).wf = true) : keyOf Try.prog 102 (.agg #[.int .i64 a, .int .u64 p]) = some (klit a p) := by
  have c2 : Try.prog.cellsOf 102 = 2 := by kernel_rfl
  have c3 : Try.prog.cellsOf 3 = 1 := by kernel_rfl
  have c22 : Try.prog.cellsOf 22 = 1 := by kernel_rfl
  have kt : Try.prog.keyType 102 = true := by kernel_rfl
  obtain ⟨m, hm⟩ : ∃ m, Try.prog.types.size + 1 = m + 2 := ⟨Try.prog.types.size - 1, by have h : 0 < Try.prog.types.size := Nat.lt_of_le_of_lt (Nat.zero_le 102) keyRow; omega⟩
  have hk : Try.prog.keyLits (Try.prog.types.size + 1) 102 [.int .i64 a, .int .u64 p] = some [.int .i64 a, .int .u64 p] := by
    rw [hm]
    simp [Program.keyLits, Try.underlying102, Try.underlying3, Try.underlying22, c2, c3, c22, ha, hp]
  unfold keyOf
  rw [Try.underlying102]
  simp only
  rw [if_pos (by simp [Value.formed, Try.underlying102, c2, kt])]
  have e : (Value.agg #[.int .i64 a, .int .u64 p]).cells.toList = [.int .i64 a, .int .u64 p] := by simp [Value.cells]
  rw [e, hk]
  rfl
theorem klit_inj {a p a' p' : Int} (ha : (Lit.int .i64 a).wf = true) (hp : (Lit.int .u64 p).wf = true) (ha' : (Lit.int .i64 a').wf = true) (hp' : (Lit.int .u64 p').wf = true) (h : klit a p = klit a' p') : a = a' ∧ p = p' := by
  have e := keyLaw.inj (keyAt a p ha hp) (h ▸ keyAt a' p' ha' hp')
  simpa using e
structure Regs (B : Nat) (w0 : World) (p mb n : Nat) (D : DataW Unit) (W : World) : Prop where
  below : Below B w0 W
  hp : B ≤ p
  hm : B ≤ mb
  hB : B ≤ W.heap.size
  row : W.heap[p]? = some (.cells #[.map (some mb)] 100 (0, 0))
  own : W.ownsMap Try.prog 102 (plainElem Try.prog 22) mb n D
theorem Regs.lt {B w0 p mb n D W} (h : Regs B w0 p mb n D W) : p < W.heap.size := blk_lt h.row
theorem Regs.cell {B w0 p mb n D W} (h : Regs B w0 p mb n D W) : W.cell? ⟨p, 0, none⟩ = some (.map (some mb)) := (blk_cell h.row 0).trans rfl
theorem Regs.ne {B w0 p mb n D W} (h : Regs B w0 p mb n D W) : p ≠ mb := by
  intro e; subst e
  obtain ⟨es, clock, hb, _⟩ := h.own
  have := h.row; rw [hb] at this; cases this
theorem Regs.step {B w0 p mb n D W n' D' W'} (h : Regs B w0 p mb n D W) (hg : W.grownBy W' (some mb)) (ho : W'.ownsMap Try.prog 102 (plainElem Try.prog 22) mb n' D') : Regs B w0 p mb n' D' W' :=
  ⟨h.below.grown hg h.hB (fun k e => by cases e; exact h.hm), h.hp, h.hm, Nat.le_trans h.hB hg.size, (hg.block p h.lt (fun e => h.ne (Option.some.inj e))).trans h.row, ho⟩
theorem Regs.kept {B w0 p mb n D W row W'} (h : Regs B w0 p mb n D W) (hg : W.grownBy W' row) (h1 : some mb ≠ row) (h2 : some p ≠ row) (h3 : ∀ k, row = some k → B ≤ k) : Regs B w0 p mb n D W' :=
  ⟨h.below.grown hg h.hB h3, h.hp, h.hm, Nat.le_trans h.hB hg.size, (hg.block p h.lt h2).trans h.row, h.own.kept hg h1⟩
theorem Regs.same {B w0 p mb n D W W'} (h : Regs B w0 p mb n D W) (hg : W.grownBy W' none) : Regs B w0 p mb n D W' := h.kept hg (by simp) (by simp) (fun _ e => by cases e)
theorem grown_refl (W : World) (row : Option Nat) : W.grownBy W row := ⟨rfl, rfl, rfl, Nat.le_refl _, fun _ _ _ => rfl⟩
theorem grown_drew (W : World) (row : Option Nat) : W.grownBy W.drew row := ⟨rfl, rfl, rfl, Nat.le_refl _, fun _ _ _ => rfl⟩
theorem grown_two {W W1 W2 : World} {row : Option Nat} (h : W.grownBy W1 row) (k : W1.grownBy W2 row) : W.grownBy W2 row := ⟨k.os.trans h.os, k.tape.trans h.tape, k.output.trans h.output, Nat.le_trans h.size k.size, fun i hi hn => (k.block i (Nat.lt_of_lt_of_le hi h.size) hn).trans (h.block i hi hn)⟩
theorem below_grown {W W1 : World} (h : Below W.heap.size W W1) : W.grownBy W1 none := ⟨h.os, h.tape, h.output, h.size, fun k hk _ => h.block k hk⟩
theorem drawn_grown {W W1 : World} (h : Drawn0 W W1) : W.grownBy W1 none := by
  obtain ⟨nd, rfl⟩ := h
  exact ⟨rfl, rfl, rfl, Nat.le_refl _, fun _ _ _ => rfl⟩
theorem regs_end {w0 : World} {p mb n D W} (h : Regs w0.heap.size w0 p mb n D W) : w0.grownBy W none := ⟨h.below.os, h.below.tape, h.below.output, h.below.size, fun k hk _ => h.below.block k hk⟩
/-- A register. -/
def rdk (D : DataW Unit) (a p : Int) : Int := match D.atKey (klit a p) (.lit (.int .u64 0)) with | .lit (.int _ c) => c | _ => 0
/-- A register, put. -/
def pk (D : DataW Unit) (a p v : Int) : DataW Unit := D.put (klit a p) (.lit (.int .u64 v))
theorem rdk_of {D : DataW Unit} {a p c : Int} (h : D.atKey (klit a p) (.lit (.int .u64 0)) = .lit (.int .u64 c)) : c = rdk D a p := by unfold rdk; rw [h]
theorem rdk_same {D : DataW Unit} (h : IsMap D) (a p v : Int) : rdk (pk D a p v) a p = v := by
  unfold rdk pk
  rw [atKey_put_same h (by trivial)]
theorem rdk_other {D : DataW Unit} {a p a' p' : Int} (hne : klit a' p' ≠ klit a p) (v : Int) : rdk (pk D a p v) a' p' = rdk D a' p' := by
  unfold rdk pk
  rw [atKey_put_other hne]
theorem pk_isMap {D : DataW Unit} (h : IsMap D) (a p v : Int) : IsMap (pk D a p v) := h.put _ _
/-- Some letters of the world that the walk keeps. -/
theorem u64_b {a : Int} (h : (Lit.int .u64 a).wf = true) : 0 ≤ a ∧ a < 18446744073709551616 := by
  simp [Lit.wf, IntKind.min, IntKind.max, IntKind.signed, IntKind.bits] at h; omega
end
end Go.Proofs.Ytdfejnakhpgekaa.QRegsPlays
