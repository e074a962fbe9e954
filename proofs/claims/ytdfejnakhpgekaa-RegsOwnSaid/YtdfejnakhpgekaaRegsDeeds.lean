/- A list of deeds, as a law of layer 7 takes it. -/
import Derived.Test.YtdfejnakhpgekaaRegs7
namespace Go.Proofs.Ytdfejnakhpgekaa.QRegsPlays
open Go.RowKit Go.Maps Go.Proofs.YtdfejnakhpgekaaW.PrintWords Go.Proofs.YtdfejnakhpgekaaW.PrintLast Go.Proofs.YtdfejnakhpgekaaW.PrintMore
set_option linter.unusedSimpArgs false
set_option linter.unusedVariables false
section
set_option maxHeartbeats 1000000
set_option maxRecDepth 100000
theorem cell_lt {w : World} {a : Addr} {v : Value} (h : w.cell? a = some v) : a.block < w.heap.size := by
  unfold World.cell? at h
  split at h
  · rename_i hb
    exact blk_lt hb
  · cases h
def DeedAt (w : World) (y : Addr) : Prop := ∃ (kind asi un num place v : Int) (store priv : Bool), (Lit.int .i64 asi).wf = true ∧ (Lit.int .u64 place).wf = true ∧ (Lit.int .u64 v).wf = true ∧ w.cell? (y) = some (.int .i64 kind) ∧ w.cell? ⟨(y).block, (y).off + 1, none⟩ = some (.int .i64 asi) ∧ w.cell? ⟨(y).block, (y).off + 2, none⟩ = some (.int .i64 un) ∧ w.cell? ⟨(y).block, (y).off + 3, none⟩ = some (.int .i64 num) ∧ w.cell? ⟨(y).block, (y).off + 4, none⟩ = some (.int .u64 place) ∧ w.cell? ⟨(y).block, (y).off + 5, none⟩ = some (.int .u64 v) ∧ w.cell? ⟨(y).block, (y).off + 6, none⟩ = some (.bool store) ∧ w.cell? ⟨(y).block, (y).off + 7, none⟩ = some (.bool priv)
theorem DeedAt.below {B : Nat} {w w' : World} {y : Addr} (h : DeedAt w y) (hB : B = w.heap.size) (hb : Below B w w') : DeedAt w' y := by
  subst hB
  obtain ⟨kind, asi, un, num, place, v, store, priv, wa, wq, wv, e0, e1, e2, e3, e4, e5, e6, e7⟩ := h
  exact ⟨kind, asi, un, num, place, v, store, priv, wa, wq, wv, (hb.cell (cell_lt e0)).trans e0, (hb.cell (cell_lt e1)).trans e1, (hb.cell (cell_lt e2)).trans e2, (hb.cell (cell_lt e3)).trans e3, (hb.cell (cell_lt e4)).trans e4, (hb.cell (cell_lt e5)).trans e5, (hb.cell (cell_lt e6)).trans e6, (hb.cell (cell_lt e7)).trans e7⟩
def Deeds (w : World) (a : Option Addr) (len : Nat) : Prop := (a = none ∧ len = 0) ∨ ∃ x, a = some x ∧ ∀ j, j < len → DeedAt w (x.add (j * 8))
theorem Deeds.at {w : World} {a : Option Addr} {len : Nat} (h : Deeds w a len) (j : Nat) (hj : j < len) : ∃ x, a = some x ∧ DeedAt w (x.add (j * 8)) := by
  rcases h with ⟨_, e⟩ | ⟨x, rfl, h⟩
  · omega
  · exact ⟨x, rfl, h j hj⟩
theorem tup_empty : (#[.int .u64 0, .int .u64 0, .int .u64 0, .int .u64 0, .int .u64 0, .int .u64 0, .int .u64 0, .int .u64 0, .int .u64 0] : Array Value) = #[.int .u64 (rdk (.map []) 80 24), .int .u64 (rdk (.map []) 80 40), .int .u64 (rdk (.map []) 80 48), .int .u64 (rdk (.map []) 88 8), .int .u64 (rdk (.map []) 88 16), .int .u64 (rdk (.map []) 88 24), .int .u64 (rdk (.map []) 88 32), .int .u64 (rdk (.map []) 88 40), .int .u64 (rdk (.map []) 88 48)] := rfl
theorem does_lit {B w0 p mb n D W} (h : Regs B w0 p mb n D W) (kind asi un num place v : Int) (store priv : Bool) (ha : (Lit.int .i64 asi).wf = true) (hq : (Lit.int .u64 place).wf = true) (hv : (Lit.int .u64 v).wf = true) (hn : n < 800000) :
    Calls Try.prog 22 #[.pointer (some ⟨p, 0, none⟩), .agg #[.int .u64 (rdk D 80 24), .int .u64 (rdk D 80 40), .int .u64 (rdk D 80 48), .int .u64 (rdk D 88 8), .int .u64 (rdk D 88 16), .int .u64 (rdk D 88 24), .int .u64 (rdk D 88 32), .int .u64 (rdk D 88 40), .int .u64 (rdk D 88 48)], .agg #[.int .i64 kind, .int .i64 asi, .int .i64 un, .int .i64 num, .int .u64 place, .int .u64 v, .bool store, .bool priv]] W fun e W' => ∃ D', e = .returned (.tuple #[.agg #[.int .u64 (rdk D' 80 24), .int .u64 (rdk D' 80 40), .int .u64 (rdk D' 80 48), .int .u64 (rdk D' 88 8), .int .u64 (rdk D' 88 16), .int .u64 (rdk D' 88 24), .int .u64 (rdk D' 88 32), .int .u64 (rdk D' 88 40), .int .u64 (rdk D' 88 48)], .bool true]) ∧ Regs B w0 p mb (n + 2) D' W' ∧ W.grownBy W' (some mb) := does_calls h kind asi un num place v store priv ha hq hv hn
end
end Go.Proofs.Ytdfejnakhpgekaa.QRegsPlays
