/- A TLB behind a pointer: its places, the entries' own blocks, at all times; no conditions. -/
import Derived.Test.YthclbckkfgmbaaaQTlbPlaysx3
import Derived.Below
namespace Go.Proofs.Ythclbckkfgmbaaa.QTlbPlays
open Go.RowKit Go.Proofs.YthclbckkfgmbaaaW.PrintWords Go.Proofs.YthclbckkfgmbaaaW.PrintLast Go.Proofs.YthclbckkfgmbaaaW.PrintMore
set_option linter.unusedSimpArgs false
set_option linter.unusedVariables false
section
set_option maxHeartbeats 1000000
set_option maxRecDepth 100000
abbrev Ent := S26
/-- An entry's cells. -/
abbrev entA (e : Ent) : Array Value := #[.int .i64 e.f0, .int .i64 e.f1, .int .u64 e.f2, .int .u64 e.f3, .bool e.f4.f0, .bool e.f4.f1, .bool e.f4.f2, .bool e.f4.f3, .bool e.f4.f4, .bool e.f4.f5, .bool e.f5]
def ptrV : Option Nat → Value
  | none => .pointer none
  | some b => .pointer (some ⟨b, 0, none⟩)
/-- Entries in blocks of their own, empty places. -/
def Held (W : World) (ps : List (Option Nat)) (es : List (Option Ent)) : Prop :=
  ps.length = es.length ∧ ∀ i, i < es.length → (es.getD i none = none ∧ ps.getD i none = none) ∨ ∃ b e, es.getD i none = some e ∧ ps.getD i none = some b ∧ W.heap[b]? = some (.cells (entA e) 26 (0, 0))
structure Tl (B : Nat) (w0 : World) (p r : Nat) (es : List (Option Ent)) (W : World) : Prop where
  below : Below B w0 W
  hr : B ≤ r
  hp : B ≤ p
  row : W.heap[p]? = some (.cells #[.slice (some ⟨r, 0, none⟩) es.length es.length] 88 (0, 0))
  bits : ∃ ps, W.heap[r]? = some (.cells (ps.map ptrV).toArray 92 (0, 0)) ∧ Held W ps es
  len : es.length ≤ 64
  one : 1 ≤ es.length
theorem Tl.lt {B w0 p r es W} (h : Tl B w0 p r es W) : p < W.heap.size := blk_lt h.row
theorem Tl.rlt {B w0 p r es W} (h : Tl B w0 p r es W) : r < W.heap.size := by
  obtain ⟨ps, hb, _⟩ := h.bits
  exact blk_lt hb
theorem Held.kept {W W' : World} {ps es} {row : Option Nat} (h : Held W ps es) (hg : W.grownBy W' row) (hn : ∀ b e, W.heap[b]? = some (.cells (entA e) 26 (0, 0)) → some b ≠ row) : Held W' ps es := by
  refine ⟨h.1, fun i hi => ?_⟩
  rcases h.2 i hi with c | ⟨b, e, h1, h2, h3⟩
  · exact .inl c
  · exact .inr ⟨b, e, h1, h2, (hg.block b (blk_lt h3) (hn b e h3)).trans h3⟩
theorem Tl.kept {B w0 p r es W row W'} (h : Tl B w0 p r es W) (hg : W.grownBy W' row) (h1 : some p ≠ row) (h2 : some r ≠ row) (h3 : ∀ k, row = some k → B ≤ k) (h4 : ∀ b e, W.heap[b]? = some (.cells (entA e) 26 (0, 0)) → some b ≠ row) : Tl B w0 p r es W' := by
  obtain ⟨ps, hb, hh⟩ := h.bits
  exact ⟨h.below.grown hg (Nat.le_of_lt (Nat.lt_of_le_of_lt h.hr h.rlt)) h3, h.hr, h.hp, (hg.block p h.lt h1).trans h.row, ⟨ps, (hg.block r h.rlt h2).trans hb, hh.kept hg h4⟩, h.len, h.one⟩
theorem Tl.same {B w0 p r es W W'} (h : Tl B w0 p r es W) (hg : W.grownBy W' none) : Tl B w0 p r es W' := h.kept hg (by simp) (by simp) (fun _ e => by cases e) (fun _ _ _ => by simp)
theorem grown_refl (W : World) (row : Option Nat) : W.grownBy W row := ⟨rfl, rfl, rfl, Nat.le_refl _, fun _ _ _ => rfl⟩
theorem grown_two {W W1 W2 : World} {row : Option Nat} (h : W.grownBy W1 row) (k : W1.grownBy W2 row) : W.grownBy W2 row := ⟨k.os.trans h.os, k.tape.trans h.tape, k.output.trans h.output, Nat.le_trans h.size k.size, fun i hi hn => (k.block i (Nat.lt_of_lt_of_le hi h.size) hn).trans (h.block i hi hn)⟩
theorem grown_but {W W1 : World} (h : W.grownBy W1 none) (row : Option Nat) : W.grownBy W1 row := ⟨h.os, h.tape, h.output, h.size, fun i hi _ => h.block i hi (by simp)⟩
theorem grown_drew (W : World) (row : Option Nat) : W.grownBy W.drew row := ⟨rfl, rfl, rfl, Nat.le_refl _, fun _ _ _ => rfl⟩
theorem below_grown {W W1 : World} (h : Below W.heap.size W W1) : W.grownBy W1 none := ⟨h.os, h.tape, h.output, h.size, fun k hk _ => h.block k hk⟩
theorem below_of_grown {W W1 : World} (h : W.grownBy W1 none) : Below W.heap.size W W1 := ⟨h.os, h.tape, h.output, h.size, fun k hk => h.block k hk (by simp)⟩
theorem drawn_grown {W W1 : World} (h : Drawn0 W W1) : W.grownBy W1 none := by
  obtain ⟨n, rfl⟩ := h
  exact ⟨rfl, rfl, rfl, Nat.le_refl _, fun _ _ _ => rfl⟩
theorem cell_lt {w : World} {a : Addr} {v : Value} (h : w.cell? a = some v) : a.block < w.heap.size := by
  unfold World.cell? at h
  split at h
  · rename_i hb
    exact blk_lt hb
  · cases h
theorem cell_grown {W W' : World} {a : Addr} {v : Value} (h : W.cell? a = some v) (hg : W.grownBy W' none) : W'.cell? a = some v := (World.cell?_of_block (w := W) (hg.block a.block (cell_lt h) (by simp))).trans h
theorem blk_grown {W W' : World} {g : Nat} {o : Obj} (h : W.heap[g]? = some o) (hg : W.grownBy W' none) : W'.heap[g]? = some o := (hg.block g (blk_lt h) (by simp)).trans h
theorem cz11 {W : World} {g : Nat} {t : TypeId} {a0 a1 a2 a3 a4 a5 a6 a7 a8 a9 a10 : Value} (h : W.heap[g]? = some (.cells #[a0, a1, a2, a3, a4, a5, a6, a7, a8, a9, a10] t (0, 0))) : W.cell? ⟨g, 0, none⟩ = some a0 ∧ W.cell? ⟨g, 1, none⟩ = some a1 ∧ W.cell? ⟨g, 2, none⟩ = some a2 ∧ W.cell? ⟨g, 3, none⟩ = some a3 ∧ W.cell? ⟨g, 4, none⟩ = some a4 ∧ W.cell? ⟨g, 5, none⟩ = some a5 ∧ W.cell? ⟨g, 6, none⟩ = some a6 ∧ W.cell? ⟨g, 7, none⟩ = some a7 ∧ W.cell? ⟨g, 8, none⟩ = some a8 ∧ W.cell? ⟨g, 9, none⟩ = some a9 ∧ W.cell? ⟨g, 10, none⟩ = some a10 := ⟨(blk_cell h 0).trans rfl, (blk_cell h 1).trans rfl, (blk_cell h 2).trans rfl, (blk_cell h 3).trans rfl, (blk_cell h 4).trans rfl, (blk_cell h 5).trans rfl, (blk_cell h 6).trans rfl, (blk_cell h 7).trans rfl, (blk_cell h 8).trans rfl, (blk_cell h 9).trans rfl, (blk_cell h 10).trans rfl⟩
/-- What the walk reads of it. -/
theorem Tl.cell {B w0 p r es W} (h : Tl B w0 p r es W) : W.cell? ⟨p, 0, none⟩ = some (.slice (some ⟨r, 0, none⟩) es.length es.length) := (blk_cell h.row 0).trans rfl
/-- A place, as the walk reads it. -/
inductive PlaceIs (W : World) (r i : Nat) : Option Ent → Prop where
  | empty (h : W.cell? ⟨r, i, none⟩ = some (.pointer none)) : PlaceIs W r i none
  | full (b : Nat) (e : Ent) (h : W.cell? ⟨r, i, none⟩ = some (.pointer (some ⟨b, 0, none⟩))) (hb : W.heap[b]? = some (.cells (entA e) 26 (0, 0))) : PlaceIs W r i (some e)
theorem Tl.at {B w0 p r es W} (h : Tl B w0 p r es W) (i : Nat) (hi : i < es.length) : PlaceIs W r i (es.getD i none) := by
  obtain ⟨ps, hb, hl, hh⟩ := h.bits
  have hc : ∀ v, ps.getD i none = v → W.cell? ⟨r, i, none⟩ = some (ptrV v) := fun v hv => by
    rw [blk_cell hb]
    have : i < ps.length := by rw [hl]; exact hi
    simp [this] at hv ⊢
    rw [hv]
  rcases hh i hi with ⟨h1, h2⟩ | ⟨b, e, h1, h2, h3⟩
  · rw [h1]; exact .empty (hc none h2)
  · rw [h1]; exact .full b e (hc (some b) h2) h3
theorem Tl.frozen {B w0 p r es W} (h : Tl B w0 p r es W) (i : Nat) : W.frozen? ⟨r, i, none⟩ = false := by
  obtain ⟨ps, hb, _⟩ := h.bits
  exact blk_frozen hb i
theorem grown_cell (W : World) (x : Addr) (v : Value) : W.grownBy (W.setCell x v) (some x.block) := ⟨rfl, rfl, rfl, by simp [World.setCell], fun k _ hk => Below.heap_setCell W x v k (fun e => hk (by rw [e]))⟩
theorem Tl.ne {B w0 p r es W} (h : Tl B w0 p r es W) : p ≠ r := by
  obtain ⟨ps, hb, _⟩ := h.bits
  rintro rfl
  rw [h.row] at hb
  injection hb with hb
  injection hb with _ h2
  exact absurd h2 (by decide)
theorem Tl.nb {B w0 p r es W} (h : Tl B w0 p r es W) (b : Nat) (cs : Array Value) (hb : W.heap[b]? = some (.cells cs 26 (0, 0))) : b ≠ p ∧ b ≠ r := by
  obtain ⟨ps, hr, _⟩ := h.bits
  constructor
  · rintro rfl
    rw [h.row] at hb
    injection hb with hb
    injection hb with _ h2
    exact absurd h2 (by decide)
  · rintro rfl
    rw [hr] at hb
    injection hb with hb
    injection hb with _ h2
    exact absurd h2 (by decide)
/-- A place is made empty, or gets an entry that has a block of its own. -/
theorem Tl.set {B w0 p r es W} (h : Tl B w0 p r es W) (i : Nat) (hi : i < es.length) (q : Option Nat) (x : Option Ent) (hq : (q = none ∧ x = none) ∨ ∃ b e, q = some b ∧ x = some e ∧ W.heap[b]? = some (.cells (entA e) 26 (0, 0))) : Tl B w0 p r (es.set i x) (W.setCell ⟨r, i, none⟩ (ptrV q)) := by
  obtain ⟨ps, hb, hl, hh⟩ := h.bits
  have hg := grown_cell W ⟨r, i, none⟩ (ptrV q)
  have hip : i < ps.length := by rw [hl]; exact hi
  refine ⟨h.below.grown hg (Nat.le_of_lt (Nat.lt_of_le_of_lt h.hr h.rlt)) (fun k e => by cases e; exact h.hr), h.hr, h.hp, ?_, ⟨ps.set i q, ?_, ?_⟩, by simpa using h.len, by simpa using h.one⟩
  · rw [blk_far h.row h.ne, List.length_set]
  · rw [blk_set hb]
    congr 2
    simp [List.map_set]
  · have hk : Held (W.setCell ⟨r, i, none⟩ (ptrV q)) ps es := Held.kept ⟨hl, hh⟩ hg (fun b e hbe e' => (h.nb b _ hbe).2 (Option.some.inj e'))
    refine ⟨by simp [hl], fun j hj => ?_⟩
    by_cases e : j = i
    · subst e
      have e1 : (es.set j x).getD j none = x := by simp [List.getD, hi]
      have e2 : (ps.set j q).getD j none = q := by simp [List.getD, hip]
      rw [e1, e2]
      rcases hq with ⟨rfl, rfl⟩ | ⟨b, y, rfl, rfl, h3⟩
      · exact .inl ⟨rfl, rfl⟩
      · exact .inr ⟨b, y, rfl, rfl, (hg.block b (blk_lt h3) (fun e' => (h.nb b _ h3).2 (Option.some.inj e'))).trans h3⟩
    · have e1 : (es.set i x).getD j none = es.getD j none := by simp [List.getD, List.getElem?_set_ne (Ne.symm e)]
      have e2 : (ps.set i q).getD j none = ps.getD j none := by simp [List.getD, List.getElem?_set_ne (Ne.symm e)]
      rw [e1, e2]
      exact hk.2 j (by simpa using hj)
end
end Go.Proofs.Ythclbckkfgmbaaa.QTlbPlays
