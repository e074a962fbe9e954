/- What a law of frames holds beside the document's list and the runs that were taken, at all times; no conditions. -/
import Derived.Test.YtlndljgoliepdaaFrApart
import Derived.Test.YtlndljgoliepdaaFrRef2
import Derived.Maps.AppendAt
namespace Go.Proofs.Ytlndljgoliepdaa.QFramesPlays
open Go.RowKit Go.Proofs.YtlndljgoliepdaaW.PrintWords Go.Proofs.YtlndljgoliepdaaW.PrintLast Go.Proofs.YtlndljgoliepdaaW.PrintMore
set_option linter.unusedSimpArgs false
set_option linter.unusedVariables false
section
set_option maxRecDepth 100000
abbrev tv (tA : Option Addr) (tc : Nat) (tl : List (Nat × Nat)) : Value := .slice tA tl.length tc
/-- Frames (at p, r), the document's list L, the runs that were taken; boxes in X are none of theirs; since W0 nothing else has changed. -/
structure PF (w0 W0 : World) (p r : Nat) (o0 : Option Nat) (X : Nat → Prop) (ts : List Bool) (L : List Int) (A : Option Addr) (c : Nat) (tA : Option Addr) (tc : Nat) (tl : List (Nat × Nat)) (W : World) : Prop where
  fs : Fs w0.heap.size w0 p r ts W
  v : Kd.V (Kd.int .i64) 3 W 0 (fun k => k ≠ p ∧ k ≠ r ∧ some k ≠ (tv tA tc tl).ownBlock ∧ ¬ X k) (.slice A L.length c) L
  tr : TRow w0.heap.size tA tc tl W
  xs : ∀ k, X k → k ≠ p ∧ k ≠ r ∧ some k ≠ (tv tA tc tl).ownBlock ∧ w0.heap.size ≤ k ∧ k < W.heap.size
  kp : Kept W0 W (fun k => k = p ∨ k = r ∨ some k = o0)
  ow : ∀ k, (tv tA tc tl).ownBlock = some k → some k = o0 ∨ W0.heap.size ≤ k
section
variable {w0 W0 W W' : World} {p r : Nat} {o0 : Option Nat} {X : Nat → Prop} {ts : List Bool} {L : List Int} {A : Option Addr} {c : Nat} {tA : Option Addr} {tc : Nat} {tl : List (Nat × Nat)}
theorem PF.same (h : PF w0 W0 p r o0 X ts L A c tA tc tl W) (hg : W.grownBy W' none) : PF w0 W0 p r o0 X ts L A c tA tc tl W' :=
  ⟨fs_same h.fs hg, Kd.V_grown h.v hg (by simp), h.tr.same hg, fun k hk => ⟨(h.xs k hk).1, (h.xs k hk).2.1, (h.xs k hk).2.2.1, (h.xs k hk).2.2.2.1, Nat.lt_of_lt_of_le (h.xs k hk).2.2.2.2 hg.size⟩, Kept.of_grown hg h.kp (fun k e => by cases e), h.ow⟩
theorem PF.al {Y : Nat → Prop} (h : PF w0 W0 p r o0 X ts L A c tA tc tl W) (hgr : W.grownBy W' none) (hY : ∀ k, Y k → X k ∨ (W.heap.size ≤ k ∧ k < W'.heap.size)) : PF w0 W0 p r o0 Y ts L A c tA tc tl W' := by
  refine ⟨fs_same h.fs hgr, Kd.V_grown (Kd.V_mono (Kd.V_bound h.v) (fun k hk => ⟨hk.1.1, hk.1.2.1, hk.1.2.2.1, fun q => (hY k q).elim hk.1.2.2.2 (fun e => by have := hk.2; omega)⟩)) hgr (by simp), h.tr.same hgr, fun k hk => ?_, Kept.of_grown hgr h.kp (fun k e => by cases e), h.ow⟩
  rcases hY k hk with hk | ⟨hk, hlt⟩
  · exact ⟨(h.xs k hk).1, (h.xs k hk).2.1, (h.xs k hk).2.2.1, (h.xs k hk).2.2.2.1, Nat.lt_of_lt_of_le (h.xs k hk).2.2.2.2 hgr.size⟩
  · have h1 := h.fs.lt
    have h2 := h.fs.rp
    exact ⟨by omega, by omega, fun e => by have := (h.tr.own.lt k e.symm).2; omega, by have := h.fs.below.size; omega, hlt⟩
theorem PF.put (h : PF w0 W0 p r o0 X ts L A c tA tc tl W) {g : Nat} (hx : X g) (hw : W0.heap.size ≤ g) (hg : W.grownBy W' (some g)) : PF w0 W0 p r o0 X ts L A c tA tc tl W' := by
  have x := h.xs g hx
  refine ⟨h.fs.kept hg (fun e => x.1 (Option.some.inj e).symm) (fun e => x.2.1 (Option.some.inj e).symm) (fun k e => by cases e; exact x.2.2.2.1), Kd.V_grown h.v hg (fun k hk e => hk.2.2.2 (by cases e; exact hx)), ⟨?_⟩, fun k hk => ⟨(h.xs k hk).1, (h.xs k hk).2.1, (h.xs k hk).2.2.1, (h.xs k hk).2.2.2.1, Nat.lt_of_lt_of_le (h.xs k hk).2.2.2.2 hg.size⟩, Kept.of_grown hg h.kp (fun k e => by cases e; exact .inr hw), h.ow⟩
  exact h.tr.own.kept hg (Or.inr (fun e => x.2.2.1 e.symm))
theorem PF.frk {ts' : List Bool} (h : PF w0 W0 p r o0 X ts L A c tA tc tl W) (hf : Fs w0.heap.size w0 p r ts' W') (hk : FrK W p r W') : PF w0 W0 p r o0 X ts' L A c tA tc tl W' :=
  ⟨hf, Kd.V_step h.v (fun k q hlt => hk.block k hlt q.1 q.2.1), h.tr.frk h.fs hk, fun k q => ⟨(h.xs k q).1, (h.xs k q).2.1, (h.xs k q).2.2.1, (h.xs k q).2.2.2.1, Nat.lt_of_lt_of_le (h.xs k q).2.2.2.2 hk.size⟩,
    ⟨Nat.le_trans h.kp.1 hk.size, fun i hi hn => (hk.block i (Nat.lt_of_lt_of_le hi h.kp.1) (fun e => hn (.inl e)) (fun e => hn (.inr (.inl e)))).trans (h.kp.2 i hi hn)⟩, h.ow⟩
theorem PF.ref {L' : List Int} {A' : Option Addr} {c' : Nat} (h : PF w0 W0 p r o0 X ts L A c tA tc tl W) (hb : Below W.heap.size W W')
    (hv : Kd.V (Kd.int .i64) 3 W' W.heap.size (fun k => (k ≠ p ∧ k ≠ r ∧ some k ≠ (tv tA tc tl).ownBlock ∧ ¬ X k) ∨ W.heap.size ≤ k) (.slice A' L'.length c') L') : PF w0 W0 p r o0 X ts L' A' c' tA tc tl W' := by
  have hs := h.same (below_grown hb)
  have h1 := h.fs.lt
  have h2 := h.fs.rp
  exact ⟨hs.fs, Kd.V_mono hv (fun k hk => hk.elim id (fun q => ⟨by omega, by omega, fun e => by have := (h.tr.own.lt k e.symm).2; omega, fun e => by have := (h.xs k e).2.2.2.2; omega⟩)), hs.tr, hs.xs, hs.kp, hs.ow⟩
theorem PF.app {tA' : Option Addr} {tc' : Nat} {tl' : List (Nat × Nat)} (h : PF w0 W0 p r o0 X ts L A c tA tc tl W) (hown : TRow w0.heap.size tA' tc' tl' W') (hg : W.grownBy W' (tv tA tc tl).ownBlock) (ho : (tv tA' tc' tl').ownBlock = (tv tA tc tl).ownBlock ∨ (tv tA' tc' tl').ownBlock = some W.heap.size) : PF w0 W0 p r o0 X ts L A c tA' tc' tl' W' := by
  refine ⟨h.tr.fs h.fs hg, Kd.V_mono (Kd.V_grown (Kd.V_bound h.v) hg (fun k hk => hk.1.2.2.1)) (fun k hk => ⟨hk.1.1, hk.1.2.1, fun e => ?_, hk.1.2.2.2⟩), hown, fun k hk => ⟨(h.xs k hk).1, (h.xs k hk).2.1, fun e => ?_, (h.xs k hk).2.2.2.1, Nat.lt_of_lt_of_le (h.xs k hk).2.2.2.2 hg.size⟩, Kept.of_grown hg h.kp (fun k e => (h.ow k e).imp (fun q => .inr (.inr q)) id), fun k e => ?_⟩
  · rcases ho with ho | ho
    · exact hk.1.2.2.1 (e.trans ho)
    · have := Option.some.inj (e.trans ho)
      have := hk.2
      omega
  · rcases ho with ho | ho
    · exact (h.xs k hk).2.2.1 (e.trans ho)
    · have := Option.some.inj (e.trans ho)
      have := (h.xs k hk).2.2.2.2
      omega
  · rcases ho with ho | ho
    · exact h.ow k (ho.symm.trans e)
    · have := Option.some.inj (ho.symm.trans e)
      exact .inr (by have := h.kp.1; omega)
/-- A walk begins: what was before is no matter. -/
theorem PF.begin (h : PF w0 W0 p r o0 X ts L A c tA tc tl W) : PF w0 W p r (tv tA tc tl).ownBlock X ts L A c tA tc tl W := ⟨h.fs, h.v, h.tr, h.xs, Kept.refl _ _, fun k e => .inl e.symm⟩
theorem PF.drop {Y : Nat → Prop} (h : PF w0 W0 p r o0 X ts L A c tA tc tl W) (hY : ∀ k, Y k → X k) : PF w0 W0 p r o0 Y ts L A c tA tc tl W := ⟨h.fs, Kd.V_mono h.v (fun k hk => ⟨hk.1, hk.2.1, hk.2.2.1, fun q => hk.2.2.2 (hY k q)⟩), h.tr, fun k hk => h.xs k (hY k hk), h.kp, h.ow⟩
end
theorem blk_frk {W W' : World} {p r g : Nat} {o : Obj} (hb : W.heap[g]? = some o) (hk : FrK W p r W') (hn : g ≠ p ∧ g ≠ r) : W'.heap[g]? = some o := (hk.block g (blk_lt hb) hn.1 hn.2).trans hb
theorem blk_own {W W' : World} {g : Nat} {o : Obj} {row : Option Nat} (hb : W.heap[g]? = some o) (hg : W.grownBy W' row) (hn : some g ≠ row) : W'.heap[g]? = some o := (hg.block g (blk_lt hb) hn).trans hb
/-- No run that was taken is great. -/
def Low (tl : List (Nat × Nat)) : Prop := ∀ x ∈ tl, x.1 ≤ 65536 ∧ x.2 ≤ 65536
theorem Low.snoc {tl : List (Nat × Nat)} (h : Low tl) {x n : Nat} (hx : x ≤ 65536) (hn : n ≤ 65536) : Low (tl ++ [(x, n)]) := fun y hy => by
  rcases List.mem_append.1 hy with hy | hy
  · exact h y hy
  · simp at hy
    subst hy
    exact ⟨hx, hn⟩
/-- Behind a deed. -/
def DidF (w0 W0 : World) (p r n m : Nat) (X : Nat → Prop) (o0 : Option Nat) (e : Ending) (W' : World) : Prop :=
  ∃ ts A c tA tc tl, e = .returned (.tuple #[.agg #[.int .i64 n, .slice A (tk ts).length c], .slice tA tl.length tc, .bool true]) ∧ PF w0 W0 p r o0 X ts (tk ts) A c tA tc tl W' ∧ ts.length = n ∧ tl.length ≤ m + 1 ∧ Low tl
end
end Go.Proofs.Ytlndljgoliepdaa.QFramesPlays
