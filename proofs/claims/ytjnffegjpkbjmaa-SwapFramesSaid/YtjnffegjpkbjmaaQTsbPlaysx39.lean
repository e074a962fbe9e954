import Derived.Test.YtjnffegjpkbjmaaQTsbPlaysx20
namespace Go.Proofs.Ytjnffegjpkbjmaa.QTsbPlays
open Go.RowKit Go.Proofs.YtjnffegjpkbjmaaW.PrintWords Go.Proofs.YtjnffegjpkbjmaaW.PrintLast Go.Proofs.YtjnffegjpkbjmaaW.PrintMore
set_option linter.unusedVariables false
set_option linter.unusedSimpArgs false
theorem info4 : (Try.prog.info? 4).map (fun i => (i.zero, i.size, i.bytes)) = some (some (.bool false), 1, 1) := by kernel_rfl
/-- A state of type 93 at block g of W; what its slices lead to came in by w0. -/
def IsS93 (w0 W : World) (g : Nat) (f0 : List Bool) (f1 : Int) : Prop := ∃ A0 c0, W.heap[g]? = some (.cells #[.slice A0 f0.length c0, .int .i64 f1] 93 (0, 0)) ∧ (w0.heap.size ≤ g ∧ A0 = some ⟨w0.heap.size - 1, 0, none⟩ ∧ c0 = f0.length) ∧ Kd.C Kd.bool w0 A0 f0.length f0
theorem IsS93.grown {w0 W : World} {g : Nat} {f0 : List Bool} {f1 : Int} {W1 : World} {row : Option Nat} (h : IsS93 w0 W g f0 f1) (hw : W.grownBy W1 row) (hne : some g ≠ row) : IsS93 w0 W1 g f0 f1 := by
  obtain ⟨A0, c0, hb, hg, hr0⟩ := h
  exact ⟨A0, c0, blk_grown hb hw hne, hg, hr0⟩
theorem IsS93.kept {w0 W : World} {g : Nat} {f0 : List Bool} {f1 : Int} {W1 : World} {S : Nat → Prop} (h : IsS93 w0 W g f0 f1) (hk : Kept W W1 S) (hne : ¬ S g) : IsS93 w0 W1 g f0 f1 := by
  obtain ⟨A0, c0, hb, hg, hr0⟩ := h
  exact ⟨A0, c0, blk_kept hb hk hne, hg, hr0⟩
theorem IsS93.below {w0 W : World} {g : Nat} {f0 : List Bool} {f1 : Int} {W1 : World} (h : IsS93 w0 W g f0 f1) (hw : Below W.heap.size W W1) : IsS93 w0 W1 g f0 f1 := h.grown (grown_of_below hw none) (by simp)
theorem IsS93.alloc {w0 W : World} {g : Nat} {f0 : List Bool} {f1 : Int} (h : IsS93 w0 W g f0 f1) (o : Obj) : IsS93 w0 (W.alloc o) g f0 f1 := h.below (below_alloc (Below.refl _ _) o)
theorem IsS93.drewN {w0 W : World} {g : Nat} {f0 : List Bool} {f1 : Int} (h : IsS93 w0 W g f0 f1) (m : Nat) : IsS93 w0 (W.drewN m) g f0 f1 := h
theorem IsS93.drew {w0 W : World} {g : Nat} {f0 : List Bool} {f1 : Int} (h : IsS93 w0 W g f0 f1) : IsS93 w0 W.drew g f0 f1 := h
theorem IsS93.at_ {w0 W : World} {g : Nat} {f0 : List Bool} {f1 : Int} {w' : World} {m : Nat} (hq : W.drewN m = w') (h : IsS93 w0 W g f0 f1) : IsS93 w0 w' g f0 f1 := by subst hq; exact IsS93.drewN h m
theorem IsS93.apart {w0 W : World} {g : Nat} {f0 : List Bool} {f1 : Int} {α : Type} {d : Kd α} {e : Nat} {base : Nat} {ok : Nat → Prop} {v : Value} {xs : List α} (h : IsS93 w0 W g f0 f1) (ho : d.R e W base ok v xs) (ht : ∀ q, q ∈ e :: d.E → q ≠ 93) : d.R e W base (fun k => ok k ∧ k ≠ g) v xs := by
  obtain ⟨A0, c0, hb, hg, hr0⟩ := h
  exact Kd.R_types ho hb ht
theorem IsS93.own_ne {w0 W : World} {g : Nat} {f0 : List Bool} {f1 : Int} {α : Type} {d : Kd α} {e : Nat} {base : Nat} {ok : Nat → Prop} {v : Value} {xs : List α} (h : IsS93 w0 W g f0 f1) (ho : d.R e W base ok v xs) (ht : e ≠ 93) : some g ≠ v.ownBlock := by
  obtain ⟨A0, c0, hb, hg, hr0⟩ := h
  exact Kd.R_ne ho hb ht
theorem IsS93.lt {w0 W : World} {g : Nat} {f0 : List Bool} {f1 : Int} (h : IsS93 w0 W g f0 f1) : g < W.heap.size := by
  obtain ⟨A0, c0, hb, hg, hr0⟩ := h
  exact blk_lt hb
theorem IsS93.ge {w0 W : World} {g : Nat} {f0 : List Bool} {f1 : Int} (h : IsS93 w0 W g f0 f1) : w0.heap.size ≤ g := by
  obtain ⟨A0, c0, hb, hg, hr0⟩ := h
  exact hg.1
theorem IsS93.far {w0 W : World} {g : Nat} {f0 : List Bool} {f1 : Int} {p : Addr} (h : IsS93 w0 W g f0 f1) (hne : g ≠ p.block) (u : Value) : IsS93 w0 (W.setCell p u) g f0 f1 := by
  obtain ⟨A0, c0, hb, hg, hr0⟩ := h
  exact ⟨A0, c0, blk_far hb hne u, hg, hr0⟩
theorem cellS93_0 {W : World} {g : Nat} {A0 : Option Addr} {c0 : Nat} {f0 : List Bool} {f1 : Int} (h : W.heap[g]? = some (.cells #[.slice A0 f0.length c0, .int .i64 f1] 93 (0, 0))) : W.cell? ⟨g, 0, none⟩ = some (.slice A0 f0.length c0) := (blk_cell h 0).trans rfl
theorem cellS93_1 {W : World} {g : Nat} {A0 : Option Addr} {c0 : Nat} {f0 : List Bool} {f1 : Int} (h : W.heap[g]? = some (.cells #[.slice A0 f0.length c0, .int .i64 f1] 93 (0, 0))) : W.cell? ⟨g, 1, none⟩ = some (.int .i64 f1) := (blk_cell h 1).trans rfl
theorem IsS93.set_1 {w0 W : World} {g : Nat} {f0 : List Bool} {f1 : Int} (h : IsS93 w0 W g f0 f1) (x : Int) : IsS93 w0 (W.setCell ⟨g, 1, none⟩ (.int .i64 x)) g f0 x := by
  obtain ⟨A0, c0, hb, hg, hr0⟩ := h
  exact ⟨A0, c0, by simpa using blk_set hb 1 (.int .i64 x), hg, hr0⟩

end Go.Proofs.Ytjnffegjpkbjmaa.QTsbPlays
