/- A TSB by its words: which words stand at its places, and what its deeds make of them. -/
import Derived.Test.YtjnffegjpkbjmaaTs14
import Derived.Test.YtjnffegjpkbjmaaPureTsb
namespace Go.Proofs.Ytjnffegjpkbjmaa.Mem
open Go.RowKit Go.Maps Go.Proofs.YtjnffegjpkbjmaaW.PrintWords Go.Proofs.YtjnffegjpkbjmaaW.PrintLast Go.Proofs.YtjnffegjpkbjmaaW.PrintMore Go.Proofs.Ytjnffegjpkbjmaa.QTsbPlays Go.Proofs.Ytjnffegjpkbjmaa.Pure
set_option linter.unusedSimpArgs false
set_option linter.unusedVariables false
section
set_option maxHeartbeats 1000000
set_option maxRecDepth 100000
theorem qst_isMap {D : DataW Unit} (h : IsMap D) (k v : Int) : IsMap (st D k v) := by unfold st; split; exact h.del _; exact h.put _ _
theorem qrd_same {D : DataW Unit} (h : IsMap D) (k v : Int) : rd (st D k v) k = v := by
  unfold rd st
  by_cases hv : v = 0
  · rw [if_pos hv, atKey_del_same, hv]
  · rw [if_neg hv, atKey_put_same h (by trivial)]
theorem qrd_other {D : DataW Unit} {k k' : Int} (hne : k' ≠ k) (v : Int) : rd (st D k v) k' = rd D k' := by
  have h : Lit.int .u64 k' ≠ Lit.int .u64 k := fun e => hne (by injection e)
  unfold rd st
  by_cases hv : v = 0
  · rw [if_pos hv, atKey_del_other h]
  · rw [if_neg hv, atKey_put_other h]
/-- Words are put at places of a range, one by one. -/
inductive Sts (lo hi : Int) (D : DataW Unit) : DataW Unit → Prop
  | refl : Sts lo hi D D
  | st {E : DataW Unit} (h : Sts lo hi D E) (k v : Int) (hk : lo ≤ k ∧ k < hi) (hv : (Lit.int .u64 v).wf = true) : Sts lo hi D (st E k v)
theorem Sts.t {lo hi D E F} (h : Sts lo hi D E) (k : Sts lo hi E F) : Sts lo hi D F := by
  induction k with
  | refl => exact h
  | st _ a b hk hv ih => exact ih.st a b hk hv
theorem Sts.isMap {lo hi D E} (h : Sts lo hi D E) (hD : IsMap D) : IsMap E := by
  induction h with
  | refl => exact hD
  | st _ a b hk hv ih => exact qst_isMap ih a b
theorem Sts.out {lo hi D E} (h : Sts lo hi D E) {k : Int} (hk : k < lo ∨ hi ≤ k) : rd E k = rd D k := by
  induction h with
  | refl => rfl
  | st _ a b hr hv ih => rw [qrd_other (by omega), ih]
abbrev Wd := Nat × Nat
def BADW : Nat := 9223372036854775807
/-- A TSB's numbers. -/
structure TB (base N s : Nat) (sz : Int) : Prop where
  hs : s < 4
  h1 : 1 ≤ N
  hN : N ≤ 4096
  hb : base % 16 = 0
  hsz : (base : Int) + 16 * N ≤ sz
  hz : sz ≤ 2199023255552
  hq : N % (4194304 / bytesOf (s : Int)) = 0
/-- These words stand at a TSB's places. -/
structure Holds (D : DataW Unit) (base N s : Nat) (ws : Nat → Wd) : Prop where
  map : IsMap D
  tag : ∀ i, i < N → rd D (((base + 16 * i : Nat) : Int) / 8) = ((ws i).1 : Int)
  data : ∀ i, i < N → rd D (((base + 16 * i : Nat) : Int) / 8 + 1) = ((ws i).2 : Int)
  lt : ∀ i, i < N → (ws i).1 < 18446744073709551616 ∧ (ws i).2 < 18446744073709551616
  size : ∀ i, i < N → (ws i).2 = 0 ∨ sOf (ws i).2 = s
/-- What Clear leaves. -/
theorem clear_holds {base N s : Nat} {sz : Int} (b : TB base N s sz) : ∀ (xs : List Nat) (D : DataW Unit), IsMap D → (∀ x ∈ xs, x < N) →
    Sts (base / 8) ((base : Int) / 8 + 2 * N) D (clearD D base xs) ∧ ∀ j, rd (clearD D base xs) (((base + 16 * j : Nat) : Int) / 8) = (if j ∈ xs then (BADW : Int) else rd D (((base + 16 * j : Nat) : Int) / 8)) ∧ rd (clearD D base xs) (((base + 16 * j : Nat) : Int) / 8 + 1) = (if j ∈ xs then 0 else rd D (((base + 16 * j : Nat) : Int) / 8 + 1))
  | [], D, hD, hx => ⟨.refl, fun j => ⟨(if_neg (by simp)).symm, (if_neg (by simp)).symm⟩⟩
  | x :: xs, D, hD, hx => by
    have hb := b.hb
    have hxN : x < N := hx x (by simp)
    have s0 : Sts (base / 8) ((base : Int) / 8 + 2 * N) D (st (st D (((base : Int) + 16 * (x : Nat)) / 8) 9223372036854775807) (((base : Int) + 16 * (x : Nat)) / 8 + 1) 0) :=
      (Sts.refl.st _ _ (by omega) (by decide)).st _ _ (by omega) (by decide)
    obtain ⟨h1, h2⟩ := clear_holds b xs _ (s0.isMap hD) (fun y hy => hx y (by simp [hy]))
    refine ⟨s0.t h1, fun j => ?_⟩
    obtain ⟨h3, h4⟩ := h2 j
    have hc : clearD D base (x :: xs) = clearD (st (st D (((base : Int) + 16 * (x : Nat)) / 8) 9223372036854775807) (((base : Int) + 16 * (x : Nat)) / 8 + 1) 0) base xs := rfl
    rw [hc, h3, h4]
    by_cases e : j ∈ xs
    · rw [if_pos e, if_pos e, if_pos (by simp [e]), if_pos (by simp [e])]
      exact ⟨rfl, rfl⟩
    · rw [if_neg e, if_neg e]
      by_cases e2 : j = x
      · subst e2
        rw [if_pos (by simp), if_pos (by simp), qrd_other (by omega), show ((base + 16 * j : Nat) : Int) / 8 = ((base : Int) + 16 * (j : Nat)) / 8 by omega, qrd_same hD, qrd_same (qst_isMap hD _ _)]
        exact ⟨rfl, rfl⟩
      · rw [if_neg (by simp [e, e2]), if_neg (by simp [e, e2]), qrd_other (by omega), qrd_other (by omega), qrd_other (by omega), qrd_other (by omega)]
        exact ⟨rfl, rfl⟩
theorem cleared {base N s : Nat} {sz : Int} (b : TB base N s sz) (D : DataW Unit) (hD : IsMap D) : Holds (clearD D base (List.range N)) base N s (fun _ => (BADW, 0)) := by
  obtain ⟨h1, h2⟩ := clear_holds b (List.range N) D hD (fun x hx => List.mem_range.1 hx)
  refine ⟨h1.isMap hD, fun i hi => ?_, fun i hi => ?_, fun i hi => ⟨by decide, by decide⟩, fun i hi => .inl rfl⟩
  · rw [(h2 i).1, if_pos (List.mem_range.2 hi)]
  · rw [(h2 i).2, if_pos (List.mem_range.2 hi)]; rfl
section
variable {base N s : Nat} {sz : Int}
theorem TB.in (b : TB base N s sz) (va : Nat) : plcOf N (s : Int) va < N := plcOf_lt b.h1 _ _
end
/-- An entry's cells. -/
abbrev geA (e : GE) : Array Value := #[.int .i64 (e.s : Int), .int .i64 (e.c : Int), .int .u64 (e.v : Int), .int .u64 (e.p : Int), .bool e.w, .bool e.pr, .bool e.x, .bool e.l, .bool e.g, .bool e.q, .bool true]
/-- What stands at a place: an entry's words, or a locked tag. -/
inductive Is (N s i : Nat) (w : Wd) : Option GE → Prop
  | lock (h : w.1 = BADW) : Is N s i w none
  | ent (g : GE) (hg : g.ok) (hs : g.s = s) (hi : plcOf N s g.v = i) (h : w = (g.tag, g.data)) : Is N s i w (some g)
end
end Go.Proofs.Ytjnffegjpkbjmaa.Mem
