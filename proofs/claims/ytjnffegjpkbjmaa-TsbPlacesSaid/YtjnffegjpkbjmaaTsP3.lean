/- Where a TSB may be, as the program and the document tell it, at whatever numbers. -/
import Derived.Test.YtjnffegjpkbjmaaPureTsb
import Derived.Test.YtjnffegjpkbjmaaQTsbPlaysx32
set_option linter.unusedVariables false
set_option linter.unusedSimpArgs false
namespace Go.Proofs.Ytjnffegjpkbjmaa.Pure
open Go.RowKit Go.Proofs.Ytjnffegjpkbjmaa.QTsbPlays Go.Proofs.YtjnffegjpkbjmaaW.PrintWords Go.Proofs.YtjnffegjpkbjmaaW.PrintLast Go.Proofs.YtjnffegjpkbjmaaW.PrintMore
/-- How many places, at whatever size and grade. -/
def plcW (s g : Int) : Nat := if okSize s ∧ 0 ≤ g ∧ g < 4 then plcs s.toNat g.toNat else 0
theorem pPlacesA (s g : Int) : tsb_Places.f s g = some (plcW s g : Int) := by
  by_cases h : okSize s ∧ 0 ≤ g ∧ g < 4
  · obtain ⟨h1, h2, h3⟩ := h
    have h1' := h1
    unfold okSize at h1'
    have e := pPlaces s.toNat g.toNat (by omega) (by omega)
    rw [show ((s.toNat : Nat) : Int) = s by omega, show ((g.toNat : Nat) : Int) = g by omega] at e
    rw [e]
    unfold plcW
    rw [if_pos ⟨h1, h2, h3⟩]
  · unfold plcW
    rw [if_neg h]
    unfold tsb_Places.f
    rw [pMay, Option.bind_some]
    by_cases h1 : okSize s
    · rw [if_pos (decide_eq_true h1)]
      by_cases h2 : g < 0
      · rw [if_pos h2]; rfl
      · rw [if_neg h2, if_pos (by have : ¬ g < 4 := fun h3 => h ⟨h1, by omega, h3⟩; omega)]; rfl
    · rw [if_neg (by simpa using h1)]; rfl
theorem rPlacesA (s g : Int) : lookasideref10_Places.f s g = some (plcW s g : Int) := by
  by_cases h : okSize s ∧ 0 ≤ g ∧ g < 4
  · obtain ⟨h1, h2, h3⟩ := h
    have h1' := h1
    unfold okSize at h1'
    have e := rPlaces s.toNat g.toNat (by omega) (by omega)
    rw [show ((s.toNat : Nat) : Int) = s by omega, show ((g.toNat : Nat) : Int) = g by omega] at e
    rw [e]
    unfold plcW
    rw [if_pos ⟨h1, h2, h3⟩]
  · unfold plcW
    rw [if_neg h]
    unfold lookasideref10_Places.f
    rw [rMay, Option.bind_some]
    by_cases h1 : okSize s
    · rw [if_pos (decide_eq_true h1)]
      by_cases h2 : g < 0
      · rw [if_pos h2]; rfl
      · rw [if_neg h2, if_pos (by have : ¬ g < 4 := fun h3 => h ⟨h1, by omega, h3⟩; omega)]; rfl
    · rw [if_neg (by simpa using h1)]; rfl
theorem plcW_le (s g : Int) : plcW s g ≤ 4096 := by
  unfold plcW
  split
  · rename_i h
    have h1 := h.1
    unfold okSize at h1
    exact (plcs_le s.toNat g.toNat (by omega) (by omega)).2
  · omega
theorem plcW_pos {s g : Int} (h : plcW s g ≠ 0) : ∃ a b : Nat, a < 4 ∧ b < 4 ∧ s = (a : Int) ∧ g = (b : Int) ∧ plcW s g = plcs a b := by
  unfold plcW at h ⊢
  split at h
  · rename_i hh
    have h1 := hh.1
    unfold okSize at h1
    refine ⟨s.toNat, g.toNat, by omega, by omega, by omega, by omega, ?_⟩
    rw [if_pos hh]
  · exact absurd rfl h
/-- Why a TSB may not be. -/
def whyOf (sz base n : Nat) : Int := if n = 0 then 1 else if base % 16 ≠ 0 then 4 else if 16 * n > sz ∨ base > sz - 16 * n then 5 else 0
theorem rWhy (sz base : Nat) (hsz : sz < 18446744073709551616) (hb : base < 18446744073709551616) (s g : Int) : lookasideref10_Why.f (sz : Int) (base : Int) s g = some (whyOf sz base (plcW s g)) := by
  have hn := plcW_le s g
  unfold lookasideref10_Why.f
  rw [rPlacesA, Option.bind_some]
  generalize plcW s g = n at hn ⊢
  unfold whyOf
  by_cases h0 : n = 0
  · rw [if_pos (by omega), if_pos h0]
  · rw [if_neg (by omega), if_neg h0, show Int.tmod (base : Int) 16 = ((base % 16 : Nat) : Int) from rfl]
    by_cases h1 : base % 16 = 0
    · rw [if_pos (by omega), if_neg (show ¬ (base % 16 ≠ 0) by omega)]
      have e1 : wrap64 (16 * (n : Int)) = ((16 * n : Nat) : Int) := by unfold wrap64; omega
      have e2 : IntKind.u64.wrap ((16 * n : Nat) : Int) = ((16 * n : Nat) : Int) := m_wu _ (by omega)
      rw [e1, e2]
      by_cases h2 : 16 * n > sz
      · rw [if_pos (by omega), if_pos (.inl h2)]
      · rw [if_neg (by omega)]
        have e3 : IntKind.u64.wrap ((sz : Int) - ((16 * n : Nat) : Int)) = ((sz - 16 * n : Nat) : Int) := by rw [IntKind.wrap_u64]; omega
        rw [e3]
        by_cases h3 : base > sz - 16 * n
        · rw [if_pos (by omega), if_pos (.inr h3)]
        · rw [if_neg (by omega), if_neg (by omega)]
    · rw [if_neg (by omega), if_pos (by omega)]
end Go.Proofs.Ytjnffegjpkbjmaa.Pure
