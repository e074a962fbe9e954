/- Where a TSB may be, as the program and the document tell it, at whatever numbers. -/
import Derived.Test.YtjnffegjpkbjmaaPureTsb
import Derived.Test.YtjnffegjpkbjmaaQTsbPlaysx32
set_option linter.unusedVariables false
set_option linter.unusedSimpArgs false
namespace Go.Proofs.Ytjnffegjpkbjmaa.Pure
open Go.RowKit Go.Proofs.Ytjnffegjpkbjmaa.QTsbPlays Go.Proofs.YtjnffegjpkbjmaaW.PrintWords Go.Proofs.YtjnffegjpkbjmaaW.PrintLast Go.Proofs.YtjnffegjpkbjmaaW.PrintMore
/-- How many places, at whatever size and grade. -/
def plcW (s g : Int) : Nat := if okSize s ∧ 0 ≤ g ∧ g < 4 then plcs s.toNat g.toNat else 0
theorem pPlacesA (s g : Int) : tsb_Places.f s g = some (plcW s g : Int) := by
  by_cases h : okSize s ∧ 0 ≤ g ∧ g < 4
  · obtain ⟨h1, h2, h3⟩ := h
    have h1' := h1
    unfold okSize at h1'
    have e := pPlaces s.toNat g.toNat (by omega) (by omega)
    rw [show ((s.toNat : Nat) : Int) = s by omega, show ((g.toNat : Nat) : Int) = g by omega] at e
    rw [e]
    unfold plcW
    rw [if_pos ⟨h1, h2, h3⟩]
  · unfold plcW
    rw [if_neg h]
    unfold tsb_Places.f
    rw [pMay, Option.bind_some]
    by_cases h1 : okSize s
    · rw [if_pos (decide_eq_true h1)]
      by_cases h2 : g < 0
      · rw [if_pos h2]; rfl
      · rw [if_neg h2, if_pos (by have : ¬ g < 4 := fun h3 => h ⟨h1, by omega, h3⟩; omega)]; rfl
    · rw [if_neg (by simpa using h1)]; rfl
theorem rPlacesA (s g : Int) : lookasideref10_Places.f s g = some (plcW s g : Int) := by
  by_cases h : okSize s ∧ 0 ≤ g ∧ g < 4
  · obtain ⟨h1, h2, h3⟩ := h
    have h1' := h1
    unfold okSize at h1'
    have e := rPlaces s.toNat g.toNat (by omega) (by omega)
    rw [show ((s.toNat : Nat) : Int) = s by omega, show ((g.toNat : Nat) : Int) = g by omega] at e
    rw [e]
    unfold plcW
    rw [if_pos ⟨h1, h2, h3⟩]
  · unfold plcW
    rw [if_neg h]
    unfold lookasideref10_Places.f
    rw [rMay, Option.bind_some]
    by_cases h1 : okSize s
    · rw [if_pos (decide_eq_true h1)]
      by_cases h2 : g < 0
      · rw [if_pos h2]; rfl
      · rw [if_neg h2, if_pos (by have : ¬ g < 4 := fun h3 => h ⟨h1, by omega, h3⟩; omega)]; rfl
    · rw [if_neg (by simpa using h1)]; rfl
theorem plcW_le (s g : Int) : plcW s g ≤ 4096 := by
  unfold plcW
  split
  · rename_i h
    have h1 := h.1
    unfold okSize at h1
    exact (plcs_le s.toNat g.toNat (by omega) (by omega)).2
  · omega
end Go.Proofs.Ytjnffegjpkbjmaa.Pure
