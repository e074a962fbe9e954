/- For every two numbers and every access, a fault's trap, type and word, and the worse of two, is the document's; no conditions. -/
import Derived.Test.YtedjiicaikhcbaaQFaultTellsx3
import Derived.Laws.BitsAllLaws
import Derived.Laws.Bits64
set_option linter.unusedVariables false
set_option linter.unusedSimpArgs false
namespace Go.Proofs.Ytedjiicaikhcbaa.Pure
open Go.RowKit Go.Proofs.Ytedjiicaikhcbaa.QFaultTells Go.Proofs.YtedjiicaikhcbaaW.PrintWords Go.Proofs.YtedjiicaikhcbaaW.PrintLast Go.Proofs.YtedjiicaikhcbaaW.PrintMore

theorem fliv10 : lookasidelaw09_lives.f 10 = some true := by decide +kernel
theorem fliv (k : Nat) (hk : 10 ≤ k) : lookasidelaw09_lives.f k = some true := at_rounds lookasidelaw09_lives.mono hk fliv10

/-- A number is one of the kinds, or none. -/
theorem seven (n : Int) : n = 0 ∨ n = 1 ∨ n = 2 ∨ n = 3 ∨ n = 4 ∨ n = 5 ∨ n = 6 ∨ n < 0 ∨ 6 < n := by omega
theorem of_none (n : Int) (h : n < 0 ∨ 6 < n) : fault_of.f n = some (⟨#[]⟩, 0, 0, 0, 0) := by
  unfold fault_of.f
  rw [if_neg (by omega), if_neg (by omega), if_neg (by omega), if_neg (by omega), if_neg (by omega), if_neg (by omega), if_neg (by omega)]
theorem trap_same (n kind : Int) (priv : Bool) (va : Int) (k : Nat) (hk : 10 ≤ k) : ∃ v, fault_Trap.f n kind priv va = some v ∧ lookasideref09_Trap.f k n kind priv va = some v := by
  obtain ⟨k, rfl⟩ : ∃ m, k = m + 1 := ⟨k - 1, by omega⟩
  unfold fault_Trap.f lookasideref09_Trap.f
  by_cases h2 : kind = 2
  · rcases seven n with rfl | rfl | rfl | rfl | rfl | rfl | rfl | h
    · simp [h2, fault_of.f, lookasideref09_Trap.j0]
    · simp [h2, fault_of.f, lookasideref09_Trap.j0]
    · simp [h2, fault_of.f, lookasideref09_Trap.j0]
    · simp [h2, fault_of.f, lookasideref09_Trap.j0]
    · simp [h2, fault_of.f, lookasideref09_Trap.j0]
    · simp [h2, fault_of.f, lookasideref09_Trap.j0]
    · simp [h2, fault_of.f, lookasideref09_Trap.j0]
    · have e1 : ¬ n = 1 := by omega
      have e2 : ¬ n = 2 := by omega
      have e3 : ¬ n = 3 := by omega
      have e4 : ¬ n = 4 := by omega
      have e5 : ¬ n = 5 := by omega
      have e6 : ¬ n = 6 := by omega
      rw [of_none n (by omega)]; simp [h2, e1, e2, e3, e4, e5, e6, lookasideref09_Trap.j0]
  · rcases seven n with rfl | rfl | rfl | rfl | rfl | rfl | rfl | h
    · simp [h2, fault_of.f, lookasideref09_Trap.j0]
    · simp [h2, fault_of.f, lookasideref09_Trap.j0]
    · simp [h2, fault_of.f, lookasideref09_Trap.j0]
    · simp [h2, fault_of.f, lookasideref09_Trap.j0]
    · simp [h2, fault_of.f, lookasideref09_Trap.j0]
    · simp [h2, fault_of.f, lookasideref09_Trap.j0]
    · simp [h2, fault_of.f, lookasideref09_Trap.j0]
    · have e1 : ¬ n = 1 := by omega
      have e2 : ¬ n = 2 := by omega
      have e3 : ¬ n = 3 := by omega
      have e4 : ¬ n = 4 := by omega
      have e5 : ¬ n = 5 := by omega
      have e6 : ¬ n = 6 := by omega
      rw [of_none n (by omega)]; simp [h2, e1, e2, e3, e4, e5, e6, lookasideref09_Trap.j0]
theorem type_same (n : Int) : ∃ v, fault_Type.f n = some v ∧ lookasideref09_Type.f n = some v := by
  unfold fault_Type.f lookasideref09_Type.f
  rcases seven n with rfl | rfl | rfl | rfl | rfl | rfl | rfl | h
  · simp [fault_of.f]
  · simp [fault_of.f]
  · simp [fault_of.f]
  · simp [fault_of.f]
  · simp [fault_of.f]
  · simp [fault_of.f]
  · simp [fault_of.f]
  · rw [of_none n (by omega), if_neg (by omega), if_neg (by omega), if_neg (by omega), if_neg (by omega)]; simp
theorem show_same (n : Int) : ∃ v, fault_Show.f n = some v ∧ lookasideref09_Show.f n = some v := by
  unfold fault_Show.f lookasideref09_Show.f
  rcases seven n with rfl | rfl | rfl | rfl | rfl | rfl | rfl | h
  · exact ⟨_, rfl, rfl⟩
  · exact ⟨_, rfl, rfl⟩
  · exact ⟨_, rfl, rfl⟩
  · exact ⟨_, rfl, rfl⟩
  · exact ⟨_, rfl, rfl⟩
  · exact ⟨_, rfl, rfl⟩
  · exact ⟨_, rfl, rfl⟩
  · rw [of_none n (by omega)]
    refine ⟨_, rfl, ?_⟩
    rw [Option.bind_some]
    rcases h with h | h
    · rw [if_pos h]
    · rw [if_neg (by omega), if_pos h]
/-- How bad a kind is. -/
def badOf (n : Int) : Int := if n = 1 then 6 else if n = 2 then 5 else if n = 3 then 4 else if n = 4 then 3 else if n = 5 then 2 else if n = 6 then 1 else 0
theorem of_bad (n : Int) : ∃ b x y z, fault_of.f n = some (b, x, y, z, badOf n) := by
  rcases seven n with rfl | rfl | rfl | rfl | rfl | rfl | rfl | h
  · exact ⟨_, _, _, _, rfl⟩
  · exact ⟨_, _, _, _, rfl⟩
  · exact ⟨_, _, _, _, rfl⟩
  · exact ⟨_, _, _, _, rfl⟩
  · exact ⟨_, _, _, _, rfl⟩
  · exact ⟨_, _, _, _, rfl⟩
  · exact ⟨_, _, _, _, rfl⟩
  · refine ⟨⟨#[]⟩, 0, 0, 0, ?_⟩
    rw [of_none n h]; unfold badOf
    rw [if_neg (by omega), if_neg (by omega), if_neg (by omega), if_neg (by omega), if_neg (by omega), if_neg (by omega)]
theorem bad_is (n : Int) : (1 ≤ n ∧ n ≤ 6 ∧ badOf n = 7 - n) ∨ ((n < 1 ∨ 6 < n) ∧ badOf n = 0) := by
  unfold badOf
  rcases seven n with rfl | rfl | rfl | rfl | rfl | rfl | rfl | h
  · simp
  · simp
  · simp
  · simp
  · simp
  · simp
  · simp
  · rw [if_neg (by omega), if_neg (by omega), if_neg (by omega), if_neg (by omega), if_neg (by omega), if_neg (by omega)]; omega
theorem worse_same (n m : Int) (k : Nat) (hk : 10 ≤ k) : ∃ v, fault_Worse.f n m = some v ∧ lookasideref09_Worse.f k n m = some v := by
  obtain ⟨k, rfl⟩ : ∃ m, k = m + 1 := ⟨k - 1, by omega⟩
  obtain ⟨b1, x1, y1, z1, h1⟩ := of_bad n
  obtain ⟨b2, x2, y2, z2, h2⟩ := of_bad m
  have c1 := bad_is n
  have c2 := bad_is m
  unfold fault_Worse.f lookasideref09_Worse.f
  rw [h1, h2]
  simp only [Option.bind_some, lookasideref09_Worse.j0]
  by_cases m1 : m < 1
  · rw [if_pos m1, if_pos trivial, if_neg (show ¬ badOf m > badOf n by omega)]; exact ⟨_, rfl, rfl⟩
  · rw [if_neg m1]
    by_cases m2 : m > 6
    · rw [decide_eq_true m2, if_pos (show true = true from rfl), if_neg (show ¬ badOf m > badOf n by omega)]; exact ⟨_, rfl, rfl⟩
    · rw [decide_eq_false m2, if_neg (show ¬ (false = true) by decide)]
      by_cases n1 : n < 1
      · rw [if_pos n1, if_pos (show badOf m > badOf n by omega)]; exact ⟨_, rfl, rfl⟩
      · rw [if_neg n1]
        by_cases n2 : n > 6
        · rw [if_pos n2, if_pos (show badOf m > badOf n by omega)]; exact ⟨_, rfl, rfl⟩
        · rw [if_neg n2]
          by_cases mn : m < n
          · rw [if_pos mn, if_pos (show badOf m > badOf n by omega)]; exact ⟨_, rfl, rfl⟩
          · rw [if_neg mn, if_neg (show ¬ badOf m > badOf n by omega)]; exact ⟨_, rfl, rfl⟩
theorem tells_l1 (xs : List Int) (hx : xs.length = 4) (i n kind : Int) (priv : Bool) (va : Int) (d : Nat) : ∀ (j k : Nat), j + d = 4 → 20 + d < k →
    lookasidelaw09_FaultTells.l1 k xs i n (j : Int) kind priv va = lookasidelaw09_FaultTells.l0 (k - d - 1) xs (wrap64 (i + 1)) kind priv va := by
  induction d with
  | zero =>
    intro j k hj hk
    obtain ⟨k, rfl⟩ : ∃ m, k = m + 1 := ⟨k - 1, by omega⟩
    rw [lookasidelaw09_FaultTells.l1, if_neg (by omega)]; rfl
  | succ d ih =>
    intro j k hj hk
    obtain ⟨k, rfl⟩ : ∃ m, k = m + 1 := ⟨k - 1, by omega⟩
    obtain ⟨v, h1, h2⟩ := worse_same n (rd xs (j : Int)) k (by omega)
    have e3 : wrap64 ((j : Int) + 1) = ((j + 1 : Nat) : Int) := by unfold wrap64; omega
    have hj1 : (j : Int) < 4 := by omega
    have hj2 : (j : Int) < (xs.length : Int) := by omega
    have ih' := ih (j + 1) k (by omega) (by omega)
    rw [lookasidelaw09_FaultTells.l1, if_pos hj1, if_pos (Int.natCast_nonneg j), if_pos hj2, h1, h2, Option.bind_some, Option.bind_some, if_pos rfl, e3, ih']
    rw [show k + 1 - (d + 1) - 1 = k - d - 1 by omega]
theorem tells_l0 (xs : List Int) (hx : xs.length = 4) (kind : Int) (priv : Bool) (va : Int) (d : Nat) : ∀ (i k : Nat), i + d = 4 → 100 + 10 * d < k →
    lookasidelaw09_FaultTells.l0 k xs (i : Int) kind priv va = some true := by
  induction d with
  | zero =>
    intro i k hi hk
    obtain ⟨k, rfl⟩ : ∃ m, k = m + 1 := ⟨k - 1, by omega⟩
    rw [lookasidelaw09_FaultTells.l0, if_neg (by omega), fliv k (by omega)]; rfl
  | succ d ih =>
    intro i k hi hk
    obtain ⟨k, rfl⟩ : ∃ m, k = m + 2 := ⟨k - 2, by omega⟩
    obtain ⟨v1, a1, b1⟩ := trap_same (rd xs (i : Int)) kind priv va (k + 1) (by omega)
    obtain ⟨v2, a2, b2⟩ := type_same (rd xs (i : Int))
    obtain ⟨v3, a3, b3⟩ := show_same (rd xs (i : Int))
    have e3 : wrap64 ((i : Int) + 1) = ((i + 1 : Nat) : Int) := by unfold wrap64; omega
    have hi1 : (i : Int) < 4 := by omega
    have hi2 : (i : Int) < (xs.length : Int) := by omega
    have ih' := ih (i + 1) (k - 4 - 1) (by omega) (by omega)
    have hl := tells_l1 xs hx (i : Int) (rd xs (i : Int)) kind priv va 4 0 k rfl (by omega)
    rw [show ((0 : Nat) : Int) = 0 from rfl, e3, ih'] at hl
    rw [show k + 2 = (k + 1) + 1 from rfl, lookasidelaw09_FaultTells.l0, if_pos hi1, if_pos (Int.natCast_nonneg i), if_pos hi2, a1, b1, Option.bind_some, Option.bind_some, if_pos rfl, a2, b2, Option.bind_some, Option.bind_some, if_pos rfl, a3, b3, Option.bind_some, Option.bind_some, bne_self_eq_false, lookasidelaw09_FaultTells.j1, if_neg (by decide)]
    exact hl
theorem FaultTells : lookasidelaw09_FaultTells.Pure := by
  intro a b kind priv va _ _ _ _
  refine ⟨200, ?_⟩
  unfold lookasidelaw09_FaultTells.f
  exact tells_l0 _ rfl kind priv va 4 0 200 rfl (by omega)

end Go.Proofs.Ytedjiicaikhcbaa.Pure
