/- How many frames a run has, as the program and as the document tell it; no conditions. -/
import Derived.Test.YtlndljgoliepdaaQFramesPlaysx1
namespace Go.Proofs.Ytlndljgoliepdaa.QFramesPlays
open Go.RowKit Go.Proofs.YtlndljgoliepdaaW.PrintWords Go.Proofs.YtlndljgoliepdaaW.PrintLast Go.Proofs.YtlndljgoliepdaaW.PrintMore
set_option maxRecDepth 100000
def runOf (s : Int) : Int := if s = 0 then 1 else if s = 1 then 8 else if s = 2 then 64 else if s = 3 then 512 else 0
theorem ref_run (s : Int) : lookasideref05_Run.f s = some (runOf s) := by
  unfold lookasideref05_Run.f runOf
  by_cases h0 : s = 0
  · rw [if_pos h0, if_pos h0]
  rw [if_neg h0, if_neg h0]
  by_cases h1 : s = 1
  · rw [if_pos h1, if_pos h1]
  rw [if_neg h1, if_neg h1]
  by_cases h2 : s = 2
  · rw [if_pos h2, if_pos h2]
  rw [if_neg h2, if_neg h2]
  by_cases h3 : s = 3
  · rw [if_pos h3, if_pos h3]
  rw [if_neg h3, if_neg h3]
theorem page_may (s : Int) : page_May.f s = some (decide (0 ≤ s ∧ s < 4)) := by
  unfold page_May.f
  by_cases h : s ≥ 0
  · rw [if_pos h]; simp [show 0 ≤ s from h]
  · rw [if_neg h]; simp; omega
theorem bytes_out {s : Int} (h : ¬ (0 ≤ s ∧ s < 4)) : page_Bytes.f s = some 0 := by
  unfold page_Bytes.f
  rw [page_may, Option.bind_some, decide_eq_false h, if_neg (by decide)]
theorem prog_run (s : Int) : frames_Run.f s = some (runOf s) := by
  by_cases h : 0 ≤ s ∧ s < 4
  · obtain rfl | rfl | rfl | rfl : s = 0 ∨ s = 1 ∨ s = 2 ∨ s = 3 := by omega
    · decide +kernel
    · decide +kernel
    · decide +kernel
    · decide +kernel
  · have h0 : page_Bytes.f 0 = some 8192 := by decide +kernel
    unfold frames_Run.f
    rw [bytes_out h, h0, Option.bind_some, Option.bind_some, if_neg (by decide)]
    unfold runOf
    rw [if_neg (by omega), if_neg (by omega), if_neg (by omega), if_neg (by omega)]
    decide +kernel
theorem longest_new (n : Nat) (hn : n ≤ 65536) (free : Int) (d : Nat) : ∀ (i k : Nat), i + d = n → d < k → frames_Frames_Longest.l0 k (i : Int) (i : Int) (List.replicate n false) (n : Int) (i : Int) (List.replicate n false) free = some ((n : Int), free) := by
  induction d with
  | zero =>
    intro i k hi hk
    obtain ⟨k, rfl⟩ : ∃ m, k = m + 1 := ⟨k - 1, by omega⟩
    simp only [frames_Frames_Longest.l0]
    rw [if_neg (by omega), show i = n by omega]
  | succ d ih =>
    intro i k hi hk
    obtain ⟨k, rfl⟩ : ∃ m, k = m + 1 := ⟨k - 1, by omega⟩
    simp only [frames_Frames_Longest.l0]
    have e : rdOf false (List.replicate n false) (i : Int) = false := by
      unfold rdOf
      simp [List.getD, List.getElem?_replicate]
      split <;> rfl
    have w : wrap64 ((i : Int) + 1) = ((i + 1 : Nat) : Int) := by unfold wrap64; omega
    have m : mx (i : Int) ((i + 1 : Nat) : Int) = ((i + 1 : Nat) : Int) := by unfold mx; rw [if_pos (by omega)]
    rw [if_pos (by omega), if_pos (by omega), if_pos (by rw [List.length_replicate]; omega), e, if_neg (by decide), w, m]
    exact ih (i + 1) k (by omega) (by omega)
theorem longest_new_f (n : Nat) (hn : n ≤ 65536) (free : Int) : frames_Frames_Longest.f 70000 (List.replicate n false) free = some ((n : Int), free) := by
  unfold frames_Frames_Longest.f
  rw [List.length_replicate]
  exact longest_new n hn free n 0 70000 (by omega) (by omega)
end Go.Proofs.Ytlndljgoliepdaa.QFramesPlays
