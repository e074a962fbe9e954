/- Runs that were taken, none of which another one's: how they are kept, and given back; no conditions. -/
import Derived.Test.YtlndljgoliepdaaFrFirst
namespace Go.Proofs.Ytlndljgoliepdaa.QFramesPlays
open Go.RowKit Go.Proofs.YtlndljgoliepdaaW.PrintWords Go.Proofs.YtlndljgoliepdaaW.PrintLast Go.Proofs.YtlndljgoliepdaaW.PrintMore
set_option maxRecDepth 100000
def vals (tl : List (Nat × Nat)) : List Value := tl.flatMap fun x => [.int .i64 (x.1 : Nat), .int .i64 (x.2 : Nat)]
theorem vals_cons (x : Nat × Nat) (tl : List (Nat × Nat)) : vals (x :: tl) = .int .i64 (x.1 : Nat) :: .int .i64 (x.2 : Nat) :: vals tl := rfl
theorem vals_snoc (x : Nat × Nat) (tl : List (Nat × Nat)) : vals (tl ++ [x]) = vals tl ++ [.int .i64 (x.1 : Nat), .int .i64 (x.2 : Nat)] := by
  simp [vals]
theorem vals_at (tl : List (Nat × Nat)) : ∀ k, k < tl.length → (vals tl)[k * 2]? = some (.int .i64 ((tl.getD k (0, 0)).1 : Nat)) ∧ (vals tl)[k * 2 + 1]? = some (.int .i64 ((tl.getD k (0, 0)).2 : Nat)) := by
  induction tl with
  | nil => intro k hk; simp at hk
  | cons x tl ih =>
    intro k hk
    rw [vals_cons]
    cases k with
    | zero => exact ⟨rfl, rfl⟩
    | succ k =>
      have := ih k (by simpa using hk)
      rw [show (k + 1) * 2 = k * 2 + 1 + 1 by omega]
      simpa using this
structure AP (N : Nat) (ts : List Bool) (tl : List (Nat × Nat)) : Prop where
  len : ts.length = N
  each : ∀ x ∈ tl, 1 ≤ x.2 ∧ x.2 ≤ 512 ∧ x.1 + x.2 ≤ N
  apart : tl.Pairwise (fun a b => a.1 + a.2 ≤ b.1 ∨ b.1 + b.2 ≤ a.1)
  tak : ∀ i, i < N → (ts.getD i false = true ↔ ∃ x ∈ tl, x.1 ≤ i ∧ i < x.1 + x.2)
theorem AP.start (N : Nat) : AP N (List.replicate N false) [] := ⟨by simp, fun x h => (by cases h), List.Pairwise.nil, fun i hi => by simp [List.getD, hi]⟩
theorem AP.far {N ts tl x n} (h : AP N ts tl) (hl : x + n ≤ N) (hf : FreeIn ts x n) (y : Nat × Nat) (hy : y ∈ tl) (hn : 1 ≤ n) : y.1 + y.2 ≤ x ∨ x + n ≤ y.1 := by
  have he := h.each y hy
  by_cases c1 : y.1 + y.2 ≤ x
  · exact .inl c1
  · by_cases c2 : x + n ≤ y.1
    · exact .inr c2
    · exfalso
      by_cases c3 : x ≤ y.1
      · have h1 := (h.tak y.1 (by omega)).2 ⟨y, hy, by omega, by omega⟩
        have h2 := (hf (y.1 - x) (by omega)).2
        rw [show x + (y.1 - x) = y.1 by omega, h1] at h2
        cases h2
      · have h1 := (h.tak x (by omega)).2 ⟨y, hy, by omega, by omega⟩
        have h2 := (hf 0 (by omega)).2
        rw [Nat.add_zero, h1] at h2
        cases h2
theorem AP.took {N ts tl x n} (h : AP N ts tl) (hl : x + n ≤ N) (hf : FreeIn ts x n) (hn : 1 ≤ n) (hn2 : n ≤ 512) : AP N (setN ts x true n) (tl ++ [(x, n)]) := by
  refine ⟨by rw [setN_len, h.len], ?_, ?_, fun i hi => ?_⟩
  · intro y hy
    rcases List.mem_append.1 hy with hy | hy
    · exact h.each y hy
    · obtain rfl : y = (x, n) := by simpa using hy
      exact ⟨hn, hn2, hl⟩
  · rw [List.pairwise_append]
    refine ⟨h.apart, List.pairwise_singleton _ _, fun a ha b hb => ?_⟩
    obtain rfl : b = (x, n) := by simpa using hb
    exact h.far hl hf a ha hn
  · rw [setN_at _ _ _ _ _ (by rw [h.len]; exact hl)]
    by_cases c : x ≤ i ∧ i < x + n
    · rw [if_pos c]
      exact ⟨fun _ => ⟨(x, n), by simp, c.1, c.2⟩, fun _ => rfl⟩
    · rw [if_neg c, h.tak i hi]
      constructor
      · rintro ⟨y, hy, h1, h2⟩
        exact ⟨y, by simp [hy], h1, h2⟩
      · rintro ⟨y, hy, h1, h2⟩
        rcases List.mem_append.1 hy with hy | hy
        · exact ⟨y, hy, h1, h2⟩
        · obtain rfl : y = (x, n) := by simpa using hy
          exact absurd ⟨h1, h2⟩ c
theorem AP.all {N ts x n tl} (h : AP N ts ((x, n) :: tl)) : AllIn ts x n := fun i hi => (h.tak (x + i) (by have := (h.each (x, n) (by simp)).2.2; simp at this; omega)).2 ⟨(x, n), by simp, by simp, by simp; omega⟩
theorem AP.give {N ts x n tl} (h : AP N ts ((x, n) :: tl)) : AP N (setN ts x false n) tl := by
  have he := h.each (x, n) (by simp)
  simp only at he
  refine ⟨by rw [setN_len, h.len], fun y hy => h.each y (List.mem_cons_of_mem _ hy), (List.pairwise_cons.1 h.apart).2, fun i hi => ?_⟩
  rw [setN_at _ _ _ _ _ (by rw [h.len]; exact he.2.2)]
  by_cases c : x ≤ i ∧ i < x + n
  · rw [if_pos c]
    refine ⟨fun h => (by cases h), ?_⟩
    rintro ⟨y, hy, h1, h2⟩
    have := (List.pairwise_cons.1 h.apart).1 y hy
    simp only at this
    omega
  · rw [if_neg c, h.tak i hi]
    constructor
    · rintro ⟨y, hy, h1, h2⟩
      rcases List.mem_cons.1 hy with rfl | hy
      · exact absurd ⟨h1, h2⟩ c
      · exact ⟨y, hy, h1, h2⟩
    · rintro ⟨y, hy, h1, h2⟩
      exact ⟨y, List.mem_cons_of_mem _ hy, h1, h2⟩
theorem AP.give1 {N ts x n tl} (h : AP N ts ((x, n) :: tl)) : giveOf ts (x : Nat) (n : Nat) = (0, setN ts x false n) := by
  have he := h.each (x, n) (by simp)
  simp only at he
  unfold giveOf
  rw [if_neg (by omega), if_pos (by unfold inOf; exact decide_eq_true ⟨by omega, by rw [h.len]; omega, by rw [h.len]; omega⟩), Int.toNat_natCast, Int.toNat_natCast, if_pos h.all]
theorem AP.give2 {N ts x n tl} (h : AP N ts ((x, n) :: tl)) : giveOf (setN ts x false n) (x : Nat) (n : Nat) = (11, setN ts x false n) := by
  have he := h.each (x, n) (by simp)
  simp only at he
  unfold giveOf
  rw [if_neg (by omega), if_pos (by unfold inOf; exact decide_eq_true ⟨by omega, by rw [setN_len, h.len]; omega, by rw [setN_len, h.len]; omega⟩), Int.toNat_natCast, Int.toNat_natCast, if_neg]
  intro hx
  have := hx 0 (by omega)
  rw [setN_at _ _ _ _ _ (by rw [h.len]; exact he.2.2), if_pos (by omega)] at this
  cases this
theorem AP.free {N ts} (h : AP N ts []) : ts = List.replicate N false := by
  apply List.ext_getElem
  · simp [h.len]
  · intro i h1 h2
    have h3 := h.tak i (by rw [← h.len]; exact h1)
    simp [List.getD, h1] at h3
    simp [h3]
theorem tk_free (N : Nat) : tk (List.replicate N false) = [] := by
  have : ∀ d i, tkFrom (List.replicate N false) i d = [] := by
    intro d
    induction d with
    | zero => intro i; rfl
    | succ d ih =>
      intro i
      unfold tkFrom
      rw [if_neg, ih]
      simp [List.getD, List.getElem?_replicate]
      split <;> simp
  unfold tk
  exact this _ _
end Go.Proofs.Ytlndljgoliepdaa.QFramesPlays
