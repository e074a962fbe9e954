/- How many free frames stand one behind the other at most, and which are taken, as the program tells them; no conditions. -/
import Derived.Test.YtlndljgoliepdaaFr7
namespace Go.Proofs.Ytlndljgoliepdaa.QFramesPlays
open Go.RowKit Go.Proofs.YtlndljgoliepdaaW.PrintWords Go.Proofs.YtlndljgoliepdaaW.PrintLast Go.Proofs.YtlndljgoliepdaaW.PrintMore
set_option maxRecDepth 100000
/-- So many free ones stand one behind the other, and no more. -/
def LongOf (ts : List Bool) (L : Nat) : Prop := ∀ n, 1 ≤ n → ((∃ x, x + n ≤ ts.length ∧ FreeIn ts x n) ↔ n ≤ L)
structure LongTo (ts : List Bool) (i b c : Nat) : Prop where
  long : ∀ n, 1 ≤ n → ((∃ x, x + n ≤ i ∧ FreeIn ts x n) ↔ n ≤ b)
  le : c ≤ i
  run : ∀ j, i - c ≤ j → j < i → ts.getD j false = false
  out : c = i ∨ ts.getD (i - c - 1) false = true
theorem LongTo.start (ts : List Bool) : LongTo ts 0 0 0 := ⟨fun n hn => ⟨fun ⟨x, hx, _⟩ => by omega, fun h => by omega⟩, by omega, fun j _ hj => by omega, .inl rfl⟩
theorem LongTo.taken {ts i b c} (h : LongTo ts i b c) (hb : ts.getD i false = true) : LongTo ts (i + 1) b 0 := by
  refine ⟨fun n hn => ⟨fun ⟨x, hx, hf⟩ => (h.long n hn).1 ⟨x, ?_, hf⟩, fun hle => ?_⟩, by omega, fun j h1 h2 => by omega, .inr (by simpa using hb)⟩
  · by_cases e : x + n = i + 1
    · exfalso
      have := (hf (n - 1) (by omega)).2
      rw [show x + (n - 1) = i by omega, hb] at this
      cases this
    · omega
  · obtain ⟨x, hx, hf⟩ := (h.long n hn).2 hle
    exact ⟨x, by omega, hf⟩
theorem LongTo.open {ts i b c} (h : LongTo ts i b c) (hi : i < ts.length) (hb : ts.getD i false = false) : LongTo ts (i + 1) (max b (c + 1)) (c + 1) := by
  have hle := h.le
  refine ⟨fun n hn => ⟨fun ⟨x, hx, hf⟩ => ?_, fun hle2 => ?_⟩, by omega, fun j h1 h2 => ?_, ?_⟩
  · by_cases e : x + n = i + 1
    · by_cases c1 : n ≤ c + 1
      · omega
      · exfalso
        rcases h.out with h1 | h1
        · omega
        · have := (hf (i - c - 1 - x) (by omega)).2
          rw [show x + (i - c - 1 - x) = i - c - 1 by omega, h1] at this
          cases this
    · have := (h.long n hn).1 ⟨x, by omega, hf⟩
      omega
  · by_cases c1 : n ≤ b
    · obtain ⟨x, hx, hf⟩ := (h.long n hn).2 c1
      exact ⟨x, by omega, hf⟩
    · refine ⟨i + 1 - n, by omega, fun k hk => ⟨by omega, ?_⟩⟩
      by_cases e : i + 1 - n + k = i
      · rw [e]; exact hb
      · exact h.run _ (by omega) (by omega)
  · by_cases e : j = i
    · subst e; exact hb
    · exact h.run j (by omega) (by omega)
  · rcases h.out with h1 | h1
    · exact .inl (by omega)
    · exact .inr (by rw [show i + 1 - (c + 1) - 1 = i - c - 1 by omega]; exact h1)
theorem rdOf_at (ts : List Bool) (i : Nat) : rdOf false ts (i : Int) = ts.getD i false := by
  unfold rdOf
  simp
theorem longest_l0 (ts : List Bool) (hl : ts.length ≤ 65536) (free : Int) (d : Nat) : ∀ (i k b c : Nat), i + d = ts.length → d < k → b ≤ i → LongTo ts i b c →
    ∃ L : Nat, frames_Frames_Longest.l0 k (b : Int) (c : Int) ts (ts.length : Int) (i : Int) ts free = some ((L : Int), free) ∧ L ≤ ts.length ∧ LongOf ts L := by
  induction d with
  | zero =>
    intro i k b c hi hk hb h
    obtain ⟨k, rfl⟩ : ∃ m, k = m + 1 := ⟨k - 1, by omega⟩
    obtain rfl : i = ts.length := by omega
    refine ⟨b, ?_, hb, h.long⟩
    simp only [frames_Frames_Longest.l0]
    rw [if_neg (by omega)]
  | succ d ih =>
    intro i k b c hi hk hb h
    obtain ⟨k, rfl⟩ : ∃ m, k = m + 1 := ⟨k - 1, by omega⟩
    have hle := h.le
    simp only [frames_Frames_Longest.l0]
    have w : wrap64 ((i : Int) + 1) = ((i + 1 : Nat) : Int) := by unfold wrap64; omega
    rw [if_pos (by omega), if_pos (by omega), if_pos (by omega), rdOf_at, w]
    cases e : ts.getD i false with
    | true =>
      rw [if_pos rfl, show mx (b : Int) 0 = (b : Int) by unfold mx; rw [if_neg (by omega)]]
      exact ih (i + 1) k b 0 (by omega) (by omega) (by omega) (h.taken e)
    | false =>
      rw [if_neg (by decide), show wrap64 ((c : Int) + 1) = ((c + 1 : Nat) : Int) by unfold wrap64; omega, show mx (b : Int) ((c + 1 : Nat) : Int) = ((max b (c + 1) : Nat) : Int) by unfold mx; split <;> omega]
      exact ih (i + 1) k (max b (c + 1)) (c + 1) (by omega) (by omega) (by omega) (h.open (by omega) e)
theorem longest_f (ts : List Bool) (hl : ts.length ≤ 65536) (free : Int) : ∃ L : Nat, frames_Frames_Longest.f 70000 ts free = some ((L : Int), free) ∧ L ≤ ts.length ∧ LongOf ts L :=
  longest_l0 ts hl free ts.length 0 70000 0 0 (by omega) (by omega) (by omega) (LongTo.start ts)
theorem long_eq {ts : List Bool} {L L' : Nat} (h : LongOf ts L) (h' : LongOf ts L') : L = L' := by
  rcases Nat.lt_trichotomy L L' with c | c | c
  · have := (h L' (by omega)).1 ((h' L' (by omega)).2 (Nat.le_refl _))
    omega
  · exact c
  · have := (h' L (by omega)).1 ((h L (by omega)).2 (Nat.le_refl _))
    omega
/-- Which are taken, from one on. -/
def tkFrom (ts : List Bool) : Nat → Nat → List Int
  | _, 0 => []
  | i, d + 1 => if ts.getD i false then (i : Int) :: tkFrom ts (i + 1) d else tkFrom ts (i + 1) d
def tk (ts : List Bool) : List Int := tkFrom ts 0 ts.length
theorem tkFrom_len (ts : List Bool) (d : Nat) : ∀ i, (tkFrom ts i d).length ≤ d := by
  induction d with
  | zero => intro i; simp [tkFrom]
  | succ d ih =>
    intro i
    have := ih (i + 1)
    unfold tkFrom
    split <;> simp <;> omega
theorem tkFrom_mem (ts : List Bool) (d : Nat) : ∀ (i : Nat) (x : Int), x ∈ tkFrom ts i d ↔ ∃ j : Nat, x = j ∧ i ≤ j ∧ j < i + d ∧ ts.getD j false = true := by
  induction d with
  | zero => intro i x; simp [tkFrom]; intro j _ h1 h2; omega
  | succ d ih =>
    intro i x
    unfold tkFrom
    split
    · rename_i h
      rw [List.mem_cons, ih (i + 1) x]
      constructor
      · rintro (rfl | ⟨j, rfl, h1, h2, h3⟩)
        · exact ⟨i, rfl, by omega, by omega, h⟩
        · exact ⟨j, rfl, by omega, by omega, h3⟩
      · rintro ⟨j, rfl, h1, h2, h3⟩
        by_cases e : j = i
        · exact .inl (by rw [e])
        · exact .inr ⟨j, rfl, by omega, by omega, h3⟩
    · rename_i h
      rw [ih (i + 1) x]
      constructor
      · rintro ⟨j, rfl, h1, h2, h3⟩
        exact ⟨j, rfl, by omega, by omega, h3⟩
      · rintro ⟨j, rfl, h1, h2, h3⟩
        refine ⟨j, rfl, ?_, by omega, h3⟩
        by_cases e : j = i
        · subst e; exact absurd h3 h
        · omega
theorem list_l0 (ts : List Bool) (hl : ts.length ≤ 65536) (free : Int) (d : Nat) : ∀ (i k : Nat) (acc : List Int), i + d = ts.length → d < k → acc.length ≤ i →
    frames_Frames_List.l0 k acc ts (ts.length : Int) (i : Int) ts free = some (acc ++ tkFrom ts i d, free) := by
  induction d with
  | zero =>
    intro i k acc hi hk ha
    obtain ⟨k, rfl⟩ : ∃ m, k = m + 1 := ⟨k - 1, by omega⟩
    simp only [frames_Frames_List.l0]
    rw [if_neg (by omega)]
    simp [tkFrom]
  | succ d ih =>
    intro i k acc hi hk ha
    obtain ⟨k, rfl⟩ : ∃ m, k = m + 1 := ⟨k - 1, by omega⟩
    simp only [frames_Frames_List.l0]
    have w : wrap64 ((i : Int) + 1) = ((i + 1 : Nat) : Int) := by unfold wrap64; omega
    rw [if_pos (by omega), if_pos (by omega), if_pos (by omega), rdOf_at, w]
    unfold tkFrom
    cases e : ts.getD i false with
    | true =>
      rw [if_pos rfl, if_pos (by omega), if_pos rfl, ih (i + 1) k _ (by omega) (by omega) (by simp; omega)]
      simp
    | false =>
      rw [if_neg (by decide), if_neg (by decide), ih (i + 1) k acc (by omega) (by omega) (by omega)]
theorem list_f (ts : List Bool) (hl : ts.length ≤ 65536) (free : Int) : frames_Frames_List.f 70000 ts free = some (tk ts, free) := by
  unfold frames_Frames_List.f
  have := list_l0 ts hl free ts.length 0 70000 [] (by omega) (by omega) (by simp)
  simpa [tk] using this
end Go.Proofs.Ytlndljgoliepdaa.QFramesPlays
