/- For every attributes, those that lack one that lets more be, or have one more that lets less be, let less be; no conditions. -/
import Derived.Test.YtedjiicaikhcbaaQFaultTakenx2
import Derived.Laws.BitsAllLaws
import Derived.Laws.Bits64
set_option linter.unusedVariables false
set_option linter.unusedSimpArgs false
namespace Go.Proofs.Ytedjiicaikhcbaa.Pure
open Go.RowKit Go.Proofs.Ytedjiicaikhcbaa.QFaultTaken Go.Proofs.YtedjiicaikhcbaaW.PrintWords Go.Proofs.YtedjiicaikhcbaaW.PrintLast Go.Proofs.YtedjiicaikhcbaaW.PrintMore

/-! ### What attributes say of an access -/
def judgeOf (w p e q : Bool) (kind : Int) (priv : Bool) : Int :=
  if (p && !priv) = true then 3 else if (q && kind != 3) = true then 4 else if (kind == 1 && !w) = true then 5 else if (kind == 2 && !e) = true then 6 else 0
theorem pJudge (w p e l g q : Bool) (kind : Int) (priv : Bool) (va : Int) (k : Nat) (hk : 10 ≤ k) : fault_Judge.f k w p e l g q kind priv va = some (judgeOf w p e q kind priv) := by
  obtain ⟨k, rfl⟩ : ∃ m, k = m + 3 := ⟨k - 3, by omega⟩
  unfold fault_Judge.f judgeOf
  by_cases h1 : kind = 1
  · subst h1; cases w <;> cases p <;> cases e <;> cases q <;> cases priv <;> rfl
  · by_cases h2 : kind = 2
    · subst h2; cases w <;> cases p <;> cases e <;> cases q <;> cases priv <;> rfl
    · by_cases h3 : kind = 3
      · subst h3; cases w <;> cases p <;> cases e <;> cases q <;> cases priv <;> rfl
      · cases w <;> cases p <;> cases e <;> cases q <;> cases priv <;> simp [fault_Judge.j0, fault_Judge.j1, fault_Judge.j2, h1, h2, h3]

/-- An access that one's attributes let be, the other's do. -/
def letsTo (w p e q w2 p2 e2 q2 : Bool) (n : Nat) : Bool := judgeOf w p e q ((n / 2 : Nat) : Int) (n % 2 == 1) != 0 || judgeOf w2 p2 e2 q2 ((n / 2 : Nat) : Int) (n % 2 == 1) == 0
def lessFrom (w p e q w2 p2 e2 q2 : Bool) : Nat → Nat → Bool
  | 0, _ => true
  | d + 1, n => letsTo w p e q w2 p2 e2 q2 n && lessFrom w p e q w2 p2 e2 q2 d (n + 1)
theorem less_l (w p e l g q w2 p2 e2 l2 g2 q2 : Bool) (d : Nat) : ∀ (n k : Nat), n + d = 8 → 20 + d < k →
    fault_Less.l0 k (n : Int) w p e l g q w2 p2 e2 l2 g2 q2 = some (lessFrom w p e q w2 p2 e2 q2 d n) := by
  induction d with
  | zero =>
    intro n k hn hk
    obtain ⟨k, rfl⟩ : ∃ m, k = m + 1 := ⟨k - 1, by omega⟩
    rw [fault_Less.l0, if_neg (by omega)]; rfl
  | succ d ih =>
    intro n k hn hk
    obtain ⟨k, rfl⟩ : ∃ m, k = m + 1 := ⟨k - 1, by omega⟩
    have f1 : wrap64 (Int.tdiv (n : Int) 2) = ((n / 2 : Nat) : Int) := by
      show wrap64 ((n / 2 : Nat) : Int) = _
      unfold wrap64; omega
    have f2 : ((Int.tmod (n : Int) 2) == 1) = (n % 2 == 1) := by
      show (((n % 2 : Nat) : Int) == 1) = _
      rw [Bool.eq_iff_iff]; simp only [beq_iff_eq]; omega
    have f3 : wrap64 ((n : Int) + 1) = ((n + 1 : Nat) : Int) := by unfold wrap64; omega
    have ih' := ih (n + 1) k (by omega) (by omega)
    rw [fault_Less.l0, if_pos (by omega), f1, f2, f3, pJudge _ _ _ _ _ _ _ _ _ k (by omega), pJudge _ _ _ _ _ _ _ _ _ k (by omega), ih']
    simp only [Option.bind_some]
    show _ = some (letsTo w p e q w2 p2 e2 q2 n && lessFrom w p e q w2 p2 e2 q2 d (n + 1))
    unfold letsTo
    by_cases x : judgeOf w p e q ((n / 2 : Nat) : Int) (n % 2 == 1) = 0
    · rw [if_pos x]
      by_cases y : judgeOf w2 p2 e2 q2 ((n / 2 : Nat) : Int) (n % 2 == 1) = 0
      · rw [if_pos y, x, y]; rfl
      · rw [if_neg y, x]
        have y' : (judgeOf w2 p2 e2 q2 ((n / 2 : Nat) : Int) (n % 2 == 1) == 0) = false := beq_eq_false_iff_ne.mpr y
        rw [y']; rfl
    · rw [if_neg x]
      have x' : (judgeOf w p e q ((n / 2 : Nat) : Int) (n % 2 == 1) != 0) = true := bne_iff_ne.mpr x
      rw [x']; rfl
theorem pLess (w p e l g q w2 p2 e2 l2 g2 q2 : Bool) (k : Nat) (hk : 40 ≤ k) : fault_Less.f k w p e l g q w2 p2 e2 l2 g2 q2 = some (lessFrom w p e q w2 p2 e2 q2 8 0) :=
  less_l w p e l g q w2 p2 e2 l2 g2 q2 8 0 k rfl (by omega)
theorem less_iff (w p e q w2 p2 e2 q2 : Bool) (d : Nat) : ∀ n, lessFrom w p e q w2 p2 e2 q2 d n = true ↔ ∀ i, n ≤ i → i < n + d → letsTo w p e q w2 p2 e2 q2 i = true := by
  induction d with
  | zero => intro n; exact ⟨fun _ i h1 h2 => by omega, fun _ => rfl⟩
  | succ d ih =>
    intro n
    unfold lessFrom
    rw [Bool.and_eq_true, ih]
    constructor
    · rintro ⟨h1, h2⟩ i h3 h4
      by_cases h : i = n
      · rw [h]; exact h1
      · exact h2 i (by omega) (by omega)
    · intro h
      exact ⟨h n (by omega) (by omega), fun i h3 h4 => h i (by omega) (by omega)⟩

theorem fliv10 : lookasidelaw09_lives.f 10 = some true := by decide +kernel
theorem fliv (k : Nat) (hk : 10 ≤ k) : lookasidelaw09_lives.f k = some true := at_rounds lookasidelaw09_lives.mono hk fliv10

theorem taken_all : ∀ w p e q : Bool, lessFrom false p e q w p e q 8 0 = true ∧ lessFrom w p false q w p e q 8 0 = true ∧ lessFrom w true e q w p e q 8 0 = true ∧ lessFrom w p e true w p e q 8 0 = true ∧ lessFrom w p e q w p e q 8 0 = true := by decide +kernel
theorem FaultTaken : lookasidelaw09_FaultTaken.Pure := by
  intro w p e l g q
  refine ⟨50, ?_⟩
  unfold lookasidelaw09_FaultTaken.f
  obtain ⟨h1, h2, h3, h4, h5⟩ := taken_all w p e q
  rw [pLess _ _ _ _ _ _ _ _ _ _ _ _ 50 (by omega), pLess _ _ _ _ _ _ _ _ _ _ _ _ 50 (by omega), pLess _ _ _ _ _ _ _ _ _ _ _ _ 50 (by omega), pLess _ _ _ _ _ _ _ _ _ _ _ _ 50 (by omega), pLess _ _ _ _ _ _ _ _ _ _ _ _ 50 (by omega), pLess _ _ _ _ _ _ _ _ _ _ _ _ 50 (by omega), fliv 50 (by omega), h1, h2, h3, h4, h5]
  rfl

end Go.Proofs.Ytedjiicaikhcbaa.Pure
