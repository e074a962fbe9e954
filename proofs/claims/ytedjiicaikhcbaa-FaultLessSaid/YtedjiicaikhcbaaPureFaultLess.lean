/- For every three attributes and every access, whether attributes let less be is told as the document says; no conditions. -/
import Derived.Test.YtedjiicaikhcbaaQFaultLessx5
import Derived.Laws.BitsAllLaws
import Derived.Laws.Bits64
set_option linter.unusedVariables false
set_option linter.unusedSimpArgs false
namespace Go.Proofs.Ytedjiicaikhcbaa.Pure
open Go.RowKit Go.Proofs.Ytedjiicaikhcbaa.QFaultLess Go.Proofs.YtedjiicaikhcbaaW.PrintWords Go.Proofs.YtedjiicaikhcbaaW.PrintLast Go.Proofs.YtedjiicaikhcbaaW.PrintMore

/-! ### Plain arithmetic of words -/
theorem m_u64 {a : Int} (h : (Lit.int .u64 a).wf = true) : 0 ≤ a ∧ a < 18446744073709551616 := by
  simp [Lit.wf, IntKind.min, IntKind.max, IntKind.signed, IntKind.bits] at h; omega
theorem m_i64 {a : Int} (h : (Lit.int .i64 a).wf = true) : -9223372036854775808 ≤ a ∧ a < 9223372036854775808 := by
  simp [Lit.wf, IntKind.min, IntKind.max, IntKind.signed, IntKind.bits] at h; omega
theorem m_shr (x : Int) (n : Nat) (h : n ≤ 64) : shr .u64 x (n : Int) = x / 2 ^ n := by
  unfold shr; rw [Int.toNat_natCast, Nat.min_eq_left (by simpa [IntKind.bits] using h)]
theorem m_shl (x : Int) (n : Nat) (h : n ≤ 64) : shl .u64 x (n : Int) = x * 2 ^ n % 18446744073709551616 := by
  unfold shl; rw [Int.toNat_natCast, Nat.min_eq_left (by simpa [IntKind.bits] using h), IntKind.wrap_u64]
theorem m_maskn (n : Nat) (h1 : 1 ≤ n) (h2 : n ≤ 64) : (18446744073709551615 : Int) / 2 ^ (64 - n) = ((2 ^ n - 1 : Nat) : Int) := by
  have hp : 2 ^ (64 - n) * 2 ^ n = (18446744073709551616 : Nat) := by rw [← Nat.pow_add, show 64 - n + n = 64 by omega]
  have h0 : 0 < 2 ^ (64 - n) := Nat.two_pow_pos _
  have h3 : 0 < 2 ^ n := Nat.two_pow_pos _
  have e : (18446744073709551615 : Nat) / 2 ^ (64 - n) = 2 ^ n - 1 := by
    apply Nat.div_eq_of_lt_le
    · rw [Nat.mul_comm, Nat.mul_sub, hp]; omega
    · rw [Nat.sub_add_cancel h3, Nat.mul_comm, hp]; omega
  have := congrArg (fun x : Nat => (x : Int)) e
  simpa using this
theorem m_mask (p n : Nat) (h1 : 1 ≤ n) (h2 : p + n ≤ 64) : shl .u64 (shr .u64 18446744073709551615 ((64 - n : Nat) : Int)) (p : Int) = (((2 ^ n - 1) * 2 ^ p : Nat) : Int) := by
  rw [m_shr _ _ (by omega), m_shl _ _ (by omega), m_maskn n h1 (by omega)]
  have hp : 2 ^ n * 2 ^ p ≤ (18446744073709551616 : Nat) := by
    rw [← Nat.pow_add]; exact Nat.le_trans (Nat.pow_le_pow_right (by decide) (show n + p ≤ 64 by omega)) (by decide)
  have h3 : 0 < 2 ^ p := Nat.two_pow_pos _
  have h4 : (2 ^ n - 1) * 2 ^ p < (18446744073709551616 : Nat) := by
    rw [Nat.sub_mul]; omega
  have e : ((2 ^ n - 1) * 2 ^ p) % (18446744073709551616 : Nat) = (2 ^ n - 1) * 2 ^ p := Nat.mod_eq_of_lt h4
  have := congrArg (fun x : Nat => (x : Int)) e
  simpa using this
theorem m_get (a : Nat) (ha : a < 18446744073709551616) (p n : Nat) (h1 : 1 ≤ n) (h2 : p + n ≤ 64) :
    shr .u64 (Go.bits .and .u64 (a : Int) (((2 ^ n - 1) * 2 ^ p : Nat) : Int)) (p : Int) = ((a / 2 ^ p % 2 ^ n : Nat) : Int) := by
  have hp : 2 ^ n * 2 ^ p ≤ (18446744073709551616 : Nat) := by
    rw [← Nat.pow_add]; exact Nat.le_trans (Nat.pow_le_pow_right (by decide) (show n + p ≤ 64 by omega)) (by decide)
  have h3 : 0 < 2 ^ p := Nat.two_pow_pos _
  have h4 : (2 ^ n - 1) * 2 ^ p < (18446744073709551616 : Nat) := by
    rw [Nat.sub_mul]; omega
  rw [u64_and_nat _ _ ha h4, m_shr _ _ (by omega)]
  have e : (a &&& (2 ^ n - 1) * 2 ^ p) / 2 ^ p = a / 2 ^ p % 2 ^ n := by
    rw [← Nat.shiftRight_eq_div_pow, Nat.shiftRight_and_distrib, Nat.shiftRight_eq_div_pow, Nat.shiftRight_eq_div_pow, Nat.mul_div_cancel _ h3, Nat.and_two_pow_sub_one_eq_mod]
  have := congrArg (fun x : Nat => (x : Int)) e
  simpa using this

/-! ### A bit of a word, by halving -/
theorem m_tdiv (x n : Nat) : Int.tdiv (x : Int) (n : Int) = ((x / n : Nat) : Int) := rfl
theorem m_tmod (x n : Nat) : Int.tmod (x : Int) (n : Int) = ((x % n : Nat) : Int) := rfl
theorem m_w64 (x : Nat) (h : x < 9223372036854775808) : wrap64 (x : Int) = x := by unfold wrap64; omega
theorem m_wu (x : Nat) (h : x < 18446744073709551616) : IntKind.u64.wrap (x : Int) = x := by rw [IntKind.wrap_u64]; omega

/-! ### What attributes say of an access -/
def judgeOf (w p e q : Bool) (kind : Int) (priv : Bool) : Int :=
  if (p && !priv) = true then 3 else if (q && kind != 3) = true then 4 else if (kind == 1 && !w) = true then 5 else if (kind == 2 && !e) = true then 6 else 0
theorem pJudge (w p e l g q : Bool) (kind : Int) (priv : Bool) (va : Int) (k : Nat) (hk : 10 ≤ k) : fault_Judge.f k w p e l g q kind priv va = some (judgeOf w p e q kind priv) := by
  obtain ⟨k, rfl⟩ : ∃ m, k = m + 3 := ⟨k - 3, by omega⟩
  unfold fault_Judge.f judgeOf
  by_cases h1 : kind = 1
  · subst h1; cases w <;> cases p <;> cases e <;> cases q <;> cases priv <;> rfl
  · by_cases h2 : kind = 2
    · subst h2; cases w <;> cases p <;> cases e <;> cases q <;> cases priv <;> rfl
    · by_cases h3 : kind = 3
      · subst h3; cases w <;> cases p <;> cases e <;> cases q <;> cases priv <;> rfl
      · cases w <;> cases p <;> cases e <;> cases q <;> cases priv <;> simp [fault_Judge.j0, fault_Judge.j1, fault_Judge.j2, h1, h2, h3]

theorem rJudge (w p e l g q : Bool) (kind : Int) (priv : Bool) (va : Int) (k : Nat) (hk : 10 ≤ k) : lookasideref09_Judge.f k w p e l g q kind priv va = some (judgeOf w p e q kind priv) := by
  obtain ⟨k, rfl⟩ : ∃ m, k = m + 3 := ⟨k - 3, by omega⟩
  unfold lookasideref09_Judge.f judgeOf
  by_cases h1 : kind = 1
  · subst h1; cases w <;> cases p <;> cases e <;> cases q <;> cases priv <;> rfl
  · by_cases h2 : kind = 2
    · subst h2; cases w <;> cases p <;> cases e <;> cases q <;> cases priv <;> rfl
    · by_cases h3 : kind = 3
      · subst h3; cases w <;> cases p <;> cases e <;> cases q <;> cases priv <;> rfl
      · cases w <;> cases p <;> cases e <;> cases q <;> cases priv <;> simp [lookasideref09_Judge.j0, lookasideref09_Judge.j1, lookasideref09_Judge.j2, h1, h2, h3]

/-- An access that one's attributes let be, the other's do. -/
def letsTo (w p e q w2 p2 e2 q2 : Bool) (n : Nat) : Bool := judgeOf w p e q ((n / 2 : Nat) : Int) (n % 2 == 1) != 0 || judgeOf w2 p2 e2 q2 ((n / 2 : Nat) : Int) (n % 2 == 1) == 0
def lessFrom (w p e q w2 p2 e2 q2 : Bool) : Nat → Nat → Bool
  | 0, _ => true
  | d + 1, n => letsTo w p e q w2 p2 e2 q2 n && lessFrom w p e q w2 p2 e2 q2 d (n + 1)
theorem less_l (w p e l g q w2 p2 e2 l2 g2 q2 : Bool) (d : Nat) : ∀ (n k : Nat), n + d = 8 → 20 + d < k →
    fault_Less.l0 k (n : Int) w p e l g q w2 p2 e2 l2 g2 q2 = some (lessFrom w p e q w2 p2 e2 q2 d n) := by
  induction d with
  | zero =>
    intro n k hn hk
    obtain ⟨k, rfl⟩ : ∃ m, k = m + 1 := ⟨k - 1, by omega⟩
    rw [fault_Less.l0, if_neg (by omega)]; rfl
  | succ d ih =>
    intro n k hn hk
    obtain ⟨k, rfl⟩ : ∃ m, k = m + 1 := ⟨k - 1, by omega⟩
    have f1 : wrap64 (Int.tdiv (n : Int) 2) = ((n / 2 : Nat) : Int) := by
      show wrap64 ((n / 2 : Nat) : Int) = _
      unfold wrap64; omega
    have f2 : ((Int.tmod (n : Int) 2) == 1) = (n % 2 == 1) := by
      show (((n % 2 : Nat) : Int) == 1) = _
      rw [Bool.eq_iff_iff]; simp only [beq_iff_eq]; omega
    have f3 : wrap64 ((n : Int) + 1) = ((n + 1 : Nat) : Int) := by unfold wrap64; omega
    have ih' := ih (n + 1) k (by omega) (by omega)
    rw [fault_Less.l0, if_pos (by omega), f1, f2, f3, pJudge _ _ _ _ _ _ _ _ _ k (by omega), pJudge _ _ _ _ _ _ _ _ _ k (by omega), ih']
    simp only [Option.bind_some]
    show _ = some (letsTo w p e q w2 p2 e2 q2 n && lessFrom w p e q w2 p2 e2 q2 d (n + 1))
    unfold letsTo
    by_cases x : judgeOf w p e q ((n / 2 : Nat) : Int) (n % 2 == 1) = 0
    · rw [if_pos x]
      by_cases y : judgeOf w2 p2 e2 q2 ((n / 2 : Nat) : Int) (n % 2 == 1) = 0
      · rw [if_pos y, x, y]; rfl
      · rw [if_neg y, x]
        have y' : (judgeOf w2 p2 e2 q2 ((n / 2 : Nat) : Int) (n % 2 == 1) == 0) = false := beq_eq_false_iff_ne.mpr y
        rw [y']; rfl
    · rw [if_neg x]
      have x' : (judgeOf w p e q ((n / 2 : Nat) : Int) (n % 2 == 1) != 0) = true := bne_iff_ne.mpr x
      rw [x']; rfl
theorem pLess (w p e l g q w2 p2 e2 l2 g2 q2 : Bool) (k : Nat) (hk : 40 ≤ k) : fault_Less.f k w p e l g q w2 p2 e2 l2 g2 q2 = some (lessFrom w p e q w2 p2 e2 q2 8 0) :=
  less_l w p e l g q w2 p2 e2 l2 g2 q2 8 0 k rfl (by omega)
theorem less_iff (w p e q w2 p2 e2 q2 : Bool) (d : Nat) : ∀ n, lessFrom w p e q w2 p2 e2 q2 d n = true ↔ ∀ i, n ≤ i → i < n + d → letsTo w p e q w2 p2 e2 q2 i = true := by
  induction d with
  | zero => intro n; exact ⟨fun _ i h1 h2 => by omega, fun _ => rfl⟩
  | succ d ih =>
    intro n
    unfold lessFrom
    rw [Bool.and_eq_true, ih]
    constructor
    · rintro ⟨h1, h2⟩ i h3 h4
      by_cases h : i = n
      · rw [h]; exact h1
      · exact h2 i (by omega) (by omega)
    · intro h
      exact ⟨h n (by omega) (by omega), fun i h3 h4 => h i (by omega) (by omega)⟩

/-- A number's kind of access. -/
def kindOf (n : Int) : Nat := (if n < 0 then -(n + 1) else n).toNat % 4
theorem kindOf_lt (n : Int) : kindOf n < 4 := Nat.mod_lt _ (by decide)
theorem rFGood (kind : Int) (hk : (Lit.int .i64 kind).wf = true) (priv : Bool) (va : Int) (k : Nat) : lookasideref09_Good.f k kind priv va false = some ((kindOf kind : Int), priv, va) := by
  obtain ⟨h1, h2⟩ := m_i64 hk
  unfold lookasideref09_Good.f kindOf
  by_cases h : kind < 0
  · rw [if_pos h, if_neg (by decide), if_pos h]
    have e : wrap64 (-(wrap64 (kind + 1))) = -(kind + 1) := by unfold wrap64; omega
    rw [e, Int.tmod_eq_emod_of_nonneg (by omega)]
    refine congrArg some (Prod.ext ?_ rfl); omega
  · rw [if_neg h, if_neg (by decide), if_neg h, Int.tmod_eq_emod_of_nonneg (by omega)]
    refine congrArg some (Prod.ext ?_ rfl); omega

theorem fliv10 : lookasidelaw09_lives.f 10 = some true := by decide +kernel
theorem fliv (k : Nat) (hk : 10 ≤ k) : lookasidelaw09_lives.f k = some true := at_rounds lookasidelaw09_lives.mono hk fliv10

theorem rless_l (w p e l g q w2 p2 e2 l2 g2 q2 : Bool) (d : Nat) : ∀ (n k : Nat), n + d = 4 → 20 + 2 * d < k →
    lookasideref09_Less.l0 k (n : Int) w p e l g q w2 p2 e2 l2 g2 q2 = some (lessFrom w p e q w2 p2 e2 q2 (2 * d) (2 * n)) := by
  induction d with
  | zero =>
    intro n k hn hk
    obtain ⟨k, rfl⟩ : ∃ m, k = m + 1 := ⟨k - 1, by omega⟩
    rw [lookasideref09_Less.l0, if_neg (by omega)]; rfl
  | succ d ih =>
    intro n k hn hk
    obtain ⟨k, rfl⟩ : ∃ m, k = m + 2 := ⟨k - 2, by omega⟩
    have f3 : wrap64 ((n : Int) + 1) = ((n + 1 : Nat) : Int) := by unfold wrap64; omega
    have ih' := ih (n + 1) k (by omega) (by omega)
    have hj : ∀ b, lookasideref09_Less.j1 (k + 1) (n : Int) b w p e l g q w2 p2 e2 l2 g2 q2 (n : Int) true 0 = some (!b && ((judgeOf w p e q (n : Int) true != 0 || judgeOf w2 p2 e2 q2 (n : Int) true == 0) && lessFrom w p e q w2 p2 e2 q2 (2 * d) (2 * (n + 1)))) := by
      intro b
      rw [lookasideref09_Less.j1, f3, ih', rJudge _ _ _ _ _ _ _ _ _ k (by omega), rJudge _ _ _ _ _ _ _ _ _ k (by omega)]
      simp only [Option.bind_some]
      cases b
      · by_cases x : judgeOf w p e q (n : Int) true = 0
        · by_cases y : judgeOf w2 p2 e2 q2 (n : Int) true = 0
          · simp [x, y]
          · simp [x, y]
        · simp [x]
      · simp
    rw [show k + 2 = (k + 1) + 1 from rfl, lookasideref09_Less.l0, if_pos (by omega), rJudge _ _ _ _ _ _ _ _ _ (k + 1) (by omega), rJudge _ _ _ _ _ _ _ _ _ (k + 1) (by omega)]
    simp only [Option.bind_some, hj]
    have u : lessFrom w p e q w2 p2 e2 q2 (2 * (d + 1)) (2 * n) = (letsTo w p e q w2 p2 e2 q2 (2 * n) && (letsTo w p e q w2 p2 e2 q2 (2 * n + 1) && lessFrom w p e q w2 p2 e2 q2 (2 * d) (2 * (n + 1)))) := rfl
    rw [u]
    unfold letsTo
    have d1 : 2 * n / 2 = n := by omega
    have d2 : (2 * n + 1) / 2 = n := by omega
    have d3 : (2 * n % 2 == 1) = false := by rw [Nat.mul_mod_right]; rfl
    have d4 : ((2 * n + 1) % 2 == 1) = true := by rw [show (2 * n + 1) % 2 = 1 by omega]; rfl
    rw [d1, d2, d3, d4]
    by_cases x : judgeOf w p e q (n : Int) false = 0
    · by_cases y : judgeOf w2 p2 e2 q2 (n : Int) false = 0
      · simp [x, y]
      · have y1 : (judgeOf w2 p2 e2 q2 (n : Int) false != 0) = true := bne_iff_ne.mpr y
        have y2 : (judgeOf w2 p2 e2 q2 (n : Int) false == 0) = false := beq_eq_false_iff_ne.mpr y
        rw [if_pos x, y1, y2, x]; rfl
    · simp [x]
theorem rLess (w p e l g q w2 p2 e2 l2 g2 q2 : Bool) (k : Nat) (hk : 40 ≤ k) : lookasideref09_Less.f k w p e l g q w2 p2 e2 l2 g2 q2 = some (lessFrom w p e q w2 p2 e2 q2 8 0) :=
  rless_l w p e l g q w2 p2 e2 l2 g2 q2 4 0 k rfl (by omega)
theorem less_self (w p e q : Bool) : lessFrom w p e q w p e q 8 0 = true := by
  rw [less_iff]; intro i _ _
  simp only [letsTo, Bool.or_eq_true, bne_iff_ne, beq_iff_eq, ne_eq]
  omega
theorem less_trans {w p e q w2 p2 e2 q2 w3 p3 e3 q3 : Bool} (h : lessFrom w p e q w2 p2 e2 q2 8 0 = true) (h2 : lessFrom w2 p2 e2 q2 w3 p3 e3 q3 8 0 = true) : lessFrom w p e q w3 p3 e3 q3 8 0 = true := by
  rw [less_iff] at h h2 ⊢
  intro i h3 h4
  have a := h i h3 h4
  have b := h2 i h3 h4
  simp only [letsTo, Bool.or_eq_true, bne_iff_ne, beq_iff_eq, ne_eq] at a b ⊢
  omega
theorem less_lets {w p e q w2 p2 e2 q2 : Bool} (h : lessFrom w p e q w2 p2 e2 q2 8 0 = true) (K : Nat) (hK : K < 4) (priv : Bool) (h0 : judgeOf w p e q (K : Int) priv = 0) : judgeOf w2 p2 e2 q2 (K : Int) priv = 0 := by
  rw [less_iff] at h
  cases priv
  · have a := h (2 * K) (by omega) (by omega)
    unfold letsTo at a
    rw [show 2 * K / 2 = K by omega, show (2 * K % 2 == 1) = false by rw [Nat.mul_mod_right]; rfl] at a
    simp only [Bool.or_eq_true, bne_iff_ne, beq_iff_eq, ne_eq] at a
    omega
  · have a := h (2 * K + 1) (by omega) (by omega)
    unfold letsTo at a
    rw [show (2 * K + 1) / 2 = K by omega, show ((2 * K + 1) % 2 == 1) = true by rw [show (2 * K + 1) % 2 = 1 by omega]; rfl] at a
    simp only [Bool.or_eq_true, bne_iff_ne, beq_iff_eq, ne_eq] at a
    omega
theorem FaultLess : lookasidelaw09_FaultLess.Pure := by
  intro w p e l g q w2 p2 e2 l2 g2 q2 w3 p3 e3 l3 g3 q3 kind priv va z0 z1
  refine ⟨60, ?_⟩
  have hj : lookasidelaw09_FaultLess.j0 60 (lessFrom w p e q w2 p2 e2 q2 8 0) false w p e l g q w2 p2 e2 l2 g2 q2 (kindOf kind : Int) priv va = some true := by
    rw [show (60 : Nat) = 59 + 1 from rfl, lookasidelaw09_FaultLess.j0, pJudge _ _ _ _ _ _ _ _ _ 59 (by omega), pJudge _ _ _ _ _ _ _ _ _ 59 (by omega), fliv 59 (by omega)]
    simp only [Option.bind_some, Bool.false_eq_true, if_false]
    by_cases h : lessFrom w p e q w2 p2 e2 q2 8 0 = true
    · rw [if_pos h]
      by_cases x : judgeOf w p e q (kindOf kind : Int) priv = 0
      · rw [if_pos x, if_pos (less_lets h _ (kindOf_lt kind) priv x)]
      · rw [if_neg x]
    · rw [if_neg h]
  unfold lookasidelaw09_FaultLess.f
  rw [rFGood kind z0 priv va 60]
  simp only [Option.bind_some]
  rw [pLess _ _ _ _ _ _ _ _ _ _ _ _ 60 (by omega), pLess _ _ _ _ _ _ _ _ _ _ _ _ 60 (by omega), rLess _ _ _ _ _ _ _ _ _ _ _ _ 60 (by omega), pLess _ _ _ _ _ _ _ _ _ _ _ _ 60 (by omega), pLess _ _ _ _ _ _ _ _ _ _ _ _ 60 (by omega), less_self]
  simp only [Option.bind_some, bne_self_eq_false, Bool.false_eq_true, if_false, if_true]
  by_cases h : lessFrom w p e q w2 p2 e2 q2 8 0 = true
  · rw [if_pos h]
    by_cases h' : lessFrom w2 p2 e2 q2 w3 p3 e3 q3 8 0 = true
    · rw [if_pos h', less_trans h h']; exact hj
    · rw [if_neg h']; exact hj
  · rw [if_neg h]; exact hj

end Go.Proofs.Ytedjiicaikhcbaa.Pure
