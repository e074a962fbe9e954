/- For every attributes and every access, what attributes say of it is the worst of what each alone says; no conditions. -/
import Derived.Test.YtedjiicaikhcbaaQFaultRowsx3
import Derived.Laws.BitsAllLaws
import Derived.Laws.Bits64
set_option linter.unusedVariables false
set_option linter.unusedSimpArgs false
namespace Go.Proofs.Ytedjiicaikhcbaa.Pure
open Go.RowKit Go.Proofs.Ytedjiicaikhcbaa.QFaultRows Go.Proofs.YtedjiicaikhcbaaW.PrintWords Go.Proofs.YtedjiicaikhcbaaW.PrintLast Go.Proofs.YtedjiicaikhcbaaW.PrintMore

/-! ### Plain arithmetic of words -/
theorem m_u64 {a : Int} (h : (Lit.int .u64 a).wf = true) : 0 ≤ a ∧ a < 18446744073709551616 := by
  simp [Lit.wf, IntKind.min, IntKind.max, IntKind.signed, IntKind.bits] at h; omega
theorem m_i64 {a : Int} (h : (Lit.int .i64 a).wf = true) : -9223372036854775808 ≤ a ∧ a < 9223372036854775808 := by
  simp [Lit.wf, IntKind.min, IntKind.max, IntKind.signed, IntKind.bits] at h; omega
theorem m_shr (x : Int) (n : Nat) (h : n ≤ 64) : shr .u64 x (n : Int) = x / 2 ^ n := by
  unfold shr; rw [Int.toNat_natCast, Nat.min_eq_left (by simpa [IntKind.bits] using h)]
theorem m_shl (x : Int) (n : Nat) (h : n ≤ 64) : shl .u64 x (n : Int) = x * 2 ^ n % 18446744073709551616 := by
  unfold shl; rw [Int.toNat_natCast, Nat.min_eq_left (by simpa [IntKind.bits] using h), IntKind.wrap_u64]
theorem m_maskn (n : Nat) (h1 : 1 ≤ n) (h2 : n ≤ 64) : (18446744073709551615 : Int) / 2 ^ (64 - n) = ((2 ^ n - 1 : Nat) : Int) := by
  have hp : 2 ^ (64 - n) * 2 ^ n = (18446744073709551616 : Nat) := by rw [← Nat.pow_add, show 64 - n + n = 64 by omega]
  have h0 : 0 < 2 ^ (64 - n) := Nat.two_pow_pos _
  have h3 : 0 < 2 ^ n := Nat.two_pow_pos _
  have e : (18446744073709551615 : Nat) / 2 ^ (64 - n) = 2 ^ n - 1 := by
    apply Nat.div_eq_of_lt_le
    · rw [Nat.mul_comm, Nat.mul_sub, hp]; omega
    · rw [Nat.sub_add_cancel h3, Nat.mul_comm, hp]; omega
  have := congrArg (fun x : Nat => (x : Int)) e
  simpa using this
theorem m_mask (p n : Nat) (h1 : 1 ≤ n) (h2 : p + n ≤ 64) : shl .u64 (shr .u64 18446744073709551615 ((64 - n : Nat) : Int)) (p : Int) = (((2 ^ n - 1) * 2 ^ p : Nat) : Int) := by
  rw [m_shr _ _ (by omega), m_shl _ _ (by omega), m_maskn n h1 (by omega)]
  have hp : 2 ^ n * 2 ^ p ≤ (18446744073709551616 : Nat) := by
    rw [← Nat.pow_add]; exact Nat.le_trans (Nat.pow_le_pow_right (by decide) (show n + p ≤ 64 by omega)) (by decide)
  have h3 : 0 < 2 ^ p := Nat.two_pow_pos _
  have h4 : (2 ^ n - 1) * 2 ^ p < (18446744073709551616 : Nat) := by
    rw [Nat.sub_mul]; omega
  have e : ((2 ^ n - 1) * 2 ^ p) % (18446744073709551616 : Nat) = (2 ^ n - 1) * 2 ^ p := Nat.mod_eq_of_lt h4
  have := congrArg (fun x : Nat => (x : Int)) e
  simpa using this
theorem m_get (a : Nat) (ha : a < 18446744073709551616) (p n : Nat) (h1 : 1 ≤ n) (h2 : p + n ≤ 64) :
    shr .u64 (Go.bits .and .u64 (a : Int) (((2 ^ n - 1) * 2 ^ p : Nat) : Int)) (p : Int) = ((a / 2 ^ p % 2 ^ n : Nat) : Int) := by
  have hp : 2 ^ n * 2 ^ p ≤ (18446744073709551616 : Nat) := by
    rw [← Nat.pow_add]; exact Nat.le_trans (Nat.pow_le_pow_right (by decide) (show n + p ≤ 64 by omega)) (by decide)
  have h3 : 0 < 2 ^ p := Nat.two_pow_pos _
  have h4 : (2 ^ n - 1) * 2 ^ p < (18446744073709551616 : Nat) := by
    rw [Nat.sub_mul]; omega
  rw [u64_and_nat _ _ ha h4, m_shr _ _ (by omega)]
  have e : (a &&& (2 ^ n - 1) * 2 ^ p) / 2 ^ p = a / 2 ^ p % 2 ^ n := by
    rw [← Nat.shiftRight_eq_div_pow, Nat.shiftRight_and_distrib, Nat.shiftRight_eq_div_pow, Nat.shiftRight_eq_div_pow, Nat.mul_div_cancel _ h3, Nat.and_two_pow_sub_one_eq_mod]
  have := congrArg (fun x : Nat => (x : Int)) e
  simpa using this

/-! ### A bit of a word, by halving -/
theorem m_tdiv (x n : Nat) : Int.tdiv (x : Int) (n : Int) = ((x / n : Nat) : Int) := rfl
theorem m_tmod (x n : Nat) : Int.tmod (x : Int) (n : Int) = ((x % n : Nat) : Int) := rfl
theorem m_w64 (x : Nat) (h : x < 9223372036854775808) : wrap64 (x : Int) = x := by unfold wrap64; omega
theorem m_wu (x : Nat) (h : x < 18446744073709551616) : IntKind.u64.wrap (x : Int) = x := by rw [IntKind.wrap_u64]; omega

/-! ### What attributes say of an access -/
def judgeOf (w p e q : Bool) (kind : Int) (priv : Bool) : Int :=
  if (p && !priv) = true then 3 else if (q && kind != 3) = true then 4 else if (kind == 1 && !w) = true then 5 else if (kind == 2 && !e) = true then 6 else 0
theorem pJudge (w p e l g q : Bool) (kind : Int) (priv : Bool) (va : Int) (k : Nat) (hk : 10 ≤ k) : fault_Judge.f k w p e l g q kind priv va = some (judgeOf w p e q kind priv) := by
  obtain ⟨k, rfl⟩ : ∃ m, k = m + 3 := ⟨k - 3, by omega⟩
  unfold fault_Judge.f judgeOf
  by_cases h1 : kind = 1
  · subst h1; cases w <;> cases p <;> cases e <;> cases q <;> cases priv <;> rfl
  · by_cases h2 : kind = 2
    · subst h2; cases w <;> cases p <;> cases e <;> cases q <;> cases priv <;> rfl
    · by_cases h3 : kind = 3
      · subst h3; cases w <;> cases p <;> cases e <;> cases q <;> cases priv <;> rfl
      · cases w <;> cases p <;> cases e <;> cases q <;> cases priv <;> simp [fault_Judge.j0, fault_Judge.j1, fault_Judge.j2, h1, h2, h3]

/-- A number's kind of access. -/
def kindOf (n : Int) : Nat := (if n < 0 then -(n + 1) else n).toNat % 4
theorem kindOf_lt (n : Int) : kindOf n < 4 := Nat.mod_lt _ (by decide)
theorem rFGood (kind : Int) (hk : (Lit.int .i64 kind).wf = true) (priv : Bool) (va : Int) (k : Nat) : lookasideref09_Good.f k kind priv va false = some ((kindOf kind : Int), priv, va) := by
  obtain ⟨h1, h2⟩ := m_i64 hk
  unfold lookasideref09_Good.f kindOf
  by_cases h : kind < 0
  · rw [if_pos h, if_neg (by decide), if_pos h]
    have e : wrap64 (-(wrap64 (kind + 1))) = -(kind + 1) := by unfold wrap64; omega
    rw [e, Int.tmod_eq_emod_of_nonneg (by omega)]
    refine congrArg some (Prod.ext ?_ rfl); omega
  · rw [if_neg h, if_neg (by decide), if_neg h, Int.tmod_eq_emod_of_nonneg (by omega)]
    refine congrArg some (Prod.ext ?_ rfl); omega

theorem fliv10 : lookasidelaw09_lives.f 10 = some true := by decide +kernel
theorem fliv (k : Nat) (hk : 10 ≤ k) : lookasidelaw09_lives.f k = some true := at_rounds lookasidelaw09_lives.mono hk fliv10

def rowsOf (w p e q priv : Bool) (K : Int) : Option Bool :=
  (fault_Worse.f (judgeOf true p true false K priv) (judgeOf true false true q K priv)).bind fun t147 => ((fault_Worse.f (judgeOf w false true false K priv) (judgeOf true false e false K priv)).bind fun t150 => ((fault_Worse.f t147 t150).bind fun t151 => some (decide (t151 = judgeOf w p e q K priv) && decide (judgeOf true false true false K priv = 0))))
theorem rows_all : ∀ (w p e q priv : Bool) (K : Fin 4), rowsOf w p e q priv (K.val : Int) = some true := by decide +kernel
theorem FaultRows : lookasidelaw09_FaultRows.Pure := by
  intro w p e l g q kind priv va w0 w1
  refine ⟨50, ?_⟩
  unfold lookasidelaw09_FaultRows.f
  have h := rows_all w p e q priv ⟨kindOf kind, kindOf_lt kind⟩
  unfold rowsOf at h
  simp only at h
  rw [rFGood kind w0 priv va 50]
  simp only [Option.bind_some]
  rw [pJudge _ _ _ _ _ _ _ _ _ 50 (by omega), pJudge _ _ _ _ _ _ _ _ _ 50 (by omega), pJudge _ _ _ _ _ _ _ _ _ 50 (by omega), pJudge _ _ _ _ _ _ _ _ _ 50 (by omega), pJudge _ _ _ _ _ _ _ _ _ 50 (by omega), pJudge _ _ _ _ _ _ _ _ _ 50 (by omega), fliv 50 (by omega)]
  simp only [Option.bind_some]
  rw [Option.bind_eq_some_iff] at h
  obtain ⟨t1, e1, h⟩ := h
  rw [Option.bind_eq_some_iff] at h
  obtain ⟨t2, e2, h⟩ := h
  rw [Option.bind_eq_some_iff] at h
  obtain ⟨t3, e3, h⟩ := h
  rw [Option.some.injEq, Bool.and_eq_true, decide_eq_true_eq, decide_eq_true_eq] at h
  rw [e1, Option.bind_some, e2, Option.bind_some, e3, Option.bind_some, if_pos h.1, if_pos h.2]

end Go.Proofs.Ytedjiicaikhcbaa.Pure
