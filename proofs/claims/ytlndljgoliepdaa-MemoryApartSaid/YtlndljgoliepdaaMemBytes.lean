/- Bytes and words as numbers: a byte that is put into a word, and what is read behind it; a memory's words behind others are put; no conditions beyond the numbers' bounds. -/
import Derived.Test.YtlndljgoliepdaaMem1
import Derived.Laws.BitsAllLaws
namespace Go.Proofs.Ytlndljgoliepdaa.Mem
open Go.RowKit Go.Maps Go.Proofs.YtlndljgoliepdaaW.PrintWords Go.Proofs.YtlndljgoliepdaaW.PrintLast Go.Proofs.YtlndljgoliepdaaW.PrintMore
set_option linter.unusedSimpArgs false
set_option linter.unusedVariables false
theorem isKey (k : Int) (h : (Lit.int .u64 k).wf = true) : WideAt.IsKeyLit (.int .u64 k) := by trivial
theorem st_isMap {D : DataW Unit} (h : IsMap D) (k v : Int) : IsMap (st D k v) := by unfold st; split; exact h.del _; exact h.put _ _
theorem rd_st_same {D : DataW Unit} (h : IsMap D) (k v : Int) : rd (st D k v) k = v := by
  unfold rd st
  by_cases hv : v = 0
  · rw [if_pos hv, atKey_del_same, hv]
  · rw [if_neg hv, atKey_put_same h (by trivial)]
theorem rd_st_other {D : DataW Unit} {k k' : Int} (hne : k' ≠ k) (v : Int) : rd (st D k v) k' = rd D k' := by
  have h : Lit.int .u64 k' ≠ Lit.int .u64 k := fun e => hne (by injection e)
  unfold rd st
  by_cases hv : v = 0
  · rw [if_pos hv, atKey_del_other h]
  · rw [if_neg hv, atKey_put_other h]
/-- A word's i highest bytes. -/
def pre (x : Int) (i : Nat) : Int := x / 2 ^ (8 * (8 - i))
def bt (x : Int) (i : Nat) : Int := x / 2 ^ ((7 - i) * 8) % 256
theorem pre_zero {x : Int} (hx : (Lit.int .u64 x).wf = true) : (0 : Int) = pre x 0 := by
  have := u64_b hx
  unfold pre
  simp
  omega
theorem pre_eight (x : Int) : pre x 8 = x := by
  unfold pre
  simp
theorem pre_step {x : Int} (hx : (Lit.int .u64 x).wf = true) {i : Nat} (hi : i < 8) : IntKind.u64.wrap (IntKind.u64.wrap (256 * pre x i) + IntKind.u64.wrap (bt x i)) = pre x (i + 1) := by
  have := u64_b hx
  unfold IntKind.wrap pre bt
  simp only [IntKind.signed, IntKind.bits]
  match i, hi with
  | 0, _ | 1, _ | 2, _ | 3, _ | 4, _ | 5, _ | 6, _ | 7, _ => simp; omega
theorem byte_at_i {D : DataW Unit} {A x : Int} {i : Nat} (hA : A % 8 = 0) (hi : i < 8) (h : rd D (A / 8) = x) : byteAt D (A + i) = bt x i := by
  unfold byteAt bt
  have e1 : (A + i) / 8 = A / 8 := by omega
  have e2 : (A + i) % 8 = i := by omega
  rw [e1, e2, h]
  have e3 : ((7 - (i : Int)) * 8).toNat = (7 - i) * 8 := by omega
  rw [e3]
/-! ### A number put into a field -/
def putOf (a p n v : Nat) : Nat := a - a / 2 ^ p % 2 ^ n * 2 ^ p + v % 2 ^ n * 2 ^ p
theorem m_put (a v : Nat) (ha : a < 18446744073709551616) (p n : Nat) (h1 : 1 ≤ n) (h2 : p + n ≤ 64) :
    (a &&& (18446744073709551615 - (2 ^ n - 1) * 2 ^ p)) ||| ((v * 2 ^ p % 18446744073709551616) &&& ((2 ^ n - 1) * 2 ^ p)) = putOf a p n v := by
  have hn0 : 0 < 2 ^ n := Nat.two_pow_pos n
  have hp0 : 0 < 2 ^ p := Nat.two_pow_pos p
  have hM : (2 ^ n - 1) * 2 ^ p < 2 ^ 64 := by
    have hp : 2 ^ n * 2 ^ p ≤ (2 ^ 64 : Nat) := by
      rw [← Nat.pow_add]; exact Nat.pow_le_pow_right (by decide) (by omega)
    rw [Nat.sub_mul]; omega
  have hT : putOf a p n v = 2 ^ (p + n) * (a / 2 ^ (p + n)) + (2 ^ p * (v % 2 ^ n) + a % 2 ^ p) := by
    unfold putOf
    have e1 : a = 2 ^ p * (a / 2 ^ p) + a % 2 ^ p := (Nat.div_add_mod a (2 ^ p)).symm
    have e2 : a / 2 ^ p = 2 ^ n * (a / 2 ^ p / 2 ^ n) + a / 2 ^ p % 2 ^ n := (Nat.div_add_mod (a / 2 ^ p) (2 ^ n)).symm
    rw [Nat.div_div_eq_div_mul, ← Nat.pow_add] at e2
    have e3 : 2 ^ p * (a / 2 ^ p) = 2 ^ (p + n) * (a / 2 ^ (p + n)) + a / 2 ^ p % 2 ^ n * 2 ^ p := by
      conv => lhs; rw [e2]
      rw [Nat.mul_add, ← Nat.mul_assoc, ← Nat.pow_add, Nat.mul_comm (a / 2 ^ p % 2 ^ n)]
    have e4 : v % 2 ^ n * 2 ^ p = 2 ^ p * (v % 2 ^ n) := Nat.mul_comm _ _
    omega
  have hin : 2 ^ p * (v % 2 ^ n) + a % 2 ^ p < 2 ^ (p + n) := by
    have x1 : v % 2 ^ n < 2 ^ n := Nat.mod_lt _ hn0
    have x2 : a % 2 ^ p < 2 ^ p := Nat.mod_lt _ hp0
    have x3 : 2 ^ p * (v % 2 ^ n + 1) ≤ 2 ^ p * 2 ^ n := Nat.mul_le_mul_left _ x1
    rw [Nat.pow_add]
    rw [Nat.mul_add, Nat.mul_one] at x3
    omega
  rw [hT]
  apply Nat.eq_of_testBit_eq
  intro i
  rw [show (18446744073709551615 : Nat) - (2 ^ n - 1) * 2 ^ p = 2 ^ 64 - ((2 ^ n - 1) * 2 ^ p + 1) by omega, show (18446744073709551616 : Nat) = 2 ^ 64 from rfl]
  rw [Nat.testBit_or, Nat.testBit_and, Nat.testBit_and, Nat.testBit_two_pow_sub_succ hM, Nat.testBit_mod_two_pow, Nat.testBit_mul_two_pow, Nat.testBit_mul_two_pow, Nat.testBit_two_pow_sub_one]
  rw [Nat.testBit_two_pow_mul_add _ hin, Nat.testBit_two_pow_mul_add _ (Nat.mod_lt a hp0), Nat.testBit_mod_two_pow, Nat.testBit_mod_two_pow, Nat.testBit_div_two_pow]
  have hhi : 64 ≤ i → a.testBit i = false := fun h => Nat.testBit_lt_two_pow (Nat.lt_of_lt_of_le ha (Nat.pow_le_pow_right (by decide) h : 2 ^ 64 ≤ 2 ^ i))
  by_cases c1 : i < p
  · have c2 : i < p + n := by omega
    have c3 : ¬ p ≤ i := by omega
    have c4 : i < 64 := by omega
    simp [c1, c2, c3, c4]
  · by_cases c2 : i < p + n
    · have c3 : p ≤ i := by omega
      have c4 : i < 64 := by omega
      have c5 : i - p < n := by omega
      simp [c1, c2, c3, c4, c5]
    · have c3 : p ≤ i := by omega
      have c5 : ¬ i - p < n := by omega
      by_cases c4 : i < 64
      · simp [c1, c2, c3, c4, c5, Nat.sub_add_cancel (show p + n ≤ i by omega)]
      · simp [c1, c2, c3, c4, c5, hhi (by omega), Nat.sub_add_cancel (show p + n ≤ i by omega)]
theorem putOf_lt (a v : Nat) (ha : a < 18446744073709551616) (p n : Nat) (h1 : 1 ≤ n) (h2 : p + n ≤ 64) : putOf a p n v < 18446744073709551616 := by
  rw [← m_put a v ha p n h1 h2]
  apply Nat.or_lt_two_pow (n := 64)
  · exact Nat.lt_of_le_of_lt Nat.and_le_left ha
  · exact Nat.lt_of_le_of_lt Nat.and_le_left (Nat.mod_lt _ (by decide))
theorem and_top (v p n : Nat) (hv : v < 2 ^ n) (hp : p + n ≤ 64) : (v * 2 ^ p % 18446744073709551616) &&& ((2 ^ n - 1) * 2 ^ p) = v * 2 ^ p := by
  have h1 : v * 2 ^ p < 18446744073709551616 := by
    have h2 : v * 2 ^ p < 2 ^ n * 2 ^ p := Nat.mul_lt_mul_of_pos_right hv (Nat.two_pow_pos p)
    have h3 : 2 ^ n * 2 ^ p ≤ (2 ^ 64 : Nat) := by rw [← Nat.pow_add]; exact Nat.pow_le_pow_right (by decide) (by omega)
    omega
  rw [Nat.mod_eq_of_lt h1]
  apply Nat.eq_of_testBit_eq
  intro i
  rw [Nat.testBit_and, Nat.testBit_mul_two_pow, Nat.testBit_mul_two_pow, Nat.testBit_two_pow_sub_one]
  by_cases c : i - p < n
  · simp [c]
    intro h _; exact h
  · have : v.testBit (i - p) = false := Nat.testBit_lt_two_pow (Nat.lt_of_lt_of_le hv (Nat.pow_le_pow_right (by decide) (by omega)))
    simp [this]
theorem putB_nat (x b i : Nat) (hx : x < 18446744073709551616) (hb : b < 256) (hi : i ≤ 7) (a : Int) (ha : a % 8 = 7 - (i : Int)) : putB (x : Int) a (b : Int) = ((putOf x (i * 8) 8 b : Nat) : Int) := by
  unfold putB
  have e1 : ((7 - a % 8) * 8).toNat = i * 8 := by omega
  have e2 : IntKind.u64.wrap (b : Int) = (b : Int) := by rw [IntKind.wrap_u64]; omega
  have hP : 255 * 2 ^ (i * 8) < 18446744073709551616 := by
    have : 2 ^ (i * 8) ≤ 2 ^ 56 := Nat.pow_le_pow_right (by decide) (by omega)
    omega
  have hQ : b * 2 ^ (i * 8) < 18446744073709551616 := by
    have h1 : b * 2 ^ (i * 8) ≤ 255 * 2 ^ (i * 8) := Nat.mul_le_mul_right _ (by omega)
    omega
  have e3 : IntKind.u64.wrap ((255 : Int) * 2 ^ (i * 8)) = ((255 * 2 ^ (i * 8) : Nat) : Int) := by
    rw [IntKind.wrap_u64, show ((255 : Int) * 2 ^ (i * 8)) = ((255 * 2 ^ (i * 8) : Nat) : Int) by simp]; omega
  have e4 : IntKind.u64.wrap ((b : Int) * 2 ^ (i * 8)) = ((b * 2 ^ (i * 8) : Nat) : Int) := by
    rw [IntKind.wrap_u64, show ((b : Int) * 2 ^ (i * 8)) = ((b * 2 ^ (i * 8) : Nat) : Int) by simp]; omega
  rw [e1, e2, e3, e4, u64_andNot_nat _ _ hx hP, u64_or_nat _ _ (Nat.lt_of_le_of_lt Nat.and_le_left hx) hQ, ← m_put x b hx (i * 8) 8 (by omega) (by omega), and_top b (i * 8) 8 hb (by omega), show (2 ^ 8 - 1 : Nat) = 255 from rfl]
/-- What a word is, where its byte at an address was another one, and stands there again. -/
theorem putB_back {x : Int} (hx : (Lit.int .u64 x).wf = true) (a b c : Int) (hb0 : 0 ≤ b) (hb : b < 256) (hc : c = x / 2 ^ ((7 - a % 8) * 8).toNat % 256) : putB (putB x a b) a c = x := by
  obtain ⟨h0, h1⟩ := u64_b hx
  obtain ⟨X, rfl⟩ := Int.eq_ofNat_of_zero_le h0
  obtain ⟨b', rfl⟩ := Int.eq_ofNat_of_zero_le hb0
  obtain ⟨i, hi, hi7⟩ : ∃ i : Nat, a % 8 = 7 - (i : Int) ∧ i ≤ 7 := ⟨(7 - a % 8).toNat, by omega, by omega⟩
  have hX : X < 18446744073709551616 := by omega
  have e1 : ((7 - a % 8) * 8).toNat = i * 8 := by omega
  rw [e1] at hc
  obtain ⟨C, rfl⟩ := Int.eq_ofNat_of_zero_le (show 0 ≤ c by rw [hc]; exact Int.emod_nonneg _ (by decide))
  have hC : C = X / 2 ^ (i * 8) % 256 := by
    have : ((C : Nat) : Int) = ((X / 2 ^ (i * 8) % 256 : Nat) : Int) := by rw [hc]; simp
    exact_mod_cast this
  rw [putB_nat X b' i hX (by omega) hi7 a hi, putB_nat _ C i (putOf_lt X b' hX _ _ (by omega) (by omega)) (by omega) hi7 a hi]
  congr 1
  unfold putOf
  subst hC
  match i, hi7 with
  | 0, _ | 1, _ | 2, _ | 3, _ | 4, _ | 5, _ | 6, _ | 7, _ => simp; omega
/-- No word that is 0 stands there. -/
def Clean (D : DataW Unit) : Prop := Tidy D ∧ ∀ k, has D (.int .u64 k) = (rd D k != 0)
theorem clean_empty : Clean (.map []) := ⟨tidy_empty, fun k => rfl⟩
theorem clean_st {D : DataW Unit} (h : Clean D) (k v : Int) : Clean (st D k v) := by
  refine ⟨?_, fun k' => ?_⟩
  · unfold st; split; exact h.1.del _; exact h.1.put (show WideAt.IsKeyLit (.int .u64 k) by trivial) _
  · by_cases e : k' = k
    · subst e
      rw [rd_st_same h.1.isMap]
      unfold st
      by_cases hv : v = 0
      · rw [if_pos hv, has_del_same, hv]; rfl
      · rw [if_neg hv, has_put_same h.1.isMap (show WideAt.IsKeyLit (.int .u64 k') by trivial)]; exact (bne_iff_ne.mpr hv).symm
    · have hl : Lit.int .u64 k' ≠ Lit.int .u64 k := fun x => e (by injection x)
      rw [rd_st_other e, ← h.2 k']
      unfold st
      by_cases hv : v = 0
      · rw [if_pos hv, has_del_other hl]
      · rw [if_neg hv, has_put_other hl]
def one (v : Int) : Nat := if v = 0 then 0 else 1
theorem size_st {D : DataW Unit} (h : Clean D) (k v : Int) : Maps.size (st D k v) + one (rd D k) = Maps.size D + one v := by
  have hh := h.2 k
  unfold st one
  by_cases hv : v = 0
  · rw [if_pos hv, if_pos hv]
    have h1 := size_del (k := .int .u64 k) h.1
    by_cases h2 : rd D k = 0
    · rw [if_pos h2]; rw [hh, h2] at h1; simpa using h1
    · rw [if_neg h2]; rw [hh, bne_iff_ne.mpr h2] at h1; simpa using h1
  · rw [if_neg hv, if_neg hv]
    have h1 := size_put (k := .int .u64 k) h.1 (.lit (.int .u64 v))
    by_cases h2 : rd D k = 0
    · rw [if_pos h2]; rw [hh, h2] at h1; simpa using h1
    · rw [if_neg h2]; rw [hh, bne_iff_ne.mpr h2] at h1; simp at h1; omega
end Go.Proofs.Ytlndljgoliepdaa.Mem
