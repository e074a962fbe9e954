/- For every two entries made such as may be, they have the same tag and data just if they are the same, but for the bits of their addresses that no tag has; no conditions. -/
import Derived.Test.YtecbngibhobgbaaQTteApartx6
import Derived.Laws.BitsAllLaws
import Derived.Laws.Bits64
set_option linter.unusedVariables false
set_option linter.unusedSimpArgs false
namespace Go.Proofs.Ytecbngibhobgbaa.Pure
open Go.RowKit Go.Proofs.Ytecbngibhobgbaa.QTteApart Go.Proofs.YtecbngibhobgbaaW.PrintWords Go.Proofs.YtecbngibhobgbaaW.PrintLast Go.Proofs.YtecbngibhobgbaaW.PrintMore

/-! ### Plain arithmetic of words -/
theorem m_u64 {a : Int} (h : (Lit.int .u64 a).wf = true) : 0 ≤ a ∧ a < 18446744073709551616 := by
  simp [Lit.wf, IntKind.min, IntKind.max, IntKind.signed, IntKind.bits] at h; omega
theorem m_i64 {a : Int} (h : (Lit.int .i64 a).wf = true) : -9223372036854775808 ≤ a ∧ a < 9223372036854775808 := by
  simp [Lit.wf, IntKind.min, IntKind.max, IntKind.signed, IntKind.bits] at h; omega
theorem m_shr (x : Int) (n : Nat) (h : n ≤ 64) : shr .u64 x (n : Int) = x / 2 ^ n := by
  unfold shr; rw [Int.toNat_natCast, Nat.min_eq_left (by simpa [IntKind.bits] using h)]
theorem m_shl (x : Int) (n : Nat) (h : n ≤ 64) : shl .u64 x (n : Int) = x * 2 ^ n % 18446744073709551616 := by
  unfold shl; rw [Int.toNat_natCast, Nat.min_eq_left (by simpa [IntKind.bits] using h), IntKind.wrap_u64]
theorem m_maskn (n : Nat) (h1 : 1 ≤ n) (h2 : n ≤ 64) : (18446744073709551615 : Int) / 2 ^ (64 - n) = ((2 ^ n - 1 : Nat) : Int) := by
  have hp : 2 ^ (64 - n) * 2 ^ n = (18446744073709551616 : Nat) := by rw [← Nat.pow_add, show 64 - n + n = 64 by omega]
  have h0 : 0 < 2 ^ (64 - n) := Nat.two_pow_pos _
  have h3 : 0 < 2 ^ n := Nat.two_pow_pos _
  have e : (18446744073709551615 : Nat) / 2 ^ (64 - n) = 2 ^ n - 1 := by
    apply Nat.div_eq_of_lt_le
    · rw [Nat.mul_comm, Nat.mul_sub, hp]; omega
    · rw [Nat.sub_add_cancel h3, Nat.mul_comm, hp]; omega
  have := congrArg (fun x : Nat => (x : Int)) e
  simpa using this
theorem m_mask (p n : Nat) (h1 : 1 ≤ n) (h2 : p + n ≤ 64) : shl .u64 (shr .u64 18446744073709551615 ((64 - n : Nat) : Int)) (p : Int) = (((2 ^ n - 1) * 2 ^ p : Nat) : Int) := by
  rw [m_shr _ _ (by omega), m_shl _ _ (by omega), m_maskn n h1 (by omega)]
  have hp : 2 ^ n * 2 ^ p ≤ (18446744073709551616 : Nat) := by
    rw [← Nat.pow_add]; exact Nat.le_trans (Nat.pow_le_pow_right (by decide) (show n + p ≤ 64 by omega)) (by decide)
  have h3 : 0 < 2 ^ p := Nat.two_pow_pos _
  have h4 : (2 ^ n - 1) * 2 ^ p < (18446744073709551616 : Nat) := by
    rw [Nat.sub_mul]; omega
  have e : ((2 ^ n - 1) * 2 ^ p) % (18446744073709551616 : Nat) = (2 ^ n - 1) * 2 ^ p := Nat.mod_eq_of_lt h4
  have := congrArg (fun x : Nat => (x : Int)) e
  simpa using this
theorem m_get (a : Nat) (ha : a < 18446744073709551616) (p n : Nat) (h1 : 1 ≤ n) (h2 : p + n ≤ 64) :
    shr .u64 (Go.bits .and .u64 (a : Int) (((2 ^ n - 1) * 2 ^ p : Nat) : Int)) (p : Int) = ((a / 2 ^ p % 2 ^ n : Nat) : Int) := by
  have hp : 2 ^ n * 2 ^ p ≤ (18446744073709551616 : Nat) := by
    rw [← Nat.pow_add]; exact Nat.le_trans (Nat.pow_le_pow_right (by decide) (show n + p ≤ 64 by omega)) (by decide)
  have h3 : 0 < 2 ^ p := Nat.two_pow_pos _
  have h4 : (2 ^ n - 1) * 2 ^ p < (18446744073709551616 : Nat) := by
    rw [Nat.sub_mul]; omega
  rw [u64_and_nat _ _ ha h4, m_shr _ _ (by omega)]
  have e : (a &&& (2 ^ n - 1) * 2 ^ p) / 2 ^ p = a / 2 ^ p % 2 ^ n := by
    rw [← Nat.shiftRight_eq_div_pow, Nat.shiftRight_and_distrib, Nat.shiftRight_eq_div_pow, Nat.shiftRight_eq_div_pow, Nat.mul_div_cancel _ h3, Nat.and_two_pow_sub_one_eq_mod]
  have := congrArg (fun x : Nat => (x : Int)) e
  simpa using this

/-! ### A bit of a word, by halving -/
theorem m_tdiv (x n : Nat) : Int.tdiv (x : Int) (n : Int) = ((x / n : Nat) : Int) := rfl
theorem m_tmod (x n : Nat) : Int.tmod (x : Int) (n : Int) = ((x % n : Nat) : Int) := rfl
theorem m_w64 (x : Nat) (h : x < 9223372036854775808) : wrap64 (x : Int) = x := by unfold wrap64; omega
theorem m_wu (x : Nat) (h : x < 18446744073709551616) : IntKind.u64.wrap (x : Int) = x := by rw [IntKind.wrap_u64]; omega

/-! ### Bits by halving -/
theorem bit_l (d : Nat) : ∀ (x c k : Nat), x < 18446744073709551616 → c + d ≤ 64 → d < k →
    lookasideref01_Bit.l0 k (x : Int) ((c + d : Nat) : Int) (c : Int) = some ((x / 2 ^ d % 2 : Nat) : Int) := by
  induction d with
  | zero =>
    intro x c k hx hc hk
    obtain ⟨k, rfl⟩ : ∃ m, k = m + 1 := ⟨k - 1, by omega⟩
    simp only [lookasideref01_Bit.l0]
    rw [if_neg (by omega)]
    show some (Int.tmod (x : Int) ((2 : Nat) : Int)) = _
    rw [m_tmod]; simp
  | succ d ih =>
    intro x c k hx hc hk
    obtain ⟨k, rfl⟩ : ∃ m, k = m + 1 := ⟨k - 1, by omega⟩
    simp only [lookasideref01_Bit.l0]
    rw [if_pos (by omega)]
    have e1 : IntKind.u64.wrap (Int.tdiv (x : Int) 2) = ((x / 2 : Nat) : Int) := by
      show IntKind.u64.wrap (Int.tdiv (x : Int) ((2 : Nat) : Int)) = _
      rw [m_tdiv, m_wu _ (by omega)]
    have e2 : wrap64 ((c : Int) + 1) = ((c + 1 : Nat) : Int) := by
      have := m_w64 (c + 1) (by omega); simpa using this
    rw [e1, e2, show c + (d + 1) = (c + 1) + d by omega, ih (x / 2) (c + 1) k (by omega) (by omega) (by omega)]
    rw [Nat.div_div_eq_div_mul, show 2 ^ (d + 1) = 2 * 2 ^ d by rw [Nat.pow_succ, Nat.mul_comm]]
theorem rBit (x i k : Nat) (hx : x < 18446744073709551616) (hi : i ≤ 64) (hk : 100 ≤ k) : lookasideref01_Bit.f k (x : Int) (i : Int) = some ((x / 2 ^ i % 2 : Nat) : Int) := by
  have := bit_l i x 0 k hx (by omega) (by omega)
  simpa [lookasideref01_Bit.f] using this

/-! ### Fields -/
theorem fMay (p n : Nat) (h1 : 1 ≤ n) (h2 : p + n ≤ 64) : field_May.f (p : Int) (n : Int) = some true := by
  unfold field_May.f
  have e : wrap64 (64 - (n : Int)) = ((64 - n : Nat) : Int) := by unfold wrap64; omega
  rw [if_pos (by omega), if_pos (by omega), if_pos (by omega), e]
  simp; omega
theorem fMask (p n : Nat) (h1 : 1 ≤ n) (h2 : p + n ≤ 64) : field_Mask.f (p : Int) (n : Int) = some (((2 ^ n - 1) * 2 ^ p : Nat) : Int) := by
  unfold field_Mask.f
  have e : wrap64 (64 - (n : Int)) = ((64 - n : Nat) : Int) := by unfold wrap64; omega
  rw [fMay p n h1 h2]
  simp only [Option.bind_some, if_true]
  rw [e, if_pos (by omega), if_pos (by omega), m_mask p n h1 h2]
theorem fGet (a : Nat) (ha : a < 18446744073709551616) (p n : Nat) (h1 : 1 ≤ n) (h2 : p + n ≤ 64) : field_Get.f (a : Int) (p : Int) (n : Int) = some ((a / 2 ^ p % 2 ^ n : Nat) : Int) := by
  unfold field_Get.f
  rw [fMay p n h1 h2, fMask p n h1 h2]
  simp only [Option.bind_some, if_true]
  rw [if_pos (by omega), m_get a ha p n h1 h2]

/-! ### Pages -/
def bytesOf (s : Int) : Nat := if s = 0 then 8192 else if s = 1 then 65536 else if s = 2 then 524288 else if s = 3 then 4194304 else 0
def okSize (s : Int) : Prop := 0 ≤ s ∧ s < 4
instance (s : Int) : Decidable (okSize s) := inferInstanceAs (Decidable (0 ≤ s ∧ s < 4))
theorem size_cases (s : Int) : s = 0 ∨ s = 1 ∨ s = 2 ∨ s = 3 ∨ ¬ okSize s := by unfold okSize; omega
theorem bytes_bad {s : Int} (h : ¬ okSize s) : bytesOf s = 0 := by
  unfold okSize at h; unfold bytesOf; rw [if_neg (by omega), if_neg (by omega), if_neg (by omega), if_neg (by omega)]
theorem pMay (s : Int) : page_May.f s = some (decide (okSize s)) := by
  unfold page_May.f okSize
  split <;> simp [*]
theorem pBits (s : Int) : page_Bits.f s = some (if okSize s then 13 + 3 * s else 0) := by
  unfold page_Bits.f
  rw [pMay]
  by_cases h : okSize s
  · have h' := h
    unfold okSize at h'
    simp only [Option.bind_some, h, decide_true, if_true]
    congr 1; unfold wrap64; omega
  · simp [h]
theorem pOffset (a : Nat) (ha : a < 18446744073709551616) (s : Int) : page_Offset.f (a : Int) s = some (if okSize s then ((a % bytesOf s : Nat) : Int) else 0) := by
  unfold page_Offset.f
  rw [pMay, pBits]
  rcases size_cases s with rfl | rfl | rfl | rfl | h
  · have := fGet a ha 0 13 (by omega) (by omega)
    simp [okSize, bytesOf] at this ⊢; rw [this]
  · have := fGet a ha 0 16 (by omega) (by omega)
    simp [okSize, bytesOf] at this ⊢; rw [this]
  · have := fGet a ha 0 19 (by omega) (by omega)
    simp [okSize, bytesOf] at this ⊢; rw [this]
  · have := fGet a ha 0 22 (by omega) (by omega)
    simp [okSize, bytesOf] at this ⊢; rw [this]
  · simp [h]
theorem pStarts (a : Nat) (ha : a < 18446744073709551616) (s : Int) : page_Starts.f (a : Int) s = some (decide (okSize s ∧ a % bytesOf s = 0)) := by
  unfold page_Starts.f
  rw [pMay, pOffset a ha]
  by_cases h : okSize s
  · simp only [h, decide_true, Option.bind_some, if_true, true_and, Option.some.injEq]
    rw [Bool.eq_iff_iff]; simp; omega
  · simp [h]

theorem pTag (a : Nat) (ha : a < 18446744073709551616) : page_Tag.f (a : Int) = some ((a / 4194304 % 4194304 : Nat) : Int) := by
  unfold page_Tag.f
  have := fGet a ha 22 22 (by omega) (by omega)
  have h22 : ((22 : Nat) : Int) = 22 := rfl
  rw [h22] at this
  rw [this]; rfl

theorem rBytes (s : Int) : lookasideref02_Bytes.f s = some (bytesOf s : Int) := by
  unfold lookasideref02_Bytes.f bytesOf
  by_cases h0 : s = 0
  · simp [h0]
  · by_cases h1 : s = 1
    · simp [h1]
    · by_cases h2 : s = 2
      · simp [h2]
      · by_cases h3 : s = 3
        · simp [h3]
        · simp [h0, h1, h2, h3]
theorem bytes_pos {s : Int} (h : okSize s) : 8192 ≤ bytesOf s ∧ bytesOf s ≤ 4194304 := by
  rcases size_cases s with rfl | rfl | rfl | rfl | h'
  · decide
  · decide
  · decide
  · decide
  · exact absurd h h'

theorem rMay (s : Int) : lookasideref02_May.f s = some (decide (okSize s)) := by
  unfold lookasideref02_May.f okSize
  split
  · simp [*]; omega
  · simp [*]
theorem rBase (a : Nat) (ha : a < 18446744073709551616) (s : Int) : lookasideref02_Base.f (a : Int) s = some ((a / bytesOf s * bytesOf s : Nat) : Int) := by
  unfold lookasideref02_Base.f
  rw [rMay, rBytes]
  by_cases h : okSize s
  · have hb := bytes_pos h
    simp only [h, decide_true, Option.bind_some, if_true]
    rw [if_neg (by omega), m_tdiv, m_wu _ (Nat.lt_of_le_of_lt (Nat.div_le_self _ _) ha)]
    have hm : a / bytesOf s * bytesOf s < 18446744073709551616 := Nat.lt_of_le_of_lt (Nat.div_mul_le_self _ _) ha
    have e : ((a / bytesOf s : Nat) : Int) * (bytesOf s : Int) = ((a / bytesOf s * bytesOf s : Nat) : Int) := (Int.natCast_mul _ _).symm
    rw [e, m_wu _ hm]
  · simp [h, bytes_bad h]

def vaOf (a : Nat) : Nat := if a / 8796093022208 % 2 = 1 then a % 8796093022208 + 18446735277616529408 else a % 8796093022208
theorem vaOf_lt (a : Nat) : vaOf a < 18446744073709551616 := by unfold vaOf; split <;> omega
theorem vaOf_hole (a : Nat) : ¬ (vaOf a / 8796093022208 ≠ 0 ∧ vaOf a / 8796093022208 ≠ 2097151) := by unfold vaOf; split <;> omega
theorem rVa (a : Nat) (ha : a < 18446744073709551616) (k : Nat) (hk : 100 ≤ k) : lookasideref02_Va.f k (a : Int) = some (vaOf a : Int) := by
  unfold lookasideref02_Va.f vaOf
  have b2 := rBit a 43 k ha (by omega) (by omega)
  have h43 : ((43 : Nat) : Int) = 43 := rfl
  rw [h43] at b2
  simp only [Nat.reducePow] at b2
  rw [b2]
  simp only [Option.bind_some]
  have e : Int.tmod (a : Int) 8796093022208 = ((a % 8796093022208 : Nat) : Int) := rfl
  rw [e]
  by_cases h : a / 8796093022208 % 2 = 1
  · rw [if_pos (by omega), if_pos h, IntKind.wrap_u64]; refine congrArg some ?_; omega
  · rw [if_neg (by omega), if_neg h]

/-! ### A number put into a field -/
def putOf (a p n v : Nat) : Nat := a - a / 2 ^ p % 2 ^ n * 2 ^ p + v % 2 ^ n * 2 ^ p
theorem m_put (a v : Nat) (ha : a < 18446744073709551616) (p n : Nat) (h1 : 1 ≤ n) (h2 : p + n ≤ 64) :
    (a &&& (18446744073709551615 - (2 ^ n - 1) * 2 ^ p)) ||| ((v * 2 ^ p % 18446744073709551616) &&& ((2 ^ n - 1) * 2 ^ p)) = putOf a p n v := by
  have hn0 : 0 < 2 ^ n := Nat.two_pow_pos n
  have hp0 : 0 < 2 ^ p := Nat.two_pow_pos p
  have hM : (2 ^ n - 1) * 2 ^ p < 2 ^ 64 := by
    have hp : 2 ^ n * 2 ^ p ≤ (2 ^ 64 : Nat) := by
      rw [← Nat.pow_add]; exact Nat.pow_le_pow_right (by decide) (by omega)
    rw [Nat.sub_mul]; omega
  have hT : putOf a p n v = 2 ^ (p + n) * (a / 2 ^ (p + n)) + (2 ^ p * (v % 2 ^ n) + a % 2 ^ p) := by
    unfold putOf
    have e1 : a = 2 ^ p * (a / 2 ^ p) + a % 2 ^ p := (Nat.div_add_mod a (2 ^ p)).symm
    have e2 : a / 2 ^ p = 2 ^ n * (a / 2 ^ p / 2 ^ n) + a / 2 ^ p % 2 ^ n := (Nat.div_add_mod (a / 2 ^ p) (2 ^ n)).symm
    rw [Nat.div_div_eq_div_mul, ← Nat.pow_add] at e2
    have e3 : 2 ^ p * (a / 2 ^ p) = 2 ^ (p + n) * (a / 2 ^ (p + n)) + a / 2 ^ p % 2 ^ n * 2 ^ p := by
      conv => lhs; rw [e2]
      rw [Nat.mul_add, ← Nat.mul_assoc, ← Nat.pow_add, Nat.mul_comm (a / 2 ^ p % 2 ^ n)]
    have e4 : v % 2 ^ n * 2 ^ p = 2 ^ p * (v % 2 ^ n) := Nat.mul_comm _ _
    omega
  have hin : 2 ^ p * (v % 2 ^ n) + a % 2 ^ p < 2 ^ (p + n) := by
    have x1 : v % 2 ^ n < 2 ^ n := Nat.mod_lt _ hn0
    have x2 : a % 2 ^ p < 2 ^ p := Nat.mod_lt _ hp0
    have x3 : 2 ^ p * (v % 2 ^ n + 1) ≤ 2 ^ p * 2 ^ n := Nat.mul_le_mul_left _ x1
    rw [Nat.pow_add]
    rw [Nat.mul_add, Nat.mul_one] at x3
    omega
  rw [hT]
  apply Nat.eq_of_testBit_eq
  intro i
  rw [show (18446744073709551615 : Nat) - (2 ^ n - 1) * 2 ^ p = 2 ^ 64 - ((2 ^ n - 1) * 2 ^ p + 1) by omega, show (18446744073709551616 : Nat) = 2 ^ 64 from rfl]
  rw [Nat.testBit_or, Nat.testBit_and, Nat.testBit_and, Nat.testBit_two_pow_sub_succ hM, Nat.testBit_mod_two_pow, Nat.testBit_mul_two_pow, Nat.testBit_mul_two_pow, Nat.testBit_two_pow_sub_one]
  rw [Nat.testBit_two_pow_mul_add _ hin, Nat.testBit_two_pow_mul_add _ (Nat.mod_lt a hp0), Nat.testBit_mod_two_pow, Nat.testBit_mod_two_pow, Nat.testBit_div_two_pow]
  have hhi : 64 ≤ i → a.testBit i = false := fun h => Nat.testBit_lt_two_pow (Nat.lt_of_lt_of_le ha (Nat.pow_le_pow_right (by decide) h : 2 ^ 64 ≤ 2 ^ i))
  by_cases c1 : i < p
  · have c2 : i < p + n := by omega
    have c3 : ¬ p ≤ i := by omega
    have c4 : i < 64 := by omega
    simp [c1, c2, c3, c4]
  · by_cases c2 : i < p + n
    · have c3 : p ≤ i := by omega
      have c4 : i < 64 := by omega
      have c5 : i - p < n := by omega
      simp [c1, c2, c3, c4, c5]
    · have c3 : p ≤ i := by omega
      have c5 : ¬ i - p < n := by omega
      by_cases c4 : i < 64
      · simp [c1, c2, c3, c4, c5, Nat.sub_add_cancel (show p + n ≤ i by omega)]
      · simp [c1, c2, c3, c4, c5, hhi (by omega), Nat.sub_add_cancel (show p + n ≤ i by omega)]
theorem putOf_lt (a v : Nat) (ha : a < 18446744073709551616) (p n : Nat) (h1 : 1 ≤ n) (h2 : p + n ≤ 64) : putOf a p n v < 18446744073709551616 := by
  rw [← m_put a v ha p n h1 h2]
  apply Nat.or_lt_two_pow (n := 64)
  · exact Nat.lt_of_le_of_lt Nat.and_le_left ha
  · exact Nat.lt_of_le_of_lt Nat.and_le_left (Nat.mod_lt _ (by decide))
theorem fPut (a v : Nat) (ha : a < 18446744073709551616) (p n : Nat) (h1 : 1 ≤ n) (h2 : p + n ≤ 64) : field_Put.f (a : Int) (p : Int) (n : Int) (v : Int) = some (putOf a p n v : Int) := by
  unfold field_Put.f
  have hM : (2 ^ n - 1) * 2 ^ p < 18446744073709551616 := by
    have hp : 2 ^ n * 2 ^ p ≤ (2 ^ 64 : Nat) := by
      rw [← Nat.pow_add]; exact Nat.pow_le_pow_right (by decide) (by omega)
    have h3 : 0 < 2 ^ p := Nat.two_pow_pos p
    rw [Nat.sub_mul]; omega
  rw [fMay p n h1 h2, fMask p n h1 h2]
  simp only [Option.bind_some, if_true]
  have e : (v : Int) * 2 ^ p % 18446744073709551616 = ((v * 2 ^ p % 18446744073709551616 : Nat) : Int) := by simp
  rw [if_pos (by omega), m_shl _ _ (by omega), e, u64_andNot_nat _ _ ha hM, u64_and_nat _ _ (Nat.mod_lt _ (by decide)) hM, u64_or_nat _ _ (Nat.lt_of_le_of_lt Nat.and_le_left ha) (Nat.lt_of_le_of_lt Nat.and_le_left (Nat.mod_lt _ (by decide))), m_put a v ha p n h1 h2]
def b2n (b : Bool) : Nat := if b then 1 else 0
theorem b2n_lt (b : Bool) : b2n b < 2 := by cases b <;> decide
theorem fSet (a : Nat) (ha : a < 18446744073709551616) (p : Nat) (h2 : p < 64) (b : Bool) : field_Set.f (a : Int) (p : Int) b = some (putOf a p 1 (b2n b) : Int) := by
  unfold field_Set.f
  have f1 := fPut a 1 ha p 1 (by omega) (by omega)
  have f0 := fPut a 0 ha p 1 (by omega) (by omega)
  rw [show ((1 : Nat) : Int) = 1 from rfl] at f1 f0
  rw [show ((0 : Nat) : Int) = 0 from rfl] at f0
  cases b
  · rw [if_neg (by decide), f0]; rfl
  · rw [if_pos rfl, f1]; rfl
/-- A field that is empty. -/
theorem put_add (a p n v P N : Nat) (hP : 2 ^ p = P) (hN : 2 ^ n = N) (h : a / P % N = 0) (hv : v < N) : putOf a p n v = a + v * P := by
  unfold putOf; rw [hP, hN, h, Nat.mod_eq_of_lt hv]; omega

/-! ### An entry's words -/
def tagOf (c va : Nat) (g : Bool) : Nat := b2n g * 9223372036854775808 + c * 281474976710656 + va / 4194304 % 4194304
def dataOf (s pa : Nat) (w p x l g q : Bool) : Nat := 9223372036854775808 + s * 2305843009213693952 + b2n q * 1152921504606846976 + pa + b2n l * 64 + b2n x * 8 + b2n p * 4 + b2n w * 2 + b2n g
theorem pTarget (va c : Nat) (hva : va < 18446744073709551616) (hc : c < 8192) : tte_Target.f (va : Int) (c : Int) = some ((c * 281474976710656 + va / 4194304 % 4194304 : Nat) : Int) := by
  unfold tte_Target.f
  rw [pTag va hva, m_wu c (by omega)]
  simp only [Option.bind_some]
  have h := fPut (va / 4194304 % 4194304) c (by omega) 48 13 (by omega) (by omega)
  rw [put_add _ 48 13 c 281474976710656 8192 rfl rfl (by omega) hc] at h
  rw [show ((48 : Nat) : Int) = 48 from rfl, show ((13 : Nat) : Int) = 13 from rfl] at h
  rw [h]
  refine congrArg some ?_; omega
theorem pTTag (s c va pa : Nat) (w p x l g q v : Bool) (hva : va < 18446744073709551616) (hc : c < 8192) : tte_Tag.f (s : Int) (c : Int) (va : Int) (pa : Int) w p x l g q v = some (tagOf c va g : Int) := by
  unfold tte_Tag.f tagOf
  rw [pTarget va c hva hc]
  simp only [Option.bind_some]
  have hb := b2n_lt g
  have h := fSet (c * 281474976710656 + va / 4194304 % 4194304) (by omega) 63 (by omega) g
  rw [put_add _ 63 1 (b2n g) 9223372036854775808 2 rfl rfl (by omega) hb] at h
  rw [show ((63 : Nat) : Int) = 63 from rfl] at h
  rw [h]
  refine congrArg some ?_; omega
theorem pData (s c va pa : Nat) (w p x l g q : Bool) (hs : s < 4) (hpa : pa < 2199023255552) (hpa0 : pa % 8192 = 0) : tte_Data.f (s : Int) (c : Int) (va : Int) (pa : Int) w p x l g q true = some (dataOf s pa w p x l g q : Int) := by
  have bw := b2n_lt w
  have bp := b2n_lt p
  have bx := b2n_lt x
  have bl := b2n_lt l
  have bg := b2n_lt g
  have bq := b2n_lt q
  obtain ⟨f, rfl⟩ : ∃ f, pa = f * 8192 := ⟨pa / 8192, by omega⟩
  have hf : f < 268435456 := by omega
  have e0 : ((f * 8192 : Nat) : Int) / 8192 = (f : Int) := by omega
  have s1 : field_Set.f 0 63 true = some ((9223372036854775808 : Nat) : Int) := by decide +kernel
  have s2 := fPut (9223372036854775808) s (by omega) 61 2 (by omega) (by omega)
  rw [put_add _ 61 2 s 2305843009213693952 4 rfl rfl (by omega) (by omega)] at s2
  rw [show ((61 : Nat) : Int) = 61 from rfl] at s2
  rw [show ((2 : Nat) : Int) = 2 from rfl] at s2
  have s3 := fPut (9223372036854775808 + s * 2305843009213693952) f (by omega) 13 28 (by omega) (by omega)
  rw [put_add _ 13 28 f 8192 268435456 rfl rfl (by omega) (by omega)] at s3
  rw [show ((13 : Nat) : Int) = 13 from rfl] at s3
  rw [show ((28 : Nat) : Int) = 28 from rfl] at s3
  have s4 := fSet (9223372036854775808 + s * 2305843009213693952 + f * 8192) (by omega) 60 (by omega) q
  rw [put_add _ 60 1 (b2n q) 1152921504606846976 2 rfl rfl (by omega) (by omega)] at s4
  rw [show ((60 : Nat) : Int) = 60 from rfl] at s4
  have s5 := fSet (9223372036854775808 + s * 2305843009213693952 + f * 8192 + b2n q * 1152921504606846976) (by omega) 6 (by omega) l
  rw [put_add _ 6 1 (b2n l) 64 2 rfl rfl (by omega) (by omega)] at s5
  rw [show ((6 : Nat) : Int) = 6 from rfl] at s5
  have s6 := fSet (9223372036854775808 + s * 2305843009213693952 + f * 8192 + b2n q * 1152921504606846976 + b2n l * 64) (by omega) 3 (by omega) x
  rw [put_add _ 3 1 (b2n x) 8 2 rfl rfl (by omega) (by omega)] at s6
  rw [show ((3 : Nat) : Int) = 3 from rfl] at s6
  have s7 := fSet (9223372036854775808 + s * 2305843009213693952 + f * 8192 + b2n q * 1152921504606846976 + b2n l * 64 + b2n x * 8) (by omega) 2 (by omega) p
  rw [put_add _ 2 1 (b2n p) 4 2 rfl rfl (by omega) (by omega)] at s7
  rw [show ((2 : Nat) : Int) = 2 from rfl] at s7
  have s8 := fSet (9223372036854775808 + s * 2305843009213693952 + f * 8192 + b2n q * 1152921504606846976 + b2n l * 64 + b2n x * 8 + b2n p * 4) (by omega) 1 (by omega) w
  rw [put_add _ 1 1 (b2n w) 2 2 rfl rfl (by omega) (by omega)] at s8
  rw [show ((1 : Nat) : Int) = 1 from rfl] at s8
  have s9 := fSet (9223372036854775808 + s * 2305843009213693952 + f * 8192 + b2n q * 1152921504606846976 + b2n l * 64 + b2n x * 8 + b2n p * 4 + b2n w * 2) (by omega) 0 (by omega) g
  rw [put_add _ 0 1 (b2n g) 1 2 rfl rfl (by omega) (by omega)] at s9
  rw [show ((0 : Nat) : Int) = 0 from rfl] at s9
  unfold tte_Data.f dataOf
  rw [if_pos rfl, m_wu s (by omega), e0, s1, Option.bind_some, s2, Option.bind_some, s3, Option.bind_some, s4, Option.bind_some, s5, Option.bind_some, s6, Option.bind_some, s7, Option.bind_some, s8, Option.bind_some, s9]
  refine congrArg some ?_; omega
theorem pDataNo (s c va pa : Int) (w p x l g q : Bool) : tte_Data.f s c va pa w p x l g q false = some 0 := by
  unfold tte_Data.f; rw [if_neg (by decide)]

/-! ### An entry that may be, made of any -/
def foldN (n : Int) : Nat := (if n < 0 then -(n + 1) else n).toNat
def goodS (a0 : Int) : Nat := foldN a0 % 4
def goodC (a1 : Int) (g : Bool) : Nat := if g then 0 else foldN a1 % 8192
def goodV (a0 : Int) (va : Nat) : Nat := vaOf va / bytesOf (goodS a0 : Int) * bytesOf (goodS a0 : Int)
def goodP (a0 : Int) (pa : Nat) : Nat := pa % 2199023255552 / bytesOf (goodS a0 : Int) * bytesOf (goodS a0 : Int)
theorem goodS_ok (a0 : Int) : okSize (goodS a0 : Int) := by unfold okSize goodS; omega
theorem goodS_lt (a0 : Int) : goodS a0 < 4 := by unfold goodS; omega
theorem goodC_lt (a1 : Int) (g : Bool) : goodC a1 g < 8192 := by unfold goodC; split <;> omega
theorem goodP_lt (a0 : Int) (pa : Nat) : goodP a0 pa < 2199023255552 := by
  unfold goodP; exact Nat.lt_of_le_of_lt (Nat.div_mul_le_self _ _) (Nat.mod_lt _ (by decide))
theorem goodV_lt (a0 : Int) (va : Nat) : goodV a0 va < 18446744073709551616 := by
  unfold goodV; exact Nat.lt_of_le_of_lt (Nat.div_mul_le_self _ _) (vaOf_lt va)
/-- What sizes have in common. -/
theorem bytes_mul {s : Int} (h : okSize s) : ∃ c, 0 < c ∧ c ≤ 512 ∧ bytesOf s = 8192 * c ∧ 4194304 = bytesOf s * (4194304 / bytesOf s) := by
  rcases size_cases s with rfl | rfl | rfl | rfl | h'
  · exact ⟨1, by decide⟩
  · exact ⟨8, by decide⟩
  · exact ⟨64, by decide⟩
  · exact ⟨512, by decide⟩
  · exact absurd h h'
theorem goodP_mul (a0 : Int) (pa : Nat) : goodP a0 pa % 8192 = 0 := by
  obtain ⟨c, _, _, hb, _⟩ := bytes_mul (goodS_ok a0)
  unfold goodP; rw [hb, ← Nat.mul_assoc, Nat.mul_right_comm, Nat.mul_mod_left]
theorem goodP_mod (a0 : Int) (pa : Nat) : goodP a0 pa % bytesOf (goodS a0 : Int) = 0 := by unfold goodP; exact Nat.mul_mod_left _ _
theorem goodV_mod (a0 : Int) (va : Nat) : goodV a0 va % bytesOf (goodS a0 : Int) = 0 := by unfold goodV; exact Nat.mul_mod_left _ _
theorem goodV_hole (a0 : Int) (va : Nat) : ¬ (goodV a0 va / 8796093022208 ≠ 0 ∧ goodV a0 va / 8796093022208 ≠ 2097151) := by
  have hv := vaOf_hole va
  unfold goodV
  rcases size_cases (goodS a0 : Int) with e | e | e | e | e
  · rw [e]; simp only [bytesOf, if_true]; omega
  · rw [e]; simp only [bytesOf]; simp; omega
  · rw [e]; simp only [bytesOf]; simp; omega
  · rw [e]; simp only [bytesOf]; simp; omega
  · exact absurd (goodS_ok a0) e
theorem rGood (a0 a1 : Int) (va pa : Nat) (w p x l g q v : Bool) (h0 : (Lit.int .i64 a0).wf = true) (h1 : (Lit.int .i64 a1).wf = true) (hva : va < 18446744073709551616) (hpa : pa < 18446744073709551616) (k : Nat) (hk : 110 ≤ k) :
    lookasideref03_Good.f k a0 a1 (va : Int) (pa : Int) w p x l g q v = some ((goodS a0 : Int), (goodC a1 g : Int), (goodV a0 va : Int), (goodP a0 pa : Int), w, p, x, l, g, q, true) := by
  obtain ⟨b1, b2⟩ := m_i64 h0
  obtain ⟨b3, b4⟩ := m_i64 h1
  obtain ⟨k, rfl⟩ : ∃ m, k = m + 2 := ⟨k - 2, by omega⟩
  have ep : Int.tmod (pa : Int) 2199023255552 = ((pa % 2199023255552 : Nat) : Int) := rfl
  have hp : pa % 2199023255552 < 18446744073709551616 := by omega
  have j1 : ∀ (c : Int) (s : Int), 0 ≤ c → okSize s → lookasideref03_Good.j1 k c a0 a1 (va : Int) (pa : Int) w p x l g q v s 0 0 0 w p x l g q true = lookasideref03_Good.j1 k c a0 a1 (va : Int) (pa : Int) w p x l g q v s 0 0 0 w p x l g q true := fun _ _ _ _ => rfl
  obtain ⟨k, rfl⟩ : ∃ m, k = m + 1 := ⟨k - 1, by omega⟩
  have hS : ∀ n : Int, 0 ≤ n → n = (if a0 < 0 then -(a0 + 1) else a0) → Int.tmod n 4 = (goodS a0 : Int) := by
    intro n hn e; rw [Int.tmod_eq_emod_of_nonneg hn, e]; unfold goodS foldN; split <;> omega
  have hC : ∀ n : Int, 0 ≤ n → n = (if a1 < 0 then -(a1 + 1) else a1) → Int.tmod n 8192 = ((foldN a1 % 8192 : Nat) : Int) := by
    intro n hn e; rw [Int.tmod_eq_emod_of_nonneg hn, e]; unfold foldN; split <;> omega
  have hj1 : ∀ (c s : Int), 0 ≤ c → c = (if a1 < 0 then -(a1 + 1) else a1) → s = (goodS a0 : Int) → lookasideref03_Good.j1 (k + 1) c a0 a1 (va : Int) (pa : Int) w p x l g q v s 0 0 0 w p x l g q true = some ((goodS a0 : Int), (goodC a1 g : Int), (goodV a0 va : Int), (goodP a0 pa : Int), w, p, x, l, g, q, true) := by
    intro c s hc ec es
    subst es
    rw [lookasideref03_Good.j1, rVa va hva k (by omega), ep]
    simp only [Option.bind_some]
    rw [rBase _ (vaOf_lt va), rBase _ hp, hC c hc ec]
    unfold goodC goodV goodP
    cases g <;> rfl
  have hj0 : ∀ (n s : Int), 0 ≤ n → n = (if a0 < 0 then -(a0 + 1) else a0) → lookasideref03_Good.j0 (k + 2) n a0 a1 (va : Int) (pa : Int) w p x l g q v 0 0 0 0 w p x l g q true = some ((goodS a0 : Int), (goodC a1 g : Int), (goodV a0 va : Int), (goodP a0 pa : Int), w, p, x, l, g, q, true) := by
    intro n s hn en
    rw [lookasideref03_Good.j0, hS n hn en]
    by_cases h : a1 < 0
    · rw [if_pos h]; exact hj1 _ _ (by unfold wrap64; omega) (by rw [if_pos h]; unfold wrap64; omega) rfl
    · rw [if_neg h]; exact hj1 _ _ (by omega) (by rw [if_neg h]) rfl
  clear j1
  unfold lookasideref03_Good.f
  by_cases h : a0 < 0
  · rw [if_pos h]
    have := at_rounds (fun k => (lookasideref03_Good.mono_l k).1 (wrap64 (-(wrap64 (a0 + 1)))) a0 a1 (va : Int) (pa : Int) w p x l g q v 0 0 0 0 w p x l g q true) (show k + 2 ≤ k + 1 + 2 by omega) (hj0 _ 0 (by unfold wrap64; omega) (by rw [if_pos h]; unfold wrap64; omega))
    exact this
  · rw [if_neg h]
    have := at_rounds (fun k => (lookasideref03_Good.mono_l k).1 a0 a0 a1 (va : Int) (pa : Int) w p x l g q v 0 0 0 0 w p x l g q true) (show k + 2 ≤ k + 1 + 2 by omega) (hj0 _ 0 (by omega) (by rw [if_neg h]))
    exact this

theorem tliv10 : lookasidelaw03_lives.f 10 = some true := by
  unfold lookasidelaw03_lives.f
  have h1 : tte_Tag.f 0 1 8192 16384 true false false false false false true = some 281474976710656 := by decide +kernel
  have h2 : tte_Data.f 0 1 8192 16384 true false false false false false true = some 9223372036854792194 := by decide +kernel
  have h3 : tte_May.f 10 0 1 8192 16384 true false false false false false true = some true := by decide +kernel
  rw [h1, Option.bind_some, if_pos rfl, h2, Option.bind_some, if_pos rfl, h3]; rfl
theorem tliv (k : Nat) (hk : 10 ≤ k) : lookasidelaw03_lives.f k = some true := at_rounds lookasidelaw03_lives.mono hk tliv10

theorem b2n_inj (a b : Bool) : b2n a = b2n b ↔ a = b := by cases a <;> cases b <;> decide
theorem tag_low (c V g : Nat) (hV : V < 4194304) : (g * 9223372036854775808 + c * 281474976710656 + V) % 281474976710656 = V := by omega
theorem tag_hi (c g c' g' : Nat) (hc : c < 8192) (hc' : c' < 8192) (hg : g < 2) (hg' : g' < 2) (h : g * 32768 + c = g' * 32768 + c') : g = g' ∧ c = c' := by omega
theorem tag_div (c V g : Nat) (hV : V < 4194304) : (g * 9223372036854775808 + c * 281474976710656 + V) / 281474976710656 = g * 32768 + c := by omega
theorem tag_num (c V g c' V' g' : Nat) (hc : c < 8192) (hc' : c' < 8192) (hg : g < 2) (hg' : g' < 2) (h : g * 9223372036854775808 + c * 281474976710656 + V = g' * 9223372036854775808 + c' * 281474976710656 + V') (hV : V < 4194304) (hV' : V' < 4194304) : g = g' ∧ c = c' ∧ V = V' := by
  have e1 : V = V' := by rw [← tag_low c V g hV, ← tag_low c' V' g' hV', h]
  have e2 : g * 32768 + c = g' * 32768 + c' := by rw [← tag_div c V g hV, ← tag_div c' V' g' hV', h]
  obtain ⟨e3, e4⟩ := tag_hi c g c' g' hc hc' hg hg' e2
  exact ⟨e3, e4, e1⟩
theorem va_num (z z' : Nat) (h : z / 2097152 = 0 ∨ z / 2097152 = 2097151) (h' : z' / 2097152 = 0 ∨ z' / 2097152 = 2097151) (e : z % 4194304 = z' % 4194304) : z = z' := by omega
theorem data_num (s q f l x p w g s' q' f' l' x' p' w' g' : Nat) (hs : s < 4) (hs' : s' < 4) (hq : q < 2) (hq' : q' < 2) (hf : f < 268435456) (hf' : f' < 268435456) (hl : l < 2) (hl' : l' < 2) (hx : x < 2) (hx' : x' < 2) (hp : p < 2) (hp' : p' < 2) (hw : w < 2) (hw' : w' < 2) (hg : g < 2) (hg' : g' < 2)
    (h : 9223372036854775808 + s * 2305843009213693952 + q * 1152921504606846976 + f * 8192 + l * 64 + x * 8 + p * 4 + w * 2 + g = 9223372036854775808 + s' * 2305843009213693952 + q' * 1152921504606846976 + f' * 8192 + l' * 64 + x' * 8 + p' * 4 + w' * 2 + g') :
    s = s' ∧ q = q' ∧ f = f' ∧ l = l' ∧ x = x' ∧ p = p' ∧ w = w' ∧ g = g' := by
  have e1 : s = s' := by omega
  subst e1
  have e2 : q = q' := by omega
  subst e2
  have e3 : f = f' := by omega
  subst e3
  have e4 : l = l' := by omega
  subst e4
  have e5 : x = x' := by omega
  subst e5
  have e6 : p = p' := by omega
  subst e6
  have e7 : w = w' := by omega
  subst e7
  exact ⟨rfl, rfl, rfl, rfl, rfl, rfl, rfl, by omega⟩
theorem tag_iff (c V c' V' : Nat) (g g' : Bool) (hc : c < 8192) (hc' : c' < 8192) (hV : ¬ (V / 8796093022208 ≠ 0 ∧ V / 8796093022208 ≠ 2097151)) (hV' : ¬ (V' / 8796093022208 ≠ 0 ∧ V' / 8796093022208 ≠ 2097151)) : tagOf c V g = tagOf c' V' g' ↔ (g = g' ∧ c = c' ∧ V / 4194304 * 4194304 = V' / 4194304 * 4194304) := by
  constructor
  · intro h
    unfold tagOf at h
    obtain ⟨e1, e2, e3⟩ := tag_num c _ (b2n g) c' _ (b2n g') hc hc' (b2n_lt g) (b2n_lt g') h (Nat.mod_lt _ (by decide)) (Nat.mod_lt _ (by decide))
    have d1 : V / 4194304 / 2097152 = V / 8796093022208 := by rw [Nat.div_div_eq_div_mul]
    have d2 : V' / 4194304 / 2097152 = V' / 8796093022208 := by rw [Nat.div_div_eq_div_mul]
    have e4 := va_num (V / 4194304) (V' / 4194304) (by rw [d1]; omega) (by rw [d2]; omega) e3
    exact ⟨(b2n_inj g g').mp e1, e2, by rw [e4]⟩
  · rintro ⟨rfl, rfl, h⟩
    have : V / 4194304 = V' / 4194304 := by omega
    unfold tagOf; rw [this]
theorem data_iff (s P s' P' : Nat) (w p x l g q w' p' x' l' g' q' : Bool) (hs : s < 4) (hs' : s' < 4) (hP : P < 2199023255552) (hP' : P' < 2199023255552) (hm : P % 8192 = 0) (hm' : P' % 8192 = 0) :
    dataOf s P w p x l g q = dataOf s' P' w' p' x' l' g' q' ↔ (s = s' ∧ P = P' ∧ w = w' ∧ p = p' ∧ x = x' ∧ l = l' ∧ g = g' ∧ q = q') := by
  constructor
  · intro h
    obtain ⟨f, rfl⟩ : ∃ f, P = f * 8192 := ⟨P / 8192, by omega⟩
    obtain ⟨f', rfl⟩ : ∃ f, P' = f * 8192 := ⟨P' / 8192, by omega⟩
    unfold dataOf at h
    obtain ⟨e1, e2, e3, e4, e5, e6, e7, e8⟩ := data_num s _ f _ _ _ _ _ s' _ f' _ _ _ _ _ hs hs' (b2n_lt q) (b2n_lt q') (by omega) (by omega) (b2n_lt l) (b2n_lt l') (b2n_lt x) (b2n_lt x') (b2n_lt p) (b2n_lt p') (b2n_lt w) (b2n_lt w') (b2n_lt g) (b2n_lt g') h
    rw [b2n_inj] at e2 e4 e5 e6 e7 e8
    exact ⟨e1, by rw [e3], e7, e6, e5, e4, e8, e2⟩
  · rintro ⟨e1, e2, e3, e4, e5, e6, e7, e8⟩; rw [e1, e2, e3, e4, e5, e6, e7, e8]
theorem eqE (a b c d a' b' c' d' : Int) (w p x l g q w' p' x' l' g' q' : Bool) : ((a == a' && (b == b' && (c == c' && (d == d' && ((w == w' && (p == p' && (x == x' && (l == l' && (g == g' && (q == q')))))) && (true == true)))))) = true) ↔ (a = a' ∧ b = b' ∧ c = c' ∧ d = d' ∧ w = w' ∧ p = p' ∧ x = x' ∧ l = l' ∧ g = g' ∧ q = q') := by
  simp only [Bool.and_eq_true, beq_iff_eq, and_true, and_assoc]
theorem apart_all (s c V P s' c' V' P' : Nat) (w p x l g q w' p' x' l' g' q' : Bool) (hs : s < 4) (hs' : s' < 4) (hc : c < 8192) (hc' : c' < 8192) (hV : ¬ (V / 8796093022208 ≠ 0 ∧ V / 8796093022208 ≠ 2097151)) (hV' : ¬ (V' / 8796093022208 ≠ 0 ∧ V' / 8796093022208 ≠ 2097151)) (hP : P < 2199023255552) (hP' : P' < 2199023255552) (hm : P % 8192 = 0) (hm' : P' % 8192 = 0) (b : Bool)
    (hb : b = true ↔ (tagOf c V g = tagOf c' V' g' ∧ dataOf s P w p x l g q = dataOf s' P' w' p' x' l' g' q')) :
    (b == ((s : Int) == (s' : Int) && ((c : Int) == (c' : Int) && (((V / 4194304 * 4194304 : Nat) : Int) == ((V' / 4194304 * 4194304 : Nat) : Int) && ((P : Int) == (P' : Int) && ((w == w' && (p == p' && (x == x' && (l == l' && (g == g' && (q == q')))))) && (true == true))))))) = true := by
  rw [beq_iff_eq, Bool.eq_iff_iff, hb, eqE, tag_iff c V c' V' g g' hc hc' hV hV', data_iff s P s' P' w p x l g q w' p' x' l' g' q' hs hs' hP hP' hm hm', Int.ofNat_inj, Int.ofNat_inj, Int.ofNat_inj, Int.ofNat_inj]
  constructor
  · rintro ⟨⟨a1, a2, a3⟩, a4, a5, a6, a7, a8, a9, _, a10⟩; exact ⟨a4, a2, a3, a5, a6, a7, a8, a9, a1, a10⟩
  · rintro ⟨a4, a2, a3, a5, a6, a7, a8, a9, a1, a10⟩; exact ⟨⟨a1, a2, a3⟩, a4, a5, a6, a7, a8, a9, a1, a10⟩
theorem rBase3 (v : Nat) (h : v < 18446744073709551616) : lookasideref02_Base.f (v : Int) 3 = some ((v / 4194304 * 4194304 : Nat) : Int) := by
  have := rBase v h 3
  rw [show bytesOf 3 = 4194304 from by decide] at this
  exact this
theorem TteApart : lookasidelaw03_TteApart.Pure := by
  intro a0 a1 va0 pa0 w p x l g q v a0' a1' va0' pa0' w' p' x' l' g' q' v' h0 h1 h2 h3 h0' h1' h2' h3'
  obtain ⟨b1, b2⟩ := m_u64 h2
  obtain ⟨b3, b4⟩ := m_u64 h3
  obtain ⟨va, rfl⟩ := Int.eq_ofNat_of_zero_le b1
  obtain ⟨pa, rfl⟩ := Int.eq_ofNat_of_zero_le b3
  obtain ⟨b1', b2'⟩ := m_u64 h2'
  obtain ⟨b3', b4'⟩ := m_u64 h3'
  obtain ⟨va', rfl⟩ := Int.eq_ofNat_of_zero_le b1'
  obtain ⟨pa', rfl⟩ := Int.eq_ofNat_of_zero_le b3'
  refine ⟨204, ?_⟩
  have A := apart_all (goodS a0) (goodC a1 g) (goodV a0 va) (goodP a0 pa) (goodS a0') (goodC a1' g') (goodV a0' va') (goodP a0' pa') w p x l g q w' p' x' l' g' q' (goodS_lt a0) (goodS_lt a0') (goodC_lt a1 g) (goodC_lt a1' g') (goodV_hole a0 va) (goodV_hole a0' va') (goodP_lt a0 pa) (goodP_lt a0' pa') (goodP_mul a0 pa) (goodP_mul a0' pa')
  unfold lookasidelaw03_TteApart.f
  rw [rGood a0 a1 va pa w p x l g q v h0 h1 (by omega) (by omega) 204 (by omega), Option.bind_some, rGood a0' a1' va' pa' w' p' x' l' g' q' v' h0' h1' (by omega) (by omega) 204 (by omega), Option.bind_some, pTTag _ _ _ _ w p x l g q true (goodV_lt a0 va) (goodC_lt a1 g), Option.bind_some, pTTag _ _ _ _ w' p' x' l' g' q' true (goodV_lt a0' va') (goodC_lt a1' g'), Option.bind_some]
  rw [pData _ _ _ _ w p x l g q (goodS_lt a0) (goodP_lt a0 pa) (goodP_mul a0 pa), pData _ _ _ _ w' p' x' l' g' q' (goodS_lt a0') (goodP_lt a0' pa') (goodP_mul a0' pa'), Option.bind_some, Option.bind_some, rBase3 _ (goodV_lt a0 va), rBase3 _ (goodV_lt a0' va'), Option.bind_some, Option.bind_some, Option.bind_some, Option.bind_some, tliv 204 (by omega), Option.bind_some]
  by_cases ht : tagOf (goodC a1 g) (goodV a0 va) g = tagOf (goodC a1' g') (goodV a0' va') g'
  · rw [if_pos (by rw [ht])]
    rw [if_pos (A _ (by rw [beq_iff_eq, Int.ofNat_inj]; exact ⟨fun z => ⟨ht, z⟩, fun z => z.2⟩))]
  · rw [if_neg (by rw [Int.ofNat_inj]; exact ht)]
    rw [if_pos (A false ⟨fun z => absurd z (by decide), fun z => absurd z.1 ht⟩)]

end Go.Proofs.Ytecbngibhobgbaa.Pure
