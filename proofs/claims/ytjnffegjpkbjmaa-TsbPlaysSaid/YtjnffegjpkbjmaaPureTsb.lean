/- A TSB's places, and the words of entries made such as may be, told plainly; no conditions. -/
import Derived.Test.YtjnffegjpkbjmaaQTsbPlaysx21
import Derived.Test.YtjnffegjpkbjmaaQTsbPlaysx22
import Derived.Laws.BitsAllLaws
import Derived.Laws.Bits64
set_option linter.unusedVariables false
set_option linter.unusedSimpArgs false
namespace Go.Proofs.Ytjnffegjpkbjmaa.Pure
open Go.RowKit Go.Proofs.Ytjnffegjpkbjmaa.QTsbPlays Go.Proofs.YtjnffegjpkbjmaaW.PrintWords Go.Proofs.YtjnffegjpkbjmaaW.PrintLast Go.Proofs.YtjnffegjpkbjmaaW.PrintMore

/-! ### Plain arithmetic of words -/
theorem m_u64 {a : Int} (h : (Lit.int .u64 a).wf = true) : 0 ≤ a ∧ a < 18446744073709551616 := by
 simp [Lit.wf, IntKind.min, IntKind.max, IntKind.signed, IntKind.bits] at h; omega
theorem m_i64 {a : Int} (h : (Lit.int .i64 a).wf = true) : -9223372036854775808 ≤ a ∧ a < 9223372036854775808 := by
 simp [Lit.wf, IntKind.min, IntKind.max, IntKind.signed, IntKind.bits] at h; omega
theorem m_shr (x : Int) (n : Nat) (h : n ≤ 64) : shr .u64 x (n : Int) = x / 2 ^ n := by
 unfold shr; rw [Int.toNat_natCast, Nat.min_eq_left (by simpa [IntKind.bits] using h)]
theorem m_shl (x : Int) (n : Nat) (h : n ≤ 64) : shl .u64 x (n : Int) = x * 2 ^ n % 18446744073709551616 := by
 unfold shl; rw [Int.toNat_natCast, Nat.min_eq_left (by simpa [IntKind.bits] using h), IntKind.wrap_u64]
theorem m_maskn (n : Nat) (h1 : 1 ≤ n) (h2 : n ≤ 64) : (18446744073709551615 : Int) / 2 ^ (64 - n) = ((2 ^ n - 1 : Nat) : Int) := by
 have hp : 2 ^ (64 - n) * 2 ^ n = (18446744073709551616 : Nat) := by rw [← Nat.pow_add, show 64 - n + n = 64 by omega]
 have h0 : 0 < 2 ^ (64 - n) := Nat.two_pow_pos _
 have h3 : 0 < 2 ^ n := Nat.two_pow_pos _
 have e : (18446744073709551615 : Nat) / 2 ^ (64 - n) = 2 ^ n - 1 := by
  apply Nat.div_eq_of_lt_le
  ·rw [Nat.mul_comm, Nat.mul_sub, hp]; omega
  ·rw [Nat.sub_add_cancel h3, Nat.mul_comm, hp]; omega
 have := congrArg (fun x : Nat => (x : Int)) e
 simpa using this
theorem m_mask (p n : Nat) (h1 : 1 ≤ n) (h2 : p + n ≤ 64) : shl .u64 (shr .u64 18446744073709551615 ((64 - n : Nat) : Int)) (p : Int) = (((2 ^ n - 1) * 2 ^ p : Nat) : Int) := by
 rw [m_shr _ _ (by omega), m_shl _ _ (by omega), m_maskn n h1 (by omega)]
 have hp : 2 ^ n * 2 ^ p ≤ (18446744073709551616 : Nat) := by
  rw [← Nat.pow_add]; exact Nat.le_trans (Nat.pow_le_pow_right (by decide) (show n + p ≤ 64 by omega)) (by decide)
 have h3 : 0 < 2 ^ p := Nat.two_pow_pos _
 have h4 : (2 ^ n - 1) * 2 ^ p < (18446744073709551616 : Nat) := by
  rw [Nat.sub_mul]; omega
 have e : ((2 ^ n - 1) * 2 ^ p) % (18446744073709551616 : Nat) = (2 ^ n - 1) * 2 ^ p := Nat.mod_eq_of_lt h4
 have := congrArg (fun x : Nat => (x : Int)) e
 simpa using this
theorem m_get (a : Nat) (ha : a < 18446744073709551616) (p n : Nat) (h1 : 1 ≤ n) (h2 : p + n ≤ 64) :
  shr .u64 (Go.bits .and .u64 (a : Int) (((2 ^ n - 1) * 2 ^ p : Nat) : Int)) (p : Int) = ((a / 2 ^ p % 2 ^ n : Nat) : Int) := by
 have hp : 2 ^ n * 2 ^ p ≤ (18446744073709551616 : Nat) := by
  rw [← Nat.pow_add]; exact Nat.le_trans (Nat.pow_le_pow_right (by decide) (show n + p ≤ 64 by omega)) (by decide)
 have h3 : 0 < 2 ^ p := Nat.two_pow_pos _
 have h4 : (2 ^ n - 1) * 2 ^ p < (18446744073709551616 : Nat) := by
  rw [Nat.sub_mul]; omega
 rw [u64_and_nat _ _ ha h4, m_shr _ _ (by omega)]
 have e : (a &&& (2 ^ n - 1) * 2 ^ p) / 2 ^ p = a / 2 ^ p % 2 ^ n := by
  rw [← Nat.shiftRight_eq_div_pow, Nat.shiftRight_and_distrib, Nat.shiftRight_eq_div_pow, Nat.shiftRight_eq_div_pow, Nat.mul_div_cancel _ h3, Nat.and_two_pow_sub_one_eq_mod]
 have := congrArg (fun x : Nat => (x : Int)) e
 simpa using this

/-! ### A bit of a word, by halving -/
theorem m_tdiv (x n : Nat) : Int.tdiv (x : Int) (n : Int) = ((x / n : Nat) : Int) := rfl
theorem m_tmod (x n : Nat) : Int.tmod (x : Int) (n : Int) = ((x % n : Nat) : Int) := rfl
theorem m_w64 (x : Nat) (h : x < 9223372036854775808) : wrap64 (x : Int) = x := by unfold wrap64; omega
theorem m_wu (x : Nat) (h : x < 18446744073709551616) : IntKind.u64.wrap (x : Int) = x := by rw [IntKind.wrap_u64]; omega

/-! ### Bits by halving -/
theorem bit_l (d : Nat) : ∀ (x c k : Nat), x < 18446744073709551616 → c + d ≤ 64 → d < k →
  lookasideref01_Bit.l0 k (x : Int) ((c + d : Nat) : Int) (c : Int) = some ((x / 2 ^ d % 2 : Nat) : Int) := by
 induction d with
 | zero =>
  intro x c k hx hc hk
  obtain ⟨k, rfl⟩ : ∃ m, k = m + 1 := ⟨k - 1, by omega⟩
  simp only [lookasideref01_Bit.l0]
  rw [if_neg (by omega)]
  show some (Int.tmod (x : Int) ((2 : Nat) : Int)) = _
  rw [m_tmod]; simp
 | succ d ih =>
  intro x c k hx hc hk
  obtain ⟨k, rfl⟩ : ∃ m, k = m + 1 := ⟨k - 1, by omega⟩
  simp only [lookasideref01_Bit.l0]
  rw [if_pos (by omega)]
  have e1 : IntKind.u64.wrap (Int.tdiv (x : Int) 2) = ((x / 2 : Nat) : Int) := by
   show IntKind.u64.wrap (Int.tdiv (x : Int) ((2 : Nat) : Int)) = _
   rw [m_tdiv, m_wu _ (by omega)]
  have e2 : wrap64 ((c : Int) + 1) = ((c + 1 : Nat) : Int) := by
   have := m_w64 (c + 1) (by omega); simpa using this
  rw [e1, e2, show c + (d + 1) = (c + 1) + d by omega, ih (x / 2) (c + 1) k (by omega) (by omega) (by omega)]
  rw [Nat.div_div_eq_div_mul, show 2 ^ (d + 1) = 2 * 2 ^ d by rw [Nat.pow_succ, Nat.mul_comm]]
theorem rBit (x i k : Nat) (hx : x < 18446744073709551616) (hi : i ≤ 64) (hk : 100 ≤ k) : lookasideref01_Bit.f k (x : Int) (i : Int) = some ((x / 2 ^ i % 2 : Nat) : Int) := by
 have := bit_l i x 0 k hx (by omega) (by omega)
 simpa [lookasideref01_Bit.f] using this

/-! ### Fields -/
theorem fMay (p n : Nat) (h1 : 1 ≤ n) (h2 : p + n ≤ 64) : field_May.f (p : Int) (n : Int) = some true := by
 unfold field_May.f
 have e : wrap64 (64 - (n : Int)) = ((64 - n : Nat) : Int) := by unfold wrap64; omega
 rw [if_pos (by omega), if_pos (by omega), if_pos (by omega), e]
 simp; omega
theorem fMask (p n : Nat) (h1 : 1 ≤ n) (h2 : p + n ≤ 64) : field_Mask.f (p : Int) (n : Int) = some (((2 ^ n - 1) * 2 ^ p : Nat) : Int) := by
 unfold field_Mask.f
 have e : wrap64 (64 - (n : Int)) = ((64 - n : Nat) : Int) := by unfold wrap64; omega
 rw [fMay p n h1 h2]
 simp only [Option.bind_some, if_true]
 rw [e, if_pos (by omega), if_pos (by omega), m_mask p n h1 h2]
theorem fGet (a : Nat) (ha : a < 18446744073709551616) (p n : Nat) (h1 : 1 ≤ n) (h2 : p + n ≤ 64) : field_Get.f (a : Int) (p : Int) (n : Int) = some ((a / 2 ^ p % 2 ^ n : Nat) : Int) := by
 unfold field_Get.f
 rw [fMay p n h1 h2, fMask p n h1 h2]
 simp only [Option.bind_some, if_true]
 rw [if_pos (by omega), m_get a ha p n h1 h2]

/-! ### Pages -/
def bytesOf (s : Int) : Nat := if s = 0 then 8192 else if s = 1 then 65536 else if s = 2 then 524288 else if s = 3 then 4194304 else 0
def okSize (s : Int) : Prop := 0 ≤ s ∧ s < 4
instance (s : Int) : Decidable (okSize s) := inferInstanceAs (Decidable (0 ≤ s ∧ s < 4))
theorem size_cases (s : Int) : s = 0 ∨ s = 1 ∨ s = 2 ∨ s = 3 ∨ ¬ okSize s := by unfold okSize; omega
theorem bytes_bad {s : Int} (h : ¬ okSize s) : bytesOf s = 0 := by
 unfold okSize at h; unfold bytesOf; rw [if_neg (by omega), if_neg (by omega), if_neg (by omega), if_neg (by omega)]
theorem pMay (s : Int) : page_May.f s = some (decide (okSize s)) := by
 unfold page_May.f okSize
 split <;> simp [*]
theorem pBits (s : Int) : page_Bits.f s = some (if okSize s then 13 + 3 * s else 0) := by
 unfold page_Bits.f
 rw [pMay]
 by_cases h : okSize s
 ·have h' := h
  unfold okSize at h'
  simp only [Option.bind_some, h, decide_true, if_true]
  congr 1; unfold wrap64; omega
 ·simp [h]
theorem pOffset (a : Nat) (ha : a < 18446744073709551616) (s : Int) : page_Offset.f (a : Int) s = some (if okSize s then ((a % bytesOf s : Nat) : Int) else 0) := by
 unfold page_Offset.f
 rw [pMay, pBits]
 rcases size_cases s with rfl | rfl | rfl | rfl | h
 ·have := fGet a ha 0 13 (by omega) (by omega)
  simp [okSize, bytesOf] at this ⊢; rw [this]
 ·have := fGet a ha 0 16 (by omega) (by omega)
  simp [okSize, bytesOf] at this ⊢; rw [this]
 ·have := fGet a ha 0 19 (by omega) (by omega)
  simp [okSize, bytesOf] at this ⊢; rw [this]
 ·have := fGet a ha 0 22 (by omega) (by omega)
  simp [okSize, bytesOf] at this ⊢; rw [this]
 ·simp [h]
theorem pStarts (a : Nat) (ha : a < 18446744073709551616) (s : Int) : page_Starts.f (a : Int) s = some (decide (okSize s ∧ a % bytesOf s = 0)) := by
 unfold page_Starts.f
 rw [pMay, pOffset a ha]
 by_cases h : okSize s
 ·simp only [h, decide_true, Option.bind_some, if_true, true_and, Option.some.injEq]
  rw [Bool.eq_iff_iff]; simp; omega
 ·simp [h]

theorem pBase (a : Nat) (ha : a < 18446744073709551616) (s : Int) : page_Base.f (a : Int) s = some ((a / bytesOf s * bytesOf s : Nat) : Int) := by
 unfold page_Base.f
 rw [pMay, pOffset a ha]
 by_cases h : okSize s
 ·have e := Nat.div_add_mod a (bytesOf s)
  have e2 : bytesOf s * (a / bytesOf s) = a / bytesOf s * bytesOf s := Nat.mul_comm _ _
  simp only [h, decide_true, Option.bind_some, if_true, Option.some.injEq]
  rw [IntKind.wrap_u64]; omega
 ·simp [h, bytes_bad h]

theorem pIn (a b : Nat) (ha : a < 18446744073709551616) (hb : b < 18446744073709551616) (s : Int) : page_In.f (a : Int) (b : Int) s = some (decide (okSize s ∧ a / bytesOf s * bytesOf s = b / bytesOf s * bytesOf s)) := by
 unfold page_In.f
 rw [pMay, pBase a ha, pBase b hb]
 by_cases h : okSize s
 ·simp only [h, decide_true, Option.bind_some, if_true, true_and, Option.some.injEq]
  rw [Bool.eq_iff_iff]; simp only [beq_iff_eq, decide_eq_true_eq]; omega
 ·simp [h]

theorem pHole (a : Nat) (ha : a < 18446744073709551616) : page_Hole.f (a : Int) = some (decide (a / 8796093022208 ≠ 0 ∧ a / 8796093022208 ≠ 2097151)) := by
 unfold page_Hole.f
 have := fGet a ha 43 21 (by omega) (by omega)
 simp only [Nat.reducePow] at this
 have e : a / 8796093022208 % 2097152 = a / 8796093022208 := by omega
 rw [e] at this
 have h43 : ((43 : Nat) : Int) = 43 := rfl
 have h21 : ((21 : Nat) : Int) = 21 := rfl
 rw [h43, h21] at this
 rw [this]
 simp only [Option.bind_some]
 by_cases h0 : a / 8796093022208 = 0
 ·rw [h0]; simp
 ·rw [if_neg (by omega)]
  simp only [ne_eq, h0, not_false_eq_true, true_and, Option.some.injEq]
  rw [Bool.eq_iff_iff]; simp; omega

theorem pTag (a : Nat) (ha : a < 18446744073709551616) : page_Tag.f (a : Int) = some ((a / 4194304 % 4194304 : Nat) : Int) := by
 unfold page_Tag.f
 have := fGet a ha 22 22 (by omega) (by omega)
 have h22 : ((22 : Nat) : Int) = 22 := rfl
 rw [h22] at this
 rw [this]; rfl

theorem rBytes (s : Int) : lookasideref02_Bytes.f s = some (bytesOf s : Int) := by
 unfold lookasideref02_Bytes.f bytesOf
 by_cases h0 : s = 0
 ·simp [h0]
 ·by_cases h1 : s = 1
  ·simp [h1]
  ·by_cases h2 : s = 2
   ·simp [h2]
   ·by_cases h3 : s = 3
    ·simp [h3]
    ·simp [h0, h1, h2, h3]
theorem bytes_pos {s : Int} (h : okSize s) : 8192 ≤ bytesOf s ∧ bytesOf s ≤ 4194304 := by
 rcases size_cases s with rfl | rfl | rfl | rfl | h'
 ·decide
 ·decide
 ·decide
 ·decide
 ·exact absurd h h'

theorem rMay (s : Int) : lookasideref02_May.f s = some (decide (okSize s)) := by
 unfold lookasideref02_May.f okSize
 split
 ·simp [*]; omega
 ·simp [*]
theorem rBase (a : Nat) (ha : a < 18446744073709551616) (s : Int) : lookasideref02_Base.f (a : Int) s = some ((a / bytesOf s * bytesOf s : Nat) : Int) := by
 unfold lookasideref02_Base.f
 rw [rMay, rBytes]
 by_cases h : okSize s
 ·have hb := bytes_pos h
  simp only [h, decide_true, Option.bind_some, if_true]
  rw [if_neg (by omega), m_tdiv, m_wu _ (Nat.lt_of_le_of_lt (Nat.div_le_self _ _) ha)]
  have hm : a / bytesOf s * bytesOf s < 18446744073709551616 := Nat.lt_of_le_of_lt (Nat.div_mul_le_self _ _) ha
  have e : ((a / bytesOf s : Nat) : Int) * (bytesOf s : Int) = ((a / bytesOf s * bytesOf s : Nat) : Int) := (Int.natCast_mul _ _).symm
  rw [e, m_wu _ hm]
 ·simp [h, bytes_bad h]

def vaOf (a : Nat) : Nat := if a / 8796093022208 % 2 = 1 then a % 8796093022208 + 18446735277616529408 else a % 8796093022208
theorem vaOf_lt (a : Nat) : vaOf a < 18446744073709551616 := by unfold vaOf; split <;> omega
theorem vaOf_hole (a : Nat) : ¬ (vaOf a / 8796093022208 ≠ 0 ∧ vaOf a / 8796093022208 ≠ 2097151) := by unfold vaOf; split <;> omega
theorem rVa (a : Nat) (ha : a < 18446744073709551616) (k : Nat) (hk : 100 ≤ k) : lookasideref02_Va.f k (a : Int) = some (vaOf a : Int) := by
 unfold lookasideref02_Va.f vaOf
 have b2 := rBit a 43 k ha (by omega) (by omega)
 have h43 : ((43 : Nat) : Int) = 43 := rfl
 rw [h43] at b2
 simp only [Nat.reducePow] at b2
 rw [b2]
 simp only [Option.bind_some]
 have e : Int.tmod (a : Int) 8796093022208 = ((a % 8796093022208 : Nat) : Int) := rfl
 rw [e]
 by_cases h : a / 8796093022208 % 2 = 1
 ·rw [if_pos (by omega), if_pos h, IntKind.wrap_u64]; refine congrArg some ?_; omega
 ·rw [if_neg (by omega), if_neg h]

/-! ### A number put into a field -/
def putOf (a p n v : Nat) : Nat := a - a / 2 ^ p % 2 ^ n * 2 ^ p + v % 2 ^ n * 2 ^ p
theorem m_put (a v : Nat) (ha : a < 18446744073709551616) (p n : Nat) (h1 : 1 ≤ n) (h2 : p + n ≤ 64) :
  (a &&& (18446744073709551615 - (2 ^ n - 1) * 2 ^ p)) ||| ((v * 2 ^ p % 18446744073709551616) &&& ((2 ^ n - 1) * 2 ^ p)) = putOf a p n v := by
 have hn0 : 0 < 2 ^ n := Nat.two_pow_pos n
 have hp0 : 0 < 2 ^ p := Nat.two_pow_pos p
 have hM : (2 ^ n - 1) * 2 ^ p < 2 ^ 64 := by
  have hp : 2 ^ n * 2 ^ p ≤ (2 ^ 64 : Nat) := by
   rw [← Nat.pow_add]; exact Nat.pow_le_pow_right (by decide) (by omega)
  rw [Nat.sub_mul]; omega
 have hT : putOf a p n v = 2 ^ (p + n) * (a / 2 ^ (p + n)) + (2 ^ p * (v % 2 ^ n) + a % 2 ^ p) := by
  unfold putOf
  have e1 : a = 2 ^ p * (a / 2 ^ p) + a % 2 ^ p := (Nat.div_add_mod a (2 ^ p)).symm
  have e2 : a / 2 ^ p = 2 ^ n * (a / 2 ^ p / 2 ^ n) + a / 2 ^ p % 2 ^ n := (Nat.div_add_mod (a / 2 ^ p) (2 ^ n)).symm
  rw [Nat.div_div_eq_div_mul, ← Nat.pow_add] at e2
  have e3 : 2 ^ p * (a / 2 ^ p) = 2 ^ (p + n) * (a / 2 ^ (p + n)) + a / 2 ^ p % 2 ^ n * 2 ^ p := by
   conv => lhs; rw [e2]
   rw [Nat.mul_add, ← Nat.mul_assoc, ← Nat.pow_add, Nat.mul_comm (a / 2 ^ p % 2 ^ n)]
  have e4 : v % 2 ^ n * 2 ^ p = 2 ^ p * (v % 2 ^ n) := Nat.mul_comm _ _
  omega
 have hin : 2 ^ p * (v % 2 ^ n) + a % 2 ^ p < 2 ^ (p + n) := by
  have x1 : v % 2 ^ n < 2 ^ n := Nat.mod_lt _ hn0
  have x2 : a % 2 ^ p < 2 ^ p := Nat.mod_lt _ hp0
  have x3 : 2 ^ p * (v % 2 ^ n + 1) ≤ 2 ^ p * 2 ^ n := Nat.mul_le_mul_left _ x1
  rw [Nat.pow_add]
  rw [Nat.mul_add, Nat.mul_one] at x3
  omega
 rw [hT]
 apply Nat.eq_of_testBit_eq
 intro i
 rw [show (18446744073709551615 : Nat) - (2 ^ n - 1) * 2 ^ p = 2 ^ 64 - ((2 ^ n - 1) * 2 ^ p + 1) by omega, show (18446744073709551616 : Nat) = 2 ^ 64 from rfl]
 rw [Nat.testBit_or, Nat.testBit_and, Nat.testBit_and, Nat.testBit_two_pow_sub_succ hM, Nat.testBit_mod_two_pow, Nat.testBit_mul_two_pow, Nat.testBit_mul_two_pow, Nat.testBit_two_pow_sub_one]
 rw [Nat.testBit_two_pow_mul_add _ hin, Nat.testBit_two_pow_mul_add _ (Nat.mod_lt a hp0), Nat.testBit_mod_two_pow, Nat.testBit_mod_two_pow, Nat.testBit_div_two_pow]
 have hhi : 64 ≤ i → a.testBit i = false := fun h => Nat.testBit_lt_two_pow (Nat.lt_of_lt_of_le ha (Nat.pow_le_pow_right (by decide) h : 2 ^ 64 ≤ 2 ^ i))
 by_cases c1 : i < p
 ·have c2 : i < p + n := by omega
  have c3 : ¬ p ≤ i := by omega
  have c4 : i < 64 := by omega
  simp [c1, c2, c3, c4]
 ·by_cases c2 : i < p + n
  ·have c3 : p ≤ i := by omega
   have c4 : i < 64 := by omega
   have c5 : i - p < n := by omega
   simp [c1, c2, c3, c4, c5]
  ·have c3 : p ≤ i := by omega
   have c5 : ¬ i - p < n := by omega
   by_cases c4 : i < 64
   ·simp [c1, c2, c3, c4, c5, Nat.sub_add_cancel (show p + n ≤ i by omega)]
   ·simp [c1, c2, c3, c4, c5, hhi (by omega), Nat.sub_add_cancel (show p + n ≤ i by omega)]
theorem fPut (a v : Nat) (ha : a < 18446744073709551616) (p n : Nat) (h1 : 1 ≤ n) (h2 : p + n ≤ 64) : field_Put.f (a : Int) (p : Int) (n : Int) (v : Int) = some (putOf a p n v : Int) := by
 unfold field_Put.f
 have hM : (2 ^ n - 1) * 2 ^ p < 18446744073709551616 := by
  have hp : 2 ^ n * 2 ^ p ≤ (2 ^ 64 : Nat) := by
   rw [← Nat.pow_add]; exact Nat.pow_le_pow_right (by decide) (by omega)
  have h3 : 0 < 2 ^ p := Nat.two_pow_pos p
  rw [Nat.sub_mul]; omega
 rw [fMay p n h1 h2, fMask p n h1 h2]
 simp only [Option.bind_some, if_true]
 have e : (v : Int) * 2 ^ p % 18446744073709551616 = ((v * 2 ^ p % 18446744073709551616 : Nat) : Int) := by simp
 rw [if_pos (by omega), m_shl _ _ (by omega), e, u64_andNot_nat _ _ ha hM, u64_and_nat _ _ (Nat.mod_lt _ (by decide)) hM, u64_or_nat _ _ (Nat.lt_of_le_of_lt Nat.and_le_left ha) (Nat.lt_of_le_of_lt Nat.and_le_left (Nat.mod_lt _ (by decide))), m_put a v ha p n h1 h2]
def b2n (b : Bool) : Nat := if b then 1 else 0
theorem b2n_lt (b : Bool) : b2n b < 2 := by cases b <;> decide
theorem fSet (a : Nat) (ha : a < 18446744073709551616) (p : Nat) (h2 : p < 64) (b : Bool) : field_Set.f (a : Int) (p : Int) b = some (putOf a p 1 (b2n b) : Int) := by
 unfold field_Set.f
 have f1 := fPut a 1 ha p 1 (by omega) (by omega)
 have f0 := fPut a 0 ha p 1 (by omega) (by omega)
 rw [show ((1 : Nat) : Int) = 1 from rfl] at f1 f0
 rw [show ((0 : Nat) : Int) = 0 from rfl] at f0
 cases b
 ·rw [if_neg (by decide), f0]; rfl
 ·rw [if_pos rfl, f1]; rfl
/-- A field that is empty. -/
theorem put_add (a p n v P N : Nat) (hP : 2 ^ p = P) (hN : 2 ^ n = N) (h : a / P % N = 0) (hv : v < N) : putOf a p n v = a + v * P := by
 unfold putOf; rw [hP, hN, h, Nat.mod_eq_of_lt hv]; omega

/-! ### An entry's words -/
def tagOf (c va : Nat) (g : Bool) : Nat := b2n g * 9223372036854775808 + c * 281474976710656 + va / 4194304 % 4194304
def dataOf (s pa : Nat) (w p x l g q : Bool) : Nat := 9223372036854775808 + s * 2305843009213693952 + b2n q * 1152921504606846976 + pa + b2n l * 64 + b2n x * 8 + b2n p * 4 + b2n w * 2 + b2n g
theorem pTarget (va c : Nat) (hva : va < 18446744073709551616) (hc : c < 8192) : tte_Target.f (va : Int) (c : Int) = some ((c * 281474976710656 + va / 4194304 % 4194304 : Nat) : Int) := by
 unfold tte_Target.f
 rw [pTag va hva, m_wu c (by omega)]
 simp only [Option.bind_some]
 have h := fPut (va / 4194304 % 4194304) c (by omega) 48 13 (by omega) (by omega)
 rw [put_add _ 48 13 c 281474976710656 8192 rfl rfl (by omega) hc] at h
 rw [show ((48 : Nat) : Int) = 48 from rfl, show ((13 : Nat) : Int) = 13 from rfl] at h
 rw [h]
 refine congrArg some ?_; omega
theorem pTTag (s c va pa : Nat) (w p x l g q v : Bool) (hva : va < 18446744073709551616) (hc : c < 8192) : tte_Tag.f (s : Int) (c : Int) (va : Int) (pa : Int) w p x l g q v = some (tagOf c va g : Int) := by
 unfold tte_Tag.f tagOf
 rw [pTarget va c hva hc]
 simp only [Option.bind_some]
 have hb := b2n_lt g
 have h := fSet (c * 281474976710656 + va / 4194304 % 4194304) (by omega) 63 (by omega) g
 rw [put_add _ 63 1 (b2n g) 9223372036854775808 2 rfl rfl (by omega) hb] at h
 rw [show ((63 : Nat) : Int) = 63 from rfl] at h
 rw [h]
 refine congrArg some ?_; omega
theorem pData (s c va pa : Nat) (w p x l g q : Bool) (hs : s < 4) (hpa : pa < 2199023255552) (hpa0 : pa % 8192 = 0) : tte_Data.f (s : Int) (c : Int) (va : Int) (pa : Int) w p x l g q true = some (dataOf s pa w p x l g q : Int) := by
 have bw := b2n_lt w
 have bp := b2n_lt p
 have bx := b2n_lt x
 have bl := b2n_lt l
 have bg := b2n_lt g
 have bq := b2n_lt q
 obtain ⟨f, rfl⟩ : ∃ f, pa = f * 8192 := ⟨pa / 8192, by omega⟩
 have hf : f < 268435456 := by omega
 have e0 : ((f * 8192 : Nat) : Int) / 8192 = (f : Int) := by omega
 have s1 : field_Set.f 0 63 true = some ((9223372036854775808 : Nat) : Int) := by decide +kernel
 have s2 := fPut (9223372036854775808) s (by omega) 61 2 (by omega) (by omega)
 rw [put_add _ 61 2 s 2305843009213693952 4 rfl rfl (by omega) (by omega)] at s2
 rw [show ((61 : Nat) : Int) = 61 from rfl] at s2
 rw [show ((2 : Nat) : Int) = 2 from rfl] at s2
 have s3 := fPut (9223372036854775808 + s * 2305843009213693952) f (by omega) 13 28 (by omega) (by omega)
 rw [put_add _ 13 28 f 8192 268435456 rfl rfl (by omega) (by omega)] at s3
 rw [show ((13 : Nat) : Int) = 13 from rfl] at s3
 rw [show ((28 : Nat) : Int) = 28 from rfl] at s3
 have s4 := fSet (9223372036854775808 + s * 2305843009213693952 + f * 8192) (by omega) 60 (by omega) q
 rw [put_add _ 60 1 (b2n q) 1152921504606846976 2 rfl rfl (by omega) (by omega)] at s4
 rw [show ((60 : Nat) : Int) = 60 from rfl] at s4
 have s5 := fSet (9223372036854775808 + s * 2305843009213693952 + f * 8192 + b2n q * 1152921504606846976) (by omega) 6 (by omega) l
 rw [put_add _ 6 1 (b2n l) 64 2 rfl rfl (by omega) (by omega)] at s5
 rw [show ((6 : Nat) : Int) = 6 from rfl] at s5
 have s6 := fSet (9223372036854775808 + s * 2305843009213693952 + f * 8192 + b2n q * 1152921504606846976 + b2n l * 64) (by omega) 3 (by omega) x
 rw [put_add _ 3 1 (b2n x) 8 2 rfl rfl (by omega) (by omega)] at s6
 rw [show ((3 : Nat) : Int) = 3 from rfl] at s6
 have s7 := fSet (9223372036854775808 + s * 2305843009213693952 + f * 8192 + b2n q * 1152921504606846976 + b2n l * 64 + b2n x * 8) (by omega) 2 (by omega) p
 rw [put_add _ 2 1 (b2n p) 4 2 rfl rfl (by omega) (by omega)] at s7
 rw [show ((2 : Nat) : Int) = 2 from rfl] at s7
 have s8 := fSet (9223372036854775808 + s * 2305843009213693952 + f * 8192 + b2n q * 1152921504606846976 + b2n l * 64 + b2n x * 8 + b2n p * 4) (by omega) 1 (by omega) w
 rw [put_add _ 1 1 (b2n w) 2 2 rfl rfl (by omega) (by omega)] at s8
 rw [show ((1 : Nat) : Int) = 1 from rfl] at s8
 have s9 := fSet (9223372036854775808 + s * 2305843009213693952 + f * 8192 + b2n q * 1152921504606846976 + b2n l * 64 + b2n x * 8 + b2n p * 4 + b2n w * 2) (by omega) 0 (by omega) g
 rw [put_add _ 0 1 (b2n g) 1 2 rfl rfl (by omega) (by omega)] at s9
 rw [show ((0 : Nat) : Int) = 0 from rfl] at s9
 unfold tte_Data.f dataOf
 rw [if_pos rfl, m_wu s (by omega), e0, s1, Option.bind_some, s2, Option.bind_some, s3, Option.bind_some, s4, Option.bind_some, s5, Option.bind_some, s6, Option.bind_some, s7, Option.bind_some, s8, Option.bind_some, s9]
 refine congrArg some ?_; omega
/-! ### An entry that may be, made of any -/
def foldN (n : Int) : Nat := (if n < 0 then -(n + 1) else n).toNat
def goodS (a0 : Int) : Nat := foldN a0 % 4
def goodC (a1 : Int) (g : Bool) : Nat := if g then 0 else foldN a1 % 8192
def goodV (a0 : Int) (va : Nat) : Nat := vaOf va / bytesOf (goodS a0 : Int) * bytesOf (goodS a0 : Int)
def goodP (a0 : Int) (pa : Nat) : Nat := pa % 2199023255552 / bytesOf (goodS a0 : Int) * bytesOf (goodS a0 : Int)
theorem goodS_ok (a0 : Int) : okSize (goodS a0 : Int) := by unfold okSize goodS; omega
theorem goodC_lt (a1 : Int) (g : Bool) : goodC a1 g < 8192 := by unfold goodC; split <;> omega
theorem goodP_lt (a0 : Int) (pa : Nat) : goodP a0 pa < 2199023255552 := by
 unfold goodP; exact Nat.lt_of_le_of_lt (Nat.div_mul_le_self _ _) (Nat.mod_lt _ (by decide))
theorem goodV_lt (a0 : Int) (va : Nat) : goodV a0 va < 18446744073709551616 := by
 unfold goodV; exact Nat.lt_of_le_of_lt (Nat.div_mul_le_self _ _) (vaOf_lt va)
/-- What sizes have in common. -/
theorem bytes_mul {s : Int} (h : okSize s) : ∃ c, 0 < c ∧ c ≤ 512 ∧ bytesOf s = 8192 * c ∧ 4194304 = bytesOf s * (4194304 / bytesOf s) := by
 rcases size_cases s with rfl | rfl | rfl | rfl | h'
 ·exact ⟨1, by decide⟩
 ·exact ⟨8, by decide⟩
 ·exact ⟨64, by decide⟩
 ·exact ⟨512, by decide⟩
 ·exact absurd h h'
theorem goodP_mod (a0 : Int) (pa : Nat) : goodP a0 pa % bytesOf (goodS a0 : Int) = 0 := by unfold goodP; exact Nat.mul_mod_left _ _
theorem goodV_mod (a0 : Int) (va : Nat) : goodV a0 va % bytesOf (goodS a0 : Int) = 0 := by unfold goodV; exact Nat.mul_mod_left _ _
theorem goodV_hole (a0 : Int) (va : Nat) : ¬ (goodV a0 va / 8796093022208 ≠ 0 ∧ goodV a0 va / 8796093022208 ≠ 2097151) := by
 have hv := vaOf_hole va
 unfold goodV
 rcases size_cases (goodS a0 : Int) with e | e | e | e | e
 ·rw [e]; simp only [bytesOf, if_true]; omega
 ·rw [e]; simp only [bytesOf]; simp; omega
 ·rw [e]; simp only [bytesOf]; simp; omega
 ·rw [e]; simp only [bytesOf]; simp; omega
 ·exact absurd (goodS_ok a0) e
theorem rGood (a0 a1 : Int) (va pa : Nat) (w p x l g q v : Bool) (h0 : (Lit.int .i64 a0).wf = true) (h1 : (Lit.int .i64 a1).wf = true) (hva : va < 18446744073709551616) (hpa : pa < 18446744073709551616) (k : Nat) (hk : 110 ≤ k) :
  lookasideref03_Good.f k a0 a1 (va : Int) (pa : Int) w p x l g q v = some ((goodS a0 : Int), (goodC a1 g : Int), (goodV a0 va : Int), (goodP a0 pa : Int), w, p, x, l, g, q, true) := by
 obtain ⟨b1, b2⟩ := m_i64 h0
 obtain ⟨b3, b4⟩ := m_i64 h1
 obtain ⟨k, rfl⟩ : ∃ m, k = m + 2 := ⟨k - 2, by omega⟩
 have ep : Int.tmod (pa : Int) 2199023255552 = ((pa % 2199023255552 : Nat) : Int) := rfl
 have hp : pa % 2199023255552 < 18446744073709551616 := by omega
 have j1 : ∀ (c : Int) (s : Int), 0 ≤ c → okSize s → lookasideref03_Good.j1 k c a0 a1 (va : Int) (pa : Int) w p x l g q v s 0 0 0 w p x l g q true = lookasideref03_Good.j1 k c a0 a1 (va : Int) (pa : Int) w p x l g q v s 0 0 0 w p x l g q true := fun _ _ _ _ => rfl
 obtain ⟨k, rfl⟩ : ∃ m, k = m + 1 := ⟨k - 1, by omega⟩
 have hS : ∀ n : Int, 0 ≤ n → n = (if a0 < 0 then -(a0 + 1) else a0) → Int.tmod n 4 = (goodS a0 : Int) := by
  intro n hn e; rw [Int.tmod_eq_emod_of_nonneg hn, e]; unfold goodS foldN; split <;> omega
 have hC : ∀ n : Int, 0 ≤ n → n = (if a1 < 0 then -(a1 + 1) else a1) → Int.tmod n 8192 = ((foldN a1 % 8192 : Nat) : Int) := by
  intro n hn e; rw [Int.tmod_eq_emod_of_nonneg hn, e]; unfold foldN; split <;> omega
 have hj1 : ∀ (c s : Int), 0 ≤ c → c = (if a1 < 0 then -(a1 + 1) else a1) → s = (goodS a0 : Int) → lookasideref03_Good.j1 (k + 1) c a0 a1 (va : Int) (pa : Int) w p x l g q v s 0 0 0 w p x l g q true = some ((goodS a0 : Int), (goodC a1 g : Int), (goodV a0 va : Int), (goodP a0 pa : Int), w, p, x, l, g, q, true) := by
  intro c s hc ec es
  subst es
  rw [lookasideref03_Good.j1, rVa va hva k (by omega), ep]
  simp only [Option.bind_some]
  rw [rBase _ (vaOf_lt va), rBase _ hp, hC c hc ec]
  unfold goodC goodV goodP
  cases g <;> rfl
 have hj0 : ∀ (n s : Int), 0 ≤ n → n = (if a0 < 0 then -(a0 + 1) else a0) → lookasideref03_Good.j0 (k + 2) n a0 a1 (va : Int) (pa : Int) w p x l g q v 0 0 0 0 w p x l g q true = some ((goodS a0 : Int), (goodC a1 g : Int), (goodV a0 va : Int), (goodP a0 pa : Int), w, p, x, l, g, q, true) := by
  intro n s hn en
  rw [lookasideref03_Good.j0, hS n hn en]
  by_cases h : a1 < 0
  ·rw [if_pos h]; exact hj1 _ _ (by unfold wrap64; omega) (by rw [if_pos h]; unfold wrap64; omega) rfl
  ·rw [if_neg h]; exact hj1 _ _ (by omega) (by rw [if_neg h]) rfl
 clear j1
 unfold lookasideref03_Good.f
 by_cases h : a0 < 0
 ·rw [if_pos h]
  have := at_rounds (fun k => (lookasideref03_Good.mono_l k).1 (wrap64 (-(wrap64 (a0 + 1)))) a0 a1 (va : Int) (pa : Int) w p x l g q v 0 0 0 0 w p x l g q true) (show k + 2 ≤ k + 1 + 2 by omega) (hj0 _ 0 (by unfold wrap64; omega) (by rw [if_pos h]; unfold wrap64; omega))
  exact this
 ·rw [if_neg h]
  have := at_rounds (fun k => (lookasideref03_Good.mono_l k).1 a0 a0 a1 (va : Int) (pa : Int) w p x l g q v 0 0 0 0 w p x l g q true) (show k + 2 ≤ k + 1 + 2 by omega) (hj0 _ 0 (by omega) (by rw [if_neg h]))
  exact this

/-- Which entries may be. -/
def mayOf (s c : Int) (va pa : Nat) (g v : Bool) : Bool :=
 v && (decide (okSize s) && (decide (0 ≤ c) && (decide (c ≤ 8191) && (!(g && c != 0) && (!(decide (va / 8796093022208 ≠ 0 ∧ va / 8796093022208 ≠ 2097151)) && (decide (va % bytesOf s = 0) && (decide (pa < 2199023255552) && decide (pa % bytesOf s = 0))))))))
theorem fFits (pa : Nat) : field_Fits.f (pa : Int) 41 = some (decide (pa < 2199023255552)) := by
 unfold field_Fits.f
 rw [if_neg (by decide), if_pos (by decide), if_pos (by decide)]
 have := m_shr (pa : Int) 41 (by omega)
 rw [show ((41 : Nat) : Int) = 41 from rfl] at this
 rw [this]
 refine congrArg some ?_
 rw [Bool.eq_iff_iff]; simp only [Int.reducePow, beq_iff_eq, decide_eq_true_eq]; omega
theorem pTMay (s c : Int) (va pa : Nat) (w p x l g q v : Bool) (hva : va < 18446744073709551616) (hpa : pa < 18446744073709551616) (k : Nat) (hk : 10 ≤ k) : tte_May.f k s c (va : Int) (pa : Int) w p x l g q v = some (mayOf s c va pa g v) := by
 obtain ⟨k, rfl⟩ : ∃ m, k = m + 1 := ⟨k - 1, by omega⟩
 have hj : ∀ b, tte_May.j0 (k + 1) b s c (va : Int) (pa : Int) w p x l g q v = some (!b && (!(decide (va / 8796093022208 ≠ 0 ∧ va / 8796093022208 ≠ 2097151)) && (decide (okSize s ∧ va % bytesOf s = 0) && (decide (pa < 2199023255552) && decide (okSize s ∧ pa % bytesOf s = 0))))) := by
  intro b
  rw [tte_May.j0, pHole va hva, pStarts va hva, pStarts pa hpa, fFits]
  simp only [Option.bind_some]
  generalize decide (va / 8796093022208 ≠ 0 ∧ va / 8796093022208 ≠ 2097151) = d1
  generalize decide (okSize s ∧ va % bytesOf s = 0) = d2
  generalize decide (pa < 2199023255552) = d3
  generalize decide (okSize s ∧ pa % bytesOf s = 0) = d4
  cases b <;> cases d1 <;> cases d2 <;> cases d3 <;> cases d4 <;> rfl
 unfold tte_May.f mayOf
 rw [pMay, hj, hj, hj]
 cases v
 ·simp
 ·by_cases h : okSize s
  ·simp only [h, decide_true, Option.bind_some, if_true, true_and, Bool.true_and]
   by_cases h1 : c < 0
   ·rw [if_pos h1]; have : ¬ 0 ≤ c := by omega
    simp [this]
   ·rw [if_neg h1]
    have h1' : 0 ≤ c := by omega
    by_cases h2 : c > 8191
    ·rw [if_pos h2]; have : ¬ c ≤ 8191 := by omega
     simp [this]
    ·rw [if_neg h2]
     have h2' : c ≤ 8191 := by omega
     cases g <;> simp [h1', h2']
  ·simp [h]

/-! ### An entry of words -/
theorem beq1 (x : Nat) : (((x : Nat) : Int) == 1) = decide (x = 1) := by
 rw [Bool.eq_iff_iff, beq_iff_eq, decide_eq_true_eq]; omega
theorem pBit (d : Nat) (hd : d < 18446744073709551616) (i : Nat) (hi : i < 64) : field_Bit.f (d : Int) (i : Int) = some (decide (d / 2 ^ i % 2 = 1)) := by
 unfold field_Bit.f
 have := fGet d hd i 1 (by omega) (by omega)
 rw [show ((1 : Nat) : Int) = 1 from rfl, show 2 ^ 1 = 2 from rfl] at this
 rw [this, Option.bind_some, beq1]
theorem pValid (d : Nat) (hd : d < 18446744073709551616) : tte_Valid.f (d : Int) = some (decide (d / 9223372036854775808 % 2 = 1)) := by
 unfold tte_Valid.f
 have := pBit d hd 63 (by omega)
 rw [show ((63 : Nat) : Int) = 63 from rfl, show 2 ^ 63 = 9223372036854775808 from rfl] at this
 rw [this, Option.bind_some]
theorem dataOf_lt (s pa : Nat) (w p x l g q : Bool) (hs : s < 4) (hpa : pa < 2199023255552) (hpa0 : pa % 8192 = 0) : dataOf s pa w p x l g q < 18446744073709551616 := by
 unfold dataOf
 have bw := b2n_lt w
 have bp := b2n_lt p
 have bx := b2n_lt x
 have bl := b2n_lt l
 have bg := b2n_lt g
 have bq := b2n_lt q
 omega
def noneOf (e : Int) : Int × Int × Int × Int × Bool × Bool × Bool × Bool × Bool × Bool × Bool × Int := (0, 0, 0, 0, false, false, false, false, false, false, false, e)
def bitOf (d P : Nat) : Bool := decide (d / P % 2 = 1)
def sOf (d : Nat) : Nat := d / 2305843009213693952 % 4
def cOf (t : Nat) : Nat := t / 281474976710656 % 8192
def paOf (d : Nat) : Nat := d / 8192 % 268435456 * 8192
def vOf (d va : Nat) : Nat := va / bytesOf (sOf d : Int) * bytesOf (sOf d : Int)
def entOf (t d va : Nat) (w p x l g q : Bool) : Int × Int × Int × Int × Bool × Bool × Bool × Bool × Bool × Bool × Bool × Int :=
 if mayOf (sOf d : Int) (cOf t : Int) (vOf d va) (paOf d) g true = true then (if tagOf (cOf t) (vOf d va) g = t then (if dataOf (sOf d) (paOf d) w p x l g q = d then ((sOf d : Int), (cOf t : Int), (vOf d va : Int), (paOf d : Int), w, p, x, l, g, q, true, 0) else noneOf 2) else noneOf 2) else noneOf 2
def readOf (t d va : Nat) : Int × Int × Int × Int × Bool × Bool × Bool × Bool × Bool × Bool × Bool × Int :=
 if va / 8796093022208 ≠ 0 ∧ va / 8796093022208 ≠ 2097151 then noneOf 3 else if d / 9223372036854775808 % 2 = 1 then entOf t d va (bitOf d 2) (bitOf d 4) (bitOf d 8) (bitOf d 64) (bitOf d 1) (bitOf d 1152921504606846976) else noneOf 11
theorem sOf_lt (d : Nat) : sOf d < 4 := Nat.mod_lt _ (by decide)
theorem cOf_lt (d : Nat) : cOf d < 8192 := Nat.mod_lt _ (by decide)
theorem paOf_lt (d : Nat) : paOf d < 2199023255552 := by
 have : d / 8192 % 268435456 < 268435456 := Nat.mod_lt _ (by decide)
 unfold paOf; omega
theorem paOf_mod (d : Nat) : paOf d % 8192 = 0 := Nat.mul_mod_left _ _
theorem vOf_lt (d va : Nat) (h : va < 18446744073709551616) : vOf d va < 18446744073709551616 := Nat.lt_of_le_of_lt (Nat.div_mul_le_self _ _) h
theorem pRead (t d va : Nat) (ht : t < 18446744073709551616) (hd : d < 18446744073709551616) (hva : va < 18446744073709551616) (k : Nat) (hk : 300 ≤ k) : tte_Read.f k (t : Int) (d : Int) (va : Int) = some (readOf t d va) := by
 have g1 := fGet d hd 61 2 (by omega) (by omega)
 rw [show ((61 : Nat) : Int) = 61 from rfl, show ((2 : Nat) : Int) = 2 from rfl, show 2 ^ 61 = 2305843009213693952 from rfl, show 2 ^ 2 = 4 from rfl] at g1
 have g2 := fGet t ht 48 13 (by omega) (by omega)
 rw [show ((48 : Nat) : Int) = 48 from rfl, show ((13 : Nat) : Int) = 13 from rfl, show 2 ^ 48 = 281474976710656 from rfl, show 2 ^ 13 = 8192 from rfl] at g2
 have g3 := fGet d hd 13 28 (by omega) (by omega)
 rw [show ((13 : Nat) : Int) = 13 from rfl, show ((28 : Nat) : Int) = 28 from rfl, show 2 ^ 28 = 268435456 from rfl, show 2 ^ 13 = 8192 from rfl] at g3
 have b60 := pBit d hd 60 (by omega)
 rw [show ((60 : Nat) : Int) = 60 from rfl, show 2 ^ 60 = 1152921504606846976 from rfl] at b60
 have b6 := pBit d hd 6 (by omega)
 rw [show ((6 : Nat) : Int) = 6 from rfl, show 2 ^ 6 = 64 from rfl] at b6
 have b3 := pBit d hd 3 (by omega)
 rw [show ((3 : Nat) : Int) = 3 from rfl, show 2 ^ 3 = 8 from rfl] at b3
 have b2 := pBit d hd 2 (by omega)
 rw [show ((2 : Nat) : Int) = 2 from rfl, show 2 ^ 2 = 4 from rfl] at b2
 have b1 := pBit d hd 1 (by omega)
 rw [show ((1 : Nat) : Int) = 1 from rfl, show 2 ^ 1 = 2 from rfl] at b1
 have b0 := pBit d hd 0 (by omega)
 rw [show ((0 : Nat) : Int) = 0 from rfl, show 2 ^ 0 = 1 from rfl] at b0
 unfold tte_Read.f readOf
 rw [pHole va hva, Option.bind_some]
 by_cases h : va / 8796093022208 ≠ 0 ∧ va / 8796093022208 ≠ 2097151
 ·rw [decide_eq_true h, if_pos rfl, if_pos h]; rfl
 ·rw [decide_eq_false h, if_neg (by decide), if_neg h, pValid d hd, Option.bind_some]
  by_cases hv : d / 9223372036854775808 % 2 = 1
  ·rw [decide_eq_true hv, if_pos rfl, if_pos hv, g1, Option.bind_some, g2, Option.bind_some]
   change (page_Base.f (va : Int) (wrap64 (sOf d : Int))).bind _ = _
   have e1 : wrap64 (sOf d : Int) = (sOf d : Int) := m_w64 _ (Nat.lt_trans (sOf_lt d) (by decide))
   have e2 : wrap64 (cOf t : Int) = (cOf t : Int) := m_w64 _ (Nat.lt_trans (cOf_lt t) (by decide))
   have e3 : IntKind.u64.wrap (((d / 8192 % 268435456 : Nat) : Int) * 8192) = (paOf d : Int) := by
    have := m_wu (paOf d) (Nat.lt_trans (paOf_lt d) (by decide))
    rw [← this]; rfl
   rw [e1, pBase va hva, Option.bind_some, g3, Option.bind_some, b60, Option.bind_some, b6, Option.bind_some, b3, Option.bind_some, b2, Option.bind_some, b1, Option.bind_some, b0, Option.bind_some, e3]
   change tte_Read.e k (t : Int) (d : Int) (wrap64 (sOf d : Int)) (wrap64 (cOf t : Int)) (vOf d va : Int) (paOf d : Int) (bitOf d 2) (bitOf d 4) (bitOf d 8) (bitOf d 64) (bitOf d 1) (bitOf d 1152921504606846976) = _
   rw [e1, e2]
   generalize bitOf d 2 = w
   generalize bitOf d 4 = p
   generalize bitOf d 8 = x
   generalize bitOf d 64 = l
   generalize bitOf d 1 = g
   generalize bitOf d 1152921504606846976 = q
   unfold tte_Read.e entOf
   rw [pTMay _ _ _ _ w p x l g q true (vOf_lt d va hva) (Nat.lt_trans (paOf_lt d) (by decide)) k (by omega), Option.bind_some]
   by_cases hm : mayOf (sOf d : Int) (cOf t : Int) (vOf d va) (paOf d) g true = true
   ·rw [if_pos hm, if_pos hm, pTTag _ _ _ _ w p x l g q true (vOf_lt d va hva) (cOf_lt t), Option.bind_some]
    by_cases h1 : tagOf (cOf t) (vOf d va) g = t
    ·rw [if_pos h1, if_pos (by rw [h1]), pData _ _ _ _ w p x l g q (sOf_lt d) (paOf_lt d) (paOf_mod d), Option.bind_some]
     by_cases h2 : dataOf (sOf d) (paOf d) w p x l g q = d
     ·rw [if_pos h2, if_pos (by rw [h2])]
     ·rw [if_neg h2, if_neg (fun z => h2 (Int.ofNat_inj.mp z))]; rfl
    ·rw [if_neg h1, if_neg (fun z => h1 (Int.ofNat_inj.mp z))]; rfl
   ·rw [if_neg hm, if_neg hm]; rfl
  ·rw [decide_eq_false hv, if_neg (by decide), if_neg hv]; rfl

theorem page_tag (v B o : Nat) (hB : 4194304 = B * (4194304 / B)) (hv : v % B = 0) (h0 : 0 < B) (ho : o < B) : (v + o) / 4194304 = v / 4194304 := by
 obtain ⟨q, rfl⟩ : ∃ q, v = B * q := ⟨v / B, by have := Nat.div_add_mod v B; omega⟩
 rw [hB, ← Nat.div_div_eq_div_mul, ← Nat.div_div_eq_div_mul, Nat.mul_add_div h0, Nat.mul_div_cancel_left _ h0, Nat.div_eq_of_lt ho, Nat.add_zero]
theorem base_self (v B : Nat) (hv : v % B = 0) : v / B * B = v := Nat.div_mul_cancel (Nat.dvd_of_mod_eq_zero hv)
theorem tag_dec (C z g : Nat) (hC : C < 8192) (hz : z < 4194304) : (g * 9223372036854775808 + C * 281474976710656 + z) / 281474976710656 % 8192 = C := by
 have h : (g * 9223372036854775808 + C * 281474976710656 + z) / 281474976710656 = g * 32768 + C := by omega
 rw [h]; omega
section
variable (s q f l x p w g : Nat)
theorem dec63 (hs : s < 4) (hq : q < 2) (hf : f < 268435456) (hl : l < 2) (hx : x < 2) (hp : p < 2) (hw : w < 2) (hg : g < 2) : (9223372036854775808 + s * 2305843009213693952 + q * 1152921504606846976 + f * 8192 + l * 64 + x * 8 + p * 4 + w * 2 + g) / 9223372036854775808 % 2 = 1 := by omega
theorem dec61 (hs : s < 4) (hq : q < 2) (hf : f < 268435456) (hl : l < 2) (hx : x < 2) (hp : p < 2) (hw : w < 2) (hg : g < 2) : (9223372036854775808 + s * 2305843009213693952 + q * 1152921504606846976 + f * 8192 + l * 64 + x * 8 + p * 4 + w * 2 + g) / 2305843009213693952 % 4 = s := by omega
theorem dec60 (hs : s < 4) (hq : q < 2) (hf : f < 268435456) (hl : l < 2) (hx : x < 2) (hp : p < 2) (hw : w < 2) (hg : g < 2) : (9223372036854775808 + s * 2305843009213693952 + q * 1152921504606846976 + f * 8192 + l * 64 + x * 8 + p * 4 + w * 2 + g) / 1152921504606846976 % 2 = q := by omega
theorem dec13 (hs : s < 4) (hq : q < 2) (hf : f < 268435456) (hl : l < 2) (hx : x < 2) (hp : p < 2) (hw : w < 2) (hg : g < 2) : (9223372036854775808 + s * 2305843009213693952 + q * 1152921504606846976 + f * 8192 + l * 64 + x * 8 + p * 4 + w * 2 + g) / 8192 % 268435456 = f := by omega
theorem dec6 (hl : l < 2) (hx : x < 2) (hp : p < 2) (hw : w < 2) (hg : g < 2) : (9223372036854775808 + s * 2305843009213693952 + q * 1152921504606846976 + f * 8192 + l * 64 + x * 8 + p * 4 + w * 2 + g) / 64 % 2 = l := by omega
theorem dec3 (hl : l < 2) (hx : x < 2) (hp : p < 2) (hw : w < 2) (hg : g < 2) : (9223372036854775808 + s * 2305843009213693952 + q * 1152921504606846976 + f * 8192 + l * 64 + x * 8 + p * 4 + w * 2 + g) / 8 % 2 = x := by omega
theorem dec2 (hl : l < 2) (hx : x < 2) (hp : p < 2) (hw : w < 2) (hg : g < 2) : (9223372036854775808 + s * 2305843009213693952 + q * 1152921504606846976 + f * 8192 + l * 64 + x * 8 + p * 4 + w * 2 + g) / 4 % 2 = p := by omega
theorem dec1 (hl : l < 2) (hx : x < 2) (hp : p < 2) (hw : w < 2) (hg : g < 2) : (9223372036854775808 + s * 2305843009213693952 + q * 1152921504606846976 + f * 8192 + l * 64 + x * 8 + p * 4 + w * 2 + g) / 2 % 2 = w := by omega
theorem dec0 (hl : l < 2) (hx : x < 2) (hp : p < 2) (hw : w < 2) (hg : g < 2) : (9223372036854775808 + s * 2305843009213693952 + q * 1152921504606846976 + f * 8192 + l * 64 + x * 8 + p * 4 + w * 2 + g) / 1 % 2 = g := by omega
end
theorem b2n_dec (b : Bool) : decide (b2n b = 1) = b := by cases b <;> rfl
theorem word_is (s P : Nat) (w p x l g q : Bool) (hs : s < 4) (hP : P < 2199023255552) (hm : P % 8192 = 0) : (dataOf s P w p x l g q / 9223372036854775808 % 2 = 1) ∧ sOf (dataOf s P w p x l g q) = s ∧ paOf (dataOf s P w p x l g q) = P ∧ bitOf (dataOf s P w p x l g q) 2 = w ∧ bitOf (dataOf s P w p x l g q) 4 = p ∧ bitOf (dataOf s P w p x l g q) 8 = x ∧ bitOf (dataOf s P w p x l g q) 64 = l ∧ bitOf (dataOf s P w p x l g q) 1 = g ∧ bitOf (dataOf s P w p x l g q) 1152921504606846976 = q := by
 obtain ⟨f, rfl⟩ : ∃ f, P = f * 8192 := ⟨P / 8192, by omega⟩
 have hf : f < 268435456 := by omega
 unfold sOf paOf bitOf dataOf
 rw [dec63 s _ f _ _ _ _ _ hs (b2n_lt q) hf (b2n_lt l) (b2n_lt x) (b2n_lt p) (b2n_lt w) (b2n_lt g), dec61 s _ f _ _ _ _ _ hs (b2n_lt q) hf (b2n_lt l) (b2n_lt x) (b2n_lt p) (b2n_lt w) (b2n_lt g), dec60 s _ f _ _ _ _ _ hs (b2n_lt q) hf (b2n_lt l) (b2n_lt x) (b2n_lt p) (b2n_lt w) (b2n_lt g), dec13 s _ f _ _ _ _ _ hs (b2n_lt q) hf (b2n_lt l) (b2n_lt x) (b2n_lt p) (b2n_lt w) (b2n_lt g)]
 rw [dec6 s _ f _ _ _ _ _ (b2n_lt l) (b2n_lt x) (b2n_lt p) (b2n_lt w) (b2n_lt g), dec3 s _ f _ _ _ _ _ (b2n_lt l) (b2n_lt x) (b2n_lt p) (b2n_lt w) (b2n_lt g), dec2 s _ f _ _ _ _ _ (b2n_lt l) (b2n_lt x) (b2n_lt p) (b2n_lt w) (b2n_lt g), dec1 s _ f _ _ _ _ _ (b2n_lt l) (b2n_lt x) (b2n_lt p) (b2n_lt w) (b2n_lt g), dec0 s _ f _ _ _ _ _ (b2n_lt l) (b2n_lt x) (b2n_lt p) (b2n_lt w) (b2n_lt g)]
 simp only [b2n_dec, and_self]
theorem read_good (s C V P A : Nat) (w p x l g q : Bool) (hs : s < 4) (hC : C < 8192) (hP : P < 2199023255552) (hm : P % 8192 = 0) (hA : A / bytesOf (s : Int) * bytesOf (s : Int) = V) (hh : ¬ (A / 8796093022208 ≠ 0 ∧ A / 8796093022208 ≠ 2097151)) (may : mayOf (s : Int) (C : Int) V P g true = true) :
  readOf (tagOf C V g) (dataOf s P w p x l g q) A = ((s : Int), (C : Int), (V : Int), (P : Int), w, p, x, l, g, q, true, 0) := by
 obtain ⟨e1, e2, e3, e4, e5, e6, e7, e8, e9⟩ := word_is s P w p x l g q hs hP hm
 have eC : cOf (tagOf C V g) = C := tag_dec C _ _ hC (Nat.mod_lt _ (by decide))
 have eV : vOf (dataOf s P w p x l g q) A = V := by unfold vOf; rw [e2, hA]
 unfold readOf
 rw [if_neg hh, if_pos e1, e4, e5, e6, e7, e8, e9]
 unfold entOf
 rw [e2, e3, eC, eV, if_pos may, if_pos rfl, if_pos rfl]
theorem tagOf_lt (C V : Nat) (g : Bool) (hC : C < 8192) : tagOf C V g < 18446744073709551616 := by
 have := b2n_lt g
 have h2 : V / 4194304 % 4194304 < 4194304 := Nat.mod_lt _ (by decide)
 unfold tagOf; omega

/-- An entry is an address's. -/
def hitsOf (s c : Int) (va : Nat) (g v : Bool) (A : Nat) (ctx : Int) : Bool := v && decide (okSize s) && decide (A / bytesOf s * bytesOf s = va / bytesOf s * bytesOf s) && (g || c == ctx)
theorem pHits (s c pa ctx : Int) (va A : Nat) (w p x l g q v : Bool) (hva : va < 18446744073709551616) (hA : A < 18446744073709551616) : tte_Hits.f s c (va : Int) pa w p x l g q v (A : Int) ctx = some (hitsOf s c va g v A ctx) := by
 unfold tte_Hits.f hitsOf
 rw [pIn A va hA hva]
 cases v
 ·simp
 ·by_cases h : okSize s
  ·simp only [h, decide_true, Option.bind_some, if_true, true_and, Bool.true_and]
   by_cases e : A / bytesOf s * bytesOf s = va / bytesOf s * bytesOf s
   ·rw [decide_eq_true e]; cases g <;> rfl
   ·rw [decide_eq_false e]; rfl
  ·simp [h]

/-! ### A TSB's places -/
def plcs (s g : Nat) : Nat := 512 / 8 ^ s * 2 ^ g
theorem plcs_le (s g : Nat) (hs : s < 4) (hg : g < 4) : 1 ≤ plcs s g ∧ plcs s g ≤ 4096 := by
 have h : ∀ s : Fin 4, ∀ g : Fin 4, 1 ≤ plcs s g ∧ plcs s g ≤ 4096 := by decide
 exact h ⟨s, hs⟩ ⟨g, hg⟩
def plcOf (N : Nat) (s : Int) (va : Nat) : Nat := va / bytesOf s % N
theorem plcOf_lt {N : Nat} (hN : 1 ≤ N) (s : Int) (va : Nat) : plcOf N s va < N := Nat.mod_lt _ (by omega)
/-- A number made 0 to 3. -/
def ar4 (i : Int) : Nat := (i % 4).toNat
theorem ar4_lt (i : Int) : ar4 i < 4 := by unfold ar4; omega
theorem rAround4 (i : Int) : lookasideref08_Around.f i 4 = some (ar4 i : Int) := by
 unfold lookasideref08_Around.f ar4
 rw [if_neg (by decide)]
 by_cases h : 0 ≤ i
 ·rw [Int.tmod_eq_emod_of_nonneg h, if_neg (by omega)]
  refine congrArg some ?_
  omega
 ·obtain ⟨j, rfl⟩ : ∃ j, i = -j := ⟨-i, by omega⟩
  rw [Int.neg_tmod, Int.tmod_eq_emod_of_nonneg (by omega : 0 ≤ j)]
  by_cases h2 : -(j % 4) < 0
  ·rw [if_pos h2]
   refine congrArg some ?_
   unfold wrap64
   omega
  ·rw [if_neg h2]
   refine congrArg some ?_
   omega
theorem pPlaces (s g : Nat) (hs : s < 4) (hg : g < 4) : tsb_Places.f (s : Int) (g : Int) = some (plcs s g : Int) := by
 have h : ∀ s : Fin 4, ∀ g : Fin 4, tsb_Places.f ((s : Nat) : Int) ((g : Nat) : Int) = some (plcs s g : Int) := by decide +kernel
 exact h ⟨s, hs⟩ ⟨g, hg⟩
theorem rPlaces (s g : Nat) (hs : s < 4) (hg : g < 4) : lookasideref10_Places.f (s : Int) (g : Int) = some (plcs s g : Int) := by
 have h : ∀ s : Fin 4, ∀ g : Fin 4, lookasideref10_Places.f ((s : Nat) : Int) ((g : Nat) : Int) = some (plcs s g : Int) := by decide +kernel
 exact h ⟨s, hs⟩ ⟨g, hg⟩
theorem pIndex (va : Nat) (hva : va < 18446744073709551616) (s N : Nat) (hs : s < 4) (h1 : 1 ≤ N) (hN : N ≤ 70000) : point_Index.f (va : Int) (s : Int) (N : Int) = some (plcOf N (s : Int) va : Int) := by
 unfold point_Index.f plcOf
 rw [pBits, if_pos (show okSize (s : Int) by unfold okSize; omega), Option.bind_some, if_pos (by omega), m_wu N (by omega), if_neg (by omega)]
 have e : (13 + 3 * (s : Int)) = ((13 + 3 * s : Nat) : Int) := by omega
 rw [e, m_shr _ _ (by omega)]
 have hb : bytesOf (s : Int) = 2 ^ (13 + 3 * s) := by
  have h : ∀ s : Fin 4, bytesOf ((s : Nat) : Int) = 2 ^ (13 + 3 * (s : Nat)) := by decide
  exact h ⟨s, hs⟩
 rw [hb]
 have e2 : (va : Int) / 2 ^ (13 + 3 * s) = ((va / 2 ^ (13 + 3 * s) : Nat) : Int) := by simp
 rw [e2, m_tmod]
 have hl : va / 2 ^ (13 + 3 * s) % N < N := Nat.mod_lt _ (by omega)
 rw [m_w64 _ (by omega)]
theorem pSlot (base va : Nat) (hb : base ≤ 2199023255552) (hva : va < 18446744073709551616) (s N : Nat) (hs : s < 4) (h1 : 1 ≤ N) (hN : N ≤ 70000) : point_Slot.f (base : Int) (N : Int) (va : Int) (s : Int) = some ((base + 16 * plcOf N (s : Int) va : Nat) : Int) := by
 unfold point_Slot.f
 rw [pIndex va hva s N hs h1 hN, Option.bind_some]
 have hl := plcOf_lt h1 (s : Int) va
 generalize plcOf N (s : Int) va = i at hl ⊢
 refine congrArg some ?_
 rw [IntKind.wrap_u64, IntKind.wrap_u64, IntKind.wrap_u64]
 omega

/-! ### Words of entries that may be -/
theorem bad_ne (C V : Nat) (g : Bool) (hC : C < 8192) : tagOf C V g ≠ 9223372036854775807 := by
 have := b2n_lt g
 have h2 : V / 4194304 % 4194304 < 4194304 := Nat.mod_lt _ (by decide)
 unfold tagOf; omega
theorem read_bad (d va : Nat) : ∃ f0 f1 f2 f3 : Int, ∃ b4 b5 b6 b7 b8 b9 b10 : Bool, ∃ q : Int, readOf 9223372036854775807 d va = (f0, f1, f2, f3, b4, b5, b6, b7, b8, b9, b10, q) ∧ (q != 0) = true := by
 have hn : ∀ e : Int, (e != 0) = true → ∃ f0 f1 f2 f3 : Int, ∃ b4 b5 b6 b7 b8 b9 b10 : Bool, ∃ q : Int, noneOf e = (f0, f1, f2, f3, b4, b5, b6, b7, b8, b9, b10, q) ∧ (q != 0) = true := fun e h => ⟨_, _, _, _, _, _, _, _, _, _, _, _, rfl, h⟩
 unfold readOf
 split
 ·exact hn 3 (by decide)
 ·split
  ·unfold entOf
   split
   ·rw [if_neg (bad_ne _ _ _ (cOf_lt _))]
    exact hn _ (by decide)
   ·exact hn _ (by decide)
  ·exact hn 11 (by decide)
theorem goodS_in (s : Nat) (hs : s < 4) : goodS (s : Int) = s := by unfold goodS foldN; split <;> omega
/-- An entry that may be. -/
structure GE where
 s : Nat
 c : Nat
 v : Nat
 p : Nat
 w : Bool
 pr : Bool
 x : Bool
 l : Bool
 g : Bool
 q : Bool
structure GE.ok (e : GE) : Prop where
 hs : e.s < 4
 hc : e.c < 8192
 hv : e.v < 18446744073709551616
 hh : ¬ (e.v / 8796093022208 ≠ 0 ∧ e.v / 8796093022208 ≠ 2097151)
 vm : e.v % bytesOf (e.s : Int) = 0
 hp : e.p < 2199023255552
 pm : e.p % bytesOf (e.s : Int) = 0
 gc : e.g = true → e.c = 0
def GE.tag (e : GE) : Nat := tagOf e.c e.v e.g
def GE.data (e : GE) : Nat := dataOf e.s e.p e.w e.pr e.x e.l e.g e.q
theorem GE.ok.os {e : GE} (h : e.ok) : okSize (e.s : Int) := by have := h.hs; unfold okSize; omega
theorem GE.ok.p8 {e : GE} (h : e.ok) : e.p % 8192 = 0 := by
 obtain ⟨c, _, _, hb, _⟩ := bytes_mul h.os
 have := h.pm
 rw [hb] at this
 obtain ⟨k, hk⟩ := Nat.dvd_of_mod_eq_zero this
 rw [hk, Nat.mul_assoc]; exact Nat.mul_mod_right _ _
theorem GE.ok.mayN {e : GE} (h : e.ok) : mayOf (e.s : Int) (e.c : Int) e.v e.p e.g true = true := by
 have := h.hc
 have c1 : 0 ≤ (e.c : Int) := by omega
 have c2 : (e.c : Int) ≤ 8191 := by omega
 have c3 : (e.g && (e.c : Int) != 0) = false := by
  cases hg : e.g
  ·rfl
  ·rw [h.gc hg]; rfl
 unfold mayOf
 rw [decide_eq_true h.os, decide_eq_true c1, decide_eq_true c2, c3, decide_eq_false h.hh, decide_eq_true h.vm, decide_eq_true h.hp, decide_eq_true h.pm]
 rfl
theorem GE.ok.tag_lt {e : GE} (h : e.ok) : e.tag < 18446744073709551616 := tagOf_lt _ _ _ h.hc
theorem GE.ok.data_lt {e : GE} (h : e.ok) : e.data < 18446744073709551616 := dataOf_lt _ _ _ _ _ _ _ _ h.hs h.hp h.p8
theorem GE.ok.may {e : GE} (h : e.ok) : tte_May.f 500 (e.s : Int) (e.c : Int) (e.v : Int) (e.p : Int) e.w e.pr e.x e.l e.g e.q true = some true := by
 have := h.hp
 rw [pTMay _ _ _ _ _ _ _ _ _ _ _ h.hv (by omega) 500 (by decide), h.mayN]
theorem GE.ok.tagF {e : GE} (h : e.ok) : tte_Tag.f (e.s : Int) (e.c : Int) (e.v : Int) (e.p : Int) e.w e.pr e.x e.l e.g e.q true = some (e.tag : Int) := pTTag _ _ _ _ _ _ _ _ _ _ _ h.hv h.hc
theorem GE.ok.dataF {e : GE} (h : e.ok) : tte_Data.f (e.s : Int) (e.c : Int) (e.v : Int) (e.p : Int) e.w e.pr e.x e.l e.g e.q true = some (e.data : Int) := pData _ _ _ _ _ _ _ _ _ _ h.hs h.hp h.p8
/-- It is read at each address of its page. -/
theorem GE.ok.readAt {e : GE} (h : e.ok) {A : Nat} (hA : A / bytesOf (e.s : Int) * bytesOf (e.s : Int) = e.v) (hh : ¬ (A / 8796093022208 ≠ 0 ∧ A / 8796093022208 ≠ 2097151)) : readOf e.tag e.data A = ((e.s : Int), (e.c : Int), (e.v : Int), (e.p : Int), e.w, e.pr, e.x, e.l, e.g, e.q, true, 0) :=
 read_good _ _ _ _ _ _ _ _ _ _ _ h.hs h.hc h.hp h.p8 hA hh h.mayN
/-- An entry made such as may be, of a size. -/
def geOf (s : Nat) (c : Int) (va pa : Nat) (w p x l g q : Bool) : GE := ⟨s, goodC c g, goodV (s : Int) va, goodP (s : Int) pa, w, p, x, l, g, q⟩
theorem geOf_ok (s : Nat) (c : Int) (va pa : Nat) (w p x l g q : Bool) (hs : s < 4) : (geOf s c va pa w p x l g q).ok := by
 have e := goodS_in s hs
 refine ⟨hs, goodC_lt _ _, goodV_lt _ _, goodV_hole _ _, ?_, goodP_lt _ _, ?_, fun h => ?_⟩
 ·have := goodV_mod (s : Int) va; rw [e] at this; exact this
 ·have := goodP_mod (s : Int) pa; rw [e] at this; exact this
 ·simp only [geOf] at h ⊢; unfold goodC; rw [if_pos h]
theorem geOf_entry (s : Nat) (c : Int) (va pa : Int) (w p x l g q v : Bool) (a0 k0 c0 : Int) (v0 : Int) (hs : s < 4) (hc : (Lit.int .i64 c).wf = true) (hva : (Lit.int .u64 va).wf = true) (hpa : (Lit.int .u64 pa).wf = true) :
  lookasidelaw10_Deed_entry.f 500 k0 c0 v0 a0 c va pa w p x l g q v false (s : Int) = some (((geOf s c va.toNat pa.toNat w p x l g q).s : Int), ((geOf s c va.toNat pa.toNat w p x l g q).c : Int), ((geOf s c va.toNat pa.toNat w p x l g q).v : Int), ((geOf s c va.toNat pa.toNat w p x l g q).p : Int), w, p, x, l, g, q, true) := by
 obtain ⟨b1, b2⟩ := m_u64 hva
 obtain ⟨b3, b4⟩ := m_u64 hpa
 obtain ⟨va, rfl⟩ := Int.eq_ofNat_of_zero_le b1
 obtain ⟨pa, rfl⟩ := Int.eq_ofNat_of_zero_le b3
 unfold lookasidelaw10_Deed_entry.f
 have h := rGood (s : Int) c va pa w p x l g q v (by simp [Lit.wf, IntKind.min, IntKind.max, IntKind.signed, IntKind.bits]; omega) hc (by omega) (by omega) 500 (by decide)
 rw [if_neg (by decide), h]
 simp only [Option.bind_some, geOf, goodS_in s hs, Int.toNat_natCast]
/-- Addresses of one place and one tag are of one page. -/
theorem page_one (s N A v : Nat) (hs : s < 4) (hN : N % (4194304 / bytesOf (s : Int)) = 0) (hA : A < 18446744073709551616) (hv : v < 18446744073709551616) (h1 : ¬ (A / 8796093022208 ≠ 0 ∧ A / 8796093022208 ≠ 2097151)) (h2 : ¬ (v / 8796093022208 ≠ 0 ∧ v / 8796093022208 ≠ 2097151)) (hp : plcOf N (s : Int) A = plcOf N (s : Int) v) (ht : A / 4194304 % 4194304 = v / 4194304 % 4194304) : A / bytesOf (s : Int) = v / bytesOf (s : Int) := by
 have key : A / bytesOf (s : Int) % (4194304 / bytesOf (s : Int)) = v / bytesOf (s : Int) % (4194304 / bytesOf (s : Int)) := by
  unfold plcOf at hp
  have h := congrArg (· % (4194304 / bytesOf (s : Int))) hp
  simp only [Nat.mod_mod_of_dvd _ (Nat.dvd_of_mod_eq_zero hN)] at h
  exact h
 clear hp hN
 match s, hs with
 | 0, _ => simp only [bytesOf] at key ⊢; simp at key ⊢; omega
 | 1, _ => simp only [bytesOf] at key ⊢; simp at key ⊢; omega
 | 2, _ => simp only [bytesOf] at key ⊢; simp at key ⊢; omega
 | 3, _ => simp only [bytesOf] at key ⊢; simp at key ⊢; omega
theorem plcs_mod (s g : Nat) (hs : s < 4) (hg : g < 4) : plcs s g % (4194304 / bytesOf (s : Int)) = 0 := by
 have h : ∀ s : Fin 4, ∀ g : Fin 4, plcs s g % (4194304 / bytesOf ((s : Nat) : Int)) = 0 := by decide
 exact h ⟨s, hs⟩ ⟨g, hg⟩
theorem GE.ok.readNo {e : GE} (h : e.ok) {N A : Nat} (hN : N % (4194304 / bytesOf (e.s : Int)) = 0) (hAl : A < 18446744073709551616) (hp : plcOf N (e.s : Int) A = plcOf N (e.s : Int) e.v) (hA : A / bytesOf (e.s : Int) * bytesOf (e.s : Int) ≠ e.v) :
  ∃ f0 f1 f2 f3 : Int, ∃ b4 b5 b6 b7 b8 b9 b10 : Bool, ∃ q : Int, readOf e.tag e.data A = (f0, f1, f2, f3, b4, b5, b6, b7, b8, b9, b10, q) ∧ (q != 0) = true := by
 have hn : ∀ e : Int, (e != 0) = true → ∃ f0 f1 f2 f3 : Int, ∃ b4 b5 b6 b7 b8 b9 b10 : Bool, ∃ q : Int, noneOf e = (f0, f1, f2, f3, b4, b5, b6, b7, b8, b9, b10, q) ∧ (q != 0) = true := fun e h => ⟨_, _, _, _, _, _, _, _, _, _, _, _, rfl, h⟩
 obtain ⟨e1, e2, e3, e4, e5, e6, e7, e8, e9⟩ := word_is e.s e.p e.w e.pr e.x e.l e.g e.q h.hs h.hp h.p8
 unfold readOf
 split
 ·exact hn 3 (by decide)
 ·rename_i hh
  split
  ·unfold entOf
   split
   ·have hc : cOf e.tag = e.c := tag_dec e.c _ _ h.hc (Nat.mod_lt _ (by decide))
    have hne : tagOf (cOf e.tag) (vOf e.data A) (bitOf e.data 1) ≠ e.tag := by
     rw [hc, show bitOf e.data 1 = e.g from e8]
     intro ht
     have hv : vOf e.data A = A / bytesOf (e.s : Int) * bytesOf (e.s : Int) := by unfold vOf; rw [show sOf e.data = e.s from e2]
     rw [hv] at ht
     unfold GE.tag tagOf at ht
     have hB := bytes_pos h.os
     obtain ⟨c, hc0, hc1, hc2, hc3⟩ := bytes_mul h.os
     have h0B : 0 < bytesOf (e.s : Int) := by omega
     have pt := page_tag (A / bytesOf (e.s : Int) * bytesOf (e.s : Int)) (bytesOf (e.s : Int)) (A % bytesOf (e.s : Int)) hc3 (Nat.mul_mod_left _ _) h0B (Nat.mod_lt _ h0B)
     have hAA : A / bytesOf (e.s : Int) * bytesOf (e.s : Int) + A % bytesOf (e.s : Int) = A := by rw [Nat.mul_comm]; exact Nat.div_add_mod _ _
     rw [hAA] at pt
     rw [← pt] at ht
     have := page_one e.s N A e.v h.hs hN hAl h.hv hh h.hh hp (by omega)
     apply hA
     rw [this]
     exact base_self _ _ h.vm
    rw [if_neg hne]
    exact hn _ (by decide)
   ·exact hn _ (by decide)
  ·exact hn 11 (by decide)
/-- Is an address, in a context, an entry's? -/
def GE.hit (e : GE) (A : Nat) (ctx : Int) : Bool := decide (A / bytesOf (e.s : Int) * bytesOf (e.s : Int) = e.v) && (e.g || (e.c : Int) == ctx)
theorem GE.ok.hits {e : GE} (h : e.ok) {A : Nat} (hA : A < 18446744073709551616) (ctx : Int) : tte_Hits.f (e.s : Int) (e.c : Int) (e.v : Int) (e.p : Int) e.w e.pr e.x e.l e.g e.q true (A : Int) ctx = some (e.hit A ctx) := by
 rw [pHits _ _ _ _ _ _ _ _ _ _ _ _ _ h.hv hA]
 unfold hitsOf GE.hit
 rw [base_self _ _ h.vm, decide_eq_true h.os]
 simp only [Bool.true_and]
theorem GE.ok.nohole {e : GE} (h : e.ok) {A : Nat} (hA : A / bytesOf (e.s : Int) * bytesOf (e.s : Int) = e.v) : ¬ (A / 8796093022208 ≠ 0 ∧ A / 8796093022208 ≠ 2097151) := by
 have h1 := h.hh
 rw [← hA] at h1
 have := h.hs
 obtain ⟨s, c, v, p, w, pr, x, l, g, q⟩ := e
 simp only at *
 match s, this with
 | 0, _ => simp only [bytesOf] at h1; simp at h1 ⊢; omega
 | 1, _ => simp only [bytesOf] at h1; simp at h1 ⊢; omega
 | 2, _ => simp only [bytesOf] at h1; simp at h1 ⊢; omega
 | 3, _ => simp only [bytesOf] at h1; simp at h1 ⊢; omega
end Go.Proofs.Ytjnffegjpkbjmaa.Pure
-- halved
