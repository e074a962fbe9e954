/- For every address, number of bytes and mark, the sizes of pages that cover addresses are the document's, and they are all of them; no conditions. -/
import Derived.Test.YtedjiicaikhcbaaQPageCoversx2
import Derived.Laws.BitsAllLaws
import Derived.Laws.Bits64
set_option linter.unusedVariables false
set_option linter.unusedSimpArgs false
namespace Go.Proofs.Ytedjiicaikhcbaa.Pure
open Go.RowKit Go.Proofs.Ytedjiicaikhcbaa.QPageCovers Go.Proofs.YtedjiicaikhcbaaW.PrintWords Go.Proofs.YtedjiicaikhcbaaW.PrintLast Go.Proofs.YtedjiicaikhcbaaW.PrintMore

/-! ### Plain arithmetic of words -/
theorem m_u64 {a : Int} (h : (Lit.int .u64 a).wf = true) : 0 ≤ a ∧ a < 18446744073709551616 := by
  simp [Lit.wf, IntKind.min, IntKind.max, IntKind.signed, IntKind.bits] at h; omega
theorem m_i64 {a : Int} (h : (Lit.int .i64 a).wf = true) : -9223372036854775808 ≤ a ∧ a < 9223372036854775808 := by
  simp [Lit.wf, IntKind.min, IntKind.max, IntKind.signed, IntKind.bits] at h; omega
theorem m_shr (x : Int) (n : Nat) (h : n ≤ 64) : shr .u64 x (n : Int) = x / 2 ^ n := by
  unfold shr; rw [Int.toNat_natCast, Nat.min_eq_left (by simpa [IntKind.bits] using h)]
theorem m_shl (x : Int) (n : Nat) (h : n ≤ 64) : shl .u64 x (n : Int) = x * 2 ^ n % 18446744073709551616 := by
  unfold shl; rw [Int.toNat_natCast, Nat.min_eq_left (by simpa [IntKind.bits] using h), IntKind.wrap_u64]
theorem m_maskn (n : Nat) (h1 : 1 ≤ n) (h2 : n ≤ 64) : (18446744073709551615 : Int) / 2 ^ (64 - n) = ((2 ^ n - 1 : Nat) : Int) := by
  have hp : 2 ^ (64 - n) * 2 ^ n = (18446744073709551616 : Nat) := by rw [← Nat.pow_add, show 64 - n + n = 64 by omega]
  have h0 : 0 < 2 ^ (64 - n) := Nat.two_pow_pos _
  have h3 : 0 < 2 ^ n := Nat.two_pow_pos _
  have e : (18446744073709551615 : Nat) / 2 ^ (64 - n) = 2 ^ n - 1 := by
    apply Nat.div_eq_of_lt_le
    · rw [Nat.mul_comm, Nat.mul_sub, hp]; omega
    · rw [Nat.sub_add_cancel h3, Nat.mul_comm, hp]; omega
  have := congrArg (fun x : Nat => (x : Int)) e
  simpa using this
theorem m_mask (p n : Nat) (h1 : 1 ≤ n) (h2 : p + n ≤ 64) : shl .u64 (shr .u64 18446744073709551615 ((64 - n : Nat) : Int)) (p : Int) = (((2 ^ n - 1) * 2 ^ p : Nat) : Int) := by
  rw [m_shr _ _ (by omega), m_shl _ _ (by omega), m_maskn n h1 (by omega)]
  have hp : 2 ^ n * 2 ^ p ≤ (18446744073709551616 : Nat) := by
    rw [← Nat.pow_add]; exact Nat.le_trans (Nat.pow_le_pow_right (by decide) (show n + p ≤ 64 by omega)) (by decide)
  have h3 : 0 < 2 ^ p := Nat.two_pow_pos _
  have h4 : (2 ^ n - 1) * 2 ^ p < (18446744073709551616 : Nat) := by
    rw [Nat.sub_mul]; omega
  have e : ((2 ^ n - 1) * 2 ^ p) % (18446744073709551616 : Nat) = (2 ^ n - 1) * 2 ^ p := Nat.mod_eq_of_lt h4
  have := congrArg (fun x : Nat => (x : Int)) e
  simpa using this
theorem m_get (a : Nat) (ha : a < 18446744073709551616) (p n : Nat) (h1 : 1 ≤ n) (h2 : p + n ≤ 64) :
    shr .u64 (Go.bits .and .u64 (a : Int) (((2 ^ n - 1) * 2 ^ p : Nat) : Int)) (p : Int) = ((a / 2 ^ p % 2 ^ n : Nat) : Int) := by
  have hp : 2 ^ n * 2 ^ p ≤ (18446744073709551616 : Nat) := by
    rw [← Nat.pow_add]; exact Nat.le_trans (Nat.pow_le_pow_right (by decide) (show n + p ≤ 64 by omega)) (by decide)
  have h3 : 0 < 2 ^ p := Nat.two_pow_pos _
  have h4 : (2 ^ n - 1) * 2 ^ p < (18446744073709551616 : Nat) := by
    rw [Nat.sub_mul]; omega
  rw [u64_and_nat _ _ ha h4, m_shr _ _ (by omega)]
  have e : (a &&& (2 ^ n - 1) * 2 ^ p) / 2 ^ p = a / 2 ^ p % 2 ^ n := by
    rw [← Nat.shiftRight_eq_div_pow, Nat.shiftRight_and_distrib, Nat.shiftRight_eq_div_pow, Nat.shiftRight_eq_div_pow, Nat.mul_div_cancel _ h3, Nat.and_two_pow_sub_one_eq_mod]
  have := congrArg (fun x : Nat => (x : Int)) e
  simpa using this

/-! ### A bit of a word, by halving -/
theorem m_tdiv (x n : Nat) : Int.tdiv (x : Int) (n : Int) = ((x / n : Nat) : Int) := rfl
theorem m_tmod (x n : Nat) : Int.tmod (x : Int) (n : Int) = ((x % n : Nat) : Int) := rfl
theorem m_w64 (x : Nat) (h : x < 9223372036854775808) : wrap64 (x : Int) = x := by unfold wrap64; omega
theorem m_wu (x : Nat) (h : x < 18446744073709551616) : IntKind.u64.wrap (x : Int) = x := by rw [IntKind.wrap_u64]; omega

/-! ### Fields -/
theorem fMay (p n : Nat) (h1 : 1 ≤ n) (h2 : p + n ≤ 64) : field_May.f (p : Int) (n : Int) = some true := by
  unfold field_May.f
  have e : wrap64 (64 - (n : Int)) = ((64 - n : Nat) : Int) := by unfold wrap64; omega
  rw [if_pos (by omega), if_pos (by omega), if_pos (by omega), e]
  simp; omega
theorem fMask (p n : Nat) (h1 : 1 ≤ n) (h2 : p + n ≤ 64) : field_Mask.f (p : Int) (n : Int) = some (((2 ^ n - 1) * 2 ^ p : Nat) : Int) := by
  unfold field_Mask.f
  have e : wrap64 (64 - (n : Int)) = ((64 - n : Nat) : Int) := by unfold wrap64; omega
  rw [fMay p n h1 h2]
  simp only [Option.bind_some, if_true]
  rw [e, if_pos (by omega), if_pos (by omega), m_mask p n h1 h2]
theorem fGet (a : Nat) (ha : a < 18446744073709551616) (p n : Nat) (h1 : 1 ≤ n) (h2 : p + n ≤ 64) : field_Get.f (a : Int) (p : Int) (n : Int) = some ((a / 2 ^ p % 2 ^ n : Nat) : Int) := by
  unfold field_Get.f
  rw [fMay p n h1 h2, fMask p n h1 h2]
  simp only [Option.bind_some, if_true]
  rw [if_pos (by omega), m_get a ha p n h1 h2]

/-! ### Pages -/
def bytesOf (s : Int) : Nat := if s = 0 then 8192 else if s = 1 then 65536 else if s = 2 then 524288 else if s = 3 then 4194304 else 0
def okSize (s : Int) : Prop := 0 ≤ s ∧ s < 4
instance (s : Int) : Decidable (okSize s) := inferInstanceAs (Decidable (0 ≤ s ∧ s < 4))
theorem size_cases (s : Int) : s = 0 ∨ s = 1 ∨ s = 2 ∨ s = 3 ∨ ¬ okSize s := by unfold okSize; omega
theorem bytes_bad {s : Int} (h : ¬ okSize s) : bytesOf s = 0 := by
  unfold okSize at h; unfold bytesOf; rw [if_neg (by omega), if_neg (by omega), if_neg (by omega), if_neg (by omega)]
theorem pMay (s : Int) : page_May.f s = some (decide (okSize s)) := by
  unfold page_May.f okSize
  split <;> simp [*]
theorem pBits (s : Int) : page_Bits.f s = some (if okSize s then 13 + 3 * s else 0) := by
  unfold page_Bits.f
  rw [pMay]
  by_cases h : okSize s
  · have h' := h
    unfold okSize at h'
    simp only [Option.bind_some, h, decide_true, if_true]
    congr 1; unfold wrap64; omega
  · simp [h]
theorem pOffset (a : Nat) (ha : a < 18446744073709551616) (s : Int) : page_Offset.f (a : Int) s = some (if okSize s then ((a % bytesOf s : Nat) : Int) else 0) := by
  unfold page_Offset.f
  rw [pMay, pBits]
  rcases size_cases s with rfl | rfl | rfl | rfl | h
  · have := fGet a ha 0 13 (by omega) (by omega)
    simp [okSize, bytesOf] at this ⊢; rw [this]
  · have := fGet a ha 0 16 (by omega) (by omega)
    simp [okSize, bytesOf] at this ⊢; rw [this]
  · have := fGet a ha 0 19 (by omega) (by omega)
    simp [okSize, bytesOf] at this ⊢; rw [this]
  · have := fGet a ha 0 22 (by omega) (by omega)
    simp [okSize, bytesOf] at this ⊢; rw [this]
  · simp [h]
theorem pBytes (s : Int) : page_Bytes.f s = some (bytesOf s : Int) := by
  unfold page_Bytes.f
  rw [pMay, pBits]
  rcases size_cases s with rfl | rfl | rfl | rfl | h
  · decide +kernel
  · decide +kernel
  · decide +kernel
  · decide +kernel
  · simp [h, bytes_bad h]
theorem pStarts (a : Nat) (ha : a < 18446744073709551616) (s : Int) : page_Starts.f (a : Int) s = some (decide (okSize s ∧ a % bytesOf s = 0)) := by
  unfold page_Starts.f
  rw [pMay, pOffset a ha]
  by_cases h : okSize s
  · simp only [h, decide_true, Option.bind_some, if_true, true_and, Option.some.injEq]
    rw [Bool.eq_iff_iff]; simp; omega
  · simp [h]

theorem rBytes (s : Int) : lookasideref02_Bytes.f s = some (bytesOf s : Int) := by
  unfold lookasideref02_Bytes.f bytesOf
  by_cases h0 : s = 0
  · simp [h0]
  · by_cases h1 : s = 1
    · simp [h1]
    · by_cases h2 : s = 2
      · simp [h2]
      · by_cases h3 : s = 3
        · simp [h3]
        · simp [h0, h1, h2, h3]
theorem bytes_pos {s : Int} (h : okSize s) : 8192 ≤ bytesOf s ∧ bytesOf s ≤ 4194304 := by
  rcases size_cases s with rfl | rfl | rfl | rfl | h'
  · decide
  · decide
  · decide
  · decide
  · exact absurd h h'

theorem pHole (a : Nat) (ha : a < 18446744073709551616) : page_Hole.f (a : Int) = some (decide (a / 8796093022208 ≠ 0 ∧ a / 8796093022208 ≠ 2097151)) := by
  unfold page_Hole.f
  have := fGet a ha 43 21 (by omega) (by omega)
  simp only [Nat.reducePow] at this
  have e : a / 8796093022208 % 2097152 = a / 8796093022208 := by omega
  rw [e] at this
  have h43 : ((43 : Nat) : Int) = 43 := rfl
  have h21 : ((21 : Nat) : Int) = 21 := rfl
  rw [h43, h21] at this
  rw [this]
  simp only [Option.bind_some]
  by_cases h0 : a / 8796093022208 = 0
  · rw [h0]; simp
  · rw [if_neg (by omega)]
    simp only [ne_eq, h0, not_false_eq_true, true_and, Option.some.injEq]
    rw [Bool.eq_iff_iff]; simp; omega

theorem liv15 : lookasidelaw02_lives.f 15 = some true := by
  unfold lookasidelaw02_lives.f
  have h1 : page_Cover.f 15 0 81920 = some [1, 0, 0] := by decide +kernel
  have h2 : page_Hole.f 8796093022208 = some true := by decide +kernel
  rw [h1, h2]; rfl
theorem liv (k : Nat) (hk : 15 ≤ k) : lookasidelaw02_lives.f k = some true := at_rounds lookasidelaw02_lives.mono hk liv15

/-- The greatest size of a page that begins at f and does not go beyond t. -/
def great (f t : Nat) : Int := if f % 4194304 = 0 ∧ 4194304 ≤ t - f then 3 else if f % 524288 = 0 ∧ 524288 ≤ t - f then 2 else if f % 65536 = 0 ∧ 65536 ≤ t - f then 1 else 0
theorem great_ok (f t : Nat) : okSize (great f t) := by 
  unfold great okSize
  by_cases h3 : f % 4194304 = 0 ∧ 4194304 ≤ t - f
  · rw [if_pos h3]; omega
  · rw [if_neg h3]
    by_cases h2 : f % 524288 = 0 ∧ 524288 ≤ t - f
    · rw [if_pos h2]; omega
    · rw [if_neg h2]
      by_cases h1 : f % 65536 = 0 ∧ 65536 ≤ t - f
      · rw [if_pos h1]; omega
      · rw [if_neg h1]; omega
theorem great_fits (f t : Nat) (hf : f % 8192 = 0) (ht : t % 8192 = 0) (h : f < t) : f % bytesOf (great f t) = 0 ∧ f + bytesOf (great f t) ≤ t ∧ (f + bytesOf (great f t)) % 8192 = 0 ∧ 8192 ≤ bytesOf (great f t) := by
  unfold great
  by_cases h3 : f % 4194304 = 0 ∧ 4194304 ≤ t - f
  · rw [if_pos h3]; simp [bytesOf]; omega
  · rw [if_neg h3]
    by_cases h2 : f % 524288 = 0 ∧ 524288 ≤ t - f
    · rw [if_pos h2]; simp [bytesOf]; omega
    · rw [if_neg h2]
      by_cases h1 : f % 65536 = 0 ∧ 65536 ≤ t - f
      · rw [if_pos h1]; simp [bytesOf]; omega
      · rw [if_neg h1]; simp [bytesOf]; omega
theorem greatest_is (f t : Nat) (hf : f < 18446744073709551616) (hf0 : f % 8192 = 0) (ht0 : t % 8192 = 0) (h : f < t) (ht : t < 18446744073709551616) (k : Nat) (hk : 10 ≤ k) : page_greatest.f k (f : Int) (t : Int) = some (great f t) := by
  obtain ⟨k, rfl⟩ : ∃ m, k = m + 5 := ⟨k - 5, by omega⟩
  have e : IntKind.u64.wrap ((t : Int) - (f : Int)) = ((t - f : Nat) : Int) := by rw [IntKind.wrap_u64]; omega
  have s0 := pStarts f hf 0
  have s1 := pStarts f hf 1
  have s2 := pStarts f hf 2
  have s3 := pStarts f hf 3
  have b0 : page_Bytes.f 0 = some 8192 := pBytes 0
  have b1 : page_Bytes.f 1 = some 65536 := pBytes 1
  have b2 : page_Bytes.f 2 = some 524288 := pBytes 2
  have b3 : page_Bytes.f 3 = some 4194304 := pBytes 3
  simp only [bytesOf, okSize] at s0 s1 s2 s3
  have w1 : wrap64 (0 + 1) = 1 := by decide +kernel
  have w2 : wrap64 (1 + 1) = 2 := by decide +kernel
  have w3 : wrap64 (2 + 1) = 3 := by decide +kernel
  have w4 : wrap64 (3 + 1) = 4 := by decide +kernel
  have r0 : ∀ (z : Int), page_greatest.l0 (k + 1) (f : Int) (t : Int) z 4 = some z := fun z => by simp [page_greatest.l0]
  have r1 : ∀ (z : Int), page_greatest.l0 (k + 2) (f : Int) (t : Int) z 3 = some (if f % 4194304 = 0 ∧ 4194304 ≤ t - f then 3 else z) := fun z => by
    rw [show k + 2 = (k + 1) + 1 from rfl, page_greatest.l0, if_pos (by decide), s3, b3, e, w4]
    by_cases x : f % 4194304 = 0
    · by_cases y : 4194304 ≤ t - f
      · have y' : (4194304 : Int) ≤ ((t - f : Nat) : Int) := by omega
        simp [x, y, y', r0]
      · have y' : ¬ (4194304 : Int) ≤ ((t - f : Nat) : Int) := by omega
        simp [x, y, y', r0]
    · simp [x, r0]
  have r2 : ∀ (z : Int), page_greatest.l0 (k + 3) (f : Int) (t : Int) z 2 = some (if f % 4194304 = 0 ∧ 4194304 ≤ t - f then 3 else if f % 524288 = 0 ∧ 524288 ≤ t - f then 2 else z) := fun z => by
    rw [show k + 3 = (k + 2) + 1 from rfl, page_greatest.l0, if_pos (by decide), s2, b2, e, w3]
    by_cases x : f % 524288 = 0
    · by_cases y : 524288 ≤ t - f
      · have y' : (524288 : Int) ≤ ((t - f : Nat) : Int) := by omega
        simp [x, y, y', r1]
      · have y' : ¬ (524288 : Int) ≤ ((t - f : Nat) : Int) := by omega
        simp [x, y, y', r1]
    · simp [x, r1]
  have r3 : ∀ (z : Int), page_greatest.l0 (k + 4) (f : Int) (t : Int) z 1 = some (if f % 4194304 = 0 ∧ 4194304 ≤ t - f then 3 else if f % 524288 = 0 ∧ 524288 ≤ t - f then 2 else if f % 65536 = 0 ∧ 65536 ≤ t - f then 1 else z) := fun z => by
    rw [show k + 4 = (k + 3) + 1 from rfl, page_greatest.l0, if_pos (by decide), s1, b1, e, w2]
    by_cases x : f % 65536 = 0
    · by_cases y : 65536 ≤ t - f
      · have y' : (65536 : Int) ≤ ((t - f : Nat) : Int) := by omega
        simp [x, y, y', r2]
      · have y' : ¬ (65536 : Int) ≤ ((t - f : Nat) : Int) := by omega
        simp [x, y, y', r2]
    · simp [x, r2]
  unfold page_greatest.f great
  have y' : (8192 : Int) ≤ ((t - f : Nat) : Int) := by omega
  rw [show k + 5 = (k + 4) + 1 from rfl, page_greatest.l0, if_pos (by decide), s0, b0, e, w1]
  simp [hf0, y', r3]
/-- Pages of these sizes follow one another from f to t. -/
def chain : Nat → List Int → Nat → Prop
  | f, [], t => f = t
  | f, s :: m, t => okSize s ∧ f % bytesOf s = 0 ∧ f + bytesOf s ≤ t ∧ chain (f + bytesOf s) m t
theorem l1_is (f t : Nat) (ht : t < 18446744073709551616) (hf0 : f % 8192 = 0) (ht0 : t % 8192 = 0) (h : f < t) (acc : List Int) (hl : acc.length < 17592186044416) (k : Nat) :
    lookasideref02_Cover.l1 (k + 4) (f : Int) (t : Int) acc 3 = lookasideref02_Cover.l0 (k + (great f t).toNat) (f + bytesOf (great f t) : Nat) (t : Int) (acc ++ [great f t]) := by
  have e : IntKind.u64.wrap ((t : Int) - (f : Int)) = ((t - f : Nat) : Int) := by rw [IntKind.wrap_u64]; omega
  have hw : ∀ b : Nat, f + b ≤ t → IntKind.u64.wrap ((f : Int) + (b : Int)) = ((f + b : Nat) : Int) := fun b hb => by rw [IntKind.wrap_u64]; omega
  have b0 : lookasideref02_Bytes.f 0 = some 8192 := rBytes 0
  have b1 : lookasideref02_Bytes.f 1 = some 65536 := rBytes 1
  have b2 : lookasideref02_Bytes.f 2 = some 524288 := rBytes 2
  have b3 : lookasideref02_Bytes.f 3 = some 4194304 := rBytes 3
  have m1 : Int.tmod (f : Int) 65536 = ((f % 65536 : Nat) : Int) := rfl
  have m2 : Int.tmod (f : Int) 524288 = ((f % 524288 : Nat) : Int) := rfl
  have m3 : Int.tmod (f : Int) 4194304 = ((f % 4194304 : Nat) : Int) := rfl
  have w1 : wrap64 (3 - 1) = 2 := by decide +kernel
  have w2 : wrap64 (2 - 1) = 1 := by decide +kernel
  have w3 : wrap64 (1 - 1) = 0 := by decide +kernel
  have r0 : ∀ k, lookasideref02_Cover.l1 (k + 1) (f : Int) (t : Int) acc 0 = lookasideref02_Cover.l0 k (f + 8192 : Nat) (t : Int) (acc ++ [0]) := fun k => by
    rw [lookasideref02_Cover.l1, if_neg (by decide), if_pos hl, b0]
    rw [← hw 8192 (by omega)]; rfl
  have r1 : ∀ k, lookasideref02_Cover.l1 (k + 2) (f : Int) (t : Int) acc 1 = if f % 65536 = 0 ∧ 65536 ≤ t - f then lookasideref02_Cover.l0 (k + 1) (f + 65536 : Nat) (t : Int) (acc ++ [1]) else lookasideref02_Cover.l0 k (f + 8192 : Nat) (t : Int) (acc ++ [0]) := fun k => by
    rw [lookasideref02_Cover.l1, if_pos (by decide), b1]
    simp only [Option.bind_some]
    rw [if_neg (by decide), m1, e, w3]
    by_cases x : f % 65536 = 0
    · rw [if_pos (by omega)]
      by_cases y : 65536 ≤ t - f
      · rw [if_neg (by omega), if_pos hl, if_pos ⟨x, y⟩, ← hw 65536 (by omega)]; rfl
      · rw [if_pos (by omega), r0, if_neg (fun q => y q.2)]
    · rw [if_neg (by omega), r0, if_neg (fun q => x q.1)]
  have r2 : ∀ k, lookasideref02_Cover.l1 (k + 3) (f : Int) (t : Int) acc 2 = if f % 524288 = 0 ∧ 524288 ≤ t - f then lookasideref02_Cover.l0 (k + 2) (f + 524288 : Nat) (t : Int) (acc ++ [2]) else if f % 65536 = 0 ∧ 65536 ≤ t - f then lookasideref02_Cover.l0 (k + 1) (f + 65536 : Nat) (t : Int) (acc ++ [1]) else lookasideref02_Cover.l0 k (f + 8192 : Nat) (t : Int) (acc ++ [0]) := fun k => by
    rw [lookasideref02_Cover.l1, if_pos (by decide), b2]
    simp only [Option.bind_some]
    rw [if_neg (by decide), m2, e, w2]
    by_cases x : f % 524288 = 0
    · rw [if_pos (by omega)]
      by_cases y : 524288 ≤ t - f
      · rw [if_neg (by omega), if_pos hl, if_pos ⟨x, y⟩, ← hw 524288 (by omega)]; rfl
      · rw [if_pos (by omega), r1, if_neg (show ¬ (f % 524288 = 0 ∧ 524288 ≤ t - f) from fun q => y q.2)]
    · rw [if_neg (by omega), r1, if_neg (show ¬ (f % 524288 = 0 ∧ 524288 ≤ t - f) from fun q => x q.1)]
  rw [lookasideref02_Cover.l1, if_pos (by decide), b3]
  simp only [Option.bind_some]
  rw [if_neg (by decide), m3, e, w1]
  unfold great
  by_cases x : f % 4194304 = 0 ∧ 4194304 ≤ t - f
  · rw [if_pos (by omega), if_neg (by omega), if_pos hl, if_pos x]
    have := hw 4194304 (by omega)
    rw [show ((4194304 : Nat) : Int) = 4194304 from rfl] at this
    rw [this]; rfl
  · have step : lookasideref02_Cover.l1 (k + 3) (f : Int) (t : Int) acc 2 = lookasideref02_Cover.l0 (k + (if f % 524288 = 0 ∧ 524288 ≤ t - f then (2 : Int) else if f % 65536 = 0 ∧ 65536 ≤ t - f then 1 else 0).toNat) (f + bytesOf (if f % 524288 = 0 ∧ 524288 ≤ t - f then (2 : Int) else if f % 65536 = 0 ∧ 65536 ≤ t - f then 1 else 0) : Nat) (t : Int) (acc ++ [if f % 524288 = 0 ∧ 524288 ≤ t - f then (2 : Int) else if f % 65536 = 0 ∧ 65536 ≤ t - f then 1 else 0]) := by
      rw [r2]
      by_cases y : f % 524288 = 0 ∧ 524288 ≤ t - f
      · simp only [if_pos y]; rfl
      · simp only [if_neg y]
        by_cases z : f % 65536 = 0 ∧ 65536 ≤ t - f
        · simp only [if_pos z]; rfl
        · simp only [if_neg z]; rfl
    rw [if_neg x]
    by_cases y : f % 4194304 = 0
    · rw [if_pos (by omega), if_pos (by omega)]; exact step
    · rw [if_neg (by omega)]; exact step
theorem covers_l (t : Nat) (ht : t < 18446744073709551616) (ht0 : t % 8192 = 0) (d : Nat) : ∀ (f k k2 : Nat) (acc : List Int), f ≤ t → t - f ≤ d * 8192 → f % 8192 = 0 → acc.length ≤ 1000 → d + 20 < k → 6 * d + 20 < k2 →
    ∃ L, page_Cover.l0 k (f : Int) (t : Int) acc = some L ∧ lookasideref02_Cover.l0 k2 (f : Int) (t : Int) acc = some L ∧ (L = [] ∨ ∃ m, L = acc ++ m ∧ m.length ≤ 1000 ∧ L.length ≤ 1000 ∧ chain f m t) := by
  induction d with
  | zero =>
    intro f k k2 acc hft hd hf0 hl hk hk2
    obtain ⟨k, rfl⟩ : ∃ m, k = m + 1 := ⟨k - 1, by omega⟩
    obtain ⟨k2, rfl⟩ : ∃ m, k2 = m + 1 := ⟨k2 - 1, by omega⟩
    refine ⟨acc, ?_, ?_, .inr ⟨[], by simp, by simp, hl, by unfold chain; omega⟩⟩
    · rw [page_Cover.l0, if_neg (by omega)]
    · rw [lookasideref02_Cover.l0, if_neg (by omega)]
  | succ d ih =>
    intro f k k2 acc hft hd hf0 hl hk hk2
    obtain ⟨k, rfl⟩ : ∃ m, k = m + 1 := ⟨k - 1, by omega⟩
    obtain ⟨k2, rfl⟩ : ∃ m, k2 = m + 5 := ⟨k2 - 5, by omega⟩
    by_cases hlt : f < t
    · by_cases hfull : acc.length = 1000
      · refine ⟨[], ?_, ?_, .inl rfl⟩
        · rw [page_Cover.l0, if_pos (by omega), if_pos (by omega)]
        · rw [show k2 + 5 = (k2 + 4) + 1 from rfl, lookasideref02_Cover.l0, if_pos (by omega), if_pos (by omega)]
      · obtain ⟨g1, g2, g3, g4⟩ := great_fits f t hf0 ht0 hlt
        obtain ⟨L, h1, h2, h3⟩ := ih (f + bytesOf (great f t)) k (k2 + (great f t).toNat) (acc ++ [great f t]) g2 (by omega) g3 (by simp; omega) (by omega) (by omega)
        refine ⟨L, ?_, ?_, ?_⟩
        · rw [page_Cover.l0, if_pos (by omega), if_neg (by omega), greatest_is f t (by omega) hf0 ht0 hlt ht k (by omega)]
          simp only [Option.bind_some]
          rw [if_pos (by omega), pBytes]
          have hw : IntKind.u64.wrap ((f : Int) + (bytesOf (great f t) : Int)) = ((f + bytesOf (great f t) : Nat) : Int) := by rw [IntKind.wrap_u64]; omega
          simp only [Option.bind_some]
          rw [hw]; exact h1
        · rw [show k2 + 5 = (k2 + 4) + 1 from rfl, lookasideref02_Cover.l0, if_pos (by omega), if_neg (by omega), l1_is f t ht hf0 ht0 hlt acc (by omega) k2]
          exact h2
        · rcases h3 with h3 | ⟨m, h3, h4, h5, h6⟩
          · exact .inl h3
          · refine .inr ⟨great f t :: m, by rw [h3]; simp, ?_, h5, ?_⟩
            · rw [h3] at h5; simp at h5 ⊢; omega
            · exact ⟨great_ok f t, g1, g2, h6⟩
    · refine ⟨acc, ?_, ?_, .inr ⟨[], by simp, by simp, hl, by unfold chain; omega⟩⟩
      · rw [page_Cover.l0, if_neg (by omega)]
      · rw [show k2 + 5 = (k2 + 4) + 1 from rfl, lookasideref02_Cover.l0, if_neg (by omega)]
theorem same_l (L : List Int) (hL : L.length ≤ 1000) (d : Nat) : ∀ (i k : Nat), i + d = L.length → d < k → lookasideref02_Same.l0 k L L (i : Int) = some true := by
  induction d with
  | zero =>
    intro i k hi hk
    obtain ⟨k, rfl⟩ : ∃ m, k = m + 1 := ⟨k - 1, by omega⟩
    rw [lookasideref02_Same.l0, if_neg (by omega)]
  | succ d ih =>
    intro i k hi hk
    obtain ⟨k, rfl⟩ : ∃ m, k = m + 1 := ⟨k - 1, by omega⟩
    have e2 : wrap64 ((i : Int) + 1) = ((i + 1 : Nat) : Int) := by
      have := m_w64 (i + 1) (by omega); simpa using this
    rw [lookasideref02_Same.l0, if_pos (by omega), if_pos (by omega), if_pos (by omega), if_pos rfl, e2]
    exact ih (i + 1) k (by omega) (by omega)
theorem law_l (t : Nat) (ht : t < 18446744073709551616) (L : List Int) (hL : L.length ≤ 1000) (m : List Int) : ∀ (f i k : Nat), L.drop i = m → i + m.length = L.length → f ≤ t → chain f m t → m.length + 100 < k →
    lookasidelaw02_PageCovers.l0 k (t : Int) L (f : Int) (i : Int) = some true := by
  induction m with
  | nil =>
    intro f i k hd hi hft hc hk
    obtain ⟨k, rfl⟩ : ∃ m, k = m + 1 := ⟨k - 1, by omega⟩
    have : f = t := hc
    rw [lookasidelaw02_PageCovers.l0, if_neg (by simp at hi; omega), liv k (by omega)]
    by_cases h : (L.length : Int) = 0
    · rw [if_pos h]; rfl
    · rw [if_neg h, if_pos (by omega)]; rfl
  | cons s m ih =>
    intro f i k hd hi hft hc hk
    obtain ⟨k, rfl⟩ : ∃ m, k = m + 1 := ⟨k - 1, by omega⟩
    obtain ⟨c1, c2, c3, c4⟩ := hc
    simp only [List.length_cons] at hi hk
    have hin : (i : Int) < (L.length : Int) := by omega
    have hi0 : 0 ≤ (i : Int) := by omega
    have hf64 : f < 18446744073709551616 := by omega
    have hr : rd L (i : Int) = s := by
      unfold rd
      rw [Int.toNat_natCast, List.getD_eq_getElem?_getD]
      have : (L.drop i)[0]? = some s := by rw [hd]; rfl
      rw [List.getElem?_drop] at this
      rw [show i + 0 = i from rfl] at this
      rw [this]; rfl
    have e2 : wrap64 ((i : Int) + 1) = ((i + 1 : Nat) : Int) := by
      have := m_w64 (i + 1) (by omega); simpa using this
    have hw : IntKind.u64.wrap ((f : Int) + (bytesOf s : Int)) = ((f + bytesOf s : Nat) : Int) := by rw [IntKind.wrap_u64]; omega
    rw [lookasidelaw02_PageCovers.l0, if_pos hin, if_pos hi0, hr, pStarts f hf64, decide_eq_true ⟨c1, c2⟩]
    simp only [Option.bind_some, if_true]
    rw [pBytes]
    simp only [Option.bind_some]
    rw [hw, e2]
    exact ih (f + bytesOf s) (i + 1) k (by rw [← List.drop_drop, hd]; rfl) (by omega) c3 c4 (by omega)
theorem covers_j1 (f t : Nat) (hft : f ≤ t) (ht : t < 4398046511104) (hd : t - f ≤ 10000 * 8192) (k : Nat) (hk : 70000 ≤ k) : lookasidelaw02_PageCovers.j1 (k + 1) (f : Int) (t : Int) = some true := by
  obtain ⟨k, rfl⟩ : ∃ m, k = m + 1 := ⟨k - 1, by omega⟩
  rw [lookasidelaw02_PageCovers.j1]
  have mf : Int.tmod (f : Int) 8192 = ((f % 8192 : Nat) : Int) := rfl
  have mt : Int.tmod (t : Int) 8192 = ((t % 8192 : Nat) : Int) := rfl
  by_cases hal : f % 8192 = 0 ∧ t % 8192 = 0
  · obtain ⟨L, h1, h2, h3⟩ := covers_l t (by omega) hal.2 10000 f k k [] hft hd hal.1 (by simp) (by omega) (by omega)
    have hc1 : page_Cover.f (k + 1) (f : Int) (t : Int) = some L := by
      unfold page_Cover.f
      rw [pStarts f (by omega) 0, pStarts t (by omega) 0]
      have o : okSize 0 := by decide
      simp only [bytesOf, if_true, hal.1, hal.2, o, and_self, decide_true, Option.bind_some, Bool.not_true, page_Cover.j0]
      simpa using h1
    have hc2 : lookasideref02_Cover.f (k + 1) (f : Int) (t : Int) = some L := by
      unfold lookasideref02_Cover.f
      rw [mf, mt, if_pos (by omega), hal.2]
      simp only [lookasideref02_Cover.j0]
      simpa using h2
    have hLl : L.length ≤ 1000 := by
      rcases h3 with h3 | ⟨m, h3, h4, h5, h6⟩
      · rw [h3]; simp
      · exact h5
    have hs : lookasideref02_Same.f (k + 1) L L = some true := by
      unfold lookasideref02_Same.f
      rw [if_pos rfl]; exact same_l L hLl L.length 0 (k + 1) (by omega) (by omega)
    rw [hc1, hc2]
    simp only [Option.bind_some]
    rw [hs]
    simp only [Option.bind_some, if_true]
    rcases h3 with h3 | ⟨m, h3, h4, h5, h6⟩
    · subst h3
      rw [lookasidelaw02_PageCovers.l0, if_neg (by simp), if_pos (by simp), liv k (by omega)]; rfl
    · have : L = m := by rw [h3]; simp
      subst this
      exact law_l t (by omega) L hLl L f 0 (k + 1) rfl (by omega) hft h6 (by omega)
  · have hc1 : page_Cover.f (k + 1) (f : Int) (t : Int) = some [] := by
      unfold page_Cover.f
      rw [pStarts f (by omega) 0, pStarts t (by omega) 0]
      have o : okSize 0 := by decide
      simp only [bytesOf, if_true, o, true_and, Option.bind_some]
      by_cases x : f % 8192 = 0
      · have y : ¬ t % 8192 = 0 := fun y => hal ⟨x, y⟩
        simp [x, y, page_Cover.j0]
      · simp [x, page_Cover.j0]
    have hc2 : lookasideref02_Cover.f (k + 1) (f : Int) (t : Int) = some [] := by
      unfold lookasideref02_Cover.f
      rw [mf, mt]
      by_cases x : f % 8192 = 0
      · have y : ¬ t % 8192 = 0 := fun y => hal ⟨x, y⟩
        rw [if_pos (by omega)]
        have y' : (((t % 8192 : Nat) : Int) != 0) = true := by rw [bne_iff_ne]; omega
        rw [y']; simp [lookasideref02_Cover.j0]
      · rw [if_neg (by omega)]; simp [lookasideref02_Cover.j0]
    have hs : lookasideref02_Same.f (k + 1) [] [] = some true := by
      unfold lookasideref02_Same.f
      rw [if_pos rfl]; exact same_l [] (by simp) 0 0 (k + 1) (by simp) (by omega)
    rw [hc1, hc2]
    simp only [Option.bind_some]
    rw [hs]
    simp only [Option.bind_some, if_true]
    rw [lookasidelaw02_PageCovers.l0, if_neg (by simp), if_pos (by simp), liv k (by omega)]; rfl
theorem covers_j0 (a : Nat) (n : Int) (h0 : 0 ≤ n) (h1 : n < 9223372036854775808) (odd : Bool) (k : Nat) (hk : 80000 ≤ k) : lookasidelaw02_PageCovers.j0 (k + 1) (a : Int) n odd = some true := by
  obtain ⟨k, rfl⟩ : ∃ m, k = m + 1 := ⟨k - 1, by omega⟩
  obtain ⟨n, rfl⟩ := Int.eq_ofNat_of_zero_le h0
  rw [lookasidelaw02_PageCovers.j0]
  have e1 : Int.tmod (a : Int) 1099511627776 = ((a % 1099511627776 : Nat) : Int) := rfl
  have e2 : Int.tmod (n : Int) 67108864 = ((n % 67108864 : Nat) : Int) := rfl
  rw [e1, e2, m_wu (n % 67108864) (by omega)]
  have hx : a % 1099511627776 < 1099511627776 := Nat.mod_lt _ (by decide)
  have hy : n % 67108864 < 67108864 := Nat.mod_lt _ (by decide)
  generalize a % 1099511627776 = x at hx
  generalize n % 67108864 = y at hy
  have e3 : IntKind.u64.wrap ((x : Int) + (y : Int)) = ((x + y : Nat) : Int) := by rw [IntKind.wrap_u64]; omega
  rw [e3]
  have e4 : ∀ z : Nat, z < 4398046511104 → IntKind.u64.wrap (IntKind.u64.wrap (Int.tdiv (z : Int) 8192) * 8192) = ((z / 8192 * 8192 : Nat) : Int) := fun z hz => by
    have : Int.tdiv (z : Int) 8192 = ((z / 8192 : Nat) : Int) := rfl
    rw [this, IntKind.wrap_u64, IntKind.wrap_u64]; omega
  cases odd with
  | true => rw [if_pos rfl]; exact covers_j1 x (x + y) (by omega) (by omega) (by omega) k (by omega)
  | false =>
    rw [if_neg (by decide), e4 x (by omega), e4 (x + y) (by omega)]
    exact covers_j1 _ _ (by omega) (by omega) (by omega) k (by omega)
theorem PageCovers : lookasidelaw02_PageCovers.Pure := by
  intro a0 n odd w0 w1
  obtain ⟨h0, h1⟩ := m_u64 w0
  obtain ⟨a, rfl⟩ := Int.eq_ofNat_of_zero_le h0
  obtain ⟨b1, b2⟩ := m_i64 w1
  refine ⟨80001, ?_⟩
  unfold lookasidelaw02_PageCovers.f
  by_cases h : n < 0
  · rw [if_pos h]; exact covers_j0 a _ (by unfold wrap64; omega) (by unfold wrap64; omega) odd 80000 (by omega)
  · rw [if_neg h]; exact covers_j0 a n (by omega) (by omega) odd 80000 (by omega)

end Go.Proofs.Ytedjiicaikhcbaa.Pure
