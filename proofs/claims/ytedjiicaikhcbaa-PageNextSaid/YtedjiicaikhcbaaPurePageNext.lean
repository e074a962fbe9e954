/- For every address and every size, the page behind, or that there is none, is the document's; no conditions. -/
import Derived.Test.YtedjiicaikhcbaaQPageNextx2
import Derived.Laws.BitsAllLaws
import Derived.Laws.Bits64
set_option linter.unusedVariables false
set_option linter.unusedSimpArgs false
namespace Go.Proofs.Ytedjiicaikhcbaa.Pure
open Go.RowKit Go.Proofs.Ytedjiicaikhcbaa.QPageNext Go.Proofs.YtedjiicaikhcbaaW.PrintWords Go.Proofs.YtedjiicaikhcbaaW.PrintLast Go.Proofs.YtedjiicaikhcbaaW.PrintMore

/-! ### Plain arithmetic of words -/
theorem m_u64 {a : Int} (h : (Lit.int .u64 a).wf = true) : 0 ≤ a ∧ a < 18446744073709551616 := by
  simp [Lit.wf, IntKind.min, IntKind.max, IntKind.signed, IntKind.bits] at h; omega
theorem m_i64 {a : Int} (h : (Lit.int .i64 a).wf = true) : -9223372036854775808 ≤ a ∧ a < 9223372036854775808 := by
  simp [Lit.wf, IntKind.min, IntKind.max, IntKind.signed, IntKind.bits] at h; omega
theorem m_shr (x : Int) (n : Nat) (h : n ≤ 64) : shr .u64 x (n : Int) = x / 2 ^ n := by
  unfold shr; rw [Int.toNat_natCast, Nat.min_eq_left (by simpa [IntKind.bits] using h)]
theorem m_shl (x : Int) (n : Nat) (h : n ≤ 64) : shl .u64 x (n : Int) = x * 2 ^ n % 18446744073709551616 := by
  unfold shl; rw [Int.toNat_natCast, Nat.min_eq_left (by simpa [IntKind.bits] using h), IntKind.wrap_u64]
theorem m_maskn (n : Nat) (h1 : 1 ≤ n) (h2 : n ≤ 64) : (18446744073709551615 : Int) / 2 ^ (64 - n) = ((2 ^ n - 1 : Nat) : Int) := by
  have hp : 2 ^ (64 - n) * 2 ^ n = (18446744073709551616 : Nat) := by rw [← Nat.pow_add, show 64 - n + n = 64 by omega]
  have h0 : 0 < 2 ^ (64 - n) := Nat.two_pow_pos _
  have h3 : 0 < 2 ^ n := Nat.two_pow_pos _
  have e : (18446744073709551615 : Nat) / 2 ^ (64 - n) = 2 ^ n - 1 := by
    apply Nat.div_eq_of_lt_le
    · rw [Nat.mul_comm, Nat.mul_sub, hp]; omega
    · rw [Nat.sub_add_cancel h3, Nat.mul_comm, hp]; omega
  have := congrArg (fun x : Nat => (x : Int)) e
  simpa using this
theorem m_mask (p n : Nat) (h1 : 1 ≤ n) (h2 : p + n ≤ 64) : shl .u64 (shr .u64 18446744073709551615 ((64 - n : Nat) : Int)) (p : Int) = (((2 ^ n - 1) * 2 ^ p : Nat) : Int) := by
  rw [m_shr _ _ (by omega), m_shl _ _ (by omega), m_maskn n h1 (by omega)]
  have hp : 2 ^ n * 2 ^ p ≤ (18446744073709551616 : Nat) := by
    rw [← Nat.pow_add]; exact Nat.le_trans (Nat.pow_le_pow_right (by decide) (show n + p ≤ 64 by omega)) (by decide)
  have h3 : 0 < 2 ^ p := Nat.two_pow_pos _
  have h4 : (2 ^ n - 1) * 2 ^ p < (18446744073709551616 : Nat) := by
    rw [Nat.sub_mul]; omega
  have e : ((2 ^ n - 1) * 2 ^ p) % (18446744073709551616 : Nat) = (2 ^ n - 1) * 2 ^ p := Nat.mod_eq_of_lt h4
  have := congrArg (fun x : Nat => (x : Int)) e
  simpa using this
theorem m_get (a : Nat) (ha : a < 18446744073709551616) (p n : Nat) (h1 : 1 ≤ n) (h2 : p + n ≤ 64) :
    shr .u64 (Go.bits .and .u64 (a : Int) (((2 ^ n - 1) * 2 ^ p : Nat) : Int)) (p : Int) = ((a / 2 ^ p % 2 ^ n : Nat) : Int) := by
  have hp : 2 ^ n * 2 ^ p ≤ (18446744073709551616 : Nat) := by
    rw [← Nat.pow_add]; exact Nat.le_trans (Nat.pow_le_pow_right (by decide) (show n + p ≤ 64 by omega)) (by decide)
  have h3 : 0 < 2 ^ p := Nat.two_pow_pos _
  have h4 : (2 ^ n - 1) * 2 ^ p < (18446744073709551616 : Nat) := by
    rw [Nat.sub_mul]; omega
  rw [u64_and_nat _ _ ha h4, m_shr _ _ (by omega)]
  have e : (a &&& (2 ^ n - 1) * 2 ^ p) / 2 ^ p = a / 2 ^ p % 2 ^ n := by
    rw [← Nat.shiftRight_eq_div_pow, Nat.shiftRight_and_distrib, Nat.shiftRight_eq_div_pow, Nat.shiftRight_eq_div_pow, Nat.mul_div_cancel _ h3, Nat.and_two_pow_sub_one_eq_mod]
  have := congrArg (fun x : Nat => (x : Int)) e
  simpa using this

/-! ### A bit of a word, by halving -/
theorem m_tdiv (x n : Nat) : Int.tdiv (x : Int) (n : Int) = ((x / n : Nat) : Int) := rfl
theorem m_tmod (x n : Nat) : Int.tmod (x : Int) (n : Int) = ((x % n : Nat) : Int) := rfl
theorem m_w64 (x : Nat) (h : x < 9223372036854775808) : wrap64 (x : Int) = x := by unfold wrap64; omega
theorem m_wu (x : Nat) (h : x < 18446744073709551616) : IntKind.u64.wrap (x : Int) = x := by rw [IntKind.wrap_u64]; omega

/-! ### Bits by halving -/
theorem bit_l (d : Nat) : ∀ (x c k : Nat), x < 18446744073709551616 → c + d ≤ 64 → d < k →
    lookasideref01_Bit.l0 k (x : Int) ((c + d : Nat) : Int) (c : Int) = some ((x / 2 ^ d % 2 : Nat) : Int) := by
  induction d with
  | zero =>
    intro x c k hx hc hk
    obtain ⟨k, rfl⟩ : ∃ m, k = m + 1 := ⟨k - 1, by omega⟩
    simp only [lookasideref01_Bit.l0]
    rw [if_neg (by omega)]
    show some (Int.tmod (x : Int) ((2 : Nat) : Int)) = _
    rw [m_tmod]; simp
  | succ d ih =>
    intro x c k hx hc hk
    obtain ⟨k, rfl⟩ : ∃ m, k = m + 1 := ⟨k - 1, by omega⟩
    simp only [lookasideref01_Bit.l0]
    rw [if_pos (by omega)]
    have e1 : IntKind.u64.wrap (Int.tdiv (x : Int) 2) = ((x / 2 : Nat) : Int) := by
      show IntKind.u64.wrap (Int.tdiv (x : Int) ((2 : Nat) : Int)) = _
      rw [m_tdiv, m_wu _ (by omega)]
    have e2 : wrap64 ((c : Int) + 1) = ((c + 1 : Nat) : Int) := by
      have := m_w64 (c + 1) (by omega); simpa using this
    rw [e1, e2, show c + (d + 1) = (c + 1) + d by omega, ih (x / 2) (c + 1) k (by omega) (by omega) (by omega)]
    rw [Nat.div_div_eq_div_mul, show 2 ^ (d + 1) = 2 * 2 ^ d by rw [Nat.pow_succ, Nat.mul_comm]]
theorem rBit (x i k : Nat) (hx : x < 18446744073709551616) (hi : i ≤ 64) (hk : 100 ≤ k) : lookasideref01_Bit.f k (x : Int) (i : Int) = some ((x / 2 ^ i % 2 : Nat) : Int) := by
  have := bit_l i x 0 k hx (by omega) (by omega)
  simpa [lookasideref01_Bit.f] using this

/-! ### Fields -/
theorem fMay (p n : Nat) (h1 : 1 ≤ n) (h2 : p + n ≤ 64) : field_May.f (p : Int) (n : Int) = some true := by
  unfold field_May.f
  have e : wrap64 (64 - (n : Int)) = ((64 - n : Nat) : Int) := by unfold wrap64; omega
  rw [if_pos (by omega), if_pos (by omega), if_pos (by omega), e]
  simp; omega
theorem fMask (p n : Nat) (h1 : 1 ≤ n) (h2 : p + n ≤ 64) : field_Mask.f (p : Int) (n : Int) = some (((2 ^ n - 1) * 2 ^ p : Nat) : Int) := by
  unfold field_Mask.f
  have e : wrap64 (64 - (n : Int)) = ((64 - n : Nat) : Int) := by unfold wrap64; omega
  rw [fMay p n h1 h2]
  simp only [Option.bind_some, if_true]
  rw [e, if_pos (by omega), if_pos (by omega), m_mask p n h1 h2]
theorem fGet (a : Nat) (ha : a < 18446744073709551616) (p n : Nat) (h1 : 1 ≤ n) (h2 : p + n ≤ 64) : field_Get.f (a : Int) (p : Int) (n : Int) = some ((a / 2 ^ p % 2 ^ n : Nat) : Int) := by
  unfold field_Get.f
  rw [fMay p n h1 h2, fMask p n h1 h2]
  simp only [Option.bind_some, if_true]
  rw [if_pos (by omega), m_get a ha p n h1 h2]

/-! ### Pages -/
def bytesOf (s : Int) : Nat := if s = 0 then 8192 else if s = 1 then 65536 else if s = 2 then 524288 else if s = 3 then 4194304 else 0
def okSize (s : Int) : Prop := 0 ≤ s ∧ s < 4
instance (s : Int) : Decidable (okSize s) := inferInstanceAs (Decidable (0 ≤ s ∧ s < 4))
theorem size_cases (s : Int) : s = 0 ∨ s = 1 ∨ s = 2 ∨ s = 3 ∨ ¬ okSize s := by unfold okSize; omega
theorem bytes_bad {s : Int} (h : ¬ okSize s) : bytesOf s = 0 := by
  unfold okSize at h; unfold bytesOf; rw [if_neg (by omega), if_neg (by omega), if_neg (by omega), if_neg (by omega)]
theorem pMay (s : Int) : page_May.f s = some (decide (okSize s)) := by
  unfold page_May.f okSize
  split <;> simp [*]
theorem pBits (s : Int) : page_Bits.f s = some (if okSize s then 13 + 3 * s else 0) := by
  unfold page_Bits.f
  rw [pMay]
  by_cases h : okSize s
  · have h' := h
    unfold okSize at h'
    simp only [Option.bind_some, h, decide_true, if_true]
    congr 1; unfold wrap64; omega
  · simp [h]
theorem pOffset (a : Nat) (ha : a < 18446744073709551616) (s : Int) : page_Offset.f (a : Int) s = some (if okSize s then ((a % bytesOf s : Nat) : Int) else 0) := by
  unfold page_Offset.f
  rw [pMay, pBits]
  rcases size_cases s with rfl | rfl | rfl | rfl | h
  · have := fGet a ha 0 13 (by omega) (by omega)
    simp [okSize, bytesOf] at this ⊢; rw [this]
  · have := fGet a ha 0 16 (by omega) (by omega)
    simp [okSize, bytesOf] at this ⊢; rw [this]
  · have := fGet a ha 0 19 (by omega) (by omega)
    simp [okSize, bytesOf] at this ⊢; rw [this]
  · have := fGet a ha 0 22 (by omega) (by omega)
    simp [okSize, bytesOf] at this ⊢; rw [this]
  · simp [h]
theorem pBytes (s : Int) : page_Bytes.f s = some (bytesOf s : Int) := by
  unfold page_Bytes.f
  rw [pMay, pBits]
  rcases size_cases s with rfl | rfl | rfl | rfl | h
  · decide +kernel
  · decide +kernel
  · decide +kernel
  · decide +kernel
  · simp [h, bytes_bad h]
theorem pStarts (a : Nat) (ha : a < 18446744073709551616) (s : Int) : page_Starts.f (a : Int) s = some (decide (okSize s ∧ a % bytesOf s = 0)) := by
  unfold page_Starts.f
  rw [pMay, pOffset a ha]
  by_cases h : okSize s
  · simp only [h, decide_true, Option.bind_some, if_true, true_and, Option.some.injEq]
    rw [Bool.eq_iff_iff]; simp; omega
  · simp [h]

theorem pBase (a : Nat) (ha : a < 18446744073709551616) (s : Int) : page_Base.f (a : Int) s = some ((a / bytesOf s * bytesOf s : Nat) : Int) := by
  unfold page_Base.f
  rw [pMay, pOffset a ha]
  by_cases h : okSize s
  · have e := Nat.div_add_mod a (bytesOf s)
    have e2 : bytesOf s * (a / bytesOf s) = a / bytesOf s * bytesOf s := Nat.mul_comm _ _
    simp only [h, decide_true, Option.bind_some, if_true, Option.some.injEq]
    rw [IntKind.wrap_u64]; omega
  · simp [h, bytes_bad h]

theorem pHole (a : Nat) (ha : a < 18446744073709551616) : page_Hole.f (a : Int) = some (decide (a / 8796093022208 ≠ 0 ∧ a / 8796093022208 ≠ 2097151)) := by
  unfold page_Hole.f
  have := fGet a ha 43 21 (by omega) (by omega)
  simp only [Nat.reducePow] at this
  have e : a / 8796093022208 % 2097152 = a / 8796093022208 := by omega
  rw [e] at this
  have h43 : ((43 : Nat) : Int) = 43 := rfl
  have h21 : ((21 : Nat) : Int) = 21 := rfl
  rw [h43, h21] at this
  rw [this]
  simp only [Option.bind_some]
  by_cases h0 : a / 8796093022208 = 0
  · rw [h0]; simp
  · rw [if_neg (by omega)]
    simp only [ne_eq, h0, not_false_eq_true, true_and, Option.some.injEq]
    rw [Bool.eq_iff_iff]; simp; omega

theorem rHole_l (a : Nat) (ha : a < 18446744073709551616) (d : Nat) : ∀ (i k : Nat), i + d = 64 → 44 ≤ i → 100 + d < k →
    lookasideref02_Hole.l0 k (a : Int) (i : Int) = some (decide (¬ (a / 2 ^ i = (if a / 8796093022208 % 2 = 1 then 2 ^ d - 1 else 0)))) := by
  induction d with
  | zero =>
    intro i k hi h44 hk
    obtain ⟨k, rfl⟩ : ∃ m, k = m + 1 := ⟨k - 1, by omega⟩
    obtain rfl : i = 64 := by omega
    simp only [lookasideref02_Hole.l0]
    rw [if_neg (by omega)]
    have : a / 2 ^ 64 = 0 := Nat.div_eq_of_lt ha
    simp [this]
  | succ d ih =>
    intro i k hi h44 hk
    obtain ⟨k, rfl⟩ : ∃ m, k = m + 1 := ⟨k - 1, by omega⟩
    simp only [lookasideref02_Hole.l0]
    have b1 := rBit a i k ha (by omega) (by omega)
    have b2 := rBit a 43 k ha (by omega) (by omega)
    have h43 : ((43 : Nat) : Int) = 43 := rfl
    rw [h43] at b2
    simp only [Nat.reducePow] at b2
    rw [if_pos (by omega), b1, b2]
    simp only [Option.bind_some]
    have e2 : wrap64 ((i : Int) + 1) = ((i + 1 : Nat) : Int) := by
      have := m_w64 (i + 1) (by omega); simpa using this
    have hp : a / 2 ^ (i + 1) = a / 2 ^ i / 2 := by rw [Nat.pow_succ, Nat.div_div_eq_div_mul]
    have hd : 2 ^ (d + 1) = 2 * 2 ^ d := by rw [Nat.pow_succ, Nat.mul_comm]
    have h0 : 0 < 2 ^ d := Nat.two_pow_pos d
    rw [e2, ih (i + 1) k (by omega) (by omega) (by omega), hp, hd]
    generalize a / 2 ^ i = X
    generalize 2 ^ d = D at h0
    by_cases hb : a / 8796093022208 % 2 = 1
    · simp only [hb, if_true]
      by_cases hx : X % 2 = 1
      · rw [if_pos (by omega)]; congr 1; rw [decide_eq_decide]; omega
      · rw [if_neg (by omega)]; symm; simp; omega
    · have hb0 : a / 8796093022208 % 2 = 0 := by omega
      simp only [hb0]
      by_cases hx : X % 2 = 0
      · rw [if_pos (by omega)]; congr 1; rw [decide_eq_decide]; simp; omega
      · rw [if_neg (by omega)]; symm; simp; omega
theorem rHole (a : Nat) (ha : a < 18446744073709551616) (k : Nat) (hk : 200 ≤ k) : lookasideref02_Hole.f k (a : Int) = some (decide (a / 8796093022208 ≠ 0 ∧ a / 8796093022208 ≠ 2097151)) := by
  have := rHole_l a ha 20 44 k rfl (by omega) (by omega)
  have h44 : ((44 : Nat) : Int) = 44 := rfl
  rw [h44] at this
  simp only [Nat.reducePow] at this
  unfold lookasideref02_Hole.f
  rw [this]
  congr 1; rw [decide_eq_decide]
  split <;> omega

def vaOf (a : Nat) : Nat := if a / 8796093022208 % 2 = 1 then a % 8796093022208 + 18446735277616529408 else a % 8796093022208
theorem vaOf_lt (a : Nat) : vaOf a < 18446744073709551616 := by unfold vaOf; split <;> omega
theorem vaOf_hole (a : Nat) : ¬ (vaOf a / 8796093022208 ≠ 0 ∧ vaOf a / 8796093022208 ≠ 2097151) := by unfold vaOf; split <;> omega
theorem rVa (a : Nat) (ha : a < 18446744073709551616) (k : Nat) (hk : 100 ≤ k) : lookasideref02_Va.f k (a : Int) = some (vaOf a : Int) := by
  unfold lookasideref02_Va.f vaOf
  have b2 := rBit a 43 k ha (by omega) (by omega)
  have h43 : ((43 : Nat) : Int) = 43 := rfl
  rw [h43] at b2
  simp only [Nat.reducePow] at b2
  rw [b2]
  simp only [Option.bind_some]
  have e : Int.tmod (a : Int) 8796093022208 = ((a % 8796093022208 : Nat) : Int) := rfl
  rw [e]
  by_cases h : a / 8796093022208 % 2 = 1
  · rw [if_pos (by omega), if_pos h, IntKind.wrap_u64]; refine congrArg some ?_; omega
  · rw [if_neg (by omega), if_neg h]

theorem rMay (s : Int) : lookasideref02_May.f s = some (decide (okSize s)) := by
  unfold lookasideref02_May.f okSize
  split
  · simp [*]; omega
  · simp [*]
theorem rBytes (s : Int) : lookasideref02_Bytes.f s = some (bytesOf s : Int) := by
  unfold lookasideref02_Bytes.f bytesOf
  by_cases h0 : s = 0
  · simp [h0]
  · by_cases h1 : s = 1
    · simp [h1]
    · by_cases h2 : s = 2
      · simp [h2]
      · by_cases h3 : s = 3
        · simp [h3]
        · simp [h0, h1, h2, h3]
theorem bytes_pos {s : Int} (h : okSize s) : 8192 ≤ bytesOf s ∧ bytesOf s ≤ 4194304 := by
  rcases size_cases s with rfl | rfl | rfl | rfl | h'
  · decide
  · decide
  · decide
  · decide
  · exact absurd h h'
theorem rBase (a : Nat) (ha : a < 18446744073709551616) (s : Int) : lookasideref02_Base.f (a : Int) s = some ((a / bytesOf s * bytesOf s : Nat) : Int) := by
  unfold lookasideref02_Base.f
  rw [rMay, rBytes]
  by_cases h : okSize s
  · have hb := bytes_pos h
    simp only [h, decide_true, Option.bind_some, if_true]
    rw [if_neg (by omega), m_tdiv, m_wu _ (Nat.lt_of_le_of_lt (Nat.div_le_self _ _) ha)]
    have hm : a / bytesOf s * bytesOf s < 18446744073709551616 := Nat.lt_of_le_of_lt (Nat.div_mul_le_self _ _) ha
    have e : ((a / bytesOf s : Nat) : Int) * (bytesOf s : Int) = ((a / bytesOf s * bytesOf s : Nat) : Int) := (Int.natCast_mul _ _).symm
    rw [e, m_wu _ hm]
  · simp [h, bytes_bad h]

theorem liv15 : lookasidelaw02_lives.f 15 = some true := by
  unfold lookasidelaw02_lives.f
  have h1 : page_Cover.f 15 0 81920 = some [1, 0, 0] := by decide +kernel
  have h2 : page_Hole.f 8796093022208 = some true := by decide +kernel
  rw [h1, h2]; rfl
theorem liv (k : Nat) (hk : 15 ≤ k) : lookasidelaw02_lives.f k = some true := at_rounds lookasidelaw02_lives.mono hk liv15

theorem next_same (a : Nat) (ha : a < 18446744073709551616) (s : Int) (k : Nat) (hk : 200 ≤ k) : ∃ p : Int × Bool, page_Next.f (a : Int) s = some p ∧ lookasideref02_Next.f k (a : Int) s = some p := by
  unfold page_Next.f lookasideref02_Next.f
  rw [pBase a ha, pBytes, pMay, rMay, rBase a ha, rBytes]
  by_cases h : okSize s
  · simp only [h, decide_true, Option.bind_some, if_true]
    have e : IntKind.u64.wrap (((a / bytesOf s * bytesOf s : Nat) : Int) + (bytesOf s : Int)) = (((a / bytesOf s * bytesOf s + bytesOf s) % 18446744073709551616 : Nat) : Int) := by
      rw [IntKind.wrap_u64]; omega
    have hm : (a / bytesOf s * bytesOf s + bytesOf s) % 18446744073709551616 < 18446744073709551616 := Nat.mod_lt _ (by decide)
    rw [e, pHole _ hm, rHole _ hm k hk]
    simp only [Option.bind_some]
    generalize hn : (((a / bytesOf s * bytesOf s + bytesOf s) % 18446744073709551616 : Nat) : Int) = n
    generalize decide ((a / bytesOf s * bytesOf s + bytesOf s) % 18446744073709551616 / 8796093022208 ≠ 0 ∧ (a / bytesOf s * bytesOf s + bytesOf s) % 18446744073709551616 / 8796093022208 ≠ 2097151) = d
    by_cases hz : n = 0
    · simp [hz]
    · cases d <;> simp [hz]
  · simp [h]
theorem PageNext : lookasidelaw02_PageNext.Pure := by
  intro a0 s w0 w1
  obtain ⟨h0, h1⟩ := m_u64 w0
  obtain ⟨a, rfl⟩ := Int.eq_ofNat_of_zero_le h0
  have ha : a < 18446744073709551616 := by omega
  refine ⟨300, ?_⟩
  unfold lookasidelaw02_PageNext.f
  obtain ⟨p, hp1, hp2⟩ := next_same a ha s 300 (by omega)
  obtain ⟨q, hq1, hq2⟩ := next_same (vaOf a) (vaOf_lt a) s 300 (by omega)
  rw [hp1, hp2, rVa a ha _ (by omega)]
  simp only [Option.bind_some]
  rw [hq1, hq2, liv _ (by omega)]
  simp

end Go.Proofs.Ytedjiicaikhcbaa.Pure
