/- For every attributes, every entry, and one that may be made of it, every context and access, what attributes, and an entry, say of an access is the document's; no conditions. -/
import Derived.Test.YtecbngibhobgbaaQFaultJudgesx6
import Derived.Laws.BitsAllLaws
import Derived.Laws.Bits64
set_option linter.unusedVariables false
set_option linter.unusedSimpArgs false
namespace Go.Proofs.Ytecbngibhobgbaa.Pure
open Go.RowKit Go.Proofs.Ytecbngibhobgbaa.QFaultJudges Go.Proofs.YtecbngibhobgbaaW.PrintWords Go.Proofs.YtecbngibhobgbaaW.PrintLast Go.Proofs.YtecbngibhobgbaaW.PrintMore

/-! ### Plain arithmetic of words -/
theorem m_u64 {a : Int} (h : (Lit.int .u64 a).wf = true) : 0 ≤ a ∧ a < 18446744073709551616 := by
  simp [Lit.wf, IntKind.min, IntKind.max, IntKind.signed, IntKind.bits] at h; omega
theorem m_i64 {a : Int} (h : (Lit.int .i64 a).wf = true) : -9223372036854775808 ≤ a ∧ a < 9223372036854775808 := by
  simp [Lit.wf, IntKind.min, IntKind.max, IntKind.signed, IntKind.bits] at h; omega
theorem m_shr (x : Int) (n : Nat) (h : n ≤ 64) : shr .u64 x (n : Int) = x / 2 ^ n := by
  unfold shr; rw [Int.toNat_natCast, Nat.min_eq_left (by simpa [IntKind.bits] using h)]
theorem m_shl (x : Int) (n : Nat) (h : n ≤ 64) : shl .u64 x (n : Int) = x * 2 ^ n % 18446744073709551616 := by
  unfold shl; rw [Int.toNat_natCast, Nat.min_eq_left (by simpa [IntKind.bits] using h), IntKind.wrap_u64]
theorem m_maskn (n : Nat) (h1 : 1 ≤ n) (h2 : n ≤ 64) : (18446744073709551615 : Int) / 2 ^ (64 - n) = ((2 ^ n - 1 : Nat) : Int) := by
  have hp : 2 ^ (64 - n) * 2 ^ n = (18446744073709551616 : Nat) := by rw [← Nat.pow_add, show 64 - n + n = 64 by omega]
  have h0 : 0 < 2 ^ (64 - n) := Nat.two_pow_pos _
  have h3 : 0 < 2 ^ n := Nat.two_pow_pos _
  have e : (18446744073709551615 : Nat) / 2 ^ (64 - n) = 2 ^ n - 1 := by
    apply Nat.div_eq_of_lt_le
    · rw [Nat.mul_comm, Nat.mul_sub, hp]; omega
    · rw [Nat.sub_add_cancel h3, Nat.mul_comm, hp]; omega
  have := congrArg (fun x : Nat => (x : Int)) e
  simpa using this
theorem m_mask (p n : Nat) (h1 : 1 ≤ n) (h2 : p + n ≤ 64) : shl .u64 (shr .u64 18446744073709551615 ((64 - n : Nat) : Int)) (p : Int) = (((2 ^ n - 1) * 2 ^ p : Nat) : Int) := by
  rw [m_shr _ _ (by omega), m_shl _ _ (by omega), m_maskn n h1 (by omega)]
  have hp : 2 ^ n * 2 ^ p ≤ (18446744073709551616 : Nat) := by
    rw [← Nat.pow_add]; exact Nat.le_trans (Nat.pow_le_pow_right (by decide) (show n + p ≤ 64 by omega)) (by decide)
  have h3 : 0 < 2 ^ p := Nat.two_pow_pos _
  have h4 : (2 ^ n - 1) * 2 ^ p < (18446744073709551616 : Nat) := by
    rw [Nat.sub_mul]; omega
  have e : ((2 ^ n - 1) * 2 ^ p) % (18446744073709551616 : Nat) = (2 ^ n - 1) * 2 ^ p := Nat.mod_eq_of_lt h4
  have := congrArg (fun x : Nat => (x : Int)) e
  simpa using this
theorem m_get (a : Nat) (ha : a < 18446744073709551616) (p n : Nat) (h1 : 1 ≤ n) (h2 : p + n ≤ 64) :
    shr .u64 (Go.bits .and .u64 (a : Int) (((2 ^ n - 1) * 2 ^ p : Nat) : Int)) (p : Int) = ((a / 2 ^ p % 2 ^ n : Nat) : Int) := by
  have hp : 2 ^ n * 2 ^ p ≤ (18446744073709551616 : Nat) := by
    rw [← Nat.pow_add]; exact Nat.le_trans (Nat.pow_le_pow_right (by decide) (show n + p ≤ 64 by omega)) (by decide)
  have h3 : 0 < 2 ^ p := Nat.two_pow_pos _
  have h4 : (2 ^ n - 1) * 2 ^ p < (18446744073709551616 : Nat) := by
    rw [Nat.sub_mul]; omega
  rw [u64_and_nat _ _ ha h4, m_shr _ _ (by omega)]
  have e : (a &&& (2 ^ n - 1) * 2 ^ p) / 2 ^ p = a / 2 ^ p % 2 ^ n := by
    rw [← Nat.shiftRight_eq_div_pow, Nat.shiftRight_and_distrib, Nat.shiftRight_eq_div_pow, Nat.shiftRight_eq_div_pow, Nat.mul_div_cancel _ h3, Nat.and_two_pow_sub_one_eq_mod]
  have := congrArg (fun x : Nat => (x : Int)) e
  simpa using this

/-! ### A bit of a word, by halving -/
theorem m_tdiv (x n : Nat) : Int.tdiv (x : Int) (n : Int) = ((x / n : Nat) : Int) := rfl
theorem m_tmod (x n : Nat) : Int.tmod (x : Int) (n : Int) = ((x % n : Nat) : Int) := rfl
theorem m_w64 (x : Nat) (h : x < 9223372036854775808) : wrap64 (x : Int) = x := by unfold wrap64; omega
theorem m_wu (x : Nat) (h : x < 18446744073709551616) : IntKind.u64.wrap (x : Int) = x := by rw [IntKind.wrap_u64]; omega

/-! ### Bits by halving -/
theorem bit_l (d : Nat) : ∀ (x c k : Nat), x < 18446744073709551616 → c + d ≤ 64 → d < k →
    lookasideref01_Bit.l0 k (x : Int) ((c + d : Nat) : Int) (c : Int) = some ((x / 2 ^ d % 2 : Nat) : Int) := by
  induction d with
  | zero =>
    intro x c k hx hc hk
    obtain ⟨k, rfl⟩ : ∃ m, k = m + 1 := ⟨k - 1, by omega⟩
    simp only [lookasideref01_Bit.l0]
    rw [if_neg (by omega)]
    show some (Int.tmod (x : Int) ((2 : Nat) : Int)) = _
    rw [m_tmod]; simp
  | succ d ih =>
    intro x c k hx hc hk
    obtain ⟨k, rfl⟩ : ∃ m, k = m + 1 := ⟨k - 1, by omega⟩
    simp only [lookasideref01_Bit.l0]
    rw [if_pos (by omega)]
    have e1 : IntKind.u64.wrap (Int.tdiv (x : Int) 2) = ((x / 2 : Nat) : Int) := by
      show IntKind.u64.wrap (Int.tdiv (x : Int) ((2 : Nat) : Int)) = _
      rw [m_tdiv, m_wu _ (by omega)]
    have e2 : wrap64 ((c : Int) + 1) = ((c + 1 : Nat) : Int) := by
      have := m_w64 (c + 1) (by omega); simpa using this
    rw [e1, e2, show c + (d + 1) = (c + 1) + d by omega, ih (x / 2) (c + 1) k (by omega) (by omega) (by omega)]
    rw [Nat.div_div_eq_div_mul, show 2 ^ (d + 1) = 2 * 2 ^ d by rw [Nat.pow_succ, Nat.mul_comm]]
theorem rBit (x i k : Nat) (hx : x < 18446744073709551616) (hi : i ≤ 64) (hk : 100 ≤ k) : lookasideref01_Bit.f k (x : Int) (i : Int) = some ((x / 2 ^ i % 2 : Nat) : Int) := by
  have := bit_l i x 0 k hx (by omega) (by omega)
  simpa [lookasideref01_Bit.f] using this

/-! ### Fields -/
theorem fMay (p n : Nat) (h1 : 1 ≤ n) (h2 : p + n ≤ 64) : field_May.f (p : Int) (n : Int) = some true := by
  unfold field_May.f
  have e : wrap64 (64 - (n : Int)) = ((64 - n : Nat) : Int) := by unfold wrap64; omega
  rw [if_pos (by omega), if_pos (by omega), if_pos (by omega), e]
  simp; omega
theorem fMask (p n : Nat) (h1 : 1 ≤ n) (h2 : p + n ≤ 64) : field_Mask.f (p : Int) (n : Int) = some (((2 ^ n - 1) * 2 ^ p : Nat) : Int) := by
  unfold field_Mask.f
  have e : wrap64 (64 - (n : Int)) = ((64 - n : Nat) : Int) := by unfold wrap64; omega
  rw [fMay p n h1 h2]
  simp only [Option.bind_some, if_true]
  rw [e, if_pos (by omega), if_pos (by omega), m_mask p n h1 h2]
theorem fGet (a : Nat) (ha : a < 18446744073709551616) (p n : Nat) (h1 : 1 ≤ n) (h2 : p + n ≤ 64) : field_Get.f (a : Int) (p : Int) (n : Int) = some ((a / 2 ^ p % 2 ^ n : Nat) : Int) := by
  unfold field_Get.f
  rw [fMay p n h1 h2, fMask p n h1 h2]
  simp only [Option.bind_some, if_true]
  rw [if_pos (by omega), m_get a ha p n h1 h2]

/-! ### Pages -/
def bytesOf (s : Int) : Nat := if s = 0 then 8192 else if s = 1 then 65536 else if s = 2 then 524288 else if s = 3 then 4194304 else 0
def okSize (s : Int) : Prop := 0 ≤ s ∧ s < 4
instance (s : Int) : Decidable (okSize s) := inferInstanceAs (Decidable (0 ≤ s ∧ s < 4))
theorem size_cases (s : Int) : s = 0 ∨ s = 1 ∨ s = 2 ∨ s = 3 ∨ ¬ okSize s := by unfold okSize; omega
theorem bytes_bad {s : Int} (h : ¬ okSize s) : bytesOf s = 0 := by
  unfold okSize at h; unfold bytesOf; rw [if_neg (by omega), if_neg (by omega), if_neg (by omega), if_neg (by omega)]
theorem pMay (s : Int) : page_May.f s = some (decide (okSize s)) := by
  unfold page_May.f okSize
  split <;> simp [*]
theorem pBits (s : Int) : page_Bits.f s = some (if okSize s then 13 + 3 * s else 0) := by
  unfold page_Bits.f
  rw [pMay]
  by_cases h : okSize s
  · have h' := h
    unfold okSize at h'
    simp only [Option.bind_some, h, decide_true, if_true]
    congr 1; unfold wrap64; omega
  · simp [h]
theorem pOffset (a : Nat) (ha : a < 18446744073709551616) (s : Int) : page_Offset.f (a : Int) s = some (if okSize s then ((a % bytesOf s : Nat) : Int) else 0) := by
  unfold page_Offset.f
  rw [pMay, pBits]
  rcases size_cases s with rfl | rfl | rfl | rfl | h
  · have := fGet a ha 0 13 (by omega) (by omega)
    simp [okSize, bytesOf] at this ⊢; rw [this]
  · have := fGet a ha 0 16 (by omega) (by omega)
    simp [okSize, bytesOf] at this ⊢; rw [this]
  · have := fGet a ha 0 19 (by omega) (by omega)
    simp [okSize, bytesOf] at this ⊢; rw [this]
  · have := fGet a ha 0 22 (by omega) (by omega)
    simp [okSize, bytesOf] at this ⊢; rw [this]
  · simp [h]

theorem pHole (a : Nat) (ha : a < 18446744073709551616) : page_Hole.f (a : Int) = some (decide (a / 8796093022208 ≠ 0 ∧ a / 8796093022208 ≠ 2097151)) := by
  unfold page_Hole.f
  have := fGet a ha 43 21 (by omega) (by omega)
  simp only [Nat.reducePow] at this
  have e : a / 8796093022208 % 2097152 = a / 8796093022208 := by omega
  rw [e] at this
  have h43 : ((43 : Nat) : Int) = 43 := rfl
  have h21 : ((21 : Nat) : Int) = 21 := rfl
  rw [h43, h21] at this
  rw [this]
  simp only [Option.bind_some]
  by_cases h0 : a / 8796093022208 = 0
  · rw [h0]; simp
  · rw [if_neg (by omega)]
    simp only [ne_eq, h0, not_false_eq_true, true_and, Option.some.injEq]
    rw [Bool.eq_iff_iff]; simp; omega

theorem rHole_l (a : Nat) (ha : a < 18446744073709551616) (d : Nat) : ∀ (i k : Nat), i + d = 64 → 44 ≤ i → 100 + d < k →
    lookasideref02_Hole.l0 k (a : Int) (i : Int) = some (decide (¬ (a / 2 ^ i = (if a / 8796093022208 % 2 = 1 then 2 ^ d - 1 else 0)))) := by
  induction d with
  | zero =>
    intro i k hi h44 hk
    obtain ⟨k, rfl⟩ : ∃ m, k = m + 1 := ⟨k - 1, by omega⟩
    obtain rfl : i = 64 := by omega
    simp only [lookasideref02_Hole.l0]
    rw [if_neg (by omega)]
    have : a / 2 ^ 64 = 0 := Nat.div_eq_of_lt ha
    simp [this]
  | succ d ih =>
    intro i k hi h44 hk
    obtain ⟨k, rfl⟩ : ∃ m, k = m + 1 := ⟨k - 1, by omega⟩
    simp only [lookasideref02_Hole.l0]
    have b1 := rBit a i k ha (by omega) (by omega)
    have b2 := rBit a 43 k ha (by omega) (by omega)
    have h43 : ((43 : Nat) : Int) = 43 := rfl
    rw [h43] at b2
    simp only [Nat.reducePow] at b2
    rw [if_pos (by omega), b1, b2]
    simp only [Option.bind_some]
    have e2 : wrap64 ((i : Int) + 1) = ((i + 1 : Nat) : Int) := by
      have := m_w64 (i + 1) (by omega); simpa using this
    have hp : a / 2 ^ (i + 1) = a / 2 ^ i / 2 := by rw [Nat.pow_succ, Nat.div_div_eq_div_mul]
    have hd : 2 ^ (d + 1) = 2 * 2 ^ d := by rw [Nat.pow_succ, Nat.mul_comm]
    have h0 : 0 < 2 ^ d := Nat.two_pow_pos d
    rw [e2, ih (i + 1) k (by omega) (by omega) (by omega), hp, hd]
    generalize a / 2 ^ i = X
    generalize 2 ^ d = D at h0
    by_cases hb : a / 8796093022208 % 2 = 1
    · simp only [hb, if_true]
      by_cases hx : X % 2 = 1
      · rw [if_pos (by omega)]; congr 1; rw [decide_eq_decide]; omega
      · rw [if_neg (by omega)]; symm; simp; omega
    · have hb0 : a / 8796093022208 % 2 = 0 := by omega
      simp only [hb0]
      by_cases hx : X % 2 = 0
      · rw [if_pos (by omega)]; congr 1; rw [decide_eq_decide]; simp; omega
      · rw [if_neg (by omega)]; symm; simp; omega
theorem rHole (a : Nat) (ha : a < 18446744073709551616) (k : Nat) (hk : 200 ≤ k) : lookasideref02_Hole.f k (a : Int) = some (decide (a / 8796093022208 ≠ 0 ∧ a / 8796093022208 ≠ 2097151)) := by
  have := rHole_l a ha 20 44 k rfl (by omega) (by omega)
  have h44 : ((44 : Nat) : Int) = 44 := rfl
  rw [h44] at this
  simp only [Nat.reducePow] at this
  unfold lookasideref02_Hole.f
  rw [this]
  congr 1; rw [decide_eq_decide]
  split <;> omega

theorem pBase (a : Nat) (ha : a < 18446744073709551616) (s : Int) : page_Base.f (a : Int) s = some ((a / bytesOf s * bytesOf s : Nat) : Int) := by
  unfold page_Base.f
  rw [pMay, pOffset a ha]
  by_cases h : okSize s
  · have e := Nat.div_add_mod a (bytesOf s)
    have e2 : bytesOf s * (a / bytesOf s) = a / bytesOf s * bytesOf s := Nat.mul_comm _ _
    simp only [h, decide_true, Option.bind_some, if_true, Option.some.injEq]
    rw [IntKind.wrap_u64]; omega
  · simp [h, bytes_bad h]

theorem pIn (a b : Nat) (ha : a < 18446744073709551616) (hb : b < 18446744073709551616) (s : Int) : page_In.f (a : Int) (b : Int) s = some (decide (okSize s ∧ a / bytesOf s * bytesOf s = b / bytesOf s * bytesOf s)) := by
  unfold page_In.f
  rw [pMay, pBase a ha, pBase b hb]
  by_cases h : okSize s
  · simp only [h, decide_true, Option.bind_some, if_true, true_and, Option.some.injEq]
    rw [Bool.eq_iff_iff]; simp only [beq_iff_eq, decide_eq_true_eq]; omega
  · simp [h]

theorem rBytes (s : Int) : lookasideref02_Bytes.f s = some (bytesOf s : Int) := by
  unfold lookasideref02_Bytes.f bytesOf
  by_cases h0 : s = 0
  · simp [h0]
  · by_cases h1 : s = 1
    · simp [h1]
    · by_cases h2 : s = 2
      · simp [h2]
      · by_cases h3 : s = 3
        · simp [h3]
        · simp [h0, h1, h2, h3]
theorem bytes_pos {s : Int} (h : okSize s) : 8192 ≤ bytesOf s ∧ bytesOf s ≤ 4194304 := by
  rcases size_cases s with rfl | rfl | rfl | rfl | h'
  · decide
  · decide
  · decide
  · decide
  · exact absurd h h'

theorem rMay (s : Int) : lookasideref02_May.f s = some (decide (okSize s)) := by
  unfold lookasideref02_May.f okSize
  split
  · simp [*]; omega
  · simp [*]
theorem rBase (a : Nat) (ha : a < 18446744073709551616) (s : Int) : lookasideref02_Base.f (a : Int) s = some ((a / bytesOf s * bytesOf s : Nat) : Int) := by
  unfold lookasideref02_Base.f
  rw [rMay, rBytes]
  by_cases h : okSize s
  · have hb := bytes_pos h
    simp only [h, decide_true, Option.bind_some, if_true]
    rw [if_neg (by omega), m_tdiv, m_wu _ (Nat.lt_of_le_of_lt (Nat.div_le_self _ _) ha)]
    have hm : a / bytesOf s * bytesOf s < 18446744073709551616 := Nat.lt_of_le_of_lt (Nat.div_mul_le_self _ _) ha
    have e : ((a / bytesOf s : Nat) : Int) * (bytesOf s : Int) = ((a / bytesOf s * bytesOf s : Nat) : Int) := (Int.natCast_mul _ _).symm
    rw [e, m_wu _ hm]
  · simp [h, bytes_bad h]

def vaOf (a : Nat) : Nat := if a / 8796093022208 % 2 = 1 then a % 8796093022208 + 18446735277616529408 else a % 8796093022208
theorem vaOf_lt (a : Nat) : vaOf a < 18446744073709551616 := by unfold vaOf; split <;> omega
theorem vaOf_hole (a : Nat) : ¬ (vaOf a / 8796093022208 ≠ 0 ∧ vaOf a / 8796093022208 ≠ 2097151) := by unfold vaOf; split <;> omega
theorem rVa (a : Nat) (ha : a < 18446744073709551616) (k : Nat) (hk : 100 ≤ k) : lookasideref02_Va.f k (a : Int) = some (vaOf a : Int) := by
  unfold lookasideref02_Va.f vaOf
  have b2 := rBit a 43 k ha (by omega) (by omega)
  have h43 : ((43 : Nat) : Int) = 43 := rfl
  rw [h43] at b2
  simp only [Nat.reducePow] at b2
  rw [b2]
  simp only [Option.bind_some]
  have e : Int.tmod (a : Int) 8796093022208 = ((a % 8796093022208 : Nat) : Int) := rfl
  rw [e]
  by_cases h : a / 8796093022208 % 2 = 1
  · rw [if_pos (by omega), if_pos h, IntKind.wrap_u64]; refine congrArg some ?_; omega
  · rw [if_neg (by omega), if_neg h]

/-- An entry is an address's. -/
def hitsOf (s c : Int) (va : Nat) (g v : Bool) (A : Nat) (ctx : Int) : Bool := v && decide (okSize s) && decide (A / bytesOf s * bytesOf s = va / bytesOf s * bytesOf s) && (g || c == ctx)
theorem pHits (s c pa ctx : Int) (va A : Nat) (w p x l g q v : Bool) (hva : va < 18446744073709551616) (hA : A < 18446744073709551616) : tte_Hits.f s c (va : Int) pa w p x l g q v (A : Int) ctx = some (hitsOf s c va g v A ctx) := by
  unfold tte_Hits.f hitsOf
  rw [pIn A va hA hva]
  cases v
  · simp
  · by_cases h : okSize s
    · simp only [h, decide_true, Option.bind_some, if_true, true_and, Bool.true_and]
      by_cases e : A / bytesOf s * bytesOf s = va / bytesOf s * bytesOf s
      · rw [decide_eq_true e]; cases g <;> rfl
      · rw [decide_eq_false e]; rfl
    · simp [h]
theorem rHits (s c pa ctx : Int) (va A : Nat) (w p x l g q v : Bool) (hva : va < 18446744073709551616) (hA : A < 18446744073709551616) : lookasideref03_Hits.f s c (va : Int) pa w p x l g q v (A : Int) ctx = some (hitsOf s c va g v A ctx) := by
  unfold lookasideref03_Hits.f hitsOf
  rw [rMay, rBase A hA, rBase va hva]
  cases v
  · simp
  · by_cases h : okSize s
    · simp only [h, decide_true, Option.bind_some, if_true, Bool.true_and]
      by_cases e : A / bytesOf s * bytesOf s = va / bytesOf s * bytesOf s
      · rw [if_pos (congrArg (fun z : Nat => (z : Int)) e), decide_eq_true e]; cases g <;> rfl
      · rw [if_neg (fun z => e (Int.ofNat_inj.mp z)), decide_eq_false e]; rfl
    · simp [h]

/-! ### An entry that may be, made of any -/
def foldN (n : Int) : Nat := (if n < 0 then -(n + 1) else n).toNat
def goodS (a0 : Int) : Nat := foldN a0 % 4
def goodC (a1 : Int) (g : Bool) : Nat := if g then 0 else foldN a1 % 8192
def goodV (a0 : Int) (va : Nat) : Nat := vaOf va / bytesOf (goodS a0 : Int) * bytesOf (goodS a0 : Int)
def goodP (a0 : Int) (pa : Nat) : Nat := pa % 2199023255552 / bytesOf (goodS a0 : Int) * bytesOf (goodS a0 : Int)
theorem goodS_ok (a0 : Int) : okSize (goodS a0 : Int) := by unfold okSize goodS; omega
theorem goodS_lt (a0 : Int) : goodS a0 < 4 := by unfold goodS; omega
theorem goodC_lt (a1 : Int) (g : Bool) : goodC a1 g < 8192 := by unfold goodC; split <;> omega
theorem goodP_lt (a0 : Int) (pa : Nat) : goodP a0 pa < 2199023255552 := by
  unfold goodP; exact Nat.lt_of_le_of_lt (Nat.div_mul_le_self _ _) (Nat.mod_lt _ (by decide))
theorem goodV_lt (a0 : Int) (va : Nat) : goodV a0 va < 18446744073709551616 := by
  unfold goodV; exact Nat.lt_of_le_of_lt (Nat.div_mul_le_self _ _) (vaOf_lt va)
/-- What sizes have in common. -/
theorem bytes_mul {s : Int} (h : okSize s) : ∃ c, 0 < c ∧ c ≤ 512 ∧ bytesOf s = 8192 * c ∧ 4194304 = bytesOf s * (4194304 / bytesOf s) := by
  rcases size_cases s with rfl | rfl | rfl | rfl | h'
  · exact ⟨1, by decide⟩
  · exact ⟨8, by decide⟩
  · exact ⟨64, by decide⟩
  · exact ⟨512, by decide⟩
  · exact absurd h h'
theorem goodP_mul (a0 : Int) (pa : Nat) : goodP a0 pa % 8192 = 0 := by
  obtain ⟨c, _, _, hb, _⟩ := bytes_mul (goodS_ok a0)
  unfold goodP; rw [hb, ← Nat.mul_assoc, Nat.mul_right_comm, Nat.mul_mod_left]
theorem goodP_mod (a0 : Int) (pa : Nat) : goodP a0 pa % bytesOf (goodS a0 : Int) = 0 := by unfold goodP; exact Nat.mul_mod_left _ _
theorem goodV_mod (a0 : Int) (va : Nat) : goodV a0 va % bytesOf (goodS a0 : Int) = 0 := by unfold goodV; exact Nat.mul_mod_left _ _
theorem goodV_hole (a0 : Int) (va : Nat) : ¬ (goodV a0 va / 8796093022208 ≠ 0 ∧ goodV a0 va / 8796093022208 ≠ 2097151) := by
  have hv := vaOf_hole va
  unfold goodV
  rcases size_cases (goodS a0 : Int) with e | e | e | e | e
  · rw [e]; simp only [bytesOf, if_true]; omega
  · rw [e]; simp only [bytesOf]; simp; omega
  · rw [e]; simp only [bytesOf]; simp; omega
  · rw [e]; simp only [bytesOf]; simp; omega
  · exact absurd (goodS_ok a0) e
theorem rGood (a0 a1 : Int) (va pa : Nat) (w p x l g q v : Bool) (h0 : (Lit.int .i64 a0).wf = true) (h1 : (Lit.int .i64 a1).wf = true) (hva : va < 18446744073709551616) (hpa : pa < 18446744073709551616) (k : Nat) (hk : 110 ≤ k) :
    lookasideref03_Good.f k a0 a1 (va : Int) (pa : Int) w p x l g q v = some ((goodS a0 : Int), (goodC a1 g : Int), (goodV a0 va : Int), (goodP a0 pa : Int), w, p, x, l, g, q, true) := by
  obtain ⟨b1, b2⟩ := m_i64 h0
  obtain ⟨b3, b4⟩ := m_i64 h1
  obtain ⟨k, rfl⟩ : ∃ m, k = m + 2 := ⟨k - 2, by omega⟩
  have ep : Int.tmod (pa : Int) 2199023255552 = ((pa % 2199023255552 : Nat) : Int) := rfl
  have hp : pa % 2199023255552 < 18446744073709551616 := by omega
  have j1 : ∀ (c : Int) (s : Int), 0 ≤ c → okSize s → lookasideref03_Good.j1 k c a0 a1 (va : Int) (pa : Int) w p x l g q v s 0 0 0 w p x l g q true = lookasideref03_Good.j1 k c a0 a1 (va : Int) (pa : Int) w p x l g q v s 0 0 0 w p x l g q true := fun _ _ _ _ => rfl
  obtain ⟨k, rfl⟩ : ∃ m, k = m + 1 := ⟨k - 1, by omega⟩
  have hS : ∀ n : Int, 0 ≤ n → n = (if a0 < 0 then -(a0 + 1) else a0) → Int.tmod n 4 = (goodS a0 : Int) := by
    intro n hn e; rw [Int.tmod_eq_emod_of_nonneg hn, e]; unfold goodS foldN; split <;> omega
  have hC : ∀ n : Int, 0 ≤ n → n = (if a1 < 0 then -(a1 + 1) else a1) → Int.tmod n 8192 = ((foldN a1 % 8192 : Nat) : Int) := by
    intro n hn e; rw [Int.tmod_eq_emod_of_nonneg hn, e]; unfold foldN; split <;> omega
  have hj1 : ∀ (c s : Int), 0 ≤ c → c = (if a1 < 0 then -(a1 + 1) else a1) → s = (goodS a0 : Int) → lookasideref03_Good.j1 (k + 1) c a0 a1 (va : Int) (pa : Int) w p x l g q v s 0 0 0 w p x l g q true = some ((goodS a0 : Int), (goodC a1 g : Int), (goodV a0 va : Int), (goodP a0 pa : Int), w, p, x, l, g, q, true) := by
    intro c s hc ec es
    subst es
    rw [lookasideref03_Good.j1, rVa va hva k (by omega), ep]
    simp only [Option.bind_some]
    rw [rBase _ (vaOf_lt va), rBase _ hp, hC c hc ec]
    unfold goodC goodV goodP
    cases g <;> rfl
  have hj0 : ∀ (n s : Int), 0 ≤ n → n = (if a0 < 0 then -(a0 + 1) else a0) → lookasideref03_Good.j0 (k + 2) n a0 a1 (va : Int) (pa : Int) w p x l g q v 0 0 0 0 w p x l g q true = some ((goodS a0 : Int), (goodC a1 g : Int), (goodV a0 va : Int), (goodP a0 pa : Int), w, p, x, l, g, q, true) := by
    intro n s hn en
    rw [lookasideref03_Good.j0, hS n hn en]
    by_cases h : a1 < 0
    · rw [if_pos h]; exact hj1 _ _ (by unfold wrap64; omega) (by rw [if_pos h]; unfold wrap64; omega) rfl
    · rw [if_neg h]; exact hj1 _ _ (by omega) (by rw [if_neg h]) rfl
  clear j1
  unfold lookasideref03_Good.f
  by_cases h : a0 < 0
  · rw [if_pos h]
    have := at_rounds (fun k => (lookasideref03_Good.mono_l k).1 (wrap64 (-(wrap64 (a0 + 1)))) a0 a1 (va : Int) (pa : Int) w p x l g q v 0 0 0 0 w p x l g q true) (show k + 2 ≤ k + 1 + 2 by omega) (hj0 _ 0 (by unfold wrap64; omega) (by rw [if_pos h]; unfold wrap64; omega))
    exact this
  · rw [if_neg h]
    have := at_rounds (fun k => (lookasideref03_Good.mono_l k).1 a0 a0 a1 (va : Int) (pa : Int) w p x l g q v 0 0 0 0 w p x l g q true) (show k + 2 ≤ k + 1 + 2 by omega) (hj0 _ 0 (by omega) (by rw [if_neg h]))
    exact this

/-! ### What attributes say of an access -/
def judgeOf (w p e q : Bool) (kind : Int) (priv : Bool) : Int :=
  if (p && !priv) = true then 3 else if (q && kind != 3) = true then 4 else if (kind == 1 && !w) = true then 5 else if (kind == 2 && !e) = true then 6 else 0
theorem pJudge (w p e l g q : Bool) (kind : Int) (priv : Bool) (va : Int) (k : Nat) (hk : 10 ≤ k) : fault_Judge.f k w p e l g q kind priv va = some (judgeOf w p e q kind priv) := by
  obtain ⟨k, rfl⟩ : ∃ m, k = m + 3 := ⟨k - 3, by omega⟩
  unfold fault_Judge.f judgeOf
  by_cases h1 : kind = 1
  · subst h1; cases w <;> cases p <;> cases e <;> cases q <;> cases priv <;> rfl
  · by_cases h2 : kind = 2
    · subst h2; cases w <;> cases p <;> cases e <;> cases q <;> cases priv <;> rfl
    · by_cases h3 : kind = 3
      · subst h3; cases w <;> cases p <;> cases e <;> cases q <;> cases priv <;> rfl
      · cases w <;> cases p <;> cases e <;> cases q <;> cases priv <;> simp [fault_Judge.j0, fault_Judge.j1, fault_Judge.j2, h1, h2, h3]

theorem rJudge (w p e l g q : Bool) (kind : Int) (priv : Bool) (va : Int) (k : Nat) (hk : 10 ≤ k) : lookasideref09_Judge.f k w p e l g q kind priv va = some (judgeOf w p e q kind priv) := by
  obtain ⟨k, rfl⟩ : ∃ m, k = m + 3 := ⟨k - 3, by omega⟩
  unfold lookasideref09_Judge.f judgeOf
  by_cases h1 : kind = 1
  · subst h1; cases w <;> cases p <;> cases e <;> cases q <;> cases priv <;> rfl
  · by_cases h2 : kind = 2
    · subst h2; cases w <;> cases p <;> cases e <;> cases q <;> cases priv <;> rfl
    · by_cases h3 : kind = 3
      · subst h3; cases w <;> cases p <;> cases e <;> cases q <;> cases priv <;> rfl
      · cases w <;> cases p <;> cases e <;> cases q <;> cases priv <;> simp [lookasideref09_Judge.j0, lookasideref09_Judge.j1, lookasideref09_Judge.j2, h1, h2, h3]

/-- A number's kind of access. -/
def kindOf (n : Int) : Nat := (if n < 0 then -(n + 1) else n).toNat % 4
theorem kindOf_lt (n : Int) : kindOf n < 4 := Nat.mod_lt _ (by decide)
theorem rFGood (kind : Int) (hk : (Lit.int .i64 kind).wf = true) (priv : Bool) (va : Int) (k : Nat) : lookasideref09_Good.f k kind priv va false = some ((kindOf kind : Int), priv, va) := by
  obtain ⟨h1, h2⟩ := m_i64 hk
  unfold lookasideref09_Good.f kindOf
  by_cases h : kind < 0
  · rw [if_pos h, if_neg (by decide), if_pos h]
    have e : wrap64 (-(wrap64 (kind + 1))) = -(kind + 1) := by unfold wrap64; omega
    rw [e, Int.tmod_eq_emod_of_nonneg (by omega)]
    refine congrArg some (Prod.ext ?_ rfl); omega
  · rw [if_neg h, if_neg (by decide), if_neg h, Int.tmod_eq_emod_of_nonneg (by omega)]
    refine congrArg some (Prod.ext ?_ rfl); omega

theorem fliv10 : lookasidelaw09_lives.f 10 = some true := by decide +kernel
theorem fliv (k : Nat) (hk : 10 ≤ k) : lookasidelaw09_lives.f k = some true := at_rounds lookasidelaw09_lives.mono hk fliv10

theorem rFGoodT (kind : Int) (hk : (Lit.int .i64 kind).wf = true) (priv : Bool) (va : Nat) (hva : va < 18446744073709551616) (k : Nat) (hk2 : 100 ≤ k) : lookasideref09_Good.f k kind priv (va : Int) true = some ((kindOf kind : Int), priv, (vaOf va : Int)) := by
  obtain ⟨h1, h2⟩ := m_i64 hk
  unfold lookasideref09_Good.f kindOf
  rw [if_pos rfl, if_pos rfl, rVa va hva k hk2, Option.bind_some, Option.bind_some]
  by_cases h : kind < 0
  · rw [if_pos h, if_pos h]
    have e : wrap64 (-(wrap64 (kind + 1))) = -(kind + 1) := by unfold wrap64; omega
    rw [e, Int.tmod_eq_emod_of_nonneg (by omega)]
    refine congrArg some (Prod.ext ?_ rfl); omega
  · rw [if_neg h, if_neg h, Int.tmod_eq_emod_of_nonneg (by omega)]
    refine congrArg some (Prod.ext ?_ rfl); omega
def ofOf (s c : Int) (V : Nat) (w p x g q v : Bool) (ctx kind : Int) (priv : Bool) (va : Nat) : Int :=
  if va / 8796093022208 ≠ 0 ∧ va / 8796093022208 ≠ 2097151 then 1 else if hitsOf s c V g v va ctx = true then judgeOf w p x q kind priv else 2
theorem pOf (s c P ctx kind : Int) (V va : Nat) (w p x l g q v priv : Bool) (hV : V < 18446744073709551616) (hva : va < 18446744073709551616) (k : Nat) (hk : 200 ≤ k) : fault_Of.f k s c (V : Int) P w p x l g q v ctx kind priv (va : Int) = some (ofOf s c V w p x g q v ctx kind priv va) := by
  unfold fault_Of.f ofOf
  rw [pHole va hva, Option.bind_some]
  by_cases h : va / 8796093022208 ≠ 0 ∧ va / 8796093022208 ≠ 2097151
  · rw [decide_eq_true h, if_pos rfl, if_pos h]
  · rw [decide_eq_false h, if_neg (by decide), if_neg h, pHits _ _ _ _ V va w p x l g q v hV hva, Option.bind_some]
    by_cases e : hitsOf s c V g v va ctx = true
    · rw [if_pos e, if_pos e, pJudge _ _ _ _ _ _ _ _ _ k (by omega), Option.bind_some]
    · rw [if_neg e, if_neg e]
theorem rOf (s c P ctx kind : Int) (V va : Nat) (w p x l g q v priv : Bool) (hV : V < 18446744073709551616) (hva : va < 18446744073709551616) (k : Nat) (hk : 200 ≤ k) : lookasideref09_Of.f k s c (V : Int) P w p x l g q v ctx kind priv (va : Int) = some (ofOf s c V w p x g q v ctx kind priv va) := by
  unfold lookasideref09_Of.f ofOf
  rw [rHole va hva k hk, Option.bind_some, rHits _ _ _ _ V va w p x l g q v hV hva, Option.bind_some]
  by_cases h : va / 8796093022208 ≠ 0 ∧ va / 8796093022208 ≠ 2097151
  · rw [decide_eq_true h, if_pos rfl, if_pos h]
  · rw [decide_eq_false h, if_neg (by decide), if_neg h]
    by_cases e : hitsOf s c V g v va ctx = true
    · rw [if_pos e, if_pos e, rJudge _ _ _ _ _ _ _ _ _ k (by omega), Option.bind_some]
    · rw [if_neg e, if_neg e]
theorem ofOf_own (a0 : Int) (c : Int) (va : Nat) (w p x g q : Bool) (kind : Int) (priv : Bool) : ofOf (goodS a0 : Int) c (goodV a0 va) w p x g q true c kind priv (goodV a0 va) = judgeOf w p x q kind priv := by
  unfold ofOf hitsOf
  rw [if_neg (goodV_hole a0 va), decide_eq_true (goodS_ok a0), decide_eq_true rfl, beq_self_eq_true, Bool.or_true]
  rfl
theorem may_is (a : Int) : (if a ≥ 0 then (some (decide (a < 4))) else (some false)) = some (decide (a ≥ 0 ∧ a ≤ 3)) := by
  by_cases h : a ≥ 0
  · rw [if_pos h]; refine congrArg some ?_; rw [Bool.eq_iff_iff, decide_eq_true_eq, decide_eq_true_eq]; omega
  · rw [if_neg h]; refine congrArg some ?_; rw [decide_eq_false (fun z => h z.1)]
theorem may_rest (kind : Int) (X : Option Bool) (h : X = some true) : (if kind ≥ 0 then (if (decide (kind ≥ 0 ∧ kind ≤ 3) == decide (kind ≤ 3)) = true then X else some false) else (if (decide (kind ≥ 0 ∧ kind ≤ 3) == false) = true then X else some false)) = some true := by
  by_cases h1 : kind ≥ 0
  · rw [if_pos h1, if_pos (by rw [beq_iff_eq, Bool.eq_iff_iff, decide_eq_true_eq, decide_eq_true_eq]; omega), h]
  · rw [if_neg h1, if_pos (by rw [decide_eq_false (fun z => h1 z.1)]; rfl), h]
theorem FaultJudges : lookasidelaw09_FaultJudges.Pure := by
  intro w1 p1 x1 l1 g1 q1 a0 a1 va0 pa0 w p x l g q v ctx kind priv u0 h0 h1 h2 h3 h4 h5 h6
  obtain ⟨b1, b2⟩ := m_u64 h2
  obtain ⟨b3, b4⟩ := m_u64 h3
  obtain ⟨b5, b6⟩ := m_u64 h6
  obtain ⟨va, rfl⟩ := Int.eq_ofNat_of_zero_le b1
  obtain ⟨pa, rfl⟩ := Int.eq_ofNat_of_zero_le b3
  obtain ⟨u, rfl⟩ := Int.eq_ofNat_of_zero_le b5
  refine ⟨300, ?_⟩
  have hva : va < 18446744073709551616 := by omega
  have hpa : pa < 18446744073709551616 := by omega
  have hu : u < 18446744073709551616 := by omega
  have hV := goodV_lt a0 va
  unfold lookasidelaw09_FaultJudges.f fault_May.f
  rw [rFGood kind h5 priv (u : Int) 300, Option.bind_some, rFGoodT kind h5 priv u hu 300 (by omega), Option.bind_some, rGood a0 a1 va pa w p x l g q v h0 h1 hva hpa 300 (by omega), Option.bind_some, may_is, Option.bind_some]
  simp only
  rw [pJudge _ _ _ _ _ _ _ _ _ 300 (by omega), Option.bind_some, rJudge _ _ _ _ _ _ _ _ _ 300 (by omega), Option.bind_some, if_pos rfl]
  refine may_rest kind _ ?_
  rw [pOf _ _ _ _ _ va u w p x l g q v priv hva hu 300 (by omega), rOf _ _ _ _ _ va u w p x l g q v priv hva hu 300 (by omega), Option.bind_some, Option.bind_some, if_pos rfl]
  rw [pOf _ _ _ _ _ (goodV a0 va) u w p x l g q true priv hV hu 300 (by omega), rOf _ _ _ _ _ (goodV a0 va) u w p x l g q true priv hV hu 300 (by omega), Option.bind_some, Option.bind_some, if_pos rfl]
  rw [pOf _ _ _ _ _ (goodV a0 va) (goodV a0 va) w p x l g q true priv hV hV 300 (by omega), rJudge _ _ _ _ _ _ _ _ _ 300 (by omega), ofOf_own, Option.bind_some, Option.bind_some, if_pos rfl, fliv 300 (by omega), Option.bind_some]

end Go.Proofs.Ytecbngibhobgbaa.Pure
