/- What entries are: which may be, what they hit, which part; as the program and as the document tell it; for entries of whole numbers that are theirs. -/
import Derived.Test.YthclbckkfgmbaaaTl0
import Derived.Test.YthclbckkfgmbaaaQTlbPlaysx5
import Derived.Laws.BitsAllLaws
import Derived.Laws.Bits64
set_option linter.unusedVariables false
set_option linter.unusedSimpArgs false
namespace Go.Proofs.Ythclbckkfgmbaaa.QTlbPlays
open Go.RowKit Go.Proofs.YthclbckkfgmbaaaW.PrintWords Go.Proofs.YthclbckkfgmbaaaW.PrintLast Go.Proofs.YthclbckkfgmbaaaW.PrintMore
/-! ### Plain arithmetic of words -/
theorem m_u64 {a : Int} (h : (Lit.int .u64 a).wf = true) : 0 ≤ a ∧ a < 18446744073709551616 := by
  simp [Lit.wf, IntKind.min, IntKind.max, IntKind.signed, IntKind.bits] at h; omega
theorem m_i64 {a : Int} (h : (Lit.int .i64 a).wf = true) : -9223372036854775808 ≤ a ∧ a < 9223372036854775808 := by
  simp [Lit.wf, IntKind.min, IntKind.max, IntKind.signed, IntKind.bits] at h; omega
theorem m_shr (x : Int) (n : Nat) (h : n ≤ 64) : shr .u64 x (n : Int) = x / 2 ^ n := by
  unfold shr; rw [Int.toNat_natCast, Nat.min_eq_left (by simpa [IntKind.bits] using h)]
theorem m_shl (x : Int) (n : Nat) (h : n ≤ 64) : shl .u64 x (n : Int) = x * 2 ^ n % 18446744073709551616 := by
  unfold shl; rw [Int.toNat_natCast, Nat.min_eq_left (by simpa [IntKind.bits] using h), IntKind.wrap_u64]
theorem m_maskn (n : Nat) (h1 : 1 ≤ n) (h2 : n ≤ 64) : (18446744073709551615 : Int) / 2 ^ (64 - n) = ((2 ^ n - 1 : Nat) : Int) := by
  have hp : 2 ^ (64 - n) * 2 ^ n = (18446744073709551616 : Nat) := by rw [← Nat.pow_add, show 64 - n + n = 64 by omega]
  have h0 : 0 < 2 ^ (64 - n) := Nat.two_pow_pos _
  have h3 : 0 < 2 ^ n := Nat.two_pow_pos _
  have e : (18446744073709551615 : Nat) / 2 ^ (64 - n) = 2 ^ n - 1 := by
    apply Nat.div_eq_of_lt_le
    · rw [Nat.mul_comm, Nat.mul_sub, hp]; omega
    · rw [Nat.sub_add_cancel h3, Nat.mul_comm, hp]; omega
  have := congrArg (fun x : Nat => (x : Int)) e
  simpa using this
theorem m_mask (p n : Nat) (h1 : 1 ≤ n) (h2 : p + n ≤ 64) : shl .u64 (shr .u64 18446744073709551615 ((64 - n : Nat) : Int)) (p : Int) = (((2 ^ n - 1) * 2 ^ p : Nat) : Int) := by
  rw [m_shr _ _ (by omega), m_shl _ _ (by omega), m_maskn n h1 (by omega)]
  have hp : 2 ^ n * 2 ^ p ≤ (18446744073709551616 : Nat) := by
    rw [← Nat.pow_add]; exact Nat.le_trans (Nat.pow_le_pow_right (by decide) (show n + p ≤ 64 by omega)) (by decide)
  have h3 : 0 < 2 ^ p := Nat.two_pow_pos _
  have h4 : (2 ^ n - 1) * 2 ^ p < (18446744073709551616 : Nat) := by
    rw [Nat.sub_mul]; omega
  have e : ((2 ^ n - 1) * 2 ^ p) % (18446744073709551616 : Nat) = (2 ^ n - 1) * 2 ^ p := Nat.mod_eq_of_lt h4
  have := congrArg (fun x : Nat => (x : Int)) e
  simpa using this
theorem m_get (a : Nat) (ha : a < 18446744073709551616) (p n : Nat) (h1 : 1 ≤ n) (h2 : p + n ≤ 64) :
    shr .u64 (Go.bits .and .u64 (a : Int) (((2 ^ n - 1) * 2 ^ p : Nat) : Int)) (p : Int) = ((a / 2 ^ p % 2 ^ n : Nat) : Int) := by
  have hp : 2 ^ n * 2 ^ p ≤ (18446744073709551616 : Nat) := by
    rw [← Nat.pow_add]; exact Nat.le_trans (Nat.pow_le_pow_right (by decide) (show n + p ≤ 64 by omega)) (by decide)
  have h3 : 0 < 2 ^ p := Nat.two_pow_pos _
  have h4 : (2 ^ n - 1) * 2 ^ p < (18446744073709551616 : Nat) := by
    rw [Nat.sub_mul]; omega
  rw [u64_and_nat _ _ ha h4, m_shr _ _ (by omega)]
  have e : (a &&& (2 ^ n - 1) * 2 ^ p) / 2 ^ p = a / 2 ^ p % 2 ^ n := by
    rw [← Nat.shiftRight_eq_div_pow, Nat.shiftRight_and_distrib, Nat.shiftRight_eq_div_pow, Nat.shiftRight_eq_div_pow, Nat.mul_div_cancel _ h3, Nat.and_two_pow_sub_one_eq_mod]
  have := congrArg (fun x : Nat => (x : Int)) e
  simpa using this

/-! ### A bit of a word, by halving -/
theorem m_tdiv (x n : Nat) : Int.tdiv (x : Int) (n : Int) = ((x / n : Nat) : Int) := rfl
theorem m_tmod (x n : Nat) : Int.tmod (x : Int) (n : Int) = ((x % n : Nat) : Int) := rfl
theorem m_w64 (x : Nat) (h : x < 9223372036854775808) : wrap64 (x : Int) = x := by unfold wrap64; omega
theorem m_wu (x : Nat) (h : x < 18446744073709551616) : IntKind.u64.wrap (x : Int) = x := by rw [IntKind.wrap_u64]; omega

/-! ### Bits by halving -/
theorem bit_l (d : Nat) : ∀ (x c k : Nat), x < 18446744073709551616 → c + d ≤ 64 → d < k →
    lookasideref01_Bit.l0 k (x : Int) ((c + d : Nat) : Int) (c : Int) = some ((x / 2 ^ d % 2 : Nat) : Int) := by
  induction d with
  | zero =>
    intro x c k hx hc hk
    obtain ⟨k, rfl⟩ : ∃ m, k = m + 1 := ⟨k - 1, by omega⟩
    simp only [lookasideref01_Bit.l0]
    rw [if_neg (by omega)]
    show some (Int.tmod (x : Int) ((2 : Nat) : Int)) = _
    rw [m_tmod]; simp
  | succ d ih =>
    intro x c k hx hc hk
    obtain ⟨k, rfl⟩ : ∃ m, k = m + 1 := ⟨k - 1, by omega⟩
    simp only [lookasideref01_Bit.l0]
    rw [if_pos (by omega)]
    have e1 : IntKind.u64.wrap (Int.tdiv (x : Int) 2) = ((x / 2 : Nat) : Int) := by
      show IntKind.u64.wrap (Int.tdiv (x : Int) ((2 : Nat) : Int)) = _
      rw [m_tdiv, m_wu _ (by omega)]
    have e2 : wrap64 ((c : Int) + 1) = ((c + 1 : Nat) : Int) := by
      have := m_w64 (c + 1) (by omega); simpa using this
    rw [e1, e2, show c + (d + 1) = (c + 1) + d by omega, ih (x / 2) (c + 1) k (by omega) (by omega) (by omega)]
    rw [Nat.div_div_eq_div_mul, show 2 ^ (d + 1) = 2 * 2 ^ d by rw [Nat.pow_succ, Nat.mul_comm]]
theorem rBit (x i k : Nat) (hx : x < 18446744073709551616) (hi : i ≤ 64) (hk : 100 ≤ k) : lookasideref01_Bit.f k (x : Int) (i : Int) = some ((x / 2 ^ i % 2 : Nat) : Int) := by
  have := bit_l i x 0 k hx (by omega) (by omega)
  simpa [lookasideref01_Bit.f] using this

/-! ### Fields -/
theorem fMay (p n : Nat) (h1 : 1 ≤ n) (h2 : p + n ≤ 64) : field_May.f (p : Int) (n : Int) = some true := by
  unfold field_May.f
  have e : wrap64 (64 - (n : Int)) = ((64 - n : Nat) : Int) := by unfold wrap64; omega
  rw [if_pos (by omega), if_pos (by omega), if_pos (by omega), e]
  simp; omega
theorem fMask (p n : Nat) (h1 : 1 ≤ n) (h2 : p + n ≤ 64) : field_Mask.f (p : Int) (n : Int) = some (((2 ^ n - 1) * 2 ^ p : Nat) : Int) := by
  unfold field_Mask.f
  have e : wrap64 (64 - (n : Int)) = ((64 - n : Nat) : Int) := by unfold wrap64; omega
  rw [fMay p n h1 h2]
  simp only [Option.bind_some, if_true]
  rw [e, if_pos (by omega), if_pos (by omega), m_mask p n h1 h2]
theorem fGet (a : Nat) (ha : a < 18446744073709551616) (p n : Nat) (h1 : 1 ≤ n) (h2 : p + n ≤ 64) : field_Get.f (a : Int) (p : Int) (n : Int) = some ((a / 2 ^ p % 2 ^ n : Nat) : Int) := by
  unfold field_Get.f
  rw [fMay p n h1 h2, fMask p n h1 h2]
  simp only [Option.bind_some, if_true]
  rw [if_pos (by omega), m_get a ha p n h1 h2]

/-! ### Pages -/
def bytesOf (s : Int) : Nat := if s = 0 then 8192 else if s = 1 then 65536 else if s = 2 then 524288 else if s = 3 then 4194304 else 0
def okSize (s : Int) : Prop := 0 ≤ s ∧ s < 4
instance (s : Int) : Decidable (okSize s) := inferInstanceAs (Decidable (0 ≤ s ∧ s < 4))
theorem size_cases (s : Int) : s = 0 ∨ s = 1 ∨ s = 2 ∨ s = 3 ∨ ¬ okSize s := by unfold okSize; omega
theorem bytes_bad {s : Int} (h : ¬ okSize s) : bytesOf s = 0 := by
  unfold okSize at h; unfold bytesOf; rw [if_neg (by omega), if_neg (by omega), if_neg (by omega), if_neg (by omega)]
theorem pMay (s : Int) : page_May.f s = some (decide (okSize s)) := by
  unfold page_May.f okSize
  split <;> simp [*]
theorem pBits (s : Int) : page_Bits.f s = some (if okSize s then 13 + 3 * s else 0) := by
  unfold page_Bits.f
  rw [pMay]
  by_cases h : okSize s
  · have h' := h
    unfold okSize at h'
    simp only [Option.bind_some, h, decide_true, if_true]
    congr 1; unfold wrap64; omega
  · simp [h]
theorem pOffset (a : Nat) (ha : a < 18446744073709551616) (s : Int) : page_Offset.f (a : Int) s = some (if okSize s then ((a % bytesOf s : Nat) : Int) else 0) := by
  unfold page_Offset.f
  rw [pMay, pBits]
  rcases size_cases s with rfl | rfl | rfl | rfl | h
  · have := fGet a ha 0 13 (by omega) (by omega)
    simp [okSize, bytesOf] at this ⊢; rw [this]
  · have := fGet a ha 0 16 (by omega) (by omega)
    simp [okSize, bytesOf] at this ⊢; rw [this]
  · have := fGet a ha 0 19 (by omega) (by omega)
    simp [okSize, bytesOf] at this ⊢; rw [this]
  · have := fGet a ha 0 22 (by omega) (by omega)
    simp [okSize, bytesOf] at this ⊢; rw [this]
  · simp [h]
theorem pStarts (a : Nat) (ha : a < 18446744073709551616) (s : Int) : page_Starts.f (a : Int) s = some (decide (okSize s ∧ a % bytesOf s = 0)) := by
  unfold page_Starts.f
  rw [pMay, pOffset a ha]
  by_cases h : okSize s
  · simp only [h, decide_true, Option.bind_some, if_true, true_and, Option.some.injEq]
    rw [Bool.eq_iff_iff]; simp; omega
  · simp [h]

theorem pBase (a : Nat) (ha : a < 18446744073709551616) (s : Int) : page_Base.f (a : Int) s = some ((a / bytesOf s * bytesOf s : Nat) : Int) := by
  unfold page_Base.f
  rw [pMay, pOffset a ha]
  by_cases h : okSize s
  · have e := Nat.div_add_mod a (bytesOf s)
    have e2 : bytesOf s * (a / bytesOf s) = a / bytesOf s * bytesOf s := Nat.mul_comm _ _
    simp only [h, decide_true, Option.bind_some, if_true, Option.some.injEq]
    rw [IntKind.wrap_u64]; omega
  · simp [h, bytes_bad h]

theorem pIn (a b : Nat) (ha : a < 18446744073709551616) (hb : b < 18446744073709551616) (s : Int) : page_In.f (a : Int) (b : Int) s = some (decide (okSize s ∧ a / bytesOf s * bytesOf s = b / bytesOf s * bytesOf s)) := by
  unfold page_In.f
  rw [pMay, pBase a ha, pBase b hb]
  by_cases h : okSize s
  · simp only [h, decide_true, Option.bind_some, if_true, true_and, Option.some.injEq]
    rw [Bool.eq_iff_iff]; simp only [beq_iff_eq, decide_eq_true_eq]; omega
  · simp [h]

theorem pHole (a : Nat) (ha : a < 18446744073709551616) : page_Hole.f (a : Int) = some (decide (a / 8796093022208 ≠ 0 ∧ a / 8796093022208 ≠ 2097151)) := by
  unfold page_Hole.f
  have := fGet a ha 43 21 (by omega) (by omega)
  simp only [Nat.reducePow] at this
  have e : a / 8796093022208 % 2097152 = a / 8796093022208 := by omega
  rw [e] at this
  have h43 : ((43 : Nat) : Int) = 43 := rfl
  have h21 : ((21 : Nat) : Int) = 21 := rfl
  rw [h43, h21] at this
  rw [this]
  simp only [Option.bind_some]
  by_cases h0 : a / 8796093022208 = 0
  · rw [h0]; simp
  · rw [if_neg (by omega)]
    simp only [ne_eq, h0, not_false_eq_true, true_and, Option.some.injEq]
    rw [Bool.eq_iff_iff]; simp; omega

theorem rBytes (s : Int) : lookasideref02_Bytes.f s = some (bytesOf s : Int) := by
  unfold lookasideref02_Bytes.f bytesOf
  by_cases h0 : s = 0
  · simp [h0]
  · by_cases h1 : s = 1
    · simp [h1]
    · by_cases h2 : s = 2
      · simp [h2]
      · by_cases h3 : s = 3
        · simp [h3]
        · simp [h0, h1, h2, h3]
theorem bytes_pos {s : Int} (h : okSize s) : 8192 ≤ bytesOf s ∧ bytesOf s ≤ 4194304 := by
  rcases size_cases s with rfl | rfl | rfl | rfl | h'
  · decide
  · decide
  · decide
  · decide
  · exact absurd h h'

theorem rMay (s : Int) : lookasideref02_May.f s = some (decide (okSize s)) := by
  unfold lookasideref02_May.f okSize
  split
  · simp [*]; omega
  · simp [*]
theorem rBase (a : Nat) (ha : a < 18446744073709551616) (s : Int) : lookasideref02_Base.f (a : Int) s = some ((a / bytesOf s * bytesOf s : Nat) : Int) := by
  unfold lookasideref02_Base.f
  rw [rMay, rBytes]
  by_cases h : okSize s
  · have hb := bytes_pos h
    simp only [h, decide_true, Option.bind_some, if_true]
    rw [if_neg (by omega), m_tdiv, m_wu _ (Nat.lt_of_le_of_lt (Nat.div_le_self _ _) ha)]
    have hm : a / bytesOf s * bytesOf s < 18446744073709551616 := Nat.lt_of_le_of_lt (Nat.div_mul_le_self _ _) ha
    have e : ((a / bytesOf s : Nat) : Int) * (bytesOf s : Int) = ((a / bytesOf s * bytesOf s : Nat) : Int) := (Int.natCast_mul _ _).symm
    rw [e, m_wu _ hm]
  · simp [h, bytes_bad h]

def vaOf (a : Nat) : Nat := if a / 8796093022208 % 2 = 1 then a % 8796093022208 + 18446735277616529408 else a % 8796093022208
theorem vaOf_lt (a : Nat) : vaOf a < 18446744073709551616 := by unfold vaOf; split <;> omega
theorem vaOf_hole (a : Nat) : ¬ (vaOf a / 8796093022208 ≠ 0 ∧ vaOf a / 8796093022208 ≠ 2097151) := by unfold vaOf; split <;> omega
theorem rVa (a : Nat) (ha : a < 18446744073709551616) (k : Nat) (hk : 100 ≤ k) : lookasideref02_Va.f k (a : Int) = some (vaOf a : Int) := by
  unfold lookasideref02_Va.f vaOf
  have b2 := rBit a 43 k ha (by omega) (by omega)
  have h43 : ((43 : Nat) : Int) = 43 := rfl
  rw [h43] at b2
  simp only [Nat.reducePow] at b2
  rw [b2]
  simp only [Option.bind_some]
  have e : Int.tmod (a : Int) 8796093022208 = ((a % 8796093022208 : Nat) : Int) := rfl
  rw [e]
  by_cases h : a / 8796093022208 % 2 = 1
  · rw [if_pos (by omega), if_pos h, IntKind.wrap_u64]; refine congrArg some ?_; omega
  · rw [if_neg (by omega), if_neg h]

/-- An entry is an address's. -/
def hitsOf (s c : Int) (va : Nat) (g v : Bool) (A : Nat) (ctx : Int) : Bool := v && decide (okSize s) && decide (A / bytesOf s * bytesOf s = va / bytesOf s * bytesOf s) && (g || c == ctx)
theorem pHits (s c pa ctx : Int) (va A : Nat) (w p x l g q v : Bool) (hva : va < 18446744073709551616) (hA : A < 18446744073709551616) : tte_Hits.f s c (va : Int) pa w p x l g q v (A : Int) ctx = some (hitsOf s c va g v A ctx) := by
  unfold tte_Hits.f hitsOf
  rw [pIn A va hA hva]
  cases v
  · simp
  · by_cases h : okSize s
    · simp only [h, decide_true, Option.bind_some, if_true, true_and, Bool.true_and]
      by_cases e : A / bytesOf s * bytesOf s = va / bytesOf s * bytesOf s
      · rw [decide_eq_true e]; cases g <;> rfl
      · rw [decide_eq_false e]; rfl
    · simp [h]
theorem rHits (s c pa ctx : Int) (va A : Nat) (w p x l g q v : Bool) (hva : va < 18446744073709551616) (hA : A < 18446744073709551616) : lookasideref03_Hits.f s c (va : Int) pa w p x l g q v (A : Int) ctx = some (hitsOf s c va g v A ctx) := by
  unfold lookasideref03_Hits.f hitsOf
  rw [rMay, rBase A hA, rBase va hva]
  cases v
  · simp
  · by_cases h : okSize s
    · simp only [h, decide_true, Option.bind_some, if_true, Bool.true_and]
      by_cases e : A / bytesOf s * bytesOf s = va / bytesOf s * bytesOf s
      · rw [if_pos (congrArg (fun z : Nat => (z : Int)) e), decide_eq_true e]; cases g <;> rfl
      · rw [if_neg (fun z => e (Int.ofNat_inj.mp z)), decide_eq_false e]; rfl
    · simp [h]

/-! ### An entry that may be, made of any -/
def foldN (n : Int) : Nat := (if n < 0 then -(n + 1) else n).toNat
def goodS (a0 : Int) : Nat := foldN a0 % 4
def goodC (a1 : Int) (g : Bool) : Nat := if g then 0 else foldN a1 % 8192
def goodV (a0 : Int) (va : Nat) : Nat := vaOf va / bytesOf (goodS a0 : Int) * bytesOf (goodS a0 : Int)
def goodP (a0 : Int) (pa : Nat) : Nat := pa % 2199023255552 / bytesOf (goodS a0 : Int) * bytesOf (goodS a0 : Int)
theorem goodS_ok (a0 : Int) : okSize (goodS a0 : Int) := by unfold okSize goodS; omega
theorem goodS_lt (a0 : Int) : goodS a0 < 4 := by unfold goodS; omega
theorem goodC_lt (a1 : Int) (g : Bool) : goodC a1 g < 8192 := by unfold goodC; split <;> omega
theorem goodP_lt (a0 : Int) (pa : Nat) : goodP a0 pa < 2199023255552 := by
  unfold goodP; exact Nat.lt_of_le_of_lt (Nat.div_mul_le_self _ _) (Nat.mod_lt _ (by decide))
theorem goodV_lt (a0 : Int) (va : Nat) : goodV a0 va < 18446744073709551616 := by
  unfold goodV; exact Nat.lt_of_le_of_lt (Nat.div_mul_le_self _ _) (vaOf_lt va)
/-- What sizes have in common. -/
theorem bytes_mul {s : Int} (h : okSize s) : ∃ c, 0 < c ∧ c ≤ 512 ∧ bytesOf s = 8192 * c ∧ 4194304 = bytesOf s * (4194304 / bytesOf s) := by
  rcases size_cases s with rfl | rfl | rfl | rfl | h'
  · exact ⟨1, by decide⟩
  · exact ⟨8, by decide⟩
  · exact ⟨64, by decide⟩
  · exact ⟨512, by decide⟩
  · exact absurd h h'
theorem goodP_mul (a0 : Int) (pa : Nat) : goodP a0 pa % 8192 = 0 := by
  obtain ⟨c, _, _, hb, _⟩ := bytes_mul (goodS_ok a0)
  unfold goodP; rw [hb, ← Nat.mul_assoc, Nat.mul_right_comm, Nat.mul_mod_left]
theorem goodP_mod (a0 : Int) (pa : Nat) : goodP a0 pa % bytesOf (goodS a0 : Int) = 0 := by unfold goodP; exact Nat.mul_mod_left _ _
theorem goodV_mod (a0 : Int) (va : Nat) : goodV a0 va % bytesOf (goodS a0 : Int) = 0 := by unfold goodV; exact Nat.mul_mod_left _ _
theorem goodV_hole (a0 : Int) (va : Nat) : ¬ (goodV a0 va / 8796093022208 ≠ 0 ∧ goodV a0 va / 8796093022208 ≠ 2097151) := by
  have hv := vaOf_hole va
  unfold goodV
  rcases size_cases (goodS a0 : Int) with e | e | e | e | e
  · rw [e]; simp only [bytesOf, if_true]; omega
  · rw [e]; simp only [bytesOf]; simp; omega
  · rw [e]; simp only [bytesOf]; simp; omega
  · rw [e]; simp only [bytesOf]; simp; omega
  · exact absurd (goodS_ok a0) e
theorem rGood (a0 a1 : Int) (va pa : Nat) (w p x l g q v : Bool) (h0 : (Lit.int .i64 a0).wf = true) (h1 : (Lit.int .i64 a1).wf = true) (hva : va < 18446744073709551616) (hpa : pa < 18446744073709551616) (k : Nat) (hk : 110 ≤ k) :
    lookasideref03_Good.f k a0 a1 (va : Int) (pa : Int) w p x l g q v = some ((goodS a0 : Int), (goodC a1 g : Int), (goodV a0 va : Int), (goodP a0 pa : Int), w, p, x, l, g, q, true) := by
  obtain ⟨b1, b2⟩ := m_i64 h0
  obtain ⟨b3, b4⟩ := m_i64 h1
  obtain ⟨k, rfl⟩ : ∃ m, k = m + 2 := ⟨k - 2, by omega⟩
  have ep : Int.tmod (pa : Int) 2199023255552 = ((pa % 2199023255552 : Nat) : Int) := rfl
  have hp : pa % 2199023255552 < 18446744073709551616 := by omega
  have j1 : ∀ (c : Int) (s : Int), 0 ≤ c → okSize s → lookasideref03_Good.j1 k c a0 a1 (va : Int) (pa : Int) w p x l g q v s 0 0 0 w p x l g q true = lookasideref03_Good.j1 k c a0 a1 (va : Int) (pa : Int) w p x l g q v s 0 0 0 w p x l g q true := fun _ _ _ _ => rfl
  obtain ⟨k, rfl⟩ : ∃ m, k = m + 1 := ⟨k - 1, by omega⟩
  have hS : ∀ n : Int, 0 ≤ n → n = (if a0 < 0 then -(a0 + 1) else a0) → Int.tmod n 4 = (goodS a0 : Int) := by
    intro n hn e; rw [Int.tmod_eq_emod_of_nonneg hn, e]; unfold goodS foldN; split <;> omega
  have hC : ∀ n : Int, 0 ≤ n → n = (if a1 < 0 then -(a1 + 1) else a1) → Int.tmod n 8192 = ((foldN a1 % 8192 : Nat) : Int) := by
    intro n hn e; rw [Int.tmod_eq_emod_of_nonneg hn, e]; unfold foldN; split <;> omega
  have hj1 : ∀ (c s : Int), 0 ≤ c → c = (if a1 < 0 then -(a1 + 1) else a1) → s = (goodS a0 : Int) → lookasideref03_Good.j1 (k + 1) c a0 a1 (va : Int) (pa : Int) w p x l g q v s 0 0 0 w p x l g q true = some ((goodS a0 : Int), (goodC a1 g : Int), (goodV a0 va : Int), (goodP a0 pa : Int), w, p, x, l, g, q, true) := by
    intro c s hc ec es
    subst es
    rw [lookasideref03_Good.j1, rVa va hva k (by omega), ep]
    simp only [Option.bind_some]
    rw [rBase _ (vaOf_lt va), rBase _ hp, hC c hc ec]
    unfold goodC goodV goodP
    cases g <;> rfl
  have hj0 : ∀ (n s : Int), 0 ≤ n → n = (if a0 < 0 then -(a0 + 1) else a0) → lookasideref03_Good.j0 (k + 2) n a0 a1 (va : Int) (pa : Int) w p x l g q v 0 0 0 0 w p x l g q true = some ((goodS a0 : Int), (goodC a1 g : Int), (goodV a0 va : Int), (goodP a0 pa : Int), w, p, x, l, g, q, true) := by
    intro n s hn en
    rw [lookasideref03_Good.j0, hS n hn en]
    by_cases h : a1 < 0
    · rw [if_pos h]; exact hj1 _ _ (by unfold wrap64; omega) (by rw [if_pos h]; unfold wrap64; omega) rfl
    · rw [if_neg h]; exact hj1 _ _ (by omega) (by rw [if_neg h]) rfl
  clear j1
  unfold lookasideref03_Good.f
  by_cases h : a0 < 0
  · rw [if_pos h]
    have := at_rounds (fun k => (lookasideref03_Good.mono_l k).1 (wrap64 (-(wrap64 (a0 + 1)))) a0 a1 (va : Int) (pa : Int) w p x l g q v 0 0 0 0 w p x l g q true) (show k + 2 ≤ k + 1 + 2 by omega) (hj0 _ 0 (by unfold wrap64; omega) (by rw [if_pos h]; unfold wrap64; omega))
    exact this
  · rw [if_neg h]
    have := at_rounds (fun k => (lookasideref03_Good.mono_l k).1 a0 a0 a1 (va : Int) (pa : Int) w p x l g q v 0 0 0 0 w p x l g q true) (show k + 2 ≤ k + 1 + 2 by omega) (hj0 _ 0 (by omega) (by rw [if_neg h]))
    exact this

/-- Which entries may be. -/
def mayOf (s c : Int) (va pa : Nat) (g v : Bool) : Bool :=
  v && (decide (okSize s) && (decide (0 ≤ c) && (decide (c ≤ 8191) && (!(g && c != 0) && (!(decide (va / 8796093022208 ≠ 0 ∧ va / 8796093022208 ≠ 2097151)) && (decide (va % bytesOf s = 0) && (decide (pa < 2199023255552) && decide (pa % bytesOf s = 0))))))))
theorem fFits (pa : Nat) : field_Fits.f (pa : Int) 41 = some (decide (pa < 2199023255552)) := by
  unfold field_Fits.f
  rw [if_neg (by decide), if_pos (by decide), if_pos (by decide)]
  have := m_shr (pa : Int) 41 (by omega)
  rw [show ((41 : Nat) : Int) = 41 from rfl] at this
  rw [this]
  refine congrArg some ?_
  rw [Bool.eq_iff_iff]; simp only [Int.reducePow, beq_iff_eq, decide_eq_true_eq]; omega
theorem pTMay (s c : Int) (va pa : Nat) (w p x l g q v : Bool) (hva : va < 18446744073709551616) (hpa : pa < 18446744073709551616) (k : Nat) (hk : 10 ≤ k) : tte_May.f k s c (va : Int) (pa : Int) w p x l g q v = some (mayOf s c va pa g v) := by
  obtain ⟨k, rfl⟩ : ∃ m, k = m + 1 := ⟨k - 1, by omega⟩
  have hj : ∀ b, tte_May.j0 (k + 1) b s c (va : Int) (pa : Int) w p x l g q v = some (!b && (!(decide (va / 8796093022208 ≠ 0 ∧ va / 8796093022208 ≠ 2097151)) && (decide (okSize s ∧ va % bytesOf s = 0) && (decide (pa < 2199023255552) && decide (okSize s ∧ pa % bytesOf s = 0))))) := by
    intro b
    rw [tte_May.j0, pHole va hva, pStarts va hva, pStarts pa hpa, fFits]
    simp only [Option.bind_some]
    generalize decide (va / 8796093022208 ≠ 0 ∧ va / 8796093022208 ≠ 2097151) = d1
    generalize decide (okSize s ∧ va % bytesOf s = 0) = d2
    generalize decide (pa < 2199023255552) = d3
    generalize decide (okSize s ∧ pa % bytesOf s = 0) = d4
    cases b <;> cases d1 <;> cases d2 <;> cases d3 <;> cases d4 <;> rfl
  unfold tte_May.f mayOf
  rw [pMay, hj, hj, hj]
  cases v
  · simp
  · by_cases h : okSize s
    · simp only [h, decide_true, Option.bind_some, if_true, true_and, Bool.true_and]
      by_cases h1 : c < 0
      · rw [if_pos h1]; have : ¬ 0 ≤ c := by omega
        simp [this]
      · rw [if_neg h1]
        have h1' : 0 ≤ c := by omega
        by_cases h2 : c > 8191
        · rw [if_pos h2]; have : ¬ c ≤ 8191 := by omega
          simp [this]
        · rw [if_neg h2]
          have h2' : c ≤ 8191 := by omega
          cases g <;> simp [h1', h2']
    · simp [h]

theorem meets_m (a b : Nat) (s t : Int) (hs : okSize s) (ht : okSize t) :
    okSize (mx s t) ∧ ((a / bytesOf (mx s t) * bytesOf (mx s t) = b / bytesOf (mx s t) * bytesOf (mx s t)) ↔
      ((b / bytesOf t * bytesOf t ≤ a / bytesOf s * bytesOf s ∧ a / bytesOf s * bytesOf s - b / bytesOf t * bytesOf t < bytesOf t) ∨
       (a / bytesOf s * bytesOf s ≤ b / bytesOf t * bytesOf t ∧ b / bytesOf t * bytesOf t - a / bytesOf s * bytesOf s < bytesOf s))) := by
  rcases size_cases s with rfl | rfl | rfl | rfl | h
  · rcases size_cases t with rfl | rfl | rfl | rfl | h
    all_goals first | exact absurd ht h | (simp [mx, bytesOf, okSize]; omega)
  · rcases size_cases t with rfl | rfl | rfl | rfl | h
    all_goals first | exact absurd ht h | (simp [mx, bytesOf, okSize]; omega)
  · rcases size_cases t with rfl | rfl | rfl | rfl | h
    all_goals first | exact absurd ht h | (simp [mx, bytesOf, okSize]; omega)
  · rcases size_cases t with rfl | rfl | rfl | rfl | h
    all_goals first | exact absurd ht h | (simp [mx, bytesOf, okSize]; omega)
  · exact absurd hs h
theorem mx_comm (s t : Int) : mx s t = mx t s := by unfold mx; split <;> split <;> omega
/-- The two pages meet. -/
def meets (a : Nat) (s : Int) (b : Nat) (t : Int) : Prop := okSize s ∧ okSize t ∧ a / bytesOf (mx s t) * bytesOf (mx s t) = b / bytesOf (mx s t) * bytesOf (mx s t)
instance (a : Nat) (s : Int) (b : Nat) (t : Int) : Decidable (meets a s b t) := inferInstanceAs (Decidable (_ ∧ _ ∧ _))
theorem pMeet (a b : Nat) (ha : a < 18446744073709551616) (hb : b < 18446744073709551616) (s t : Int) : page_Meet.f (a : Int) s (b : Int) t = some (decide (meets a s b t)) := by
  unfold page_Meet.f meets
  rw [pMay, pMay, pIn a b ha hb]
  by_cases h : okSize s
  · by_cases h' : okSize t
    · have hm := (meets_m a b s t h h').1
      simp [h, h', hm]
    · simp [h, h']
  · simp [h]
theorem rMeet (a b : Nat) (ha : a < 18446744073709551616) (hb : b < 18446744073709551616) (s t : Int) (k : Nat) (hk : 100 ≤ k) : lookasideref02_Meet.f k (a : Int) s (b : Int) t = some (decide (meets a s b t)) := by
  obtain ⟨k, rfl⟩ : ∃ m, k = m + 1 := ⟨k - 1, by omega⟩
  by_cases h : okSize s
  · by_cases h' : okSize t
    · obtain ⟨hm, hi⟩ := meets_m a b s t h h'
      have q1 : a / bytesOf s * bytesOf s < 18446744073709551616 := Nat.lt_of_le_of_lt (Nat.div_mul_le_self _ _) ha
      have q2 : b / bytesOf t * bytesOf t < 18446744073709551616 := Nat.lt_of_le_of_lt (Nat.div_mul_le_self _ _) hb
      have hM : meets a s b t ↔ ((b / bytesOf t * bytesOf t ≤ a / bytesOf s * bytesOf s ∧ a / bytesOf s * bytesOf s - b / bytesOf t * bytesOf t < bytesOf t) ∨
       (a / bytesOf s * bytesOf s ≤ b / bytesOf t * bytesOf t ∧ b / bytesOf t * bytesOf t - a / bytesOf s * bytesOf s < bytesOf s)) := by
        unfold meets; simp only [h, h', true_and]; exact hi
      clear hi hm
      have goal : ∀ d : Bool, (d = true ↔ meets a s b t) → lookasideref02_Meet.f (k + 1) (a : Int) s (b : Int) t = some d := by
        intro d hd
        unfold lookasideref02_Meet.f
        rw [rMay, rMay]
        simp only [h, h', decide_true, Option.bind_some, if_true, Bool.not_true, lookasideref02_Meet.j0]
        rw [rBase a ha, rBase b hb, rBytes, rBytes]
        rw [hM] at hd
        clear hM
        generalize a / bytesOf s * bytesOf s = x at q1 hd
        generalize b / bytesOf t * bytesOf t = y at q2 hd
        generalize bytesOf s = S at hd
        generalize bytesOf t = T at hd
        simp only [Option.bind_some, Bool.false_eq_true, if_false]
        by_cases g : y ≤ x
        · have e : IntKind.u64.wrap ((x : Int) - (y : Int)) = ((x - y : Nat) : Int) := by rw [IntKind.wrap_u64]; omega
          rw [if_pos (by omega), e]
          by_cases g2 : x - y < T
          · rw [if_pos (by omega), hd.mpr (.inl ⟨g, g2⟩)]
          · rw [if_neg (by omega)]
            by_cases g3 : x ≤ y
            · have e2 : IntKind.u64.wrap ((y : Int) - (x : Int)) = ((y - x : Nat) : Int) := by rw [IntKind.wrap_u64]; omega
              rw [if_pos (by omega), e2, Option.some.injEq, Bool.eq_iff_iff, hd, decide_eq_true_eq]; omega
            · rw [if_neg (by omega), Option.some.injEq, Bool.eq_iff_iff, hd]; simp; omega
        · have e2 : IntKind.u64.wrap ((y : Int) - (x : Int)) = ((y - x : Nat) : Int) := by rw [IntKind.wrap_u64]; omega
          rw [if_neg (by omega), if_pos (by omega), e2, Option.some.injEq, Bool.eq_iff_iff, hd, decide_eq_true_eq]; omega
      exact goal _ (by simp)
    · unfold lookasideref02_Meet.f meets
      rw [rMay, rMay]; simp [h, h', lookasideref02_Meet.j0]
  · unfold lookasideref02_Meet.f meets
    rw [rMay, rMay]; simp [h, lookasideref02_Meet.j0]

/-- An entry whose numbers are of their kinds. -/
structure EntW (e : Ent) : Prop where
  s : (Lit.int .i64 e.f0).wf = true
  c : (Lit.int .i64 e.f1).wf = true
  v : (Lit.int .u64 e.f2).wf = true
  p : (Lit.int .u64 e.f3).wf = true
def hitsB (e : Ent) (va ctx : Int) : Bool := hitsOf e.f0 e.f1 e.f2.toNat e.f4.f4 e.f5 va.toNat ctx
def mayB (e : Ent) : Bool := mayOf e.f0 e.f1 e.f2.toNat e.f3.toNat e.f4.f4 e.f5
def partsB (a b : Ent) : Bool := !decide (meets a.f2.toNat a.f0 b.f2.toNat b.f0) || (!a.f4.f4 && !b.f4.f4 && a.f1 != b.f1)
theorem u64_nat {x : Int} (h : (Lit.int .u64 x).wf = true) : ((x.toNat : Nat) : Int) = x ∧ x.toNat < 18446744073709551616 := by
  have := m_u64 h
  omega
theorem hits_ok {e : Ent} (h : EntW e) {va : Int} (hva : (Lit.int .u64 va).wf = true) (ctx : Int) : tte_Hits.f e.f0 e.f1 e.f2 e.f3 e.f4.f0 e.f4.f1 e.f4.f2 e.f4.f3 e.f4.f4 e.f4.f5 e.f5 va ctx = some (hitsB e va ctx) := by
  have h1 := u64_nat h.v
  have h2 := u64_nat hva
  have := pHits e.f0 e.f1 e.f3 ctx e.f2.toNat va.toNat e.f4.f0 e.f4.f1 e.f4.f2 e.f4.f3 e.f4.f4 e.f4.f5 e.f5 h1.2 h2.2
  rw [h1.1, h2.1] at this
  exact this
theorem rhits_ok {e : Ent} (h : EntW e) {va : Int} (hva : (Lit.int .u64 va).wf = true) (ctx : Int) : lookasideref03_Hits.f e.f0 e.f1 e.f2 e.f3 e.f4.f0 e.f4.f1 e.f4.f2 e.f4.f3 e.f4.f4 e.f4.f5 e.f5 va ctx = some (hitsB e va ctx) := by
  have h1 := u64_nat h.v
  have h2 := u64_nat hva
  have := rHits e.f0 e.f1 e.f3 ctx e.f2.toNat va.toNat e.f4.f0 e.f4.f1 e.f4.f2 e.f4.f3 e.f4.f4 e.f4.f5 e.f5 h1.2 h2.2
  rw [h1.1, h2.1] at this
  exact this
theorem may_ok {e : Ent} (h : EntW e) (k : Nat) (hk : 10 ≤ k) : tte_May.f k e.f0 e.f1 e.f2 e.f3 e.f4.f0 e.f4.f1 e.f4.f2 e.f4.f3 e.f4.f4 e.f4.f5 e.f5 = some (mayB e) := by
  have h1 := u64_nat h.v
  have h2 := u64_nat h.p
  have := pTMay e.f0 e.f1 e.f2.toNat e.f3.toNat e.f4.f0 e.f4.f1 e.f4.f2 e.f4.f3 e.f4.f4 e.f4.f5 e.f5 h1.2 h2.2 k hk
  rw [h1.1, h2.1] at this
  exact this
theorem parts_ok {a b : Ent} (ha : EntW a) (hb : EntW b) : tlb_Parts.f a.f0 a.f1 a.f2 a.f3 a.f4.f0 a.f4.f1 a.f4.f2 a.f4.f3 a.f4.f4 a.f4.f5 a.f5 b.f0 b.f1 b.f2 b.f3 b.f4.f0 b.f4.f1 b.f4.f2 b.f4.f3 b.f4.f4 b.f4.f5 b.f5 = some (partsB a b) := by
  have h1 := u64_nat ha.v
  have h2 := u64_nat hb.v
  have := pMeet a.f2.toNat b.f2.toNat h1.2 h2.2 a.f0 b.f0
  rw [h1.1, h2.1] at this
  unfold tlb_Parts.f partsB
  rw [this, Option.bind_some]
  by_cases c : meets a.f2.toNat a.f0 b.f2.toNat b.f0
  · rw [decide_eq_true c, if_pos rfl]
    cases a.f4.f4 <;> cases b.f4.f4 <;> simp
  · rw [decide_eq_false c, if_neg (by decide)]
    rfl
theorem rparts_ok {a b : Ent} (ha : EntW a) (hb : EntW b) (k : Nat) (hk : 100 ≤ k) : lookasideref06_Parts.f k a.f0 a.f1 a.f2 a.f3 a.f4.f0 a.f4.f1 a.f4.f2 a.f4.f3 a.f4.f4 a.f4.f5 a.f5 b.f0 b.f1 b.f2 b.f3 b.f4.f0 b.f4.f1 b.f4.f2 b.f4.f3 b.f4.f4 b.f4.f5 b.f5 = some (partsB a b) := by
  have h1 := u64_nat ha.v
  have h2 := u64_nat hb.v
  have := rMeet a.f2.toNat b.f2.toNat h1.2 h2.2 a.f0 b.f0 k hk
  rw [h1.1, h2.1] at this
  unfold lookasideref06_Parts.f partsB
  rw [this, Option.bind_some]
  by_cases c : meets a.f2.toNat a.f0 b.f2.toNat b.f0
  · rw [decide_eq_true c, if_pos rfl]
    cases a.f4.f4 <;> cases b.f4.f4 <;> simp
  · rw [decide_eq_false c, if_neg (by decide)]
    rfl
end Go.Proofs.Ythclbckkfgmbaaa.QTlbPlays
