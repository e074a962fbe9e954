/- For every address, size and number up to 20, pages follow one another, page by page, and none is in the hole; no conditions. -/
import Derived.Test.YtedjiicaikhcbaaQPageWalksx2
import Derived.Laws.BitsAllLaws
import Derived.Laws.Bits64
set_option linter.unusedVariables false
set_option linter.unusedSimpArgs false
namespace Go.Proofs.Ytedjiicaikhcbaa.Pure
open Go.RowKit Go.Proofs.Ytedjiicaikhcbaa.QPageWalks Go.Proofs.YtedjiicaikhcbaaW.PrintWords Go.Proofs.YtedjiicaikhcbaaW.PrintLast Go.Proofs.YtedjiicaikhcbaaW.PrintMore

/-! ### Plain arithmetic of words -/
theorem m_u64 {a : Int} (h : (Lit.int .u64 a).wf = true) : 0 ≤ a ∧ a < 18446744073709551616 := by
  simp [Lit.wf, IntKind.min, IntKind.max, IntKind.signed, IntKind.bits] at h; omega
theorem m_i64 {a : Int} (h : (Lit.int .i64 a).wf = true) : -9223372036854775808 ≤ a ∧ a < 9223372036854775808 := by
  simp [Lit.wf, IntKind.min, IntKind.max, IntKind.signed, IntKind.bits] at h; omega
theorem m_shr (x : Int) (n : Nat) (h : n ≤ 64) : shr .u64 x (n : Int) = x / 2 ^ n := by
  unfold shr; rw [Int.toNat_natCast, Nat.min_eq_left (by simpa [IntKind.bits] using h)]
theorem m_shl (x : Int) (n : Nat) (h : n ≤ 64) : shl .u64 x (n : Int) = x * 2 ^ n % 18446744073709551616 := by
  unfold shl; rw [Int.toNat_natCast, Nat.min_eq_left (by simpa [IntKind.bits] using h), IntKind.wrap_u64]
theorem m_maskn (n : Nat) (h1 : 1 ≤ n) (h2 : n ≤ 64) : (18446744073709551615 : Int) / 2 ^ (64 - n) = ((2 ^ n - 1 : Nat) : Int) := by
  have hp : 2 ^ (64 - n) * 2 ^ n = (18446744073709551616 : Nat) := by rw [← Nat.pow_add, show 64 - n + n = 64 by omega]
  have h0 : 0 < 2 ^ (64 - n) := Nat.two_pow_pos _
  have h3 : 0 < 2 ^ n := Nat.two_pow_pos _
  have e : (18446744073709551615 : Nat) / 2 ^ (64 - n) = 2 ^ n - 1 := by
    apply Nat.div_eq_of_lt_le
    · rw [Nat.mul_comm, Nat.mul_sub, hp]; omega
    · rw [Nat.sub_add_cancel h3, Nat.mul_comm, hp]; omega
  have := congrArg (fun x : Nat => (x : Int)) e
  simpa using this
theorem m_mask (p n : Nat) (h1 : 1 ≤ n) (h2 : p + n ≤ 64) : shl .u64 (shr .u64 18446744073709551615 ((64 - n : Nat) : Int)) (p : Int) = (((2 ^ n - 1) * 2 ^ p : Nat) : Int) := by
  rw [m_shr _ _ (by omega), m_shl _ _ (by omega), m_maskn n h1 (by omega)]
  have hp : 2 ^ n * 2 ^ p ≤ (18446744073709551616 : Nat) := by
    rw [← Nat.pow_add]; exact Nat.le_trans (Nat.pow_le_pow_right (by decide) (show n + p ≤ 64 by omega)) (by decide)
  have h3 : 0 < 2 ^ p := Nat.two_pow_pos _
  have h4 : (2 ^ n - 1) * 2 ^ p < (18446744073709551616 : Nat) := by
    rw [Nat.sub_mul]; omega
  have e : ((2 ^ n - 1) * 2 ^ p) % (18446744073709551616 : Nat) = (2 ^ n - 1) * 2 ^ p := Nat.mod_eq_of_lt h4
  have := congrArg (fun x : Nat => (x : Int)) e
  simpa using this
theorem m_get (a : Nat) (ha : a < 18446744073709551616) (p n : Nat) (h1 : 1 ≤ n) (h2 : p + n ≤ 64) :
    shr .u64 (Go.bits .and .u64 (a : Int) (((2 ^ n - 1) * 2 ^ p : Nat) : Int)) (p : Int) = ((a / 2 ^ p % 2 ^ n : Nat) : Int) := by
  have hp : 2 ^ n * 2 ^ p ≤ (18446744073709551616 : Nat) := by
    rw [← Nat.pow_add]; exact Nat.le_trans (Nat.pow_le_pow_right (by decide) (show n + p ≤ 64 by omega)) (by decide)
  have h3 : 0 < 2 ^ p := Nat.two_pow_pos _
  have h4 : (2 ^ n - 1) * 2 ^ p < (18446744073709551616 : Nat) := by
    rw [Nat.sub_mul]; omega
  rw [u64_and_nat _ _ ha h4, m_shr _ _ (by omega)]
  have e : (a &&& (2 ^ n - 1) * 2 ^ p) / 2 ^ p = a / 2 ^ p % 2 ^ n := by
    rw [← Nat.shiftRight_eq_div_pow, Nat.shiftRight_and_distrib, Nat.shiftRight_eq_div_pow, Nat.shiftRight_eq_div_pow, Nat.mul_div_cancel _ h3, Nat.and_two_pow_sub_one_eq_mod]
  have := congrArg (fun x : Nat => (x : Int)) e
  simpa using this

/-! ### A bit of a word, by halving -/
theorem m_tdiv (x n : Nat) : Int.tdiv (x : Int) (n : Int) = ((x / n : Nat) : Int) := rfl
theorem m_tmod (x n : Nat) : Int.tmod (x : Int) (n : Int) = ((x % n : Nat) : Int) := rfl
theorem m_w64 (x : Nat) (h : x < 9223372036854775808) : wrap64 (x : Int) = x := by unfold wrap64; omega
theorem m_wu (x : Nat) (h : x < 18446744073709551616) : IntKind.u64.wrap (x : Int) = x := by rw [IntKind.wrap_u64]; omega

/-! ### Fields -/
theorem fMay (p n : Nat) (h1 : 1 ≤ n) (h2 : p + n ≤ 64) : field_May.f (p : Int) (n : Int) = some true := by
  unfold field_May.f
  have e : wrap64 (64 - (n : Int)) = ((64 - n : Nat) : Int) := by unfold wrap64; omega
  rw [if_pos (by omega), if_pos (by omega), if_pos (by omega), e]
  simp; omega
theorem fMask (p n : Nat) (h1 : 1 ≤ n) (h2 : p + n ≤ 64) : field_Mask.f (p : Int) (n : Int) = some (((2 ^ n - 1) * 2 ^ p : Nat) : Int) := by
  unfold field_Mask.f
  have e : wrap64 (64 - (n : Int)) = ((64 - n : Nat) : Int) := by unfold wrap64; omega
  rw [fMay p n h1 h2]
  simp only [Option.bind_some, if_true]
  rw [e, if_pos (by omega), if_pos (by omega), m_mask p n h1 h2]
theorem fGet (a : Nat) (ha : a < 18446744073709551616) (p n : Nat) (h1 : 1 ≤ n) (h2 : p + n ≤ 64) : field_Get.f (a : Int) (p : Int) (n : Int) = some ((a / 2 ^ p % 2 ^ n : Nat) : Int) := by
  unfold field_Get.f
  rw [fMay p n h1 h2, fMask p n h1 h2]
  simp only [Option.bind_some, if_true]
  rw [if_pos (by omega), m_get a ha p n h1 h2]

/-! ### Pages -/
def bytesOf (s : Int) : Nat := if s = 0 then 8192 else if s = 1 then 65536 else if s = 2 then 524288 else if s = 3 then 4194304 else 0
def okSize (s : Int) : Prop := 0 ≤ s ∧ s < 4
instance (s : Int) : Decidable (okSize s) := inferInstanceAs (Decidable (0 ≤ s ∧ s < 4))
theorem size_cases (s : Int) : s = 0 ∨ s = 1 ∨ s = 2 ∨ s = 3 ∨ ¬ okSize s := by unfold okSize; omega
theorem bytes_bad {s : Int} (h : ¬ okSize s) : bytesOf s = 0 := by
  unfold okSize at h; unfold bytesOf; rw [if_neg (by omega), if_neg (by omega), if_neg (by omega), if_neg (by omega)]
theorem pMay (s : Int) : page_May.f s = some (decide (okSize s)) := by
  unfold page_May.f okSize
  split <;> simp [*]
theorem pBits (s : Int) : page_Bits.f s = some (if okSize s then 13 + 3 * s else 0) := by
  unfold page_Bits.f
  rw [pMay]
  by_cases h : okSize s
  · have h' := h
    unfold okSize at h'
    simp only [Option.bind_some, h, decide_true, if_true]
    congr 1; unfold wrap64; omega
  · simp [h]
theorem pOffset (a : Nat) (ha : a < 18446744073709551616) (s : Int) : page_Offset.f (a : Int) s = some (if okSize s then ((a % bytesOf s : Nat) : Int) else 0) := by
  unfold page_Offset.f
  rw [pMay, pBits]
  rcases size_cases s with rfl | rfl | rfl | rfl | h
  · have := fGet a ha 0 13 (by omega) (by omega)
    simp [okSize, bytesOf] at this ⊢; rw [this]
  · have := fGet a ha 0 16 (by omega) (by omega)
    simp [okSize, bytesOf] at this ⊢; rw [this]
  · have := fGet a ha 0 19 (by omega) (by omega)
    simp [okSize, bytesOf] at this ⊢; rw [this]
  · have := fGet a ha 0 22 (by omega) (by omega)
    simp [okSize, bytesOf] at this ⊢; rw [this]
  · simp [h]
theorem pBytes (s : Int) : page_Bytes.f s = some (bytesOf s : Int) := by
  unfold page_Bytes.f
  rw [pMay, pBits]
  rcases size_cases s with rfl | rfl | rfl | rfl | h
  · decide +kernel
  · decide +kernel
  · decide +kernel
  · decide +kernel
  · simp [h, bytes_bad h]
theorem pStarts (a : Nat) (ha : a < 18446744073709551616) (s : Int) : page_Starts.f (a : Int) s = some (decide (okSize s ∧ a % bytesOf s = 0)) := by
  unfold page_Starts.f
  rw [pMay, pOffset a ha]
  by_cases h : okSize s
  · simp only [h, decide_true, Option.bind_some, if_true, true_and, Option.some.injEq]
    rw [Bool.eq_iff_iff]; simp; omega
  · simp [h]

theorem pBase (a : Nat) (ha : a < 18446744073709551616) (s : Int) : page_Base.f (a : Int) s = some ((a / bytesOf s * bytesOf s : Nat) : Int) := by
  unfold page_Base.f
  rw [pMay, pOffset a ha]
  by_cases h : okSize s
  · have e := Nat.div_add_mod a (bytesOf s)
    have e2 : bytesOf s * (a / bytesOf s) = a / bytesOf s * bytesOf s := Nat.mul_comm _ _
    simp only [h, decide_true, Option.bind_some, if_true, Option.some.injEq]
    rw [IntKind.wrap_u64]; omega
  · simp [h, bytes_bad h]

theorem pHole (a : Nat) (ha : a < 18446744073709551616) : page_Hole.f (a : Int) = some (decide (a / 8796093022208 ≠ 0 ∧ a / 8796093022208 ≠ 2097151)) := by
  unfold page_Hole.f
  have := fGet a ha 43 21 (by omega) (by omega)
  simp only [Nat.reducePow] at this
  have e : a / 8796093022208 % 2097152 = a / 8796093022208 := by omega
  rw [e] at this
  have h43 : ((43 : Nat) : Int) = 43 := rfl
  have h21 : ((21 : Nat) : Int) = 21 := rfl
  rw [h43, h21] at this
  rw [this]
  simp only [Option.bind_some]
  by_cases h0 : a / 8796093022208 = 0
  · rw [h0]; simp
  · rw [if_neg (by omega)]
    simp only [ne_eq, h0, not_false_eq_true, true_and, Option.some.injEq]
    rw [Bool.eq_iff_iff]; simp; omega

theorem rBytes (s : Int) : lookasideref02_Bytes.f s = some (bytesOf s : Int) := by
  unfold lookasideref02_Bytes.f bytesOf
  by_cases h0 : s = 0
  · simp [h0]
  · by_cases h1 : s = 1
    · simp [h1]
    · by_cases h2 : s = 2
      · simp [h2]
      · by_cases h3 : s = 3
        · simp [h3]
        · simp [h0, h1, h2, h3]
theorem bytes_pos {s : Int} (h : okSize s) : 8192 ≤ bytesOf s ∧ bytesOf s ≤ 4194304 := by
  rcases size_cases s with rfl | rfl | rfl | rfl | h'
  · decide
  · decide
  · decide
  · decide
  · exact absurd h h'

theorem rMay (s : Int) : lookasideref02_May.f s = some (decide (okSize s)) := by
  unfold lookasideref02_May.f okSize
  split
  · simp [*]; omega
  · simp [*]
theorem rBase (a : Nat) (ha : a < 18446744073709551616) (s : Int) : lookasideref02_Base.f (a : Int) s = some ((a / bytesOf s * bytesOf s : Nat) : Int) := by
  unfold lookasideref02_Base.f
  rw [rMay, rBytes]
  by_cases h : okSize s
  · have hb := bytes_pos h
    simp only [h, decide_true, Option.bind_some, if_true]
    rw [if_neg (by omega), m_tdiv, m_wu _ (Nat.lt_of_le_of_lt (Nat.div_le_self _ _) ha)]
    have hm : a / bytesOf s * bytesOf s < 18446744073709551616 := Nat.lt_of_le_of_lt (Nat.div_mul_le_self _ _) ha
    have e : ((a / bytesOf s : Nat) : Int) * (bytesOf s : Int) = ((a / bytesOf s * bytesOf s : Nat) : Int) := (Int.natCast_mul _ _).symm
    rw [e, m_wu _ hm]
  · simp [h, bytes_bad h]

theorem liv15 : lookasidelaw02_lives.f 15 = some true := by
  unfold lookasidelaw02_lives.f
  have h1 : page_Cover.f 15 0 81920 = some [1, 0, 0] := by decide +kernel
  have h2 : page_Hole.f 8796093022208 = some true := by decide +kernel
  rw [h1, h2]; rfl
theorem liv (k : Nat) (hk : 15 ≤ k) : lookasidelaw02_lives.f k = some true := at_rounds lookasidelaw02_lives.mono hk liv15

theorem pNextOk (x : Nat) (s : Int) (hs : okSize s) (hx : (x / bytesOf s + 1) * bytesOf s < 8796093022208) (hx2 : x < 18446744073709551616) :
    page_Next.f (x : Int) s = some ((((x / bytesOf s + 1) * bytesOf s : Nat) : Int), true) := by
  have hb := bytes_pos hs
  unfold page_Next.f
  have e : IntKind.u64.wrap (((x / bytesOf s * bytesOf s : Nat) : Int) + (bytesOf s : Int)) = (((x / bytesOf s + 1) * bytesOf s : Nat) : Int) := by
    rw [← Int.natCast_add, show x / bytesOf s * bytesOf s + bytesOf s = (x / bytesOf s + 1) * bytesOf s by rw [Nat.add_mul, Nat.one_mul]]; exact m_wu _ (by omega)
  have h0 : (x / bytesOf s + 1) * bytesOf s ≠ 0 := by rw [Nat.add_mul, Nat.one_mul]; omega
  rw [pBase x hx2, pBytes, pMay, decide_eq_true hs]
  simp only [Option.bind_some, if_true]
  rw [e, if_neg (by omega), pHole _ (by omega), decide_eq_false (by rw [Nat.div_eq_of_lt hx]; simp)]
  simp
theorem walks_l (s : Int) (hs : okSize s) (n q d : Nat) : ∀ (i x k : Nat), i + d = n → n ≤ 20 → x / bytesOf s = q + i → (i = 0 ∨ x = (q + i) * bytesOf s) → (q + 21) * bytesOf s < 8796093022208 → 100 + d < k →
    lookasidelaw02_PageWalks.l0 k s (n : Int) (x : Int) ((q * bytesOf s : Nat) : Int) (i : Int) = some true := by
  have hb := bytes_pos hs
  induction d with
  | zero =>
    intro i x k hi hn hx hz hq hk
    obtain ⟨k, rfl⟩ : ∃ m, k = m + 1 := ⟨k - 1, by omega⟩
    simp only [lookasidelaw02_PageWalks.l0]
    rw [if_neg (by omega), liv k (by omega), rBytes]
    by_cases h0 : n = 0
    · rw [if_pos (by omega)]; rfl
    · have hx' : x = (q + i) * bytesOf s := hz.resolve_left (by omega)
      have hin : i = n := by omega
      have hle : n * bytesOf s ≤ (q + 21) * bytesOf s := Nat.mul_le_mul_right _ (by omega)
      have hle2 : (q + n) * bytesOf s ≤ (q + 21) * bytesOf s := Nat.mul_le_mul_right _ (by omega)
      have e1 : IntKind.u64.wrap (n : Int) = (n : Int) := m_wu n (by omega)
      have e2 : IntKind.u64.wrap ((n : Int) * (bytesOf s : Int)) = ((n * bytesOf s : Nat) : Int) := by rw [← Int.natCast_mul]; exact m_wu _ (by omega)
      have e3 : IntKind.u64.wrap (((q * bytesOf s : Nat) : Int) + ((n * bytesOf s : Nat) : Int)) = (((q + n) * bytesOf s : Nat) : Int) := by rw [← Int.natCast_add, ← Nat.add_mul]; exact m_wu _ (by omega)
      rw [if_neg (by omega)]
      simp only [Option.bind_some]
      rw [e1, e2, e3, hx', hin, if_pos rfl]
  | succ d ih =>
    intro i x k hi hn hx hz hq hk
    obtain ⟨k, rfl⟩ : ∃ m, k = m + 1 := ⟨k - 1, by omega⟩
    have hin : (i : Int) < (n : Int) := by omega
    have hkd : 100 + d < k := by omega
    have hid : i + 1 + d = n := by omega
    have hdv : (q + i + 1) * bytesOf s / bytesOf s = q + (i + 1) := by rw [Nat.mul_div_cancel _ (by omega)]; omega
    have hle : (q + i + 1) * bytesOf s ≤ (q + 21) * bytesOf s := Nat.mul_le_mul_right _ (by omega)
    have hxl : x < 18446744073709551616 := by
      have := Nat.lt_div_mul_add (a := x) (b := bytesOf s) (by omega)
      rw [hx, show (q + i) * bytesOf s + bytesOf s = (q + i + 1) * bytesOf s by rw [Nat.add_mul (q + i), Nat.one_mul]] at this; omega
    have hN := pNextOk x s hs (by rw [hx]; omega) hxl
    rw [hx] at hN
    have hH := pHole ((q + i + 1) * bytesOf s) (by omega)
    have hS := pStarts ((q + i + 1) * bytesOf s) (by omega) s
    rw [decide_eq_false (by rw [Nat.div_eq_of_lt (by omega)]; simp)] at hH
    rw [decide_eq_true ⟨hs, Nat.mul_mod_left _ _⟩] at hS
    have e2 : wrap64 ((i : Int) + 1) = ((i + 1 : Nat) : Int) := by
      have := m_w64 (i + 1) (by omega); simpa using this
    simp only [lookasidelaw02_PageWalks.l0]
    rw [if_pos hin, hN]
    simp only [Option.bind_some, if_true]
    rw [hH, hS]
    simp only [Option.bind_some, Bool.false_eq_true, if_false, if_true]
    rw [e2]
    exact ih (i + 1) ((q + i + 1) * bytesOf s) k hid hn hdv (.inr rfl) hq hkd
theorem walks_j1 (a : Nat) (ha : a < 18446744073709551616) (s n : Int) (hs : 0 ≤ s) (hn : 0 ≤ n) (k : Nat) (hk : 200 ≤ k) : lookasidelaw02_PageWalks.j1 (k + 1) (a : Int) s n = some true := by
  have e1 : Int.tmod s 4 = s % 4 := Int.tmod_eq_emod_of_nonneg hs
  have e2 : Int.tmod n 21 = ((n.toNat % 21 : Nat) : Int) := by rw [Int.tmod_eq_emod_of_nonneg hn]; omega
  have e3 : Int.tmod (a : Int) 4398046511104 = ((a % 4398046511104 : Nat) : Int) := rfl
  have o1 : okSize (s % 4) := by unfold okSize; omega
  have hb := bytes_pos o1
  simp only [lookasidelaw02_PageWalks.j1]
  rw [e1, e2, e3, rBase _ (by omega)]
  simp only [Option.bind_some]
  have hq : (a % 4398046511104 / bytesOf (s % 4) + 21) * bytesOf (s % 4) < 8796093022208 := by
    rw [Nat.add_mul]
    have := Nat.div_mul_le_self (a % 4398046511104) (bytesOf (s % 4))
    have : a % 4398046511104 < 4398046511104 := Nat.mod_lt _ (by decide)
    omega
  have h := walks_l (s % 4) o1 (n.toNat % 21) (a % 4398046511104 / bytesOf (s % 4)) (n.toNat % 21) 0 (a % 4398046511104) k (by omega) (by omega) rfl (.inl rfl) hq (by omega)
  rw [show ((0 : Nat) : Int) = 0 from rfl] at h
  exact h
theorem walks_j0 (a : Nat) (ha : a < 18446744073709551616) (s t : Int) (hs : 0 ≤ s) (w2 : (Lit.int .i64 t).wf = true) (k : Nat) (hk : 200 ≤ k) : lookasidelaw02_PageWalks.j0 (k + 2) (a : Int) s t = some true := by
  obtain ⟨b1, b2⟩ := m_i64 w2
  simp only [lookasidelaw02_PageWalks.j0]
  by_cases h : t < 0
  · rw [if_pos h]; exact walks_j1 a ha s _ hs (by unfold wrap64; omega) k hk
  · rw [if_neg h]; exact walks_j1 a ha s t hs (by omega) k hk
theorem PageWalks : lookasidelaw02_PageWalks.Pure := by
  intro a0 s t w0 w1 w2
  obtain ⟨h0, h1⟩ := m_u64 w0
  obtain ⟨a, rfl⟩ := Int.eq_ofNat_of_zero_le h0
  have ha : a < 18446744073709551616 := by omega
  obtain ⟨b1, b2⟩ := m_i64 w1
  refine ⟨302, ?_⟩
  unfold lookasidelaw02_PageWalks.f
  by_cases h : s < 0
  · rw [if_pos h]; exact walks_j0 a ha _ t (by unfold wrap64; omega) w2 300 (by omega)
  · rw [if_neg h]; exact walks_j0 a ha s t (by omega) w2 300 (by omega)

end Go.Proofs.Ytedjiicaikhcbaa.Pure
