/- For every two addresses and every two sizes, whether the pages meet, and whether an address is in one, is told as the document says; no conditions. -/
import Derived.Test.YtedjiicaikhcbaaQPageMeetsx2
import Derived.Laws.BitsAllLaws
import Derived.Laws.Bits64
set_option linter.unusedVariables false
set_option linter.unusedSimpArgs false
namespace Go.Proofs.Ytedjiicaikhcbaa.Pure
open Go.RowKit Go.Proofs.Ytedjiicaikhcbaa.QPageMeets Go.Proofs.YtedjiicaikhcbaaW.PrintWords Go.Proofs.YtedjiicaikhcbaaW.PrintLast Go.Proofs.YtedjiicaikhcbaaW.PrintMore

/-! ### Plain arithmetic of words -/
theorem m_u64 {a : Int} (h : (Lit.int .u64 a).wf = true) : 0 ≤ a ∧ a < 18446744073709551616 := by
  simp [Lit.wf, IntKind.min, IntKind.max, IntKind.signed, IntKind.bits] at h; omega
theorem m_i64 {a : Int} (h : (Lit.int .i64 a).wf = true) : -9223372036854775808 ≤ a ∧ a < 9223372036854775808 := by
  simp [Lit.wf, IntKind.min, IntKind.max, IntKind.signed, IntKind.bits] at h; omega
theorem m_shr (x : Int) (n : Nat) (h : n ≤ 64) : shr .u64 x (n : Int) = x / 2 ^ n := by
  unfold shr; rw [Int.toNat_natCast, Nat.min_eq_left (by simpa [IntKind.bits] using h)]
theorem m_shl (x : Int) (n : Nat) (h : n ≤ 64) : shl .u64 x (n : Int) = x * 2 ^ n % 18446744073709551616 := by
  unfold shl; rw [Int.toNat_natCast, Nat.min_eq_left (by simpa [IntKind.bits] using h), IntKind.wrap_u64]
theorem m_maskn (n : Nat) (h1 : 1 ≤ n) (h2 : n ≤ 64) : (18446744073709551615 : Int) / 2 ^ (64 - n) = ((2 ^ n - 1 : Nat) : Int) := by
  have hp : 2 ^ (64 - n) * 2 ^ n = (18446744073709551616 : Nat) := by rw [← Nat.pow_add, show 64 - n + n = 64 by omega]
  have h0 : 0 < 2 ^ (64 - n) := Nat.two_pow_pos _
  have h3 : 0 < 2 ^ n := Nat.two_pow_pos _
  have e : (18446744073709551615 : Nat) / 2 ^ (64 - n) = 2 ^ n - 1 := by
    apply Nat.div_eq_of_lt_le
    · rw [Nat.mul_comm, Nat.mul_sub, hp]; omega
    · rw [Nat.sub_add_cancel h3, Nat.mul_comm, hp]; omega
  have := congrArg (fun x : Nat => (x : Int)) e
  simpa using this
theorem m_mask (p n : Nat) (h1 : 1 ≤ n) (h2 : p + n ≤ 64) : shl .u64 (shr .u64 18446744073709551615 ((64 - n : Nat) : Int)) (p : Int) = (((2 ^ n - 1) * 2 ^ p : Nat) : Int) := by
  rw [m_shr _ _ (by omega), m_shl _ _ (by omega), m_maskn n h1 (by omega)]
  have hp : 2 ^ n * 2 ^ p ≤ (18446744073709551616 : Nat) := by
    rw [← Nat.pow_add]; exact Nat.le_trans (Nat.pow_le_pow_right (by decide) (show n + p ≤ 64 by omega)) (by decide)
  have h3 : 0 < 2 ^ p := Nat.two_pow_pos _
  have h4 : (2 ^ n - 1) * 2 ^ p < (18446744073709551616 : Nat) := by
    rw [Nat.sub_mul]; omega
  have e : ((2 ^ n - 1) * 2 ^ p) % (18446744073709551616 : Nat) = (2 ^ n - 1) * 2 ^ p := Nat.mod_eq_of_lt h4
  have := congrArg (fun x : Nat => (x : Int)) e
  simpa using this
theorem m_get (a : Nat) (ha : a < 18446744073709551616) (p n : Nat) (h1 : 1 ≤ n) (h2 : p + n ≤ 64) :
    shr .u64 (Go.bits .and .u64 (a : Int) (((2 ^ n - 1) * 2 ^ p : Nat) : Int)) (p : Int) = ((a / 2 ^ p % 2 ^ n : Nat) : Int) := by
  have hp : 2 ^ n * 2 ^ p ≤ (18446744073709551616 : Nat) := by
    rw [← Nat.pow_add]; exact Nat.le_trans (Nat.pow_le_pow_right (by decide) (show n + p ≤ 64 by omega)) (by decide)
  have h3 : 0 < 2 ^ p := Nat.two_pow_pos _
  have h4 : (2 ^ n - 1) * 2 ^ p < (18446744073709551616 : Nat) := by
    rw [Nat.sub_mul]; omega
  rw [u64_and_nat _ _ ha h4, m_shr _ _ (by omega)]
  have e : (a &&& (2 ^ n - 1) * 2 ^ p) / 2 ^ p = a / 2 ^ p % 2 ^ n := by
    rw [← Nat.shiftRight_eq_div_pow, Nat.shiftRight_and_distrib, Nat.shiftRight_eq_div_pow, Nat.shiftRight_eq_div_pow, Nat.mul_div_cancel _ h3, Nat.and_two_pow_sub_one_eq_mod]
  have := congrArg (fun x : Nat => (x : Int)) e
  simpa using this

/-! ### A bit of a word, by halving -/
theorem m_tdiv (x n : Nat) : Int.tdiv (x : Int) (n : Int) = ((x / n : Nat) : Int) := rfl
theorem m_tmod (x n : Nat) : Int.tmod (x : Int) (n : Int) = ((x % n : Nat) : Int) := rfl
theorem m_w64 (x : Nat) (h : x < 9223372036854775808) : wrap64 (x : Int) = x := by unfold wrap64; omega
theorem m_wu (x : Nat) (h : x < 18446744073709551616) : IntKind.u64.wrap (x : Int) = x := by rw [IntKind.wrap_u64]; omega

/-! ### Fields -/
theorem fMay (p n : Nat) (h1 : 1 ≤ n) (h2 : p + n ≤ 64) : field_May.f (p : Int) (n : Int) = some true := by
  unfold field_May.f
  have e : wrap64 (64 - (n : Int)) = ((64 - n : Nat) : Int) := by unfold wrap64; omega
  rw [if_pos (by omega), if_pos (by omega), if_pos (by omega), e]
  simp; omega
theorem fMask (p n : Nat) (h1 : 1 ≤ n) (h2 : p + n ≤ 64) : field_Mask.f (p : Int) (n : Int) = some (((2 ^ n - 1) * 2 ^ p : Nat) : Int) := by
  unfold field_Mask.f
  have e : wrap64 (64 - (n : Int)) = ((64 - n : Nat) : Int) := by unfold wrap64; omega
  rw [fMay p n h1 h2]
  simp only [Option.bind_some, if_true]
  rw [e, if_pos (by omega), if_pos (by omega), m_mask p n h1 h2]
theorem fGet (a : Nat) (ha : a < 18446744073709551616) (p n : Nat) (h1 : 1 ≤ n) (h2 : p + n ≤ 64) : field_Get.f (a : Int) (p : Int) (n : Int) = some ((a / 2 ^ p % 2 ^ n : Nat) : Int) := by
  unfold field_Get.f
  rw [fMay p n h1 h2, fMask p n h1 h2]
  simp only [Option.bind_some, if_true]
  rw [if_pos (by omega), m_get a ha p n h1 h2]

/-! ### Pages -/
def bytesOf (s : Int) : Nat := if s = 0 then 8192 else if s = 1 then 65536 else if s = 2 then 524288 else if s = 3 then 4194304 else 0
def okSize (s : Int) : Prop := 0 ≤ s ∧ s < 4
instance (s : Int) : Decidable (okSize s) := inferInstanceAs (Decidable (0 ≤ s ∧ s < 4))
theorem size_cases (s : Int) : s = 0 ∨ s = 1 ∨ s = 2 ∨ s = 3 ∨ ¬ okSize s := by unfold okSize; omega
theorem bytes_bad {s : Int} (h : ¬ okSize s) : bytesOf s = 0 := by
  unfold okSize at h; unfold bytesOf; rw [if_neg (by omega), if_neg (by omega), if_neg (by omega), if_neg (by omega)]
theorem pMay (s : Int) : page_May.f s = some (decide (okSize s)) := by
  unfold page_May.f okSize
  split <;> simp [*]
theorem pBits (s : Int) : page_Bits.f s = some (if okSize s then 13 + 3 * s else 0) := by
  unfold page_Bits.f
  rw [pMay]
  by_cases h : okSize s
  · have h' := h
    unfold okSize at h'
    simp only [Option.bind_some, h, decide_true, if_true]
    congr 1; unfold wrap64; omega
  · simp [h]
theorem pOffset (a : Nat) (ha : a < 18446744073709551616) (s : Int) : page_Offset.f (a : Int) s = some (if okSize s then ((a % bytesOf s : Nat) : Int) else 0) := by
  unfold page_Offset.f
  rw [pMay, pBits]
  rcases size_cases s with rfl | rfl | rfl | rfl | h
  · have := fGet a ha 0 13 (by omega) (by omega)
    simp [okSize, bytesOf] at this ⊢; rw [this]
  · have := fGet a ha 0 16 (by omega) (by omega)
    simp [okSize, bytesOf] at this ⊢; rw [this]
  · have := fGet a ha 0 19 (by omega) (by omega)
    simp [okSize, bytesOf] at this ⊢; rw [this]
  · have := fGet a ha 0 22 (by omega) (by omega)
    simp [okSize, bytesOf] at this ⊢; rw [this]
  · simp [h]
theorem pBytes (s : Int) : page_Bytes.f s = some (bytesOf s : Int) := by
  unfold page_Bytes.f
  rw [pMay, pBits]
  rcases size_cases s with rfl | rfl | rfl | rfl | h
  · decide +kernel
  · decide +kernel
  · decide +kernel
  · decide +kernel
  · simp [h, bytes_bad h]
theorem pStarts (a : Nat) (ha : a < 18446744073709551616) (s : Int) : page_Starts.f (a : Int) s = some (decide (okSize s ∧ a % bytesOf s = 0)) := by
  unfold page_Starts.f
  rw [pMay, pOffset a ha]
  by_cases h : okSize s
  · simp only [h, decide_true, Option.bind_some, if_true, true_and, Option.some.injEq]
    rw [Bool.eq_iff_iff]; simp; omega
  · simp [h]

theorem pBase (a : Nat) (ha : a < 18446744073709551616) (s : Int) : page_Base.f (a : Int) s = some ((a / bytesOf s * bytesOf s : Nat) : Int) := by
  unfold page_Base.f
  rw [pMay, pOffset a ha]
  by_cases h : okSize s
  · have e := Nat.div_add_mod a (bytesOf s)
    have e2 : bytesOf s * (a / bytesOf s) = a / bytesOf s * bytesOf s := Nat.mul_comm _ _
    simp only [h, decide_true, Option.bind_some, if_true, Option.some.injEq]
    rw [IntKind.wrap_u64]; omega
  · simp [h, bytes_bad h]

theorem pIn (a b : Nat) (ha : a < 18446744073709551616) (hb : b < 18446744073709551616) (s : Int) : page_In.f (a : Int) (b : Int) s = some (decide (okSize s ∧ a / bytesOf s * bytesOf s = b / bytesOf s * bytesOf s)) := by
  unfold page_In.f
  rw [pMay, pBase a ha, pBase b hb]
  by_cases h : okSize s
  · simp only [h, decide_true, Option.bind_some, if_true, true_and, Option.some.injEq]
    rw [Bool.eq_iff_iff]; simp only [beq_iff_eq, decide_eq_true_eq]; omega
  · simp [h]

theorem rMay (s : Int) : lookasideref02_May.f s = some (decide (okSize s)) := by
  unfold lookasideref02_May.f okSize
  split
  · simp [*]; omega
  · simp [*]
theorem rBytes (s : Int) : lookasideref02_Bytes.f s = some (bytesOf s : Int) := by
  unfold lookasideref02_Bytes.f bytesOf
  by_cases h0 : s = 0
  · simp [h0]
  · by_cases h1 : s = 1
    · simp [h1]
    · by_cases h2 : s = 2
      · simp [h2]
      · by_cases h3 : s = 3
        · simp [h3]
        · simp [h0, h1, h2, h3]
theorem bytes_pos {s : Int} (h : okSize s) : 8192 ≤ bytesOf s ∧ bytesOf s ≤ 4194304 := by
  rcases size_cases s with rfl | rfl | rfl | rfl | h'
  · decide
  · decide
  · decide
  · decide
  · exact absurd h h'
theorem rBase (a : Nat) (ha : a < 18446744073709551616) (s : Int) : lookasideref02_Base.f (a : Int) s = some ((a / bytesOf s * bytesOf s : Nat) : Int) := by
  unfold lookasideref02_Base.f
  rw [rMay, rBytes]
  by_cases h : okSize s
  · have hb := bytes_pos h
    simp only [h, decide_true, Option.bind_some, if_true]
    rw [if_neg (by omega), m_tdiv, m_wu _ (Nat.lt_of_le_of_lt (Nat.div_le_self _ _) ha)]
    have hm : a / bytesOf s * bytesOf s < 18446744073709551616 := Nat.lt_of_le_of_lt (Nat.div_mul_le_self _ _) ha
    have e : ((a / bytesOf s : Nat) : Int) * (bytesOf s : Int) = ((a / bytesOf s * bytesOf s : Nat) : Int) := (Int.natCast_mul _ _).symm
    rw [e, m_wu _ hm]
  · simp [h, bytes_bad h]

theorem liv15 : lookasidelaw02_lives.f 15 = some true := by
  unfold lookasidelaw02_lives.f
  have h1 : page_Cover.f 15 0 81920 = some [1, 0, 0] := by decide +kernel
  have h2 : page_Hole.f 8796093022208 = some true := by decide +kernel
  rw [h1, h2]; rfl
theorem liv (k : Nat) (hk : 15 ≤ k) : lookasidelaw02_lives.f k = some true := at_rounds lookasidelaw02_lives.mono hk liv15

theorem meets_m (a b : Nat) (s t : Int) (hs : okSize s) (ht : okSize t) :
    okSize (mx s t) ∧ ((a / bytesOf (mx s t) * bytesOf (mx s t) = b / bytesOf (mx s t) * bytesOf (mx s t)) ↔
      ((b / bytesOf t * bytesOf t ≤ a / bytesOf s * bytesOf s ∧ a / bytesOf s * bytesOf s - b / bytesOf t * bytesOf t < bytesOf t) ∨
       (a / bytesOf s * bytesOf s ≤ b / bytesOf t * bytesOf t ∧ b / bytesOf t * bytesOf t - a / bytesOf s * bytesOf s < bytesOf s))) := by
  rcases size_cases s with rfl | rfl | rfl | rfl | h
  · rcases size_cases t with rfl | rfl | rfl | rfl | h
    all_goals first | exact absurd ht h | (simp [mx, bytesOf, okSize]; omega)
  · rcases size_cases t with rfl | rfl | rfl | rfl | h
    all_goals first | exact absurd ht h | (simp [mx, bytesOf, okSize]; omega)
  · rcases size_cases t with rfl | rfl | rfl | rfl | h
    all_goals first | exact absurd ht h | (simp [mx, bytesOf, okSize]; omega)
  · rcases size_cases t with rfl | rfl | rfl | rfl | h
    all_goals first | exact absurd ht h | (simp [mx, bytesOf, okSize]; omega)
  · exact absurd hs h
theorem mx_comm (s t : Int) : mx s t = mx t s := by unfold mx; split <;> split <;> omega
/-- The two pages meet. -/
def meets (a : Nat) (s : Int) (b : Nat) (t : Int) : Prop := okSize s ∧ okSize t ∧ a / bytesOf (mx s t) * bytesOf (mx s t) = b / bytesOf (mx s t) * bytesOf (mx s t)
instance (a : Nat) (s : Int) (b : Nat) (t : Int) : Decidable (meets a s b t) := inferInstanceAs (Decidable (_ ∧ _ ∧ _))
theorem pMeet (a b : Nat) (ha : a < 18446744073709551616) (hb : b < 18446744073709551616) (s t : Int) : page_Meet.f (a : Int) s (b : Int) t = some (decide (meets a s b t)) := by
  unfold page_Meet.f meets
  rw [pMay, pMay, pIn a b ha hb]
  by_cases h : okSize s
  · by_cases h' : okSize t
    · have hm := (meets_m a b s t h h').1
      simp [h, h', hm]
    · simp [h, h']
  · simp [h]
theorem rMeet (a b : Nat) (ha : a < 18446744073709551616) (hb : b < 18446744073709551616) (s t : Int) (k : Nat) (hk : 100 ≤ k) : lookasideref02_Meet.f k (a : Int) s (b : Int) t = some (decide (meets a s b t)) := by
  obtain ⟨k, rfl⟩ : ∃ m, k = m + 1 := ⟨k - 1, by omega⟩
  by_cases h : okSize s
  · by_cases h' : okSize t
    · obtain ⟨hm, hi⟩ := meets_m a b s t h h'
      have q1 : a / bytesOf s * bytesOf s < 18446744073709551616 := Nat.lt_of_le_of_lt (Nat.div_mul_le_self _ _) ha
      have q2 : b / bytesOf t * bytesOf t < 18446744073709551616 := Nat.lt_of_le_of_lt (Nat.div_mul_le_self _ _) hb
      have hM : meets a s b t ↔ ((b / bytesOf t * bytesOf t ≤ a / bytesOf s * bytesOf s ∧ a / bytesOf s * bytesOf s - b / bytesOf t * bytesOf t < bytesOf t) ∨
       (a / bytesOf s * bytesOf s ≤ b / bytesOf t * bytesOf t ∧ b / bytesOf t * bytesOf t - a / bytesOf s * bytesOf s < bytesOf s)) := by
        unfold meets; simp only [h, h', true_and]; exact hi
      clear hi hm
      have goal : ∀ d : Bool, (d = true ↔ meets a s b t) → lookasideref02_Meet.f (k + 1) (a : Int) s (b : Int) t = some d := by
        intro d hd
        unfold lookasideref02_Meet.f
        rw [rMay, rMay]
        simp only [h, h', decide_true, Option.bind_some, if_true, Bool.not_true, lookasideref02_Meet.j0]
        rw [rBase a ha, rBase b hb, rBytes, rBytes]
        rw [hM] at hd
        clear hM
        generalize a / bytesOf s * bytesOf s = x at q1 hd
        generalize b / bytesOf t * bytesOf t = y at q2 hd
        generalize bytesOf s = S at hd
        generalize bytesOf t = T at hd
        simp only [Option.bind_some, Bool.false_eq_true, if_false]
        by_cases g : y ≤ x
        · have e : IntKind.u64.wrap ((x : Int) - (y : Int)) = ((x - y : Nat) : Int) := by rw [IntKind.wrap_u64]; omega
          rw [if_pos (by omega), e]
          by_cases g2 : x - y < T
          · rw [if_pos (by omega), hd.mpr (.inl ⟨g, g2⟩)]
          · rw [if_neg (by omega)]
            by_cases g3 : x ≤ y
            · have e2 : IntKind.u64.wrap ((y : Int) - (x : Int)) = ((y - x : Nat) : Int) := by rw [IntKind.wrap_u64]; omega
              rw [if_pos (by omega), e2, Option.some.injEq, Bool.eq_iff_iff, hd, decide_eq_true_eq]; omega
            · rw [if_neg (by omega), Option.some.injEq, Bool.eq_iff_iff, hd]; simp; omega
        · have e2 : IntKind.u64.wrap ((y : Int) - (x : Int)) = ((y - x : Nat) : Int) := by rw [IntKind.wrap_u64]; omega
          rw [if_neg (by omega), if_pos (by omega), e2, Option.some.injEq, Bool.eq_iff_iff, hd, decide_eq_true_eq]; omega
      exact goal _ (by simp)
    · unfold lookasideref02_Meet.f meets
      rw [rMay, rMay]; simp [h, h', lookasideref02_Meet.j0]
  · unfold lookasideref02_Meet.f meets
    rw [rMay, rMay]; simp [h, lookasideref02_Meet.j0]
theorem mn_mx (s t : Int) (hs : okSize s) (ht : okSize t) : 0 < bytesOf (mn s t) ∧ bytesOf (mn s t) ≤ 4194304 ∧ bytesOf (mx s t) = bytesOf (mn s t) * (bytesOf (mx s t) / bytesOf (mn s t)) := by
  rcases size_cases s with rfl | rfl | rfl | rfl | h
  · rcases size_cases t with rfl | rfl | rfl | rfl | h <;> first | exact absurd ht h | decide
  · rcases size_cases t with rfl | rfl | rfl | rfl | h <;> first | exact absurd ht h | decide
  · rcases size_cases t with rfl | rfl | rfl | rfl | h <;> first | exact absurd ht h | decide
  · rcases size_cases t with rfl | rfl | rfl | rfl | h <;> first | exact absurd ht h | decide
  · exact absurd hs h
theorem last_same (q B C c : Nat) (h0 : 0 < B) (hC : C = B * c) : q * B / C * C = (q * B + B - 1) / C * C := by
  have e1 : q * B / B = q := Nat.mul_div_cancel _ h0
  have e2 : (q * B + B - 1) / B = q := by
    rw [show q * B + B - 1 = (B - 1) + q * B by omega, Nat.add_mul_div_right _ _ h0, Nat.div_eq_of_lt (by omega), Nat.zero_add]
  rw [hC, ← Nat.div_div_eq_div_mul, ← Nat.div_div_eq_div_mul, e1, e2]
theorem meets_last (a b : Nat) (s t : Int) (ha : a < 18446744073709551616) (hb : b < 18446744073709551616) (h : meets a s b t) (k : Nat) (hk : 100 ≤ k) :
    lookasidelaw02_PageMeets.j2 (k + 1) (mn s t) (mx s t) (if s > t then (b : Int) else (a : Int)) = some true := by
  obtain ⟨hs, ht, hm⟩ := h
  have key : ∀ (x : Nat), x < 18446744073709551616 → lookasidelaw02_PageMeets.j2 (k + 1) (mn s t) (mx s t) (x : Int) = some true := by
    intro x hx
    simp only [lookasidelaw02_PageMeets.j2]
    have q1 : x / bytesOf (mn s t) * bytesOf (mn s t) < 18446744073709551616 := Nat.lt_of_le_of_lt (Nat.div_mul_le_self _ _) hx
    rw [rBase x hx, rBytes, liv k (by omega)]
    have big : x / bytesOf (mn s t) * bytesOf (mn s t) / bytesOf (mx s t) * bytesOf (mx s t) = (x / bytesOf (mn s t) * bytesOf (mn s t) + bytesOf (mn s t) - 1) / bytesOf (mx s t) * bytesOf (mx s t) ∧ x / bytesOf (mn s t) * bytesOf (mn s t) + bytesOf (mn s t) ≤ 18446744073709551616 ∧ 0 < bytesOf (mn s t) := by
      obtain ⟨z1, z2, z3⟩ := mn_mx s t hs ht
      refine ⟨last_same _ _ _ _ z1 z3, ?_, z1⟩
      have : okSize (mn s t) := by unfold okSize at hs ht ⊢; unfold mn; split <;> omega
      rcases size_cases (mn s t) with e | e | e | e | e
      · rw [e]; simp [bytesOf]; omega
      · rw [e]; simp [bytesOf]; omega
      · rw [e]; simp [bytesOf]; omega
      · rw [e]; simp [bytesOf]; omega
      · exact absurd this e
    obtain ⟨g1, g2, g3⟩ := big
    have e : IntKind.u64.wrap (IntKind.u64.wrap (((x / bytesOf (mn s t) * bytesOf (mn s t) : Nat) : Int) + (bytesOf (mn s t) : Int)) - 1) = ((x / bytesOf (mn s t) * bytesOf (mn s t) + bytesOf (mn s t) - 1 : Nat) : Int) := by
      rw [IntKind.wrap_u64, IntKind.wrap_u64]; omega
    rw [Option.bind_some, Option.bind_some, rBase _ q1, e, rBase _ (by omega), g1, Option.bind_some, Option.bind_some, if_pos rfl, Option.bind_some]
  by_cases h : s > t
  · rw [if_pos h]; exact key b hb
  · rw [if_neg h]; exact key a ha
theorem meets_j1 (a b : Nat) (s t : Int) (ha : a < 18446744073709551616) (hb : b < 18446744073709551616) (k : Nat) (hk : 100 ≤ k) :
    lookasidelaw02_PageMeets.j1 (k + 2) (a : Int) s (b : Int) t (decide (meets a s b t)) (decide (okSize t ∧ a / bytesOf t * bytesOf t = b / bytesOf t * bytesOf t)) = some true := by
  simp only [lookasidelaw02_PageMeets.j1]
  rw [pIn a b ha hb, liv (k + 1) (by omega), Option.bind_some, bne_self_eq_false]
  simp only [Bool.false_eq_true, if_false]
  by_cases h : meets a s b t
  · have := meets_last a b s t ha hb h k hk
    simp only [h, decide_true, if_true]
    by_cases g : s > t
    · rw [if_pos g] at this ⊢; exact this
    · rw [if_neg g] at this ⊢; exact this
  · simp [h]
theorem PageMeets : lookasidelaw02_PageMeets.Pure := by
  intro a0 s b0 t w0 w1 w2 w3
  obtain ⟨h0, h1⟩ := m_u64 w0
  obtain ⟨a, rfl⟩ := Int.eq_ofNat_of_zero_le h0
  have ha : a < 18446744073709551616 := by omega
  obtain ⟨h2, h3⟩ := m_u64 w2
  obtain ⟨b, rfl⟩ := Int.eq_ofNat_of_zero_le h2
  have hb : b < 18446744073709551616 := by omega
  refine ⟨303, ?_⟩
  unfold lookasidelaw02_PageMeets.f
  have hc : decide (meets b t a s) = decide (meets a s b t) := by
    rw [decide_eq_decide]; unfold meets; rw [mx_comm t s]
    constructor
    · rintro ⟨x, y, z⟩; exact ⟨y, x, z.symm⟩
    · rintro ⟨x, y, z⟩; exact ⟨y, x, z.symm⟩
  rw [pMeet a b ha hb, rMeet a b ha hb _ _ _ (by omega), pMeet b a hb ha, hc]
  simp only [Option.bind_some, bne_self_eq_false, Bool.false_eq_true, if_false, lookasidelaw02_PageMeets.j0]
  rw [rMay, rBase a ha, rBase b hb]
  have hj := meets_j1 a b s t ha hb 300 (by omega)
  by_cases h : okSize t
  · simp only [h, true_and] at hj
    simp only [h, decide_true, Option.bind_some, if_true]
    have e : (((a / bytesOf t * bytesOf t : Nat) : Int) == ((b / bytesOf t * bytesOf t : Nat) : Int)) = decide (a / bytesOf t * bytesOf t = b / bytesOf t * bytesOf t) := by
      rw [Bool.eq_iff_iff]; simp only [beq_iff_eq, decide_eq_true_eq]; omega
    rw [e]; exact hj
  · simp only [h, false_and, decide_false] at hj
    simp only [h, decide_false, Option.bind_some, Bool.false_eq_true, if_false]
    exact hj

end Go.Proofs.Ytedjiicaikhcbaa.Pure
