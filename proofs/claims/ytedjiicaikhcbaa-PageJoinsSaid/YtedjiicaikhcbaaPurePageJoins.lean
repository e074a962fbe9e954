/- For every address and every two sizes, a page and an offset are the address, and a greater page has the lesser ones' addresses; no conditions. -/
import Derived.Test.YtedjiicaikhcbaaQPageJoinsx2
import Derived.Laws.BitsAllLaws
import Derived.Laws.Bits64
set_option linter.unusedVariables false
set_option linter.unusedSimpArgs false
namespace Go.Proofs.Ytedjiicaikhcbaa.Pure
open Go.RowKit Go.Proofs.Ytedjiicaikhcbaa.QPageJoins Go.Proofs.YtedjiicaikhcbaaW.PrintWords Go.Proofs.YtedjiicaikhcbaaW.PrintLast Go.Proofs.YtedjiicaikhcbaaW.PrintMore

/-! ### Plain arithmetic of words -/
theorem m_u64 {a : Int} (h : (Lit.int .u64 a).wf = true) : 0 ≤ a ∧ a < 18446744073709551616 := by
  simp [Lit.wf, IntKind.min, IntKind.max, IntKind.signed, IntKind.bits] at h; omega
theorem m_i64 {a : Int} (h : (Lit.int .i64 a).wf = true) : -9223372036854775808 ≤ a ∧ a < 9223372036854775808 := by
  simp [Lit.wf, IntKind.min, IntKind.max, IntKind.signed, IntKind.bits] at h; omega
theorem m_shr (x : Int) (n : Nat) (h : n ≤ 64) : shr .u64 x (n : Int) = x / 2 ^ n := by
  unfold shr; rw [Int.toNat_natCast, Nat.min_eq_left (by simpa [IntKind.bits] using h)]
theorem m_shl (x : Int) (n : Nat) (h : n ≤ 64) : shl .u64 x (n : Int) = x * 2 ^ n % 18446744073709551616 := by
  unfold shl; rw [Int.toNat_natCast, Nat.min_eq_left (by simpa [IntKind.bits] using h), IntKind.wrap_u64]
theorem m_maskn (n : Nat) (h1 : 1 ≤ n) (h2 : n ≤ 64) : (18446744073709551615 : Int) / 2 ^ (64 - n) = ((2 ^ n - 1 : Nat) : Int) := by
  have hp : 2 ^ (64 - n) * 2 ^ n = (18446744073709551616 : Nat) := by rw [← Nat.pow_add, show 64 - n + n = 64 by omega]
  have h0 : 0 < 2 ^ (64 - n) := Nat.two_pow_pos _
  have h3 : 0 < 2 ^ n := Nat.two_pow_pos _
  have e : (18446744073709551615 : Nat) / 2 ^ (64 - n) = 2 ^ n - 1 := by
    apply Nat.div_eq_of_lt_le
    · rw [Nat.mul_comm, Nat.mul_sub, hp]; omega
    · rw [Nat.sub_add_cancel h3, Nat.mul_comm, hp]; omega
  have := congrArg (fun x : Nat => (x : Int)) e
  simpa using this
theorem m_mask (p n : Nat) (h1 : 1 ≤ n) (h2 : p + n ≤ 64) : shl .u64 (shr .u64 18446744073709551615 ((64 - n : Nat) : Int)) (p : Int) = (((2 ^ n - 1) * 2 ^ p : Nat) : Int) := by
  rw [m_shr _ _ (by omega), m_shl _ _ (by omega), m_maskn n h1 (by omega)]
  have hp : 2 ^ n * 2 ^ p ≤ (18446744073709551616 : Nat) := by
    rw [← Nat.pow_add]; exact Nat.le_trans (Nat.pow_le_pow_right (by decide) (show n + p ≤ 64 by omega)) (by decide)
  have h3 : 0 < 2 ^ p := Nat.two_pow_pos _
  have h4 : (2 ^ n - 1) * 2 ^ p < (18446744073709551616 : Nat) := by
    rw [Nat.sub_mul]; omega
  have e : ((2 ^ n - 1) * 2 ^ p) % (18446744073709551616 : Nat) = (2 ^ n - 1) * 2 ^ p := Nat.mod_eq_of_lt h4
  have := congrArg (fun x : Nat => (x : Int)) e
  simpa using this
theorem m_get (a : Nat) (ha : a < 18446744073709551616) (p n : Nat) (h1 : 1 ≤ n) (h2 : p + n ≤ 64) :
    shr .u64 (Go.bits .and .u64 (a : Int) (((2 ^ n - 1) * 2 ^ p : Nat) : Int)) (p : Int) = ((a / 2 ^ p % 2 ^ n : Nat) : Int) := by
  have hp : 2 ^ n * 2 ^ p ≤ (18446744073709551616 : Nat) := by
    rw [← Nat.pow_add]; exact Nat.le_trans (Nat.pow_le_pow_right (by decide) (show n + p ≤ 64 by omega)) (by decide)
  have h3 : 0 < 2 ^ p := Nat.two_pow_pos _
  have h4 : (2 ^ n - 1) * 2 ^ p < (18446744073709551616 : Nat) := by
    rw [Nat.sub_mul]; omega
  rw [u64_and_nat _ _ ha h4, m_shr _ _ (by omega)]
  have e : (a &&& (2 ^ n - 1) * 2 ^ p) / 2 ^ p = a / 2 ^ p % 2 ^ n := by
    rw [← Nat.shiftRight_eq_div_pow, Nat.shiftRight_and_distrib, Nat.shiftRight_eq_div_pow, Nat.shiftRight_eq_div_pow, Nat.mul_div_cancel _ h3, Nat.and_two_pow_sub_one_eq_mod]
  have := congrArg (fun x : Nat => (x : Int)) e
  simpa using this

/-! ### A bit of a word, by halving -/
theorem m_tdiv (x n : Nat) : Int.tdiv (x : Int) (n : Int) = ((x / n : Nat) : Int) := rfl
theorem m_tmod (x n : Nat) : Int.tmod (x : Int) (n : Int) = ((x % n : Nat) : Int) := rfl
theorem m_w64 (x : Nat) (h : x < 9223372036854775808) : wrap64 (x : Int) = x := by unfold wrap64; omega
theorem m_wu (x : Nat) (h : x < 18446744073709551616) : IntKind.u64.wrap (x : Int) = x := by rw [IntKind.wrap_u64]; omega

/-! ### Fields -/
theorem fMay (p n : Nat) (h1 : 1 ≤ n) (h2 : p + n ≤ 64) : field_May.f (p : Int) (n : Int) = some true := by
  unfold field_May.f
  have e : wrap64 (64 - (n : Int)) = ((64 - n : Nat) : Int) := by unfold wrap64; omega
  rw [if_pos (by omega), if_pos (by omega), if_pos (by omega), e]
  simp; omega
theorem fMask (p n : Nat) (h1 : 1 ≤ n) (h2 : p + n ≤ 64) : field_Mask.f (p : Int) (n : Int) = some (((2 ^ n - 1) * 2 ^ p : Nat) : Int) := by
  unfold field_Mask.f
  have e : wrap64 (64 - (n : Int)) = ((64 - n : Nat) : Int) := by unfold wrap64; omega
  rw [fMay p n h1 h2]
  simp only [Option.bind_some, if_true]
  rw [e, if_pos (by omega), if_pos (by omega), m_mask p n h1 h2]
theorem fGet (a : Nat) (ha : a < 18446744073709551616) (p n : Nat) (h1 : 1 ≤ n) (h2 : p + n ≤ 64) : field_Get.f (a : Int) (p : Int) (n : Int) = some ((a / 2 ^ p % 2 ^ n : Nat) : Int) := by
  unfold field_Get.f
  rw [fMay p n h1 h2, fMask p n h1 h2]
  simp only [Option.bind_some, if_true]
  rw [if_pos (by omega), m_get a ha p n h1 h2]

/-! ### Pages -/
def bytesOf (s : Int) : Nat := if s = 0 then 8192 else if s = 1 then 65536 else if s = 2 then 524288 else if s = 3 then 4194304 else 0
def okSize (s : Int) : Prop := 0 ≤ s ∧ s < 4
instance (s : Int) : Decidable (okSize s) := inferInstanceAs (Decidable (0 ≤ s ∧ s < 4))
theorem size_cases (s : Int) : s = 0 ∨ s = 1 ∨ s = 2 ∨ s = 3 ∨ ¬ okSize s := by unfold okSize; omega
theorem bytes_bad {s : Int} (h : ¬ okSize s) : bytesOf s = 0 := by
  unfold okSize at h; unfold bytesOf; rw [if_neg (by omega), if_neg (by omega), if_neg (by omega), if_neg (by omega)]
theorem pMay (s : Int) : page_May.f s = some (decide (okSize s)) := by
  unfold page_May.f okSize
  split <;> simp [*]
theorem pBits (s : Int) : page_Bits.f s = some (if okSize s then 13 + 3 * s else 0) := by
  unfold page_Bits.f
  rw [pMay]
  by_cases h : okSize s
  · have h' := h
    unfold okSize at h'
    simp only [Option.bind_some, h, decide_true, if_true]
    congr 1; unfold wrap64; omega
  · simp [h]
theorem pOffset (a : Nat) (ha : a < 18446744073709551616) (s : Int) : page_Offset.f (a : Int) s = some (if okSize s then ((a % bytesOf s : Nat) : Int) else 0) := by
  unfold page_Offset.f
  rw [pMay, pBits]
  rcases size_cases s with rfl | rfl | rfl | rfl | h
  · have := fGet a ha 0 13 (by omega) (by omega)
    simp [okSize, bytesOf] at this ⊢; rw [this]
  · have := fGet a ha 0 16 (by omega) (by omega)
    simp [okSize, bytesOf] at this ⊢; rw [this]
  · have := fGet a ha 0 19 (by omega) (by omega)
    simp [okSize, bytesOf] at this ⊢; rw [this]
  · have := fGet a ha 0 22 (by omega) (by omega)
    simp [okSize, bytesOf] at this ⊢; rw [this]
  · simp [h]
theorem pBytes (s : Int) : page_Bytes.f s = some (bytesOf s : Int) := by
  unfold page_Bytes.f
  rw [pMay, pBits]
  rcases size_cases s with rfl | rfl | rfl | rfl | h
  · decide +kernel
  · decide +kernel
  · decide +kernel
  · decide +kernel
  · simp [h, bytes_bad h]
theorem pStarts (a : Nat) (ha : a < 18446744073709551616) (s : Int) : page_Starts.f (a : Int) s = some (decide (okSize s ∧ a % bytesOf s = 0)) := by
  unfold page_Starts.f
  rw [pMay, pOffset a ha]
  by_cases h : okSize s
  · simp only [h, decide_true, Option.bind_some, if_true, true_and, Option.some.injEq]
    rw [Bool.eq_iff_iff]; simp; omega
  · simp [h]

theorem pBase (a : Nat) (ha : a < 18446744073709551616) (s : Int) : page_Base.f (a : Int) s = some ((a / bytesOf s * bytesOf s : Nat) : Int) := by
  unfold page_Base.f
  rw [pMay, pOffset a ha]
  by_cases h : okSize s
  · have e := Nat.div_add_mod a (bytesOf s)
    have e2 : bytesOf s * (a / bytesOf s) = a / bytesOf s * bytesOf s := Nat.mul_comm _ _
    simp only [h, decide_true, Option.bind_some, if_true, Option.some.injEq]
    rw [IntKind.wrap_u64]; omega
  · simp [h, bytes_bad h]

theorem pIn (a b : Nat) (ha : a < 18446744073709551616) (hb : b < 18446744073709551616) (s : Int) : page_In.f (a : Int) (b : Int) s = some (decide (okSize s ∧ a / bytesOf s * bytesOf s = b / bytesOf s * bytesOf s)) := by
  unfold page_In.f
  rw [pMay, pBase a ha, pBase b hb]
  by_cases h : okSize s
  · simp only [h, decide_true, Option.bind_some, if_true, true_and, Option.some.injEq]
    rw [Bool.eq_iff_iff]; simp only [beq_iff_eq, decide_eq_true_eq]; omega
  · simp [h]

theorem liv15 : lookasidelaw02_lives.f 15 = some true := by
  unfold lookasidelaw02_lives.f
  have h1 : page_Cover.f 15 0 81920 = some [1, 0, 0] := by decide +kernel
  have h2 : page_Hole.f 8796093022208 = some true := by decide +kernel
  rw [h1, h2]; rfl
theorem liv (k : Nat) (hk : 15 ≤ k) : lookasidelaw02_lives.f k = some true := at_rounds lookasidelaw02_lives.mono hk liv15

theorem joins_end (a : Nat) (ha : a < 18446744073709551616) (s t : Int) (hs : okSize s) (ht : okSize t) :
    (IntKind.u64.wrap (((a / bytesOf s * bytesOf s : Nat) : Int) + ((a % bytesOf s : Nat) : Int)) = (a : Int)) ∧ ((a % bytesOf s : Nat) : Int) < (bytesOf s : Int) ∧
    okSize (mx s t) ∧ a / bytesOf (mn s t) * bytesOf (mn s t) / bytesOf (mx s t) * bytesOf (mx s t) = a / bytesOf (mx s t) * bytesOf (mx s t) := by
  rw [IntKind.wrap_u64]
  rcases size_cases s with rfl | rfl | rfl | rfl | h
  · rcases size_cases t with rfl | rfl | rfl | rfl | h
    all_goals first | exact absurd ht h | (simp [mx, mn, bytesOf, okSize]; omega)
  · rcases size_cases t with rfl | rfl | rfl | rfl | h
    all_goals first | exact absurd ht h | (simp [mx, mn, bytesOf, okSize]; omega)
  · rcases size_cases t with rfl | rfl | rfl | rfl | h
    all_goals first | exact absurd ht h | (simp [mx, mn, bytesOf, okSize]; omega)
  · rcases size_cases t with rfl | rfl | rfl | rfl | h
    all_goals first | exact absurd ht h | (simp [mx, mn, bytesOf, okSize]; omega)
  · exact absurd hs h
theorem joins_j1 (a : Nat) (ha : a < 18446744073709551616) (s t : Int) (hs : 0 ≤ s) (ht : 0 ≤ t) (k : Nat) (hk : 100 ≤ k) : lookasidelaw02_PageJoins.j1 (k + 1) (a : Int) s t = some true := by
  have e1 : Int.tmod s 4 = s % 4 := Int.tmod_eq_emod_of_nonneg hs
  have e2 : Int.tmod t 4 = t % 4 := Int.tmod_eq_emod_of_nonneg ht
  have o1 : okSize (s % 4) := by unfold okSize; omega
  have o2 : okSize (t % 4) := by unfold okSize; omega
  simp only [lookasidelaw02_PageJoins.j1]
  rw [e1, e2]
  generalize s % 4 = x at o1 e1
  generalize t % 4 = y at o2 e2
  obtain ⟨g1, g2, g3, g4⟩ := joins_end a ha x y o1 o2
  have hm : a / bytesOf (mn x y) * bytesOf (mn x y) < 18446744073709551616 := Nat.lt_of_le_of_lt (Nat.div_mul_le_self _ _) ha
  rw [pBase a ha, pOffset a ha, if_pos o1, pBytes, pBase a ha (mn x y), pBase a ha (mx x y), liv k (by omega)]
  rw [Option.bind_some, Option.bind_some, if_pos g1, Option.bind_some, Option.bind_some, if_pos g2, Option.bind_some, pBase _ hm, g4, Option.bind_some, Option.bind_some, if_pos rfl, Option.bind_some, pIn _ a hm ha, g4, decide_eq_true ⟨g3, rfl⟩]
  rfl
theorem joins_j0 (a : Nat) (ha : a < 18446744073709551616) (s t : Int) (hs : 0 ≤ s) (w2 : (Lit.int .i64 t).wf = true) (k : Nat) (hk : 100 ≤ k) : lookasidelaw02_PageJoins.j0 (k + 2) (a : Int) s t = some true := by
  obtain ⟨b1, b2⟩ := m_i64 w2
  simp only [lookasidelaw02_PageJoins.j0]
  by_cases h : t < 0
  · rw [if_pos h]; exact joins_j1 a ha s _ hs (by unfold wrap64; omega) k hk
  · rw [if_neg h]; exact joins_j1 a ha s t hs (by omega) k hk
theorem PageJoins : lookasidelaw02_PageJoins.Pure := by
  intro a0 s t w0 w1 w2
  obtain ⟨h0, h1⟩ := m_u64 w0
  obtain ⟨a, rfl⟩ := Int.eq_ofNat_of_zero_le h0
  have ha : a < 18446744073709551616 := by omega
  obtain ⟨b1, b2⟩ := m_i64 w1
  refine ⟨302, ?_⟩
  unfold lookasidelaw02_PageJoins.f
  by_cases h : s < 0
  · rw [if_pos h]; exact joins_j0 a ha _ t (by unfold wrap64; omega) w2 300 (by omega)
  · rw [if_neg h]; exact joins_j0 a ha s t (by omega) w2 300 (by omega)

end Go.Proofs.Ytedjiicaikhcbaa.Pure
