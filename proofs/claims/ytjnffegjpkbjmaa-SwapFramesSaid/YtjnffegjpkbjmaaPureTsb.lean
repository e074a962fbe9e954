/- A TSB's places, and the words of entries made such as may be, told plainly; no conditions. -/
import Derived.Test.YtjnffegjpkbjmaaQTsbPlaysx21
import Derived.Test.YtjnffegjpkbjmaaQTsbPlaysx22
import Derived.Laws.BitsAllLaws
import Derived.Laws.Bits64
set_option linter.unusedVariables false
set_option linter.unusedSimpArgs false
namespace Go.Proofs.Ytjnffegjpkbjmaa.Pure
open Go.RowKit Go.Proofs.Ytjnffegjpkbjmaa.QTsbPlays Go.Proofs.YtjnffegjpkbjmaaW.PrintWords Go.Proofs.YtjnffegjpkbjmaaW.PrintLast Go.Proofs.YtjnffegjpkbjmaaW.PrintMore

/-! ### Plain arithmetic of words -/
theorem m_shr (x : Int) (n : Nat) (h : n ≤ 64) : shr .u64 x (n : Int) = x / 2 ^ n := by
  unfold shr; rw [Int.toNat_natCast, Nat.min_eq_left (by simpa [IntKind.bits] using h)]
theorem m_shl (x : Int) (n : Nat) (h : n ≤ 64) : shl .u64 x (n : Int) = x * 2 ^ n % 18446744073709551616 := by
  unfold shl; rw [Int.toNat_natCast, Nat.min_eq_left (by simpa [IntKind.bits] using h), IntKind.wrap_u64]
theorem m_maskn (n : Nat) (h1 : 1 ≤ n) (h2 : n ≤ 64) : (18446744073709551615 : Int) / 2 ^ (64 - n) = ((2 ^ n - 1 : Nat) : Int) := by
  have hp : 2 ^ (64 - n) * 2 ^ n = (18446744073709551616 : Nat) := by rw [← Nat.pow_add, show 64 - n + n = 64 by omega]
  have h0 : 0 < 2 ^ (64 - n) := Nat.two_pow_pos _
  have h3 : 0 < 2 ^ n := Nat.two_pow_pos _
  have e : (18446744073709551615 : Nat) / 2 ^ (64 - n) = 2 ^ n - 1 := by
    apply Nat.div_eq_of_lt_le
    · rw [Nat.mul_comm, Nat.mul_sub, hp]; omega
    · rw [Nat.sub_add_cancel h3, Nat.mul_comm, hp]; omega
  have := congrArg (fun x : Nat => (x : Int)) e
  simpa using this
theorem m_mask (p n : Nat) (h1 : 1 ≤ n) (h2 : p + n ≤ 64) : shl .u64 (shr .u64 18446744073709551615 ((64 - n : Nat) : Int)) (p : Int) = (((2 ^ n - 1) * 2 ^ p : Nat) : Int) := by
  rw [m_shr _ _ (by omega), m_shl _ _ (by omega), m_maskn n h1 (by omega)]
  have hp : 2 ^ n * 2 ^ p ≤ (18446744073709551616 : Nat) := by
    rw [← Nat.pow_add]; exact Nat.le_trans (Nat.pow_le_pow_right (by decide) (show n + p ≤ 64 by omega)) (by decide)
  have h3 : 0 < 2 ^ p := Nat.two_pow_pos _
  have h4 : (2 ^ n - 1) * 2 ^ p < (18446744073709551616 : Nat) := by
    rw [Nat.sub_mul]; omega
  have e : ((2 ^ n - 1) * 2 ^ p) % (18446744073709551616 : Nat) = (2 ^ n - 1) * 2 ^ p := Nat.mod_eq_of_lt h4
  have := congrArg (fun x : Nat => (x : Int)) e
  simpa using this
theorem m_get (a : Nat) (ha : a < 18446744073709551616) (p n : Nat) (h1 : 1 ≤ n) (h2 : p + n ≤ 64) :
    shr .u64 (Go.bits .and .u64 (a : Int) (((2 ^ n - 1) * 2 ^ p : Nat) : Int)) (p : Int) = ((a / 2 ^ p % 2 ^ n : Nat) : Int) := by
  have hp : 2 ^ n * 2 ^ p ≤ (18446744073709551616 : Nat) := by
    rw [← Nat.pow_add]; exact Nat.le_trans (Nat.pow_le_pow_right (by decide) (show n + p ≤ 64 by omega)) (by decide)
  have h3 : 0 < 2 ^ p := Nat.two_pow_pos _
  have h4 : (2 ^ n - 1) * 2 ^ p < (18446744073709551616 : Nat) := by
    rw [Nat.sub_mul]; omega
  rw [u64_and_nat _ _ ha h4, m_shr _ _ (by omega)]
  have e : (a &&& (2 ^ n - 1) * 2 ^ p) / 2 ^ p = a / 2 ^ p % 2 ^ n := by
    rw [← Nat.shiftRight_eq_div_pow, Nat.shiftRight_and_distrib, Nat.shiftRight_eq_div_pow, Nat.shiftRight_eq_div_pow, Nat.mul_div_cancel _ h3, Nat.and_two_pow_sub_one_eq_mod]
  have := congrArg (fun x : Nat => (x : Int)) e
  simpa using this

/-! ### A bit of a word, by halving -/
/-! ### Bits by halving -/
/-! ### Fields -/
theorem fMay (p n : Nat) (h1 : 1 ≤ n) (h2 : p + n ≤ 64) : field_May.f (p : Int) (n : Int) = some true := by
  unfold field_May.f
  have e : wrap64 (64 - (n : Int)) = ((64 - n : Nat) : Int) := by unfold wrap64; omega
  rw [if_pos (by omega), if_pos (by omega), if_pos (by omega), e]
  simp; omega
theorem fMask (p n : Nat) (h1 : 1 ≤ n) (h2 : p + n ≤ 64) : field_Mask.f (p : Int) (n : Int) = some (((2 ^ n - 1) * 2 ^ p : Nat) : Int) := by
  unfold field_Mask.f
  have e : wrap64 (64 - (n : Int)) = ((64 - n : Nat) : Int) := by unfold wrap64; omega
  rw [fMay p n h1 h2]
  simp only [Option.bind_some, if_true]
  rw [e, if_pos (by omega), if_pos (by omega), m_mask p n h1 h2]
theorem fGet (a : Nat) (ha : a < 18446744073709551616) (p n : Nat) (h1 : 1 ≤ n) (h2 : p + n ≤ 64) : field_Get.f (a : Int) (p : Int) (n : Int) = some ((a / 2 ^ p % 2 ^ n : Nat) : Int) := by
  unfold field_Get.f
  rw [fMay p n h1 h2, fMask p n h1 h2]
  simp only [Option.bind_some, if_true]
  rw [if_pos (by omega), m_get a ha p n h1 h2]

/-! ### Pages -/
def bytesOf (s : Int) : Nat := if s = 0 then 8192 else if s = 1 then 65536 else if s = 2 then 524288 else if s = 3 then 4194304 else 0
def okSize (s : Int) : Prop := 0 ≤ s ∧ s < 4
instance (s : Int) : Decidable (okSize s) := inferInstanceAs (Decidable (0 ≤ s ∧ s < 4))
theorem size_cases (s : Int) : s = 0 ∨ s = 1 ∨ s = 2 ∨ s = 3 ∨ ¬ okSize s := by unfold okSize; omega
theorem pMay (s : Int) : page_May.f s = some (decide (okSize s)) := by
  unfold page_May.f okSize
  split <;> simp [*]
theorem pBits (s : Int) : page_Bits.f s = some (if okSize s then 13 + 3 * s else 0) := by
  unfold page_Bits.f
  rw [pMay]
  by_cases h : okSize s
  · have h' := h
    unfold okSize at h'
    simp only [Option.bind_some, h, decide_true, if_true]
    congr 1; unfold wrap64; omega
  · simp [h]
theorem pOffset (a : Nat) (ha : a < 18446744073709551616) (s : Int) : page_Offset.f (a : Int) s = some (if okSize s then ((a % bytesOf s : Nat) : Int) else 0) := by
  unfold page_Offset.f
  rw [pMay, pBits]
  rcases size_cases s with rfl | rfl | rfl | rfl | h
  · have := fGet a ha 0 13 (by omega) (by omega)
    simp [okSize, bytesOf] at this ⊢; rw [this]
  · have := fGet a ha 0 16 (by omega) (by omega)
    simp [okSize, bytesOf] at this ⊢; rw [this]
  · have := fGet a ha 0 19 (by omega) (by omega)
    simp [okSize, bytesOf] at this ⊢; rw [this]
  · have := fGet a ha 0 22 (by omega) (by omega)
    simp [okSize, bytesOf] at this ⊢; rw [this]
  · simp [h]
theorem pStarts (a : Nat) (ha : a < 18446744073709551616) (s : Int) : page_Starts.f (a : Int) s = some (decide (okSize s ∧ a % bytesOf s = 0)) := by
  unfold page_Starts.f
  rw [pMay, pOffset a ha]
  by_cases h : okSize s
  · simp only [h, decide_true, Option.bind_some, if_true, true_and, Option.some.injEq]
    rw [Bool.eq_iff_iff]; simp; omega
  · simp [h]

theorem pHole (a : Nat) (ha : a < 18446744073709551616) : page_Hole.f (a : Int) = some (decide (a / 8796093022208 ≠ 0 ∧ a / 8796093022208 ≠ 2097151)) := by
  unfold page_Hole.f
  have := fGet a ha 43 21 (by omega) (by omega)
  simp only [Nat.reducePow] at this
  have e : a / 8796093022208 % 2097152 = a / 8796093022208 := by omega
  rw [e] at this
  have h43 : ((43 : Nat) : Int) = 43 := rfl
  have h21 : ((21 : Nat) : Int) = 21 := rfl
  rw [h43, h21] at this
  rw [this]
  simp only [Option.bind_some]
  by_cases h0 : a / 8796093022208 = 0
  · rw [h0]; simp
  · rw [if_neg (by omega)]
    simp only [ne_eq, h0, not_false_eq_true, true_and, Option.some.injEq]
    rw [Bool.eq_iff_iff]; simp; omega

theorem rMay (s : Int) : lookasideref02_May.f s = some (decide (okSize s)) := by
  unfold lookasideref02_May.f okSize
  split
  · simp [*]; omega
  · simp [*]
/-! ### A number put into a field -/
def b2n (b : Bool) : Nat := if b then 1 else 0
/-! ### An entry's words -/
def tagOf (c va : Nat) (g : Bool) : Nat := b2n g * 9223372036854775808 + c * 281474976710656 + va / 4194304 % 4194304
def dataOf (s pa : Nat) (w p x l g q : Bool) : Nat := 9223372036854775808 + s * 2305843009213693952 + b2n q * 1152921504606846976 + pa + b2n l * 64 + b2n x * 8 + b2n p * 4 + b2n w * 2 + b2n g
/-! ### An entry that may be, made of any -/
/-- Which entries may be. -/
def mayOf (s c : Int) (va pa : Nat) (g v : Bool) : Bool :=
  v && (decide (okSize s) && (decide (0 ≤ c) && (decide (c ≤ 8191) && (!(g && c != 0) && (!(decide (va / 8796093022208 ≠ 0 ∧ va / 8796093022208 ≠ 2097151)) && (decide (va % bytesOf s = 0) && (decide (pa < 2199023255552) && decide (pa % bytesOf s = 0))))))))
theorem fFits (pa : Nat) : field_Fits.f (pa : Int) 41 = some (decide (pa < 2199023255552)) := by
  unfold field_Fits.f
  rw [if_neg (by decide), if_pos (by decide), if_pos (by decide)]
  have := m_shr (pa : Int) 41 (by omega)
  rw [show ((41 : Nat) : Int) = 41 from rfl] at this
  rw [this]
  refine congrArg some ?_
  rw [Bool.eq_iff_iff]; simp only [Int.reducePow, beq_iff_eq, decide_eq_true_eq]; omega
theorem pTMay (s c : Int) (va pa : Nat) (w p x l g q v : Bool) (hva : va < 18446744073709551616) (hpa : pa < 18446744073709551616) (k : Nat) (hk : 10 ≤ k) : tte_May.f k s c (va : Int) (pa : Int) w p x l g q v = some (mayOf s c va pa g v) := by
  obtain ⟨k, rfl⟩ : ∃ m, k = m + 1 := ⟨k - 1, by omega⟩
  have hj : ∀ b, tte_May.j0 (k + 1) b s c (va : Int) (pa : Int) w p x l g q v = some (!b && (!(decide (va / 8796093022208 ≠ 0 ∧ va / 8796093022208 ≠ 2097151)) && (decide (okSize s ∧ va % bytesOf s = 0) && (decide (pa < 2199023255552) && decide (okSize s ∧ pa % bytesOf s = 0))))) := by
    intro b
    rw [tte_May.j0, pHole va hva, pStarts va hva, pStarts pa hpa, fFits]
    simp only [Option.bind_some]
    generalize decide (va / 8796093022208 ≠ 0 ∧ va / 8796093022208 ≠ 2097151) = d1
    generalize decide (okSize s ∧ va % bytesOf s = 0) = d2
    generalize decide (pa < 2199023255552) = d3
    generalize decide (okSize s ∧ pa % bytesOf s = 0) = d4
    cases b <;> cases d1 <;> cases d2 <;> cases d3 <;> cases d4 <;> rfl
  unfold tte_May.f mayOf
  rw [pMay, hj, hj, hj]
  cases v
  · simp
  · by_cases h : okSize s
    · simp only [h, decide_true, Option.bind_some, if_true, true_and, Bool.true_and]
      by_cases h1 : c < 0
      · rw [if_pos h1]; have : ¬ 0 ≤ c := by omega
        simp [this]
      · rw [if_neg h1]
        have h1' : 0 ≤ c := by omega
        by_cases h2 : c > 8191
        · rw [if_pos h2]; have : ¬ c ≤ 8191 := by omega
          simp [this]
        · rw [if_neg h2]
          have h2' : c ≤ 8191 := by omega
          cases g <;> simp [h1', h2']
    · simp [h]

/-! ### An entry of words -/
def sOf (d : Nat) : Nat := d / 2305843009213693952 % 4
section
variable (s q f l x p w g : Nat)
end
/-! ### A TSB's places -/
def plcs (s g : Nat) : Nat := 512 / 8 ^ s * 2 ^ g
theorem plcs_le (s g : Nat) (hs : s < 4) (hg : g < 4) : 1 ≤ plcs s g ∧ plcs s g ≤ 4096 := by
  have h : ∀ s : Fin 4, ∀ g : Fin 4, 1 ≤ plcs s g ∧ plcs s g ≤ 4096 := by decide
  exact h ⟨s, hs⟩ ⟨g, hg⟩
def plcOf (N : Nat) (s : Int) (va : Nat) : Nat := va / bytesOf s % N
theorem plcOf_lt {N : Nat} (hN : 1 ≤ N) (s : Int) (va : Nat) : plcOf N s va < N := Nat.mod_lt _ (by omega)
/-- A number made 0 to 3. -/
def ar4 (i : Int) : Nat := (i % 4).toNat
theorem ar4_lt (i : Int) : ar4 i < 4 := by unfold ar4; omega
theorem rAround4 (i : Int) : lookasideref08_Around.f i 4 = some (ar4 i : Int) := by
  unfold lookasideref08_Around.f ar4
  rw [if_neg (by decide)]
  by_cases h : 0 ≤ i
  · rw [Int.tmod_eq_emod_of_nonneg h, if_neg (by omega)]
    refine congrArg some ?_
    omega
  · obtain ⟨j, rfl⟩ : ∃ j, i = -j := ⟨-i, by omega⟩
    rw [Int.neg_tmod, Int.tmod_eq_emod_of_nonneg (by omega : 0 ≤ j)]
    by_cases h2 : -(j % 4) < 0
    · rw [if_pos h2]
      refine congrArg some ?_
      unfold wrap64
      omega
    · rw [if_neg h2]
      refine congrArg some ?_
      omega
theorem pPlaces (s g : Nat) (hs : s < 4) (hg : g < 4) : tsb_Places.f (s : Int) (g : Int) = some (plcs s g : Int) := by
  have h : ∀ s : Fin 4, ∀ g : Fin 4, tsb_Places.f ((s : Nat) : Int) ((g : Nat) : Int) = some (plcs s g : Int) := by decide +kernel
  exact h ⟨s, hs⟩ ⟨g, hg⟩
theorem rPlaces (s g : Nat) (hs : s < 4) (hg : g < 4) : lookasideref10_Places.f (s : Int) (g : Int) = some (plcs s g : Int) := by
  have h : ∀ s : Fin 4, ∀ g : Fin 4, lookasideref10_Places.f ((s : Nat) : Int) ((g : Nat) : Int) = some (plcs s g : Int) := by decide +kernel
  exact h ⟨s, hs⟩ ⟨g, hg⟩
/-! ### Words of entries that may be -/
/-- An entry that may be. -/
structure GE where
  s : Nat
  c : Nat
  v : Nat
  p : Nat
  w : Bool
  pr : Bool
  x : Bool
  l : Bool
  g : Bool
  q : Bool
structure GE.ok (e : GE) : Prop where
  hs : e.s < 4
  hc : e.c < 8192
  hv : e.v < 18446744073709551616
  hh : ¬ (e.v / 8796093022208 ≠ 0 ∧ e.v / 8796093022208 ≠ 2097151)
  vm : e.v % bytesOf (e.s : Int) = 0
  hp : e.p < 2199023255552
  pm : e.p % bytesOf (e.s : Int) = 0
  gc : e.g = true → e.c = 0
def GE.tag (e : GE) : Nat := tagOf e.c e.v e.g
def GE.data (e : GE) : Nat := dataOf e.s e.p e.w e.pr e.x e.l e.g e.q
theorem GE.ok.os {e : GE} (h : e.ok) : okSize (e.s : Int) := by have := h.hs; unfold okSize; omega
theorem GE.ok.mayN {e : GE} (h : e.ok) : mayOf (e.s : Int) (e.c : Int) e.v e.p e.g true = true := by
  have := h.hc
  have c1 : 0 ≤ (e.c : Int) := by omega
  have c2 : (e.c : Int) ≤ 8191 := by omega
  have c3 : (e.g && (e.c : Int) != 0) = false := by
    cases hg : e.g
    · rfl
    · rw [h.gc hg]; rfl
  unfold mayOf
  rw [decide_eq_true h.os, decide_eq_true c1, decide_eq_true c2, c3, decide_eq_false h.hh, decide_eq_true h.vm, decide_eq_true h.hp, decide_eq_true h.pm]
  rfl
theorem GE.ok.may {e : GE} (h : e.ok) : tte_May.f 500 (e.s : Int) (e.c : Int) (e.v : Int) (e.p : Int) e.w e.pr e.x e.l e.g e.q true = some true := by
  have := h.hp
  rw [pTMay _ _ _ _ _ _ _ _ _ _ _ h.hv (by omega) 500 (by decide), h.mayN]
end Go.Proofs.Ytjnffegjpkbjmaa.Pure
