/- What maps.Clone, Memory.Clear and Memory.Copy do with what a memory has, byte by byte, in whatever order its words come; for memories of at most 2^41 bytes. -/
import Derived.Test.YtjnffegjpkbjmaaGreatMem1
import Derived.Laws.BitsAllLaws
import Derived.Shelf.SlMaps.Clone
/- merged: YtjnffegjpkbjmaaGreatMemBytes -/
namespace Go.Proofs.YtjnffegjpkbjmaaGreat.Mem
open Go.RowKit Go.Maps Go.Proofs.YtjnffegjpkbjmaaGreatW.PrintWords Go.Proofs.YtjnffegjpkbjmaaGreatW.PrintLast Go.Proofs.YtjnffegjpkbjmaaGreatW.PrintMore
set_option linter.unusedSimpArgs false
set_option linter.unusedVariables false
theorem rd_st_same {D : DataW Unit} (h : IsMap D) (k v : Int) : rd (st D k v) k = v := by
  unfold rd st
  by_cases hv : v = 0
  · rw [if_pos hv, atKey_del_same, hv]
  · rw [if_neg hv, atKey_put_same h (by trivial)]
theorem rd_st_other {D : DataW Unit} {k k' : Int} (hne : k' ≠ k) (v : Int) : rd (st D k v) k' = rd D k' := by
  have h : Lit.int .u64 k' ≠ Lit.int .u64 k := fun e => hne (by injection e)
  unfold rd st
  by_cases hv : v = 0
  · rw [if_pos hv, atKey_del_other h]
  · rw [if_neg hv, atKey_put_other h]
/-- A word's i highest bytes. -/
def pre (x : Int) (i : Nat) : Int := x / 2 ^ (8 * (8 - i))
def bt (x : Int) (i : Nat) : Int := x / 2 ^ ((7 - i) * 8) % 256
theorem pre_zero {x : Int} (hx : (Lit.int .u64 x).wf = true) : (0 : Int) = pre x 0 := by
  have := u64_b hx
  unfold pre
  simp
  omega
theorem pre_eight (x : Int) : pre x 8 = x := by
  unfold pre
  simp
theorem pre_step {x : Int} (hx : (Lit.int .u64 x).wf = true) {i : Nat} (hi : i < 8) : IntKind.u64.wrap (IntKind.u64.wrap (256 * pre x i) + IntKind.u64.wrap (bt x i)) = pre x (i + 1) := by
  have := u64_b hx
  unfold IntKind.wrap pre bt
  simp only [IntKind.signed, IntKind.bits]
  match i, hi with
  | 0, _ | 1, _ | 2, _ | 3, _ | 4, _ | 5, _ | 6, _ | 7, _ => simp; omega
theorem byte_at_i {D : DataW Unit} {A x : Int} {i : Nat} (hA : A % 8 = 0) (hi : i < 8) (h : rd D (A / 8) = x) : byteAt D (A + i) = bt x i := by
  unfold byteAt bt
  have e1 : (A + i) / 8 = A / 8 := by omega
  have e2 : (A + i) % 8 = i := by omega
  rw [e1, e2, h]
  have e3 : ((7 - (i : Int)) * 8).toNat = (7 - i) * 8 := by omega
  rw [e3]
/-! ### A number put into a field -/
def putOf (a p n v : Nat) : Nat := a - a / 2 ^ p % 2 ^ n * 2 ^ p + v % 2 ^ n * 2 ^ p
theorem m_put (a v : Nat) (ha : a < 18446744073709551616) (p n : Nat) (h1 : 1 ≤ n) (h2 : p + n ≤ 64) :
    (a &&& (18446744073709551615 - (2 ^ n - 1) * 2 ^ p)) ||| ((v * 2 ^ p % 18446744073709551616) &&& ((2 ^ n - 1) * 2 ^ p)) = putOf a p n v := by
  have hn0 : 0 < 2 ^ n := Nat.two_pow_pos n
  have hp0 : 0 < 2 ^ p := Nat.two_pow_pos p
  have hM : (2 ^ n - 1) * 2 ^ p < 2 ^ 64 := by
    have hp : 2 ^ n * 2 ^ p ≤ (2 ^ 64 : Nat) := by
      rw [← Nat.pow_add]; exact Nat.pow_le_pow_right (by decide) (by omega)
    rw [Nat.sub_mul]; omega
  have hT : putOf a p n v = 2 ^ (p + n) * (a / 2 ^ (p + n)) + (2 ^ p * (v % 2 ^ n) + a % 2 ^ p) := by
    unfold putOf
    have e1 : a = 2 ^ p * (a / 2 ^ p) + a % 2 ^ p := (Nat.div_add_mod a (2 ^ p)).symm
    have e2 : a / 2 ^ p = 2 ^ n * (a / 2 ^ p / 2 ^ n) + a / 2 ^ p % 2 ^ n := (Nat.div_add_mod (a / 2 ^ p) (2 ^ n)).symm
    rw [Nat.div_div_eq_div_mul, ← Nat.pow_add] at e2
    have e3 : 2 ^ p * (a / 2 ^ p) = 2 ^ (p + n) * (a / 2 ^ (p + n)) + a / 2 ^ p % 2 ^ n * 2 ^ p := by
      conv => lhs; rw [e2]
      rw [Nat.mul_add, ← Nat.mul_assoc, ← Nat.pow_add, Nat.mul_comm (a / 2 ^ p % 2 ^ n)]
    have e4 : v % 2 ^ n * 2 ^ p = 2 ^ p * (v % 2 ^ n) := Nat.mul_comm _ _
    omega
  have hin : 2 ^ p * (v % 2 ^ n) + a % 2 ^ p < 2 ^ (p + n) := by
    have x1 : v % 2 ^ n < 2 ^ n := Nat.mod_lt _ hn0
    have x2 : a % 2 ^ p < 2 ^ p := Nat.mod_lt _ hp0
    have x3 : 2 ^ p * (v % 2 ^ n + 1) ≤ 2 ^ p * 2 ^ n := Nat.mul_le_mul_left _ x1
    rw [Nat.pow_add]
    rw [Nat.mul_add, Nat.mul_one] at x3
    omega
  rw [hT]
  apply Nat.eq_of_testBit_eq
  intro i
  rw [show (18446744073709551615 : Nat) - (2 ^ n - 1) * 2 ^ p = 2 ^ 64 - ((2 ^ n - 1) * 2 ^ p + 1) by omega, show (18446744073709551616 : Nat) = 2 ^ 64 from rfl]
  rw [Nat.testBit_or, Nat.testBit_and, Nat.testBit_and, Nat.testBit_two_pow_sub_succ hM, Nat.testBit_mod_two_pow, Nat.testBit_mul_two_pow, Nat.testBit_mul_two_pow, Nat.testBit_two_pow_sub_one]
  rw [Nat.testBit_two_pow_mul_add _ hin, Nat.testBit_two_pow_mul_add _ (Nat.mod_lt a hp0), Nat.testBit_mod_two_pow, Nat.testBit_mod_two_pow, Nat.testBit_div_two_pow]
  have hhi : 64 ≤ i → a.testBit i = false := fun h => Nat.testBit_lt_two_pow (Nat.lt_of_lt_of_le ha (Nat.pow_le_pow_right (by decide) h : 2 ^ 64 ≤ 2 ^ i))
  by_cases c1 : i < p
  · have c2 : i < p + n := by omega
    have c3 : ¬ p ≤ i := by omega
    have c4 : i < 64 := by omega
    simp [c1, c2, c3, c4]
  · by_cases c2 : i < p + n
    · have c3 : p ≤ i := by omega
      have c4 : i < 64 := by omega
      have c5 : i - p < n := by omega
      simp [c1, c2, c3, c4, c5]
    · have c3 : p ≤ i := by omega
      have c5 : ¬ i - p < n := by omega
      by_cases c4 : i < 64
      · simp [c1, c2, c3, c4, c5, Nat.sub_add_cancel (show p + n ≤ i by omega)]
      · simp [c1, c2, c3, c4, c5, hhi (by omega), Nat.sub_add_cancel (show p + n ≤ i by omega)]
theorem and_top (v p n : Nat) (hv : v < 2 ^ n) (hp : p + n ≤ 64) : (v * 2 ^ p % 18446744073709551616) &&& ((2 ^ n - 1) * 2 ^ p) = v * 2 ^ p := by
  have h1 : v * 2 ^ p < 18446744073709551616 := by
    have h2 : v * 2 ^ p < 2 ^ n * 2 ^ p := Nat.mul_lt_mul_of_pos_right hv (Nat.two_pow_pos p)
    have h3 : 2 ^ n * 2 ^ p ≤ (2 ^ 64 : Nat) := by rw [← Nat.pow_add]; exact Nat.pow_le_pow_right (by decide) (by omega)
    omega
  rw [Nat.mod_eq_of_lt h1]
  apply Nat.eq_of_testBit_eq
  intro i
  rw [Nat.testBit_and, Nat.testBit_mul_two_pow, Nat.testBit_mul_two_pow, Nat.testBit_two_pow_sub_one]
  by_cases c : i - p < n
  · simp [c]
    intro h _; exact h
  · have : v.testBit (i - p) = false := Nat.testBit_lt_two_pow (Nat.lt_of_lt_of_le hv (Nat.pow_le_pow_right (by decide) (by omega)))
    simp [this]
theorem putB_nat (x b i : Nat) (hx : x < 18446744073709551616) (hb : b < 256) (hi : i ≤ 7) (a : Int) (ha : a % 8 = 7 - (i : Int)) : putB (x : Int) a (b : Int) = ((putOf x (i * 8) 8 b : Nat) : Int) := by
  unfold putB
  have e1 : ((7 - a % 8) * 8).toNat = i * 8 := by omega
  have e2 : IntKind.u64.wrap (b : Int) = (b : Int) := by rw [IntKind.wrap_u64]; omega
  have hP : 255 * 2 ^ (i * 8) < 18446744073709551616 := by
    have : 2 ^ (i * 8) ≤ 2 ^ 56 := Nat.pow_le_pow_right (by decide) (by omega)
    omega
  have hQ : b * 2 ^ (i * 8) < 18446744073709551616 := by
    have h1 : b * 2 ^ (i * 8) ≤ 255 * 2 ^ (i * 8) := Nat.mul_le_mul_right _ (by omega)
    omega
  have e3 : IntKind.u64.wrap ((255 : Int) * 2 ^ (i * 8)) = ((255 * 2 ^ (i * 8) : Nat) : Int) := by
    rw [IntKind.wrap_u64, show ((255 : Int) * 2 ^ (i * 8)) = ((255 * 2 ^ (i * 8) : Nat) : Int) by simp]; omega
  have e4 : IntKind.u64.wrap ((b : Int) * 2 ^ (i * 8)) = ((b * 2 ^ (i * 8) : Nat) : Int) := by
    rw [IntKind.wrap_u64, show ((b : Int) * 2 ^ (i * 8)) = ((b * 2 ^ (i * 8) : Nat) : Int) by simp]; omega
  rw [e1, e2, e3, e4, u64_andNot_nat _ _ hx hP, u64_or_nat _ _ (Nat.lt_of_le_of_lt Nat.and_le_left hx) hQ, ← m_put x b hx (i * 8) 8 (by omega) (by omega), and_top b (i * 8) 8 hb (by omega), show (2 ^ 8 - 1 : Nat) = 255 from rfl]
/-- No word that is 0 stands there. -/
def Clean (D : DataW Unit) : Prop := Tidy D ∧ ∀ k, has D (.int .u64 k) = (rd D k != 0)
theorem clean_empty : Clean (.map []) := ⟨tidy_empty, fun k => rfl⟩
theorem clean_st {D : DataW Unit} (h : Clean D) (k v : Int) : Clean (st D k v) := by
  refine ⟨?_, fun k' => ?_⟩
  · unfold st; split; exact h.1.del _; exact h.1.put (show WideAt.IsKeyLit (.int .u64 k) by trivial) _
  · by_cases e : k' = k
    · subst e
      rw [rd_st_same h.1.isMap]
      unfold st
      by_cases hv : v = 0
      · rw [if_pos hv, has_del_same, hv]; rfl
      · rw [if_neg hv, has_put_same h.1.isMap (show WideAt.IsKeyLit (.int .u64 k') by trivial)]; exact (bne_iff_ne.mpr hv).symm
    · have hl : Lit.int .u64 k' ≠ Lit.int .u64 k := fun x => e (by injection x)
      rw [rd_st_other e, ← h.2 k']
      unfold st
      by_cases hv : v = 0
      · rw [if_pos hv, has_del_other hl]
      · rw [if_neg hv, has_put_other hl]
def one (v : Int) : Nat := if v = 0 then 0 else 1
theorem size_st {D : DataW Unit} (h : Clean D) (k v : Int) : Maps.size (st D k v) + one (rd D k) = Maps.size D + one v := by
  have hh := h.2 k
  unfold st one
  by_cases hv : v = 0
  · rw [if_pos hv, if_pos hv]
    have h1 := size_del (k := .int .u64 k) h.1
    by_cases h2 : rd D k = 0
    · rw [if_pos h2]; rw [hh, h2] at h1; simpa using h1
    · rw [if_neg h2]; rw [hh, bne_iff_ne.mpr h2] at h1; simpa using h1
  · rw [if_neg hv, if_neg hv]
    have h1 := size_put (k := .int .u64 k) h.1 (.lit (.int .u64 v))
    by_cases h2 : rd D k = 0
    · rw [if_pos h2]; rw [hh, h2] at h1; simpa using h1
    · rw [if_neg h2]; rw [hh, bne_iff_ne.mpr h2] at h1; simp at h1; omega
end Go.Proofs.YtjnffegjpkbjmaaGreat.Mem
namespace Go.Proofs.YtjnffegjpkbjmaaGreat.Mem
open Go.RowKit Go.Maps Go.Proofs.YtjnffegjpkbjmaaGreatW.PrintWords Go.Proofs.YtjnffegjpkbjmaaGreatW.PrintLast Go.Proofs.YtjnffegjpkbjmaaGreatW.PrintMore
set_option linter.unusedSimpArgs false
set_option linter.unusedVariables false
section
set_option maxHeartbeats 1000000
set_option maxRecDepth 100000
/-- What a memory's map is at all times. -/
structure Good (D : DataW Unit) : Prop where
  clean : Clean D
  wf : ∀ q, (Lit.int .u64 (rd D q)).wf = true
  low : ∀ q, rd D q ≠ 0 → 0 ≤ q ∧ q < 1152921504606846976
theorem good_empty : Good (.map []) := ⟨clean_empty, fun q => by show (Lit.int .u64 0).wf = true; decide, fun q h => absurd rfl h⟩
theorem good_st {D : DataW Unit} (h : Good D) {k v : Int} (hk : 0 ≤ k ∧ k < 1152921504606846976) (hv : (Lit.int .u64 v).wf = true) : Good (st D k v) := by
  refine ⟨clean_st h.clean k v, fun q => ?_, fun q hq => ?_⟩
  · by_cases e : q = k
    · rw [e, rd_st_same h.clean.1.isMap]; exact hv
    · rw [rd_st_other e]; exact h.wf q
  · by_cases e : q = k
    · rw [e]; exact hk
    · rw [rd_st_other e] at hq; exact h.low q hq
theorem putOf_byte (x b i j : Nat) (hx : x < 18446744073709551616) (hb : b < 256) (hi : i ≤ 7) (hj : j ≤ 7) : putOf x (i * 8) 8 b / 2 ^ (j * 8) % 256 = if j = i then b else x / 2 ^ (j * 8) % 256 := by
  unfold putOf
  match i, hi, j, hj with
  | 0, _, j, hj => match j, hj with
    | 0, _ => simp; omega
    | 1, _ => simp; omega
    | 2, _ => simp; omega
    | 3, _ => simp; omega
    | 4, _ => simp; omega
    | 5, _ => simp; omega
    | 6, _ => simp; omega
    | 7, _ => simp; omega
  | 1, _, j, hj => match j, hj with
    | 0, _ => simp; omega
    | 1, _ => simp; omega
    | 2, _ => simp; omega
    | 3, _ => simp; omega
    | 4, _ => simp; omega
    | 5, _ => simp; omega
    | 6, _ => simp; omega
    | 7, _ => simp; omega
  | 2, _, j, hj => match j, hj with
    | 0, _ => simp; omega
    | 1, _ => simp; omega
    | 2, _ => simp; omega
    | 3, _ => simp; omega
    | 4, _ => simp; omega
    | 5, _ => simp; omega
    | 6, _ => simp; omega
    | 7, _ => simp; omega
  | 3, _, j, hj => match j, hj with
    | 0, _ => simp; omega
    | 1, _ => simp; omega
    | 2, _ => simp; omega
    | 3, _ => simp; omega
    | 4, _ => simp; omega
    | 5, _ => simp; omega
    | 6, _ => simp; omega
    | 7, _ => simp; omega
  | 4, _, j, hj => match j, hj with
    | 0, _ => simp; omega
    | 1, _ => simp; omega
    | 2, _ => simp; omega
    | 3, _ => simp; omega
    | 4, _ => simp; omega
    | 5, _ => simp; omega
    | 6, _ => simp; omega
    | 7, _ => simp; omega
  | 5, _, j, hj => match j, hj with
    | 0, _ => simp; omega
    | 1, _ => simp; omega
    | 2, _ => simp; omega
    | 3, _ => simp; omega
    | 4, _ => simp; omega
    | 5, _ => simp; omega
    | 6, _ => simp; omega
    | 7, _ => simp; omega
  | 6, _, j, hj => match j, hj with
    | 0, _ => simp; omega
    | 1, _ => simp; omega
    | 2, _ => simp; omega
    | 3, _ => simp; omega
    | 4, _ => simp; omega
    | 5, _ => simp; omega
    | 6, _ => simp; omega
    | 7, _ => simp; omega
  | 7, _, j, hj => match j, hj with
    | 0, _ => simp; omega
    | 1, _ => simp; omega
    | 2, _ => simp; omega
    | 3, _ => simp; omega
    | 4, _ => simp; omega
    | 5, _ => simp; omega
    | 6, _ => simp; omega
    | 7, _ => simp; omega
theorem byte_put {D : DataW Unit} (h : Good D) {a b : Int} (ha : 0 ≤ a) (hb0 : 0 ≤ b) (hb : b < 256) (t : Int) : byteAt (st D (a / 8) (putB (rd D (a / 8)) a b)) t = if t = a then b else byteAt D t := by
  obtain ⟨h0, h1⟩ := u64_b (h.wf (a / 8))
  unfold byteAt
  by_cases e : t / 8 = a / 8
  · rw [e, rd_st_same h.clean.1.isMap]
    obtain ⟨X, hX⟩ := Int.eq_ofNat_of_zero_le h0
    obtain ⟨b', rfl⟩ := Int.eq_ofNat_of_zero_le hb0
    rw [hX] at h1 ⊢
    obtain ⟨i, hi, hi7⟩ : ∃ i : Nat, a % 8 = 7 - (i : Int) ∧ i ≤ 7 := ⟨(7 - a % 8).toNat, by omega, by omega⟩
    obtain ⟨j, hj, hj7⟩ : ∃ j : Nat, t % 8 = 7 - (j : Int) ∧ j ≤ 7 := ⟨(7 - t % 8).toNat, by omega, by omega⟩
    have e1 : ((7 - t % 8) * 8).toNat = j * 8 := by omega
    rw [e1, putB_nat X b' i (by omega) (by omega) hi7 a hi]
    have := putOf_byte X b' i j (by omega) (by omega) hi7 hj7
    have e2 : ((putOf X (i * 8) 8 b' : Nat) : Int) / 2 ^ (j * 8) % 256 = ((putOf X (i * 8) 8 b' / 2 ^ (j * 8) % 256 : Nat) : Int) := by simp
    rw [e2, this]
    by_cases c : j = i
    · rw [if_pos c, if_pos (by omega)]
    · rw [if_neg c, if_neg (by omega)]; simp
  · rw [rd_st_other e, if_neg (fun x => e (by rw [x]))]
theorem byte_zero {D : DataW Unit} {t : Int} (h : rd D (t / 8) = 0) : byteAt D t = 0 := by unfold byteAt; rw [h]; simp
/-- A memory's map, as large as it must be. -/
theorem Mem.tight {B w0 p mb sz n D W} (h : Mem B w0 p mb sz n D W) : Mem B w0 p mb sz (Maps.size D) D W := by
  refine ⟨h.below, h.hp, h.hm, h.hB, h.row, ?_, h.wfs⟩
  obtain ⟨es, clock, hb, F, hs, hD⟩ := h.own
  exact ⟨es, clock, hb, F, by rw [hD]; show es.size ≤ List.length _; rw [length_read]; exact Nat.le_refl _, hD⟩
theorem clone_calls {W : World} {b n : Nat} {D : DataW Unit} (h : W.ownsMap Tryz.prog 37 (plainElem Tryz.prog 37) b n D) :
    Calls Tryz.prog 82 #[.map (some b)] W fun e W' => e = .returned (.map (some W.heap.size)) ∧ W'.ownsMap Tryz.prog 37 (plainElem Tryz.prog 37) W.heap.size n D ∧ W.grownBy W' none ∧ W'.heap.size = W.heap.size + 1 := by
  obtain ⟨es, clock, hb, F, hs, hD⟩ := h
  have hq := fun w => run_eql_map_nil_sl (P := Tryz.prog) w 99 _ _ (some b) Tryz.underlying99
  go_enter Tryz.func82, Tryz.ntmps82
  go_wp2
  rw [run_callFunc_extern Tryz.func110 (by kernel_rfl) (by kernel_rfl) (by kernel_rfl) (e := Extern.MapsClone.clone) (by kernel_rfl), run_maps_clone_sl W 99 hb]
  simp only [Result.andThen]
  rw [Oper.upon_value]
  go_wp2
  rw [run_typeAssert_map_sl _ 99 20 _ _ _ Tryz.underlying99]
  simp only [Result.andThen]
  rw [Oper.upon_value]
  go_wp2
  go_ret
  exact ⟨rfl, ⟨es, clock, (MapKept.heap_alloc W _).1, F, hs, hD⟩, World.grownBy_alloc W _ none, by simp⟩
/-- What is no longer to come. -/
def Gone (left : Lit → Bool) (q : Int) : Prop := left (.int .u64 q) = false
def strike (left : Lit → Bool) (x : Int) : Lit → Bool := fun z => left z && !z.sameKey (.int .u64 x)
theorem same_int (q x : Int) : (Lit.int .u64 q).sameKey (.int .u64 x) = decide (q = x) := by
  simp [Lit.sameKey]
theorem gone_strike (left : Lit → Bool) (x q : Int) : Gone (strike left x) q ↔ Gone left q ∨ q = x := by
  unfold Gone strike
  rw [same_int]
  cases left (.int .u64 q) <;> simp
/-- What the memory has while it is cleared. -/
def CR (a k : Int) (D E : DataW Unit) (left : Lit → Bool) : Prop := ∀ t, 0 ≤ t → (Gone left (t / 8) ∧ a ≤ t ∧ t - a < k → byteAt E t = 0) ∧ (¬ (Gone left (t / 8) ∧ a ≤ t ∧ t - a < k) → byteAt E t = byteAt D t)
def CI (a k : Int) (D E : DataW Unit) (left : Lit → Bool) (x j : Int) : Prop := ∀ t, 0 ≤ t → ((Gone left (t / 8) ∨ t / 8 = x ∧ t % 8 < j) ∧ a ≤ t ∧ t - a < k → byteAt E t = 0) ∧ (¬ ((Gone left (t / 8) ∨ t / 8 = x ∧ t % 8 < j) ∧ a ≤ t ∧ t - a < k) → byteAt E t = byteAt D t)
theorem cr_start (a k : Int) {D : DataW Unit} (h : Good D) : CR a k D D (Maps.has D) := by
  intro t ht
  refine ⟨fun x => byte_zero ?_, fun _ => rfl⟩
  have := h.clean.2 (t / 8)
  rw [x.1] at this
  exact bne_eq_false_iff_eq.mp this.symm
theorem ci_start {a k : Int} {D E : DataW Unit} {left : Lit → Bool} (h : CR a k D E left) (x : Int) : CI a k D E left x 0 := by
  intro t ht
  have h0 : ¬ (t / 8 = x ∧ t % 8 < 0) := by omega
  refine ⟨fun z => (h t ht).1 ⟨z.1.resolve_right h0, z.2⟩, fun z => (h t ht).2 fun y => z ⟨.inl y.1, y.2⟩⟩
theorem ci_end {a k : Int} {D E : DataW Unit} {left : Lit → Bool} {x : Int} (h : CI a k D E left x 8) : CR a k D E (strike left x) := by
  intro t ht
  have h8 : t % 8 < 8 := by omega
  refine ⟨fun z => (h t ht).1 ⟨((gone_strike _ _ _).mp z.1).imp id (fun e => ⟨e, h8⟩), z.2⟩, fun z => (h t ht).2 fun y => z ⟨(gone_strike _ _ _).mpr (y.1.imp id (·.1)), y.2⟩⟩
theorem ci_skip {a k : Int} {D E : DataW Unit} {left : Lit → Bool} {x j : Int} (h : CI a k D E left x j) (hn : ¬ (a ≤ x * 8 + j ∧ x * 8 + j - a < k)) (hj : 0 ≤ j ∧ j < 8) : CI a k D E left x (j + 1) := by
  intro t ht
  have e : t / 8 = x ∧ t % 8 < j + 1 → t / 8 = x ∧ t % 8 < j ∨ t = x * 8 + j := by omega
  refine ⟨fun z => ?_, fun z => (h t ht).2 fun y => z ⟨y.1.imp id (fun w => ⟨w.1, by omega⟩), y.2⟩⟩
  rcases z.1 with y | y
  · exact (h t ht).1 ⟨.inl y, z.2⟩
  · rcases e y with y | y
    · exact (h t ht).1 ⟨.inr y, z.2⟩
    · exact absurd z.2 (by rw [y]; exact hn)
theorem ci_put {a k : Int} {D E : DataW Unit} {left : Lit → Bool} {x j : Int} (h : CI a k D E left x j) (hE : Good E) (hx : 0 ≤ x) (hn : a ≤ x * 8 + j ∧ x * 8 + j - a < k) (hj : 0 ≤ j ∧ j < 8) : CI a k D (st E ((x * 8 + j) / 8) (putB (rd E ((x * 8 + j) / 8)) (x * 8 + j) 0)) left x (j + 1) := by
  intro t ht
  rw [byte_put hE (by omega) (by decide) (by decide)]
  by_cases c : t = x * 8 + j
  · rw [if_pos c]
    exact ⟨fun _ => rfl, fun z => absurd ⟨.inr ⟨by omega, by omega⟩, by rw [c]; exact hn⟩ z⟩
  · rw [if_neg c]
    have e : t / 8 = x ∧ t % 8 < j + 1 ↔ t / 8 = x ∧ t % 8 < j := by omega
    rw [e]
    exact h t ht
theorem one_put (x a : Int) (hx : (Lit.int .u64 x).wf = true) : one (putB x a 0) ≤ one x := by
  unfold one
  by_cases h : x = 0
  · subst h
    obtain ⟨i, hi, hi7⟩ : ∃ i : Nat, a % 8 = 7 - (i : Int) ∧ i ≤ 7 := ⟨(7 - a % 8).toNat, by omega, by omega⟩
    have := putB_nat 0 0 i (by decide) (by decide) hi7 a hi
    have e : putOf 0 (i * 8) 8 0 = 0 := by unfold putOf; simp
    rw [e] at this
    have e2 : putB 0 a 0 = 0 := this
    rw [e2]
    exact Nat.le_refl _
  · rw [if_neg h]
    split <;> omega
theorem size_put_zero {E : DataW Unit} (h : Good E) (a : Int) : Maps.size (st E (a / 8) (putB (rd E (a / 8)) a 0)) ≤ Maps.size E := by
  have h1 := size_st h.clean (a / 8) (putB (rd E (a / 8)) a 0)
  have h2 := one_put (rd E (a / 8)) a (h.wf _)
  omega
theorem has_ne {D : DataW Unit} (h : Good D) {x : Int} {y : DataW Unit} (hat : ∀ zd, D.atKey (.int .u64 x) zd = y) : rd D x ≠ 0 := by
  have := h.clean.2 x
  rw [has_true_of_atKey hat] at this
  exact bne_iff_ne.mp this.symm
theorem may_one {sz a k : Int} (h : mayOf sz a k 1 = 0) : k ≤ 0 ∨ (a < sz ∧ k ≤ sz - a) := by
  unfold mayOf at h
  rw [if_neg (by omega)] at h
  by_cases c : k > 0 ∧ (a ≥ sz ∨ k > sz - a)
  · rw [if_pos c] at h; cases h
  · omega
theorem clear_calls {B w0 p mb sz n D W} (h : Mem B w0 p mb sz n D W) (hz : sz ≤ 2199023255552) (a k : Int) (ha : (Lit.int .u64 a).wf = true) (hk : (Lit.int .u64 k).wf = true) (hc : mayOf sz a k 1 = 0) (hG : Good D) (hn : Maps.size D < 900000) :
    Calls Tryz.prog 50 #[.pointer (some ⟨p, 0, none⟩), .int .u64 a, .int .u64 k] W fun e W' => e = .returned (.int .i64 0) ∧ ∃ D', Mem B w0 p mb sz (Maps.size D') D' W' ∧ Good D' ∧ Maps.size D' ≤ Maps.size D ∧ (∀ t, 0 ≤ t → byteAt D' t = if a ≤ t ∧ t - a < k then 0 else byteAt D t) ∧ W.grownBy W' (some mb) := by
  have hm1 := may_one hc
  have ha0 := (u64_b ha).1
  have ha1 := (u64_b ha).2
  have hk0 := (u64_b hk).1
  obtain ⟨_, c1⟩ := h.cells
  have HW0 := Aside0.mk (show mb < W.heap.size from h.own.lt)
  have HP0 := Aside0.mk h.lt
  have HB0 := Aside0.mk h.hB
  have HM := Aside0.mk h
  have HC := Aside0.mk hc
  have HGD := Aside0.mk hG
  clear h hc hG
  go_enter Tryz.func50, Tryz.ntmps50
  go_wp2_with (first | (go_at_call 81; refine (may_calls HM.out (by decide) _ _ ha hk HC.out).mono ?_; rintro e wn ⟨rfl, hW⟩; subst wn) | (go_at_call 82; refine (clone_calls HM.out.own).mono ?_; rintro e wc ⟨rfl, hown, hg, hs⟩; have HCO := Aside0.mk hown; have HCG := Aside0.mk hg; have HCS := Aside0.mk hs; clear hown hg hs) | (at_range; refine wpList_range_own _ rfl _ 99 rfl 37 37 law22 Tryz.underlying99 _ _ n D rfl HCO.out ?_; intro w1 hrg0 hg0 hs0; have HR := Aside0.mk hrg0; have HRG := Aside0.mk hg0; have HRS := Aside0.mk hs0; clear hrg0 hg0 hs0) | go_in)
  go_frame
  go_loopw [8] (fun _ wr => ∃ (left : Lit → Bool) (cnt : Nat) (E : DataW Unit), Aside0 (wr.ranges Tryz.prog 37 (plainElem Tryz.prog 37) W.heap.size wc.heap.size n D left cnt) ∧ Aside0 (Mem B w0 p mb sz (Maps.size E) E wr) ∧ Aside0 (Good E) ∧ Aside0 (Maps.size E ≤ Maps.size D) ∧ Aside0 (CR a k D E left) ∧ Aside0 (W.grownBy wr (some mb))) (fun _ wr => wr.rangeLeft W.heap.size wc.heap.size)
  case atStart => exact ⟨_, _, D, HR, ⟨((HM.out.same HCG.out).same HRG.out).tight⟩, HGD, ⟨Nat.le_refl _⟩, ⟨cr_start a k HGD.out⟩, ⟨(grown_two HCG.out HRG.out).but _⟩⟩
  case round =>
    clear HM HR HCO
    obtain ⟨left, cnt, E, HR, HM, HGE, HSE, HCR, HWG⟩ := hrel
    go_wp2_with (first
      | (at_next; refine wpList_next_ranges_ii _ rfl _ rfl 37 37 .u64 .u64 law22 Tryz.underlying37 Tryz.underlying37 W.heap.size wc.heap.size n _ _ _ rfl HR.out ?_ ?_)
      | go_in)
    · intro hc0 hl0
      have HL := Aside0.mk hl0
      clear hl0 hc0
      go_wp2
      go_ret
      refine ⟨rfl, E, HM.out, HGE.out, HSE.out, fun t ht => ?_, HWG.out⟩
      by_cases c : a ≤ t ∧ t - a < k
      · rw [if_pos c]; exact (HCR.out t ht).1 ⟨HL.out _, c⟩
      · rw [if_neg c]; exact (HCR.out t ht).2 fun z => c z.2
    · intro x c w2 cnt1 hwx hwc hlx hat hrg1 hlt hg1 hs1 hen
      have hx1 := HGD.out.low x (has_ne HGD.out hat)
      obtain ⟨hx0, hx1⟩ := hx1
      have HR1 := Aside0.mk hrg1
      have HLX := Aside0.mk hlx
      have HLT := Aside0.mk hlt
      have HNE := Aside0.mk (show wc.heap.size ≠ mb ∧ wc.heap.size ≠ p ∧ B ≤ wc.heap.size ∧ W.heap.size ≤ wc.heap.size ∧ W.heap.size ≠ mb by have h1 := HW0.out; have h2 := HP0.out; have h3 := HCS.out; have h4 := HB0.out; omega)
      have HM1 := Aside0.mk (HM.out.kept hg1 (fun e => HNE.out.1 (Option.some.inj e).symm) (fun e => HNE.out.2.1 (Option.some.inj e).symm) (fun j e => by cases e; exact HNE.out.2.2.1))
      have HWG1 := Aside0.mk (show W.grownBy w2 (some mb) from HWG.out.andThen hg1 (fun j e => by cases e; exact .inl HNE.out.2.2.2.1))
      clear HM HWG hrg1 hlx hlt hg1 hs1 hat hwc
      go_wp2
      go_loopw [9] (fun v9 wi => ∃ (j : Nat) (F : DataW Unit), v9 = .int .u64 (x * 8 + j) ∧ j ≤ 8 ∧ Aside0 (wi.ranges Tryz.prog 37 (plainElem Tryz.prog 37) W.heap.size wc.heap.size n D (strike left x) cnt1) ∧ Aside0 (Mem B w0 p mb sz (Maps.size F) F wi) ∧ Aside0 (Good F) ∧ Aside0 (Maps.size F ≤ Maps.size D) ∧ Aside0 (CI a k D F left x j) ∧ Aside0 (W.grownBy wi (some mb))) (fun v9 _ => 8 - ((intOf v9) - x * 8).toNat)
      case atStart => exact ⟨0, E, by go_num, by omega, HR1, HM1, HGE, HSE, ⟨ci_start HCR.out x⟩, HWG1⟩
      case round =>
        clear HR1 HM1 HGE HSE HCR HWG1
        obtain ⟨j, F, rfl, hj, HR1, HM, HGF, HSF, HCI, HWG⟩ := hrel
        by_cases h8 : j < 8
        · have h8' : (j : Int) < 8 := by omega
          by_cases hin : a ≤ x * 8 + j ∧ x * 8 + j - a < k
          · obtain ⟨hin1, hin2⟩ := hin
            have HWI := Aside0.mk (show (Lit.int .u64 (x * 8 + j)).wf = true from WalkArith.wf_u64 (by omega))
            go_wp2_with (first | (go_at_call 83; refine (put_calls HM.out _ _ HWI.out (by have := HSF.out; omega)).mono ?_; rintro e w3 ⟨rfl, hM, hg⟩; have HM2 := Aside0.mk hM; have HG2 := Aside0.mk hg; clear hM hg) | go_in)
            go_roundw
            case rel => exact ⟨j + 1, _, by go_num, by omega, ⟨HR1.out.kept HG2.out (fun e => HNE.out.2.2.2.2 (Option.some.inj e)) (fun e => HNE.out.1 (Option.some.inj e))⟩, ⟨HM2.out.tight⟩, ⟨good_st HGF.out (by omega) (putB_wf _ _ _)⟩, ⟨Nat.le_trans (size_put_zero HGF.out _) HSF.out⟩, ⟨ci_put HCI.out HGF.out (by omega) ⟨hin1, hin2⟩ (by omega)⟩, ⟨grown_two HWG.out HG2.out⟩⟩
            case measure => simp [intOf]; omega
          · have hin' : (decide (a ≤ x * 8 + j) && decide (x * 8 + j - a < k)) = false := by
              rw [Bool.and_eq_false_iff]; simp only [decide_eq_false_iff_not]; omega
            by_cases hin1 : a ≤ x * 8 + j
            · have hin2 : ¬ (x * 8 + j - a < k) := fun h => hin ⟨hin1, h⟩
              go_wp2
              go_roundw
              case rel => exact ⟨j + 1, F, by go_num, by omega, HR1, HM, HGF, HSF, ⟨ci_skip HCI.out hin (by omega)⟩, HWG⟩
              case measure => simp [intOf]; omega
            · go_wp2
              go_roundw
              case rel => exact ⟨j + 1, F, by go_num, by omega, HR1, HM, HGF, HSF, ⟨ci_skip HCI.out hin (by omega)⟩, HWG⟩
              case measure => simp [intOf]; omega
        · obtain rfl : j = 8 := by omega
          go_wp2
          go_roundw
          case rel => exact ⟨strike left x, cnt1, F, HR1, HM, HGF, HSF, ⟨ci_end HCI.out⟩, HWG⟩
          case measure => rw [HR1.out.left_eq, HR.out.left_eq]; exact HLT.out
theorem Mem.other {B w0 p mb sz n D W} (h : Mem B w0 p mb sz n D W) {p2 mb2 n2 : Nat} {D2 : DataW Unit} (hp : B ≤ p2) (hm : B ≤ mb2) (row : W.heap[p2]? = some (.cells #[.int .u64 sz, .map (some mb2)] 101 (0, 0))) (own : W.ownsMap Tryz.prog 37 (plainElem Tryz.prog 37) mb2 n2 D2) : Mem B w0 p2 mb2 sz n2 D2 W := ⟨h.below, hp, hm, h.hB, row, own, h.wfs⟩
end
end Go.Proofs.YtjnffegjpkbjmaaGreat.Mem
