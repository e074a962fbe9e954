/- The document's entry of words, whatever they are. -/
import Derived.Test.YtjnffegjpkbjmaaTsRf
import Derived.Test.YtjnffegjpkbjmaaQTsbPlaysx28
set_option linter.unusedVariables false
set_option linter.unusedSimpArgs false
namespace Go.Proofs.Ytjnffegjpkbjmaa.Pure
open Go.RowKit Go.Proofs.Ytjnffegjpkbjmaa.QTsbPlays Go.Proofs.YtjnffegjpkbjmaaW.PrintWords Go.Proofs.YtjnffegjpkbjmaaW.PrintLast Go.Proofs.YtjnffegjpkbjmaaW.PrintMore
theorem rHole_l (a : Nat) (ha : a < 18446744073709551616) (d : Nat) : ∀ (i k : Nat), i + d = 64 → 44 ≤ i → 100 + d < k →
  lookasideref02_Hole.l0 k (a : Int) (i : Int) = some (decide (¬ (a / 2 ^ i = (if a / 8796093022208 % 2 = 1 then 2 ^ d - 1 else 0)))) := by
 induction d with
 | zero =>
  intro i k hi h44 hk
  obtain ⟨k, rfl⟩ : ∃ m, k = m + 1 := ⟨k - 1, by omega⟩
  obtain rfl : i = 64 := by omega
  simp only [lookasideref02_Hole.l0]
  rw [if_neg (by omega)]
  have : a / 2 ^ 64 = 0 := Nat.div_eq_of_lt ha
  simp [this]
 | succ d ih =>
  intro i k hi h44 hk
  obtain ⟨k, rfl⟩ : ∃ m, k = m + 1 := ⟨k - 1, by omega⟩
  simp only [lookasideref02_Hole.l0]
  have b1 := rBit a i k ha (by omega) (by omega)
  have b2 := rBit a 43 k ha (by omega) (by omega)
  have h43 : ((43 : Nat) : Int) = 43 := rfl
  rw [h43] at b2
  simp only [Nat.reducePow] at b2
  rw [if_pos (by omega), b1, b2]
  simp only [Option.bind_some]
  have e2 : wrap64 ((i : Int) + 1) = ((i + 1 : Nat) : Int) := by
   have := m_w64 (i + 1) (by omega); simpa using this
  have hp : a / 2 ^ (i + 1) = a / 2 ^ i / 2 := by rw [Nat.pow_succ, Nat.div_div_eq_div_mul]
  have hd : 2 ^ (d + 1) = 2 * 2 ^ d := by rw [Nat.pow_succ, Nat.mul_comm]
  have h0 : 0 < 2 ^ d := Nat.two_pow_pos d
  rw [e2, ih (i + 1) k (by omega) (by omega) (by omega), hp, hd]
  generalize a / 2 ^ i = X
  generalize 2 ^ d = D at h0
  by_cases hb : a / 8796093022208 % 2 = 1
  ·simp only [hb, if_true]
   by_cases hx : X % 2 = 1
   ·rw [if_pos (by omega)]; congr 1; rw [decide_eq_decide]; omega
   ·rw [if_neg (by omega)]; symm; simp; omega
  ·have hb0 : a / 8796093022208 % 2 = 0 := by omega
   simp only [hb0]
   by_cases hx : X % 2 = 0
   ·rw [if_pos (by omega)]; congr 1; rw [decide_eq_decide]; simp; omega
   ·rw [if_neg (by omega)]; symm; simp; omega
theorem rHole (a : Nat) (ha : a < 18446744073709551616) (k : Nat) (hk : 200 ≤ k) : lookasideref02_Hole.f k (a : Int) = some (decide (a / 8796093022208 ≠ 0 ∧ a / 8796093022208 ≠ 2097151)) := by
 have := rHole_l a ha 20 44 k rfl (by omega) (by omega)
 have h44 : ((44 : Nat) : Int) = 44 := rfl
 rw [h44] at this
 simp only [Nat.reducePow] at this
 unfold lookasideref02_Hole.f
 rw [this]
 congr 1; rw [decide_eq_decide]
 split <;> omega

theorem rTMay (s c : Int) (va pa : Nat) (w p x l g q v : Bool) (hva : va < 18446744073709551616) (k : Nat) (hk : 210 ≤ k) : lookasideref03_May.f k s c (va : Int) (pa : Int) w p x l g q v = some (mayOf s c va pa g v) := by
 obtain ⟨k, rfl⟩ : ∃ m, k = m + 1 := ⟨k - 1, by omega⟩
 unfold lookasideref03_May.f mayOf
 rw [rMay, rHole va hva (k + 1) (by omega)]
 generalize decide (va / 8796093022208 ≠ 0 ∧ va / 8796093022208 ≠ 2097151) = d1
 have hf : lookasideref03_May.j0 (k + 1) true s c (va : Int) (pa : Int) w p x l g q v = some false := by rw [lookasideref03_May.j0, if_pos rfl]
 cases v
 ·simp [hf]
 ·by_cases h : okSize s
  ·have hb := bytes_pos h
   have hj : ∀ b, lookasideref03_May.j0 (k + 1) b s c (va : Int) (pa : Int) w p x l g q true = some (!b && (decide (va % bytesOf s = 0) && (decide (pa < 2199023255552) && decide (pa % bytesOf s = 0)))) := by
    intro b
    rw [lookasideref03_May.j0, rBytes]
    cases b
    ·simp only [Option.bind_some, Bool.false_eq_true, if_false]
     rw [if_neg (by omega), m_tmod, m_tmod]
     by_cases z1 : va % bytesOf s = 0
     ·rw [if_pos (by omega)]
      by_cases z2 : pa % bytesOf s = 0
      ·rw [if_pos (by omega)]; simp [z1, z2]; omega
      ·rw [if_neg (by omega)]; simp [z2]
     ·rw [if_neg (by omega)]; simp [z1]
    ·simp
   simp only [h, decide_true, Option.bind_some, if_true, Bool.true_and, hj]
   by_cases h1 : c < 0
   ·rw [if_pos h1]; have : ¬ 0 ≤ c := by omega
    simp [this]
   ·rw [if_neg h1]
    have h1' : 0 ≤ c := by omega
    by_cases h2 : c > 8191
    ·rw [if_pos h2]; have : ¬ c ≤ 8191 := by omega
     simp [this]
    ·rw [if_neg h2]
     have h2' : c ≤ 8191 := by omega
     cases d1 <;> cases g <;> simp [h1', h2']
  ·simp [h, hf]

theorem rget_l (x p : Nat) (hx : x < 18446744073709551616) (d : Nat) : ∀ (acc k : Nat), p + d ≤ 64 → acc * 2 ^ d + 2 ^ d ≤ 18446744073709551616 → d + 110 ≤ k →
  lookasideref01_Get.l0 k (x : Int) (p : Int) true (acc : Int) ((d : Int) - 1) = some ((acc * 2 ^ d + x / 2 ^ p % 2 ^ d : Nat) : Int) := by
 induction d with
 | zero =>
  intro acc k hp hb hk
  obtain ⟨k, rfl⟩ : ∃ m, k = m + 1 := ⟨k - 1, by omega⟩
  rw [lookasideref01_Get.l0, if_pos rfl, if_neg (by omega)]
  rw [Nat.pow_zero, Nat.mul_one, Nat.mod_one, Nat.add_zero]
 | succ d ih =>
  intro acc k hp hb hk
  obtain ⟨k, rfl⟩ : ∃ m, k = m + 1 := ⟨k - 1, by omega⟩
  have e0 : ((d + 1 : Nat) : Int) - 1 = (d : Int) := by omega
  have e1 : wrap64 ((p : Int) + (d : Int)) = ((p + d : Nat) : Int) := by rw [← Int.natCast_add]; exact m_w64 _ (by omega)
  have h2 : 2 ^ (d + 1) = 2 * 2 ^ d := by rw [Nat.pow_succ, Nat.mul_comm]
  have hpos : 0 < 2 ^ d := Nat.two_pow_pos d
  have hbit : x / 2 ^ (p + d) % 2 < 2 := Nat.mod_lt _ (by decide)
  have hm : x / 2 ^ p % 2 ^ (d + 1) = x / 2 ^ p % 2 ^ d + 2 ^ d * (x / 2 ^ (p + d) % 2) := by
   rw [Nat.mod_pow_succ, Nat.div_div_eq_div_mul, ← Nat.pow_add]
  have hacc : 2 * acc + 2 ≤ 18446744073709551616 := by
   have h3 : (2 * acc + 2) * 1 ≤ (2 * acc + 2) * 2 ^ d := Nat.mul_le_mul_left _ hpos
   have h4 : (2 * acc + 2) * 2 ^ d = acc * 2 ^ (d + 1) + 2 ^ (d + 1) := by rw [h2, Nat.add_mul, Nat.mul_comm 2 acc, Nat.mul_assoc]
   omega
  rw [e0, lookasideref01_Get.l0, if_pos rfl, if_pos (by omega), e1, rBit x (p + d) k hx (by omega) (by omega), Option.bind_some]
  have e3 : wrap64 ((d : Int) - 1) = (d : Int) - 1 := by unfold wrap64; omega
  generalize x / 2 ^ (p + d) % 2 = b at hm hbit ⊢
  have e2 : IntKind.u64.wrap (IntKind.u64.wrap (2 * (acc : Int)) + (b : Int)) = ((2 * acc + b : Nat) : Int) := by
   rw [IntKind.wrap_u64, IntKind.wrap_u64]; omega
  have hb2 : (2 * acc + b) * 2 ^ d + 2 ^ d ≤ 18446744073709551616 := by
   have h3 : (2 * acc + b) * 2 ^ d ≤ (2 * acc + 1) * 2 ^ d := Nat.mul_le_mul_right _ (by omega)
   have h4 : (2 * acc + 1) * 2 ^ d + 2 ^ d = acc * 2 ^ (d + 1) + 2 ^ (d + 1) := by rw [h2, Nat.add_mul, Nat.mul_comm 2 acc, Nat.mul_assoc]; omega
   omega
  rw [e2, e3, ih _ k (by omega) hb2 (by omega), hm]
  refine congrArg some (congrArg Nat.cast ?_)
  rw [h2, Nat.add_mul, Nat.mul_comm 2 acc, Nat.mul_assoc, Nat.mul_comm b]; omega
theorem rGet (x : Nat) (hx : x < 18446744073709551616) (p n : Nat) (h1 : 1 ≤ n) (h2 : p + n ≤ 64) (k : Nat) (hk : 200 ≤ k) : lookasideref01_Get.f k (x : Int) (p : Int) (n : Int) = some ((x / 2 ^ p % 2 ^ n : Nat) : Int) := by
 have hM : lookasideref01_May.f (p : Int) (n : Int) = some true := by
  have e : wrap64 ((p : Int) + (n : Int)) = ((p + n : Nat) : Int) := by rw [← Int.natCast_add]; exact m_w64 _ (by omega)
  unfold lookasideref01_May.f
  rw [if_pos (by omega), if_pos (by omega), if_pos (by omega), if_pos (by omega), e, decide_eq_true (by omega)]
 have e3 : wrap64 ((n : Int) - 1) = (n : Int) - 1 := by unfold wrap64; omega
 have hb : 0 * 2 ^ n + 2 ^ n ≤ 18446744073709551616 := by
  rw [Nat.zero_mul, Nat.zero_add]
  exact Nat.pow_le_pow_right (by decide) (by omega : n ≤ 64)
 have := rget_l x p hx n 0 k h2 hb (by omega)
 rw [Nat.zero_mul, Nat.zero_add] at this
 unfold lookasideref01_Get.f
 rw [hM, Option.bind_some, e3]
 exact this
end Go.Proofs.Ytjnffegjpkbjmaa.Pure
namespace Go.Proofs.Ytjnffegjpkbjmaa.Mem
open Go.RowKit Go.Maps Go.Proofs.YtjnffegjpkbjmaaW.PrintWords Go.Proofs.YtjnffegjpkbjmaaW.PrintLast Go.Proofs.YtjnffegjpkbjmaaW.PrintMore Go.Proofs.Ytjnffegjpkbjmaa.QTsbPlays Go.Proofs.Ytjnffegjpkbjmaa.Pure
set_option linter.unusedSimpArgs false
set_option linter.unusedVariables false
section
set_option maxHeartbeats 2000000
set_option maxRecDepth 100000
theorem beqB (x : Nat) : (((x : Nat) : Int) == 1) = decide (x = 1) := by
 rw [Bool.eq_iff_iff, beq_iff_eq, decide_eq_true_eq]; omega
theorem rread_any {t d A : Nat} (ht : t < 18446744073709551616) (hd : d < 18446744073709551616) (hA : A < 18446744073709551616) (W : World) :
  Calls Try.prog 125 #[.int .u64 (t : Int), .int .u64 (d : Int), .int .u64 (A : Int)] W fun e W' => ∃ q : Int, e = .returned (.tuple #[.agg (entA (rowE (readW (t, d) A))), .int .i64 q]) ∧ (q != 0) = (readW (t, d) A).isNone ∧ W.grownBy W' none := by
 have hu := Try.underlying50
 have G0 := Aside0.mk (rHole A hA 500 (by decide))
 have g1 := rGet d hd 61 2 (by omega) (by omega) 500 (by omega)
 rw [show ((61 : Nat) : Int) = 61 from rfl, show ((2 : Nat) : Int) = 2 from rfl, show 2 ^ 61 = 2305843009213693952 from rfl, show 2 ^ 2 = 4 from rfl] at g1
 have g2 := rGet t ht 48 13 (by omega) (by omega) 500 (by omega)
 rw [show ((48 : Nat) : Int) = 48 from rfl, show ((13 : Nat) : Int) = 13 from rfl, show 2 ^ 48 = 281474976710656 from rfl, show 2 ^ 13 = 8192 from rfl] at g2
 have g3 := rGet d hd 13 28 (by omega) (by omega) 500 (by omega)
 rw [show ((13 : Nat) : Int) = 13 from rfl, show ((28 : Nat) : Int) = 28 from rfl, show 2 ^ 28 = 268435456 from rfl, show 2 ^ 13 = 8192 from rfl] at g3
 have GB := Aside0.mk (fun (i : Nat) (hi : i < 64) => rBit d i 500 hd (by omega) (by omega))
 have G1 := Aside0.mk (show lookasideref01_Get.f 500 (d : Int) 61 2 = some (sOf d : Int) from g1)
 have G2 := Aside0.mk (show lookasideref01_Get.f 500 (t : Int) 48 13 = some (cOf t : Int) from g2)
 obtain ⟨c3, hc3⟩ : ∃ z, z = d / 8192 % 268435456 := ⟨_, rfl⟩
 rw [← hc3] at g3
 have G3 := Aside0.mk g3
 have G4 := Aside0.mk (show lookasideref02_Base.f (A : Int) (sOf d : Int) = some (vOf d A : Int) by rw [rBase A hA]; rfl)
 have e1 : wrap64 (sOf d : Int) = (sOf d : Int) := m_w64 _ (Nat.lt_trans (sOf_lt d) (by decide))
 have e2 : wrap64 (cOf t : Int) = (cOf t : Int) := m_w64 _ (Nat.lt_trans (cOf_lt t) (by decide))
 have e1' : IntKind.i64.wrap (sOf d : Int) = (sOf d : Int) := (i64_w _).trans e1
 have e2' : IntKind.i64.wrap (cOf t : Int) = (cOf t : Int) := (i64_w _).trans e2
 have e3 : IntKind.u64.wrap ((c3 : Int) * 8192) = (paOf d : Int) := by
  have := m_wu (paOf d) (Nat.lt_trans (paOf_lt d) (by decide))
  rw [← this, hc3]; rfl
 have GM := Aside0.mk (rTMay (sOf d : Int) (cOf t : Int) (vOf d A) (paOf d) (bitOf d 2) (bitOf d 4) (bitOf d 8) (bitOf d 64) (bitOf d 1) (bitOf d 1152921504606846976) true (vOf_lt d A hA) 500 (by omega))
 have GT := Aside0.mk (rTTag (sOf d) (cOf t) (vOf d A) (paOf d) (bitOf d 2) (bitOf d 4) (bitOf d 8) (bitOf d 64) (bitOf d 1) (bitOf d 1152921504606846976) true (vOf_lt d A hA) (cOf_lt t) 500 (by omega))
 obtain ⟨dv, hdv⟩ : ∃ z, z = dataOf (sOf d) (paOf d) (bitOf d 2) (bitOf d 4) (bitOf d 8) (bitOf d 64) (bitOf d 1) (bitOf d 1152921504606846976) := ⟨_, rfl⟩
 have hdl := dataOf_lt (sOf d) (paOf d) (bitOf d 2) (bitOf d 4) (bitOf d 8) (bitOf d 64) (bitOf d 1) (bitOf d 1152921504606846976) (sOf_lt d) (paOf_lt d) (by unfold paOf; omega)
 have gd := (rData (sOf d) (cOf t) (vOf d A) (paOf d) (bitOf d 2) (bitOf d 4) (bitOf d 8) (bitOf d 64) (bitOf d 1) (bitOf d 1152921504606846976) true (sOf_lt d) (paOf_lt d) 500 (by omega))
 rw [Nat.mod_eq_of_lt hdl, ← hdv] at gd
 have GD := Aside0.mk gd
 have HDV := Aside0.mk hdv
 obtain ⟨tg, htg⟩ : ∃ z, z = tagOf (cOf t) (vOf d A) (bitOf d 1) := ⟨_, rfl⟩
 have gt := GT.out
 rw [← htg] at gt
 replace GT := Aside0.mk gt
 have HTV := Aside0.mk htg
 clear gd hdv hdl gt htg
 have HLT := Aside0.mk (And.intro ht (And.intro hd hA))
 have e5 : IntKind.u64.wrap (d : Int) = (d : Int) := m_wu d hd
 have hga := World.grownBy_alloc W (.cells #[.int .i64 0, .int .i64 0, .int .u64 0, .int .u64 0, .bool false, .bool false, .bool false, .bool false, .bool false, .bool false, .bool false] 50) none
 have hb6 := heap_alloc_new W (.cells #[.int .i64 0, .int .i64 0, .int .u64 0, .int .u64 0, .bool false, .bool false, .bool false, .bool false, .bool false, .bool false, .bool false] 50)
 have hgb := World.grownBy_alloc (W.alloc (.cells #[.int .i64 0, .int .i64 0, .int .u64 0, .int .u64 0, .bool false, .bool false, .bool false, .bool false, .bool false, .bool false, .bool false] 50)) (.cells #[.int .i64 0, .int .i64 0, .int .u64 0, .int .u64 0, .bool false, .bool false, .bool false, .bool false, .bool false, .bool false, .bool false] 50) none
 have hb8 := heap_alloc_new (W.alloc (.cells #[.int .i64 0, .int .i64 0, .int .u64 0, .int .u64 0, .bool false, .bool false, .bool false, .bool false, .bool false, .bool false, .bool false] 50)) (.cells #[.int .i64 0, .int .i64 0, .int .u64 0, .int .u64 0, .bool false, .bool false, .bool false, .bool false, .bool false, .bool false, .bool false] 50)
 have hz : (W.alloc (.cells #[.int .i64 0, .int .i64 0, .int .u64 0, .int .u64 0, .bool false, .bool false, .bool false, .bool false, .bool false, .bool false, .bool false] 50)).heap.size = W.heap.size + 1 := by simp only [World.size_alloc]
 rw [hz] at hb8
 have HG := Aside0.mk (grown_two hga hgb)
 have HB6 := Aside0.mk (blk_grown hb6 hgb)
 have HB8 := Aside0.mk hb8
 clear g1 g2 g3 hc3 hga hb6 hgb hb8 hz ht hd hA e5
 go_enter Try.func125, Try.ntmps125
 go_wp2_with fail
 refine (lookasideref02_Hole.calls 500 _ _ _ G0.out).mono ?_
 rintro x0 w1 ⟨rfl, hd⟩
 have hg := drawn_grown hd
 replace HG := Aside0.mk (grown_two HG.out hg)
 replace HB6 := Aside0.mk (blk_grown HB6.out hg)
 replace HB8 := Aside0.mk (blk_grown HB8.out hg)
 clear hg hd
 obtain ⟨h6, hh6⟩ : ∃ z, z = W.heap.size := ⟨_, rfl⟩
 obtain ⟨h8, hh8⟩ : ∃ z, z = W.heap.size + 1 := ⟨_, rfl⟩
 rw [← hh6] at HB6
 rw [← hh8] at HB8
 rw [← hh8, ← hh6]
 have HH := Aside0.mk (And.intro hh6 hh8)
 clear hh6 hh8
 by_cases hH : A / 8796093022208 ≠ 0 ∧ A / 8796093022208 ≠ 2097151
 ·rw [decide_eq_true hH]
  have HRN := Aside0.mk (show readW (t, d) A = none by unfold readW readOf; rw [if_pos hH]; rfl)
  clear hH
  obtain ⟨z0, z1, z2, z3, z4, z5, z6, z7, z8, z9, z10⟩ := tte_Read.cz11 HB8.out
  go_wp2_with (((with_reducible refine gate_store (t := 50) (p := 6) rfl ?_); refine wpList_store_row rfl 50 (.tmp 6) (.tmp 15) rfl h6 #[.int .i64 0, .int .i64 0, .int .u64 0, .int .u64 0, .bool false, .bool false, .bool false, .bool false, .bool false, .bool false, .bool false] rfl rfl 50 _ HB6.out (by kernel_rfl) rfl (by kernel_rfl) ?_; have SHB6 := Aside0.mk (setRow_heap _ h6 _ #[.int .i64 0, .int .i64 0, .int .u64 0, .int .u64 0, .bool false, .bool false, .bool false, .bool false, .bool false, .bool false, .bool false] _ _ HB6.out); have THB6 := Aside0.mk (grown_row w1 h6 #[.int .i64 0, .int .i64 0, .int .u64 0, .int .u64 0, .bool false, .bool false, .bool false, .bool false, .bool false, .bool false, .bool false])))
  obtain ⟨z0, z1, z2, z3, z4, z5, z6, z7, z8, z9, z10⟩ := tte_Read.cz11 SHB6.out
  exact bodyPost_ret (v := .tuple #[.agg #[.int .i64 0, .int .i64 0, .int .u64 0, .int .u64 0, .bool false, .bool false, .bool false, .bool false, .bool false, .bool false, .bool false], .int .i64 3]) (by simp [results, Try.f125, go_sem, z0, z1, z2, z3, z4, z5, z6, z7, z8, z9, z10]) rfl ⟨3, by rw [HRN.out]; rfl, by rw [HRN.out]; rfl, grown_loc HG.out THB6.out (by have := HH.out; omega)⟩
 rw [decide_eq_false hH]
 have HNH := Aside0.mk hH
 clear hH
 go_wp2_with fail
 have b63 := GB.out 63 (by decide)
 rw [show ((63 : Nat) : Int) = 63 from rfl, show 2 ^ 63 = 9223372036854775808 from rfl] at b63
 obtain ⟨c6, hc6⟩ : ∃ z, z = d / 9223372036854775808 % 2 := ⟨_, rfl⟩
 rw [← hc6] at b63
 refine (lookasideref01_Bit.calls 500 _ _ _ _ b63).mono ?_
 rintro x0 w1 ⟨rfl, hd⟩
 have hg := drawn_grown hd
 replace HG := Aside0.mk (grown_two HG.out hg)
 replace HB6 := Aside0.mk (blk_grown HB6.out hg)
 replace HB8 := Aside0.mk (blk_grown HB8.out hg)
 clear hg hd
 clear b63
 by_cases hv : d / 9223372036854775808 % 2 = 1
 rotate_left
 ·have hz : (((c6 : Nat) : Int) == 0) = true := by rw [beq_iff_eq]; omega
  have HRN := Aside0.mk (show readW (t, d) A = none by unfold readW readOf; rw [if_neg HNH.out, if_neg hv]; rfl)
  clear hv hc6
  obtain ⟨z0, z1, z2, z3, z4, z5, z6, z7, z8, z9, z10⟩ := tte_Read.cz11 HB8.out
  go_wp2_with (((with_reducible refine gate_store (t := 50) (p := 6) rfl ?_); refine wpList_store_row rfl 50 (.tmp 6) (.tmp 19) rfl h6 #[.int .i64 0, .int .i64 0, .int .u64 0, .int .u64 0, .bool false, .bool false, .bool false, .bool false, .bool false, .bool false, .bool false] rfl rfl 50 _ HB6.out (by kernel_rfl) rfl (by kernel_rfl) ?_; have SHB6 := Aside0.mk (setRow_heap _ h6 _ #[.int .i64 0, .int .i64 0, .int .u64 0, .int .u64 0, .bool false, .bool false, .bool false, .bool false, .bool false, .bool false, .bool false] _ _ HB6.out); have THB6 := Aside0.mk (grown_row w1 h6 #[.int .i64 0, .int .i64 0, .int .u64 0, .int .u64 0, .bool false, .bool false, .bool false, .bool false, .bool false, .bool false, .bool false])))
  obtain ⟨z0, z1, z2, z3, z4, z5, z6, z7, z8, z9, z10⟩ := tte_Read.cz11 SHB6.out
  exact bodyPost_ret (v := .tuple #[.agg #[.int .i64 0, .int .i64 0, .int .u64 0, .int .u64 0, .bool false, .bool false, .bool false, .bool false, .bool false, .bool false, .bool false], .int .i64 11]) (by simp [results, Try.f125, go_sem, z0, z1, z2, z3, z4, z5, z6, z7, z8, z9, z10]) rfl ⟨11, by rw [HRN.out]; rfl, by rw [HRN.out]; rfl, grown_loc HG.out THB6.out (by have := HH.out; omega)⟩
 have hz : (((c6 : Nat) : Int) == 0) = false := by rw [hc6, hv]; rfl
 have HRV := Aside0.mk (show readOf t d A = entOf t d A (bitOf d 2) (bitOf d 4) (bitOf d 8) (bitOf d 64) (bitOf d 1) (bitOf d 1152921504606846976) by unfold readOf; rw [if_neg HNH.out, if_pos hv])
 clear hv hc6
 go_wp2_with fail
 refine (lookasideref01_Get.calls 500 _ _ _ _ _ G1.out).mono ?_
 rintro x0 w1 ⟨rfl, hd⟩
 have hg := drawn_grown hd
 replace HG := Aside0.mk (grown_two HG.out hg)
 replace HB6 := Aside0.mk (blk_grown HB6.out hg)
 replace HB8 := Aside0.mk (blk_grown HB8.out hg)
 clear hg hd
 clear hz
 go_wp2_with fail
 refine (lookasideref01_Get.calls 500 _ _ _ _ _ G2.out).mono ?_
 rintro x0 w1 ⟨rfl, hd⟩
 have hg := drawn_grown hd
 replace HG := Aside0.mk (grown_two HG.out hg)
 replace HB6 := Aside0.mk (blk_grown HB6.out hg)
 replace HB8 := Aside0.mk (blk_grown HB8.out hg)
 clear hg hd
 have hg := World.grownBy_alloc w1 (.cells #[.int .i64 (sOf d : Int), .int .i64 (cOf t : Int), .int .u64 0, .int .u64 0, .bool false, .bool false, .bool false, .bool false, .bool false, .bool false, .bool true] 50) none
 have HB10 := Aside0.mk (heap_alloc_new w1 (.cells #[.int .i64 (sOf d : Int), .int .i64 (cOf t : Int), .int .u64 0, .int .u64 0, .bool false, .bool false, .bool false, .bool false, .bool false, .bool false, .bool true] 50))
 have HN10 := Aside0.mk (show h6 ≠ w1.heap.size ∧ h8 ≠ w1.heap.size ∧ W.heap.size ≤ w1.heap.size from ⟨fun e => by have := blk_lt HB6.out; omega, fun e => by have := blk_lt HB8.out; omega, HG.out.size⟩)
 have hd := trivial
 replace HG := Aside0.mk (grown_two HG.out hg)
 replace HB6 := Aside0.mk (blk_grown HB6.out hg)
 replace HB8 := Aside0.mk (blk_grown HB8.out hg)
 clear hg hd
 have hu0 := (tte_Read.cz11 HB10.out).1
 go_wp2_with fail
 clear hu0
 obtain ⟨h10, hh10⟩ : ∃ z, z = w1.heap.size := ⟨_, rfl⟩
 rw [← hh10] at HB10 HN10
 rw [← hh10]
 clear hh10
 generalize w1.alloc (.cells #[.int .i64 (sOf d : Int), .int .i64 (cOf t : Int), .int .u64 0, .int .u64 0, .bool false, .bool false, .bool false, .bool false, .bool false, .bool false, .bool true] 50) = w2 at HB6 HB8 HB10 HG ⊢
 refine (lookasideref02_Base.calls _ _ _ _ G4.out).mono ?_
 rintro x0 w1 ⟨rfl, hd⟩
 have hg := drawn_grown hd
 replace HB10 := Aside0.mk (blk_grown HB10.out hg)
 replace HG := Aside0.mk (grown_two HG.out hg)
 replace HB6 := Aside0.mk (blk_grown HB6.out hg)
 replace HB8 := Aside0.mk (blk_grown HB8.out hg)
 clear hg hd
 obtain ⟨z0, z1, z2, z3, z4, z5, z6, z7, z8, z9, z10⟩ := tte_Read.cz11 HB10.out
 have zf := blk_frozen HB10.out 2
 go_wp2_with fail
 clear zf z0 z1 z2 z3 z4 z5 z6 z7 z8 z9 z10
 have hgc := grown_cellq w1 ⟨h10, 2, none⟩ (.int .u64 (vOf d A : Int))
 have hb := blk_put HB10.out 2 (.int .u64 (vOf d A : Int)) rfl
 replace HB6 := Aside0.mk ((hgc.block h6 (blk_lt HB6.out) (fun e => HN10.out.1 (Option.some.inj e))).trans HB6.out)
 replace HB8 := Aside0.mk ((hgc.block h8 (blk_lt HB8.out) (fun e => HN10.out.2.1 (Option.some.inj e))).trans HB8.out)
 replace HG := Aside0.mk (grown_loc HG.out hgc HN10.out.2.2)
 replace HB10 := Aside0.mk (show (w1.setCell ⟨h10, 2, none⟩ (.int .u64 (vOf d A : Int))).heap[h10]? = some (.cells #[.int .i64 (sOf d : Int), .int .i64 (cOf t : Int), .int .u64 (vOf d A : Int), .int .u64 0, .bool false, .bool false, .bool false, .bool false, .bool false, .bool false, .bool true] 50 (0, 0)) from hb)
 generalize w1.setCell ⟨h10, 2, none⟩ (.int .u64 (vOf d A : Int)) = w2 at HB6 HB8 HB10 HG ⊢
 clear hgc hb
 refine (lookasideref01_Get.calls 500 _ _ _ _ _ G3.out).mono ?_
 rintro x0 w1 ⟨rfl, hd⟩
 have hg := drawn_grown hd
 replace HB10 := Aside0.mk (blk_grown HB10.out hg)
 replace HG := Aside0.mk (grown_two HG.out hg)
 replace HB6 := Aside0.mk (blk_grown HB6.out hg)
 replace HB8 := Aside0.mk (blk_grown HB8.out hg)
 clear hg hd
 obtain ⟨z0, z1, z2, z3, z4, z5, z6, z7, z8, z9, z10⟩ := tte_Read.cz11 HB10.out
 have zf := blk_frozen HB10.out 3
 go_wp2_with fail
 clear zf z0 z1 z2 z3 z4 z5 z6 z7 z8 z9 z10
 have hgc := grown_cellq w1 ⟨h10, 3, none⟩ (.int .u64 (paOf d : Int))
 have hb := blk_put HB10.out 3 (.int .u64 (paOf d : Int)) rfl
 replace HB6 := Aside0.mk ((hgc.block h6 (blk_lt HB6.out) (fun e => HN10.out.1 (Option.some.inj e))).trans HB6.out)
 replace HB8 := Aside0.mk ((hgc.block h8 (blk_lt HB8.out) (fun e => HN10.out.2.1 (Option.some.inj e))).trans HB8.out)
 replace HG := Aside0.mk (grown_loc HG.out hgc HN10.out.2.2)
 replace HB10 := Aside0.mk (show (w1.setCell ⟨h10, 3, none⟩ (.int .u64 (paOf d : Int))).heap[h10]? = some (.cells #[.int .i64 (sOf d : Int), .int .i64 (cOf t : Int), .int .u64 (vOf d A : Int), .int .u64 (paOf d : Int), .bool false, .bool false, .bool false, .bool false, .bool false, .bool false, .bool true] 50 (0, 0)) from hb)
 generalize w1.setCell ⟨h10, 3, none⟩ (.int .u64 (paOf d : Int)) = w2 at HB6 HB8 HB10 HG ⊢
 clear hgc hb
 have bn := GB.out 60 (by decide)
 rw [show ((60 : Nat) : Int) = 60 from rfl, show 2 ^ 60 = 1152921504606846976 from rfl] at bn
 obtain ⟨cn, hcn⟩ : ∃ z, z = d / 1152921504606846976 % 2 := ⟨_, rfl⟩
 rw [← hcn] at bn
 refine (lookasideref01_Bit.calls 500 _ _ _ _ bn).mono ?_
 rintro x0 w1 ⟨rfl, hd⟩
 have hg := drawn_grown hd
 replace HB10 := Aside0.mk (blk_grown HB10.out hg)
 replace HG := Aside0.mk (grown_two HG.out hg)
 replace HB6 := Aside0.mk (blk_grown HB6.out hg)
 replace HB8 := Aside0.mk (blk_grown HB8.out hg)
 clear hg hd
 have hbt : (((cn : Nat) : Int) == 1) = bitOf d 1152921504606846976 := by rw [hcn]; exact beqB _
 clear bn hcn
 obtain ⟨z0, z1, z2, z3, z4, z5, z6, z7, z8, z9, z10⟩ := tte_Read.cz11 HB10.out
 have zf := blk_frozen HB10.out 9
 go_wp2_with fail
 clear zf z0 z1 z2 z3 z4 z5 z6 z7 z8 z9 z10
 have hgc := grown_cellq w1 ⟨h10, 9, none⟩ (.bool (bitOf d 1152921504606846976))
 have hb := blk_put HB10.out 9 (.bool (bitOf d 1152921504606846976)) rfl
 replace HB6 := Aside0.mk ((hgc.block h6 (blk_lt HB6.out) (fun e => HN10.out.1 (Option.some.inj e))).trans HB6.out)
 replace HB8 := Aside0.mk ((hgc.block h8 (blk_lt HB8.out) (fun e => HN10.out.2.1 (Option.some.inj e))).trans HB8.out)
 replace HG := Aside0.mk (grown_loc HG.out hgc HN10.out.2.2)
 replace HB10 := Aside0.mk (show (w1.setCell ⟨h10, 9, none⟩ (.bool (bitOf d 1152921504606846976))).heap[h10]? = some (.cells #[.int .i64 (sOf d : Int), .int .i64 (cOf t : Int), .int .u64 (vOf d A : Int), .int .u64 (paOf d : Int), .bool false, .bool false, .bool false, .bool false, .bool false, .bool (bitOf d 1152921504606846976), .bool true] 50 (0, 0)) from hb)
 generalize w1.setCell ⟨h10, 9, none⟩ (.bool (bitOf d 1152921504606846976)) = w2 at HB6 HB8 HB10 HG ⊢
 clear hgc hb
 clear hbt
 have bn := GB.out 6 (by decide)
 rw [show ((6 : Nat) : Int) = 6 from rfl, show 2 ^ 6 = 64 from rfl] at bn
 obtain ⟨cn, hcn⟩ : ∃ z, z = d / 64 % 2 := ⟨_, rfl⟩
 rw [← hcn] at bn
 refine (lookasideref01_Bit.calls 500 _ _ _ _ bn).mono ?_
 rintro x0 w1 ⟨rfl, hd⟩
 have hg := drawn_grown hd
 replace HB10 := Aside0.mk (blk_grown HB10.out hg)
 replace HG := Aside0.mk (grown_two HG.out hg)
 replace HB6 := Aside0.mk (blk_grown HB6.out hg)
 replace HB8 := Aside0.mk (blk_grown HB8.out hg)
 clear hg hd
 have hbt : (((cn : Nat) : Int) == 1) = bitOf d 64 := by rw [hcn]; exact beqB _
 clear bn hcn
 obtain ⟨z0, z1, z2, z3, z4, z5, z6, z7, z8, z9, z10⟩ := tte_Read.cz11 HB10.out
 have zf := blk_frozen HB10.out 7
 go_wp2_with fail
 clear zf z0 z1 z2 z3 z4 z5 z6 z7 z8 z9 z10
 have hgc := grown_cellq w1 ⟨h10, 7, none⟩ (.bool (bitOf d 64))
 have hb := blk_put HB10.out 7 (.bool (bitOf d 64)) rfl
 replace HB6 := Aside0.mk ((hgc.block h6 (blk_lt HB6.out) (fun e => HN10.out.1 (Option.some.inj e))).trans HB6.out)
 replace HB8 := Aside0.mk ((hgc.block h8 (blk_lt HB8.out) (fun e => HN10.out.2.1 (Option.some.inj e))).trans HB8.out)
 replace HG := Aside0.mk (grown_loc HG.out hgc HN10.out.2.2)
 replace HB10 := Aside0.mk (show (w1.setCell ⟨h10, 7, none⟩ (.bool (bitOf d 64))).heap[h10]? = some (.cells #[.int .i64 (sOf d : Int), .int .i64 (cOf t : Int), .int .u64 (vOf d A : Int), .int .u64 (paOf d : Int), .bool false, .bool false, .bool false, .bool (bitOf d 64), .bool false, .bool (bitOf d 1152921504606846976), .bool true] 50 (0, 0)) from hb)
 generalize w1.setCell ⟨h10, 7, none⟩ (.bool (bitOf d 64)) = w2 at HB6 HB8 HB10 HG ⊢
 clear hgc hb
 clear hbt
 have bn := GB.out 3 (by decide)
 rw [show ((3 : Nat) : Int) = 3 from rfl, show 2 ^ 3 = 8 from rfl] at bn
 obtain ⟨cn, hcn⟩ : ∃ z, z = d / 8 % 2 := ⟨_, rfl⟩
 rw [← hcn] at bn
 refine (lookasideref01_Bit.calls 500 _ _ _ _ bn).mono ?_
 rintro x0 w1 ⟨rfl, hd⟩
 have hg := drawn_grown hd
 replace HB10 := Aside0.mk (blk_grown HB10.out hg)
 replace HG := Aside0.mk (grown_two HG.out hg)
 replace HB6 := Aside0.mk (blk_grown HB6.out hg)
 replace HB8 := Aside0.mk (blk_grown HB8.out hg)
 clear hg hd
 have hbt : (((cn : Nat) : Int) == 1) = bitOf d 8 := by rw [hcn]; exact beqB _
 clear bn hcn
 obtain ⟨z0, z1, z2, z3, z4, z5, z6, z7, z8, z9, z10⟩ := tte_Read.cz11 HB10.out
 have zf := blk_frozen HB10.out 6
 go_wp2_with fail
 clear zf z0 z1 z2 z3 z4 z5 z6 z7 z8 z9 z10
 have hgc := grown_cellq w1 ⟨h10, 6, none⟩ (.bool (bitOf d 8))
 have hb := blk_put HB10.out 6 (.bool (bitOf d 8)) rfl
 replace HB6 := Aside0.mk ((hgc.block h6 (blk_lt HB6.out) (fun e => HN10.out.1 (Option.some.inj e))).trans HB6.out)
 replace HB8 := Aside0.mk ((hgc.block h8 (blk_lt HB8.out) (fun e => HN10.out.2.1 (Option.some.inj e))).trans HB8.out)
 replace HG := Aside0.mk (grown_loc HG.out hgc HN10.out.2.2)
 replace HB10 := Aside0.mk (show (w1.setCell ⟨h10, 6, none⟩ (.bool (bitOf d 8))).heap[h10]? = some (.cells #[.int .i64 (sOf d : Int), .int .i64 (cOf t : Int), .int .u64 (vOf d A : Int), .int .u64 (paOf d : Int), .bool false, .bool false, .bool (bitOf d 8), .bool (bitOf d 64), .bool false, .bool (bitOf d 1152921504606846976), .bool true] 50 (0, 0)) from hb)
 generalize w1.setCell ⟨h10, 6, none⟩ (.bool (bitOf d 8)) = w2 at HB6 HB8 HB10 HG ⊢
 clear hgc hb
 clear hbt
 have bn := GB.out 2 (by decide)
 rw [show ((2 : Nat) : Int) = 2 from rfl, show 2 ^ 2 = 4 from rfl] at bn
 obtain ⟨cn, hcn⟩ : ∃ z, z = d / 4 % 2 := ⟨_, rfl⟩
 rw [← hcn] at bn
 refine (lookasideref01_Bit.calls 500 _ _ _ _ bn).mono ?_
 rintro x0 w1 ⟨rfl, hd⟩
 have hg := drawn_grown hd
 replace HB10 := Aside0.mk (blk_grown HB10.out hg)
 replace HG := Aside0.mk (grown_two HG.out hg)
 replace HB6 := Aside0.mk (blk_grown HB6.out hg)
 replace HB8 := Aside0.mk (blk_grown HB8.out hg)
 clear hg hd
 have hbt : (((cn : Nat) : Int) == 1) = bitOf d 4 := by rw [hcn]; exact beqB _
 clear bn hcn
 obtain ⟨z0, z1, z2, z3, z4, z5, z6, z7, z8, z9, z10⟩ := tte_Read.cz11 HB10.out
 have zf := blk_frozen HB10.out 5
 go_wp2_with fail
 clear zf z0 z1 z2 z3 z4 z5 z6 z7 z8 z9 z10
 have hgc := grown_cellq w1 ⟨h10, 5, none⟩ (.bool (bitOf d 4))
 have hb := blk_put HB10.out 5 (.bool (bitOf d 4)) rfl
 replace HB6 := Aside0.mk ((hgc.block h6 (blk_lt HB6.out) (fun e => HN10.out.1 (Option.some.inj e))).trans HB6.out)
 replace HB8 := Aside0.mk ((hgc.block h8 (blk_lt HB8.out) (fun e => HN10.out.2.1 (Option.some.inj e))).trans HB8.out)
 replace HG := Aside0.mk (grown_loc HG.out hgc HN10.out.2.2)
 replace HB10 := Aside0.mk (show (w1.setCell ⟨h10, 5, none⟩ (.bool (bitOf d 4))).heap[h10]? = some (.cells #[.int .i64 (sOf d : Int), .int .i64 (cOf t : Int), .int .u64 (vOf d A : Int), .int .u64 (paOf d : Int), .bool false, .bool (bitOf d 4), .bool (bitOf d 8), .bool (bitOf d 64), .bool false, .bool (bitOf d 1152921504606846976), .bool true] 50 (0, 0)) from hb)
 generalize w1.setCell ⟨h10, 5, none⟩ (.bool (bitOf d 4)) = w2 at HB6 HB8 HB10 HG ⊢
 clear hgc hb
 clear hbt
 have bn := GB.out 1 (by decide)
 rw [show ((1 : Nat) : Int) = 1 from rfl, show 2 ^ 1 = 2 from rfl] at bn
 obtain ⟨cn, hcn⟩ : ∃ z, z = d / 2 % 2 := ⟨_, rfl⟩
 rw [← hcn] at bn
 refine (lookasideref01_Bit.calls 500 _ _ _ _ bn).mono ?_
 rintro x0 w1 ⟨rfl, hd⟩
 have hg := drawn_grown hd
 replace HB10 := Aside0.mk (blk_grown HB10.out hg)
 replace HG := Aside0.mk (grown_two HG.out hg)
 replace HB6 := Aside0.mk (blk_grown HB6.out hg)
 replace HB8 := Aside0.mk (blk_grown HB8.out hg)
 clear hg hd
 have hbt : (((cn : Nat) : Int) == 1) = bitOf d 2 := by rw [hcn]; exact beqB _
 clear bn hcn
 obtain ⟨z0, z1, z2, z3, z4, z5, z6, z7, z8, z9, z10⟩ := tte_Read.cz11 HB10.out
 have zf := blk_frozen HB10.out 4
 go_wp2_with fail
 clear zf z0 z1 z2 z3 z4 z5 z6 z7 z8 z9 z10
 have hgc := grown_cellq w1 ⟨h10, 4, none⟩ (.bool (bitOf d 2))
 have hb := blk_put HB10.out 4 (.bool (bitOf d 2)) rfl
 replace HB6 := Aside0.mk ((hgc.block h6 (blk_lt HB6.out) (fun e => HN10.out.1 (Option.some.inj e))).trans HB6.out)
 replace HB8 := Aside0.mk ((hgc.block h8 (blk_lt HB8.out) (fun e => HN10.out.2.1 (Option.some.inj e))).trans HB8.out)
 replace HG := Aside0.mk (grown_loc HG.out hgc HN10.out.2.2)
 replace HB10 := Aside0.mk (show (w1.setCell ⟨h10, 4, none⟩ (.bool (bitOf d 2))).heap[h10]? = some (.cells #[.int .i64 (sOf d : Int), .int .i64 (cOf t : Int), .int .u64 (vOf d A : Int), .int .u64 (paOf d : Int), .bool (bitOf d 2), .bool (bitOf d 4), .bool (bitOf d 8), .bool (bitOf d 64), .bool false, .bool (bitOf d 1152921504606846976), .bool true] 50 (0, 0)) from hb)
 generalize w1.setCell ⟨h10, 4, none⟩ (.bool (bitOf d 2)) = w2 at HB6 HB8 HB10 HG ⊢
 clear hgc hb
 clear hbt
 have bn := GB.out 0 (by decide)
 rw [show ((0 : Nat) : Int) = 0 from rfl, show 2 ^ 0 = 1 from rfl] at bn
 obtain ⟨cn, hcn⟩ : ∃ z, z = d / 1 % 2 := ⟨_, rfl⟩
 rw [← hcn] at bn
 refine (lookasideref01_Bit.calls 500 _ _ _ _ bn).mono ?_
 rintro x0 w1 ⟨rfl, hd⟩
 have hg := drawn_grown hd
 replace HB10 := Aside0.mk (blk_grown HB10.out hg)
 replace HG := Aside0.mk (grown_two HG.out hg)
 replace HB6 := Aside0.mk (blk_grown HB6.out hg)
 replace HB8 := Aside0.mk (blk_grown HB8.out hg)
 clear hg hd
 have hbt : (((cn : Nat) : Int) == 1) = bitOf d 1 := by rw [hcn]; exact beqB _
 clear bn hcn
 obtain ⟨z0, z1, z2, z3, z4, z5, z6, z7, z8, z9, z10⟩ := tte_Read.cz11 HB10.out
 have zf := blk_frozen HB10.out 8
 go_wp2_with fail
 clear zf z0 z1 z2 z3 z4 z5 z6 z7 z8 z9 z10
 have hgc := grown_cellq w1 ⟨h10, 8, none⟩ (.bool (bitOf d 1))
 have hb := blk_put HB10.out 8 (.bool (bitOf d 1)) rfl
 replace HB6 := Aside0.mk ((hgc.block h6 (blk_lt HB6.out) (fun e => HN10.out.1 (Option.some.inj e))).trans HB6.out)
 replace HB8 := Aside0.mk ((hgc.block h8 (blk_lt HB8.out) (fun e => HN10.out.2.1 (Option.some.inj e))).trans HB8.out)
 replace HG := Aside0.mk (grown_loc HG.out hgc HN10.out.2.2)
 replace HB10 := Aside0.mk (show (w1.setCell ⟨h10, 8, none⟩ (.bool (bitOf d 1))).heap[h10]? = some (.cells #[.int .i64 (sOf d : Int), .int .i64 (cOf t : Int), .int .u64 (vOf d A : Int), .int .u64 (paOf d : Int), .bool (bitOf d 2), .bool (bitOf d 4), .bool (bitOf d 8), .bool (bitOf d 64), .bool (bitOf d 1), .bool (bitOf d 1152921504606846976), .bool true] 50 (0, 0)) from hb)
 generalize w1.setCell ⟨h10, 8, none⟩ (.bool (bitOf d 1)) = w2 at HB6 HB8 HB10 HG ⊢
 clear hgc hb
 clear hbt
 clear e1 e2 e1' e2' e3
 refine (lookasideref03_May.calls 500 _ _ _ _ _ _ _ _ _ _ _ _ _ GM.out).mono ?_
 rintro x0 w1 ⟨rfl, hd⟩
 have hg := below_grown hd
 replace HB10 := Aside0.mk (blk_grown HB10.out hg)
 replace HG := Aside0.mk (grown_two HG.out hg)
 replace HB6 := Aside0.mk (blk_grown HB6.out hg)
 replace HB8 := Aside0.mk (blk_grown HB8.out hg)
 clear hg hd
 by_cases hm : Pure.mayOf (sOf d : Int) (cOf t : Int) (vOf d A) (paOf d) (bitOf d 1) true = true
 rotate_left
 ·have hm0 : Pure.mayOf (sOf d : Int) (cOf t : Int) (vOf d A) (paOf d) (bitOf d 1) true = false := by simpa using hm
  rw [hm0]
  have HRN := Aside0.mk (show readW (t, d) A = none by unfold readW; rw [HRV.out]; unfold entOf; rw [if_neg hm]; rfl)
  clear hm hm0
  obtain ⟨z0, z1, z2, z3, z4, z5, z6, z7, z8, z9, z10⟩ := tte_Read.cz11 HB8.out
  go_wp2_with (((with_reducible refine gate_store (t := 50) (p := 6) rfl ?_); refine wpList_store_row rfl 50 (.tmp 6) (.tmp 82) rfl h6 #[.int .i64 0, .int .i64 0, .int .u64 0, .int .u64 0, .bool false, .bool false, .bool false, .bool false, .bool false, .bool false, .bool false] rfl rfl 50 _ HB6.out (by kernel_rfl) rfl (by kernel_rfl) ?_; have SHB6 := Aside0.mk (setRow_heap _ h6 _ #[.int .i64 0, .int .i64 0, .int .u64 0, .int .u64 0, .bool false, .bool false, .bool false, .bool false, .bool false, .bool false, .bool false] _ _ HB6.out); have THB6 := Aside0.mk (grown_row w1 h6 #[.int .i64 0, .int .i64 0, .int .u64 0, .int .u64 0, .bool false, .bool false, .bool false, .bool false, .bool false, .bool false, .bool false])))
  obtain ⟨z0, z1, z2, z3, z4, z5, z6, z7, z8, z9, z10⟩ := tte_Read.cz11 SHB6.out
  exact bodyPost_ret (v := .tuple #[.agg #[.int .i64 0, .int .i64 0, .int .u64 0, .int .u64 0, .bool false, .bool false, .bool false, .bool false, .bool false, .bool false, .bool false], .int .i64 2]) (by simp [results, Try.f125, go_sem, z0, z1, z2, z3, z4, z5, z6, z7, z8, z9, z10]) rfl ⟨2, by rw [HRN.out]; rfl, by rw [HRN.out]; rfl, grown_loc HG.out THB6.out (by have := HH.out; omega)⟩
 rw [hm]
 have HM := Aside0.mk hm
 clear hm
 obtain ⟨z0, z1, z2, z3, z4, z5, z6, z7, z8, z9, z10⟩ := tte_Read.cz11 HB10.out
 go_wp2_with fail
 clear z0 z1 z2 z3 z4 z5 z6 z7 z8 z9 z10
 refine (lookasideref03_Tag.calls 500 _ _ _ _ _ _ _ _ _ _ _ _ _ GT.out).mono ?_
 rintro x0 w1 ⟨rfl, hd⟩
 have hg := below_grown hd
 replace HB10 := Aside0.mk (blk_grown HB10.out hg)
 replace HG := Aside0.mk (grown_two HG.out hg)
 replace HB6 := Aside0.mk (blk_grown HB6.out hg)
 replace HB8 := Aside0.mk (blk_grown HB8.out hg)
 clear hg hd
 by_cases ht : tg = t
 rotate_left
 ·have ht0 : (((tg : Nat) : Int) != (t : Int)) = true := by rw [bne_iff_ne]; omega
  have ht' : ¬ tagOf (cOf t) (vOf d A) (bitOf d 1) = t := by rw [← HTV.out]; exact ht
  have HRN := Aside0.mk (show readW (t, d) A = none by unfold readW; rw [HRV.out]; unfold entOf; rw [if_pos HM.out, if_neg ht']; rfl)
  clear ht ht'
  obtain ⟨z0, z1, z2, z3, z4, z5, z6, z7, z8, z9, z10⟩ := tte_Read.cz11 HB8.out
  go_wp2_with (((with_reducible refine gate_store (t := 50) (p := 6) rfl ?_); refine wpList_store_row rfl 50 (.tmp 6) (.tmp 82) rfl h6 #[.int .i64 0, .int .i64 0, .int .u64 0, .int .u64 0, .bool false, .bool false, .bool false, .bool false, .bool false, .bool false, .bool false] rfl rfl 50 _ HB6.out (by kernel_rfl) rfl (by kernel_rfl) ?_; have SHB6 := Aside0.mk (setRow_heap _ h6 _ #[.int .i64 0, .int .i64 0, .int .u64 0, .int .u64 0, .bool false, .bool false, .bool false, .bool false, .bool false, .bool false, .bool false] _ _ HB6.out); have THB6 := Aside0.mk (grown_row w1 h6 #[.int .i64 0, .int .i64 0, .int .u64 0, .int .u64 0, .bool false, .bool false, .bool false, .bool false, .bool false, .bool false, .bool false])))
  obtain ⟨z0, z1, z2, z3, z4, z5, z6, z7, z8, z9, z10⟩ := tte_Read.cz11 SHB6.out
  exact bodyPost_ret (v := .tuple #[.agg #[.int .i64 0, .int .i64 0, .int .u64 0, .int .u64 0, .bool false, .bool false, .bool false, .bool false, .bool false, .bool false, .bool false], .int .i64 2]) (by simp [results, Try.f125, go_sem, z0, z1, z2, z3, z4, z5, z6, z7, z8, z9, z10]) rfl ⟨2, by rw [HRN.out]; rfl, by rw [HRN.out]; rfl, grown_loc HG.out THB6.out (by have := HH.out; omega)⟩
 have ht0 : (((tg : Nat) : Int) != (t : Int)) = false := by rw [ht]; simp
 have HTG := Aside0.mk (HTV.out.symm.trans ht)
 clear ht
 obtain ⟨z0, z1, z2, z3, z4, z5, z6, z7, z8, z9, z10⟩ := tte_Read.cz11 HB10.out
 go_wp2_with fail
 clear z0 z1 z2 z3 z4 z5 z6 z7 z8 z9 z10
 refine (lookasideref03_Data.calls 500 _ _ _ _ _ _ _ _ _ _ _ _ _ GD.out).mono ?_
 rintro x0 w1 ⟨rfl, hd⟩
 have hg := below_grown hd
 replace HB10 := Aside0.mk (blk_grown HB10.out hg)
 replace HG := Aside0.mk (grown_two HG.out hg)
 replace HB6 := Aside0.mk (blk_grown HB6.out hg)
 replace HB8 := Aside0.mk (blk_grown HB8.out hg)
 clear hg hd
 clear ht0
 by_cases hdd : dv = d
 rotate_left
 ·have hd0 : (((dv : Nat) : Int) != (d : Int)) = true := by rw [bne_iff_ne]; omega
  have hd' : ¬ dataOf (sOf d) (paOf d) (bitOf d 2) (bitOf d 4) (bitOf d 8) (bitOf d 64) (bitOf d 1) (bitOf d 1152921504606846976) = d := by rw [← HDV.out]; exact hdd
  have HRN := Aside0.mk (show readW (t, d) A = none by unfold readW; rw [HRV.out]; unfold entOf; rw [if_pos HM.out, if_pos HTG.out, if_neg hd']; rfl)
  clear hdd hd'
  obtain ⟨z0, z1, z2, z3, z4, z5, z6, z7, z8, z9, z10⟩ := tte_Read.cz11 HB8.out
  go_wp2_with (((with_reducible refine gate_store (t := 50) (p := 6) rfl ?_); refine wpList_store_row rfl 50 (.tmp 6) (.tmp 82) rfl h6 #[.int .i64 0, .int .i64 0, .int .u64 0, .int .u64 0, .bool false, .bool false, .bool false, .bool false, .bool false, .bool false, .bool false] rfl rfl 50 _ HB6.out (by kernel_rfl) rfl (by kernel_rfl) ?_; have SHB6 := Aside0.mk (setRow_heap _ h6 _ #[.int .i64 0, .int .i64 0, .int .u64 0, .int .u64 0, .bool false, .bool false, .bool false, .bool false, .bool false, .bool false, .bool false] _ _ HB6.out); have THB6 := Aside0.mk (grown_row w1 h6 #[.int .i64 0, .int .i64 0, .int .u64 0, .int .u64 0, .bool false, .bool false, .bool false, .bool false, .bool false, .bool false, .bool false])))
  obtain ⟨z0, z1, z2, z3, z4, z5, z6, z7, z8, z9, z10⟩ := tte_Read.cz11 SHB6.out
  exact bodyPost_ret (v := .tuple #[.agg #[.int .i64 0, .int .i64 0, .int .u64 0, .int .u64 0, .bool false, .bool false, .bool false, .bool false, .bool false, .bool false, .bool false], .int .i64 2]) (by simp [results, Try.f125, go_sem, z0, z1, z2, z3, z4, z5, z6, z7, z8, z9, z10]) rfl ⟨2, by rw [HRN.out]; rfl, by rw [HRN.out]; rfl, grown_loc HG.out THB6.out (by have := HH.out; omega)⟩
 have hd0 : (((dv : Nat) : Int) != (d : Int)) = false := by rw [hdd]; simp
 have hd' : dataOf (sOf d) (paOf d) (bitOf d 2) (bitOf d 4) (bitOf d 8) (bitOf d 64) (bitOf d 1) (bitOf d 1152921504606846976) = d := by rw [← HDV.out]; exact hdd
 have HRN := Aside0.mk (show readW (t, d) A = some ⟨sOf d, cOf t, vOf d A, paOf d, bitOf d 2, bitOf d 4, bitOf d 8, bitOf d 64, bitOf d 1, bitOf d 1152921504606846976⟩ by unfold readW; rw [HRV.out]; unfold entOf; rw [if_pos HM.out, if_pos HTG.out, if_pos hd']; exact if_pos rfl)
 clear hdd hd'
 obtain ⟨z0, z1, z2, z3, z4, z5, z6, z7, z8, z9, z10⟩ := tte_Read.cz11 HB10.out
 go_wp2_with (((with_reducible refine gate_store (t := 50) (p := 6) rfl ?_); refine wpList_store_row rfl 50 (.tmp 6) (.tmp 83) rfl h6 #[.int .i64 (sOf d : Int), .int .i64 (cOf t : Int), .int .u64 (vOf d A : Int), .int .u64 (paOf d : Int), .bool (bitOf d 2), .bool (bitOf d 4), .bool (bitOf d 8), .bool (bitOf d 64), .bool (bitOf d 1), .bool (bitOf d 1152921504606846976), .bool true] rfl rfl 50 _ HB6.out (by kernel_rfl) rfl (by kernel_rfl) ?_; have SHB6 := Aside0.mk (setRow_heap _ h6 _ #[.int .i64 (sOf d : Int), .int .i64 (cOf t : Int), .int .u64 (vOf d A : Int), .int .u64 (paOf d : Int), .bool (bitOf d 2), .bool (bitOf d 4), .bool (bitOf d 8), .bool (bitOf d 64), .bool (bitOf d 1), .bool (bitOf d 1152921504606846976), .bool true] _ _ HB6.out); have THB6 := Aside0.mk (grown_row w1 h6 #[.int .i64 (sOf d : Int), .int .i64 (cOf t : Int), .int .u64 (vOf d A : Int), .int .u64 (paOf d : Int), .bool (bitOf d 2), .bool (bitOf d 4), .bool (bitOf d 8), .bool (bitOf d 64), .bool (bitOf d 1), .bool (bitOf d 1152921504606846976), .bool true])))
 obtain ⟨z0, z1, z2, z3, z4, z5, z6, z7, z8, z9, z10⟩ := tte_Read.cz11 SHB6.out
 exact bodyPost_ret (v := .tuple #[.agg #[.int .i64 (sOf d : Int), .int .i64 (cOf t : Int), .int .u64 (vOf d A : Int), .int .u64 (paOf d : Int), .bool (bitOf d 2), .bool (bitOf d 4), .bool (bitOf d 8), .bool (bitOf d 64), .bool (bitOf d 1), .bool (bitOf d 1152921504606846976), .bool true], .int .i64 0]) (by simp [results, Try.f125, go_sem, z0, z1, z2, z3, z4, z5, z6, z7, z8, z9, z10]) rfl ⟨0, by rw [HRN.out]; rfl, by rw [HRN.out]; rfl, grown_loc HG.out THB6.out (by have := HH.out; omega)⟩
end
end Go.Proofs.Ytjnffegjpkbjmaa.Mem
-- halved
