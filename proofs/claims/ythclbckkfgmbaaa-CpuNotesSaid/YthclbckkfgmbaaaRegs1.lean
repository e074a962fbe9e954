/- What each method of registers does with what they are, and answers; each with its own conditions. -/
import Derived.Test.YthclbckkfgmbaaaQRegsPlaysx5
import Derived.Maps.Own
import Derived.Maps.OwnSet
import Derived.Maps.OwnOps
import Derived.Maps.Ext
import Derived.OpenShut
import Derived.DeepKeys4
import Derived.Laws.BitsAllLaws
/- merged: Regs0 -/
namespace Go.Proofs.Ythclbckkfgmbaaa.QRegsPlays
open Go.RowKit Go.Maps Go.Proofs.YthclbckkfgmbaaaW.PrintWords Go.Proofs.YthclbckkfgmbaaaW.PrintLast Go.Proofs.YthclbckkfgmbaaaW.PrintMore
set_option linter.unusedSimpArgs false
set_option linter.unusedVariables false
section
set_option maxHeartbeats 1000000
set_option maxRecDepth 100000
theorem laidOut : laidOutB Try.prog = true := by kernel_rfl
theorem keyRow : (113 : TypeId) < Try.prog.types.size := of_decide_eq_true (by kernel_rfl)
theorem keyWide : (match Try.prog.underlying 113 with | some (.array _ _) | some (.struct _) => true | _ => false) = true := by rw [Try.underlying113]
theorem keyLaw : WideMaps.KeyLaw Try.prog 113 := deep_law_laid laidOut (m := 2) (by omega) keyRow (by kernel_rfl) keyWide
theorem lawK : Keyed Try.prog 113 := Keyed.of_law keyLaw
theorem zeroU (w : World) : (zeroValue 22).run Try.prog w = .ok (.int .u64 0) w := by kernel_rfl
def klit (a p : Int) : Lit := .string (keyBytes [.int .i64 a, .int .u64 p])
theorem keyAt (a p : Int) (ha : (Lit.int .i64 a).wf = true) (hp : (Lit.int .u64 p).wf = true) : keyOf Try.prog 113 (.agg #[.int .i64 a, .int .u64 p]) = some (klit a p) := by
  have c2 : Try.prog.cellsOf 113 = 2 := by kernel_rfl
  have c3 : Try.prog.cellsOf 3 = 1 := by kernel_rfl
  have c22 : Try.prog.cellsOf 22 = 1 := by kernel_rfl
  have kt : Try.prog.keyType 113 = true := by kernel_rfl
  obtain ⟨m, hm⟩ : ∃ m, Try.prog.types.size + 1 = m + 2 := ⟨Try.prog.types.size - 1, by have h : 0 < Try.prog.types.size := Nat.lt_of_le_of_lt (Nat.zero_le 113) keyRow; omega⟩
  have hk : Try.prog.keyLits (Try.prog.types.size + 1) 113 [.int .i64 a, .int .u64 p] = some [.int .i64 a, .int .u64 p] := by
    rw [hm]
    simp [Program.keyLits, Try.underlying113, Try.underlying3, Try.underlying22, c2, c3, c22, ha, hp]
  unfold keyOf
  rw [Try.underlying113]
  simp only
  rw [if_pos (by simp [Value.formed, Try.underlying113, c2, kt])]
  have e : (Value.agg #[.int .i64 a, .int .u64 p]).cells.toList = [.int .i64 a, .int .u64 p] := by simp [Value.cells]
  rw [e, hk]
  rfl
theorem klit_inj {a p a' p' : Int} (ha : (Lit.int .i64 a).wf = true) (hp : (Lit.int .u64 p).wf = true) (ha' : (Lit.int .i64 a').wf = true) (hp' : (Lit.int .u64 p').wf = true) (h : klit a p = klit a' p') : a = a' ∧ p = p' := by
  have e := keyLaw.inj (keyAt a p ha hp) (h ▸ keyAt a' p' ha' hp')
  simpa using e
structure Regs (B : Nat) (w0 : World) (p mb n : Nat) (D : DataW Unit) (W : World) : Prop where
  below : Below B w0 W
  hp : B ≤ p
  hm : B ≤ mb
  hB : B ≤ W.heap.size
  row : W.heap[p]? = some (.cells #[.map (some mb)] 126 (0, 0))
  own : W.ownsMap Try.prog 113 (plainElem Try.prog 22) mb n D
theorem Regs.lt {B w0 p mb n D W} (h : Regs B w0 p mb n D W) : p < W.heap.size := blk_lt h.row
theorem Regs.cell {B w0 p mb n D W} (h : Regs B w0 p mb n D W) : W.cell? ⟨p, 0, none⟩ = some (.map (some mb)) := (blk_cell h.row 0).trans rfl
theorem Regs.ne {B w0 p mb n D W} (h : Regs B w0 p mb n D W) : p ≠ mb := by
  intro e; subst e
  obtain ⟨es, clock, hb, _⟩ := h.own
  have := h.row; rw [hb] at this; cases this
theorem Regs.step {B w0 p mb n D W n' D' W'} (h : Regs B w0 p mb n D W) (hg : W.grownBy W' (some mb)) (ho : W'.ownsMap Try.prog 113 (plainElem Try.prog 22) mb n' D') : Regs B w0 p mb n' D' W' :=
  ⟨h.below.grown hg h.hB (fun k e => by cases e; exact h.hm), h.hp, h.hm, Nat.le_trans h.hB hg.size, (hg.block p h.lt (fun e => h.ne (Option.some.inj e))).trans h.row, ho⟩
theorem Regs.kept {B w0 p mb n D W row W'} (h : Regs B w0 p mb n D W) (hg : W.grownBy W' row) (h1 : some mb ≠ row) (h2 : some p ≠ row) (h3 : ∀ k, row = some k → B ≤ k) : Regs B w0 p mb n D W' :=
  ⟨h.below.grown hg h.hB h3, h.hp, h.hm, Nat.le_trans h.hB hg.size, (hg.block p h.lt h2).trans h.row, h.own.kept hg h1⟩
theorem Regs.same {B w0 p mb n D W W'} (h : Regs B w0 p mb n D W) (hg : W.grownBy W' none) : Regs B w0 p mb n D W' := h.kept hg (by simp) (by simp) (fun _ e => by cases e)
theorem grown_refl (W : World) (row : Option Nat) : W.grownBy W row := ⟨rfl, rfl, rfl, Nat.le_refl _, fun _ _ _ => rfl⟩
theorem grown_drew (W : World) (row : Option Nat) : W.grownBy W.drew row := ⟨rfl, rfl, rfl, Nat.le_refl _, fun _ _ _ => rfl⟩
theorem grown_two {W W1 W2 : World} {row : Option Nat} (h : W.grownBy W1 row) (k : W1.grownBy W2 row) : W.grownBy W2 row := ⟨k.os.trans h.os, k.tape.trans h.tape, k.output.trans h.output, Nat.le_trans h.size k.size, fun i hi hn => (k.block i (Nat.lt_of_lt_of_le hi h.size) hn).trans (h.block i hi hn)⟩
theorem below_grown {W W1 : World} (h : Below W.heap.size W W1) : W.grownBy W1 none := ⟨h.os, h.tape, h.output, h.size, fun k hk _ => h.block k hk⟩
theorem drawn_grown {W W1 : World} (h : Drawn0 W W1) : W.grownBy W1 none := by
  obtain ⟨nd, rfl⟩ := h
  exact ⟨rfl, rfl, rfl, Nat.le_refl _, fun _ _ _ => rfl⟩
theorem regs_end {w0 : World} {p mb n D W} (h : Regs w0.heap.size w0 p mb n D W) : w0.grownBy W none := ⟨h.below.os, h.below.tape, h.below.output, h.below.size, fun k hk _ => h.below.block k hk⟩
/-- A register. -/
def rdk (D : DataW Unit) (a p : Int) : Int := match D.atKey (klit a p) (.lit (.int .u64 0)) with | .lit (.int _ c) => c | _ => 0
/-- A register, put. -/
def pk (D : DataW Unit) (a p v : Int) : DataW Unit := D.put (klit a p) (.lit (.int .u64 v))
theorem rdk_of {D : DataW Unit} {a p c : Int} (h : D.atKey (klit a p) (.lit (.int .u64 0)) = .lit (.int .u64 c)) : c = rdk D a p := by unfold rdk; rw [h]
theorem rdk_same {D : DataW Unit} (h : IsMap D) (a p v : Int) : rdk (pk D a p v) a p = v := by
  unfold rdk pk
  rw [atKey_put_same h (by trivial)]
theorem rdk_other {D : DataW Unit} {a p a' p' : Int} (hne : klit a' p' ≠ klit a p) (v : Int) : rdk (pk D a p v) a' p' = rdk D a' p' := by
  unfold rdk pk
  rw [atKey_put_other hne]
theorem pk_isMap {D : DataW Unit} (h : IsMap D) (a p v : Int) : IsMap (pk D a p v) := h.put _ _
/-- Some letters of the world that the walk keeps. -/
theorem u64_b {a : Int} (h : (Lit.int .u64 a).wf = true) : 0 ≤ a ∧ a < 18446744073709551616 := by
  simp [Lit.wf, IntKind.min, IntKind.max, IntKind.signed, IntKind.bits] at h; omega
end
end Go.Proofs.Ythclbckkfgmbaaa.QRegsPlays
namespace Go.Proofs.Ythclbckkfgmbaaa.QRegsPlays
open Go.RowKit Go.Maps Go.Proofs.YthclbckkfgmbaaaW.PrintWords Go.Proofs.YthclbckkfgmbaaaW.PrintLast Go.Proofs.YthclbckkfgmbaaaW.PrintMore
set_option linter.unusedSimpArgs false
set_option linter.unusedVariables false
section
set_option maxHeartbeats 1000000
set_option maxRecDepth 100000
/-! ### Plain arithmetic of words -/
theorem m_u64 {a : Int} (h : (Lit.int .u64 a).wf = true) : 0 ≤ a ∧ a < 18446744073709551616 := by
  simp [Lit.wf, IntKind.min, IntKind.max, IntKind.signed, IntKind.bits] at h; omega
theorem m_i64 {a : Int} (h : (Lit.int .i64 a).wf = true) : -9223372036854775808 ≤ a ∧ a < 9223372036854775808 := by
  simp [Lit.wf, IntKind.min, IntKind.max, IntKind.signed, IntKind.bits] at h; omega
theorem m_shr (x : Int) (n : Nat) (h : n ≤ 64) : shr .u64 x (n : Int) = x / 2 ^ n := by
  unfold shr; rw [Int.toNat_natCast, Nat.min_eq_left (by simpa [IntKind.bits] using h)]
theorem m_shl (x : Int) (n : Nat) (h : n ≤ 64) : shl .u64 x (n : Int) = x * 2 ^ n % 18446744073709551616 := by
  unfold shl; rw [Int.toNat_natCast, Nat.min_eq_left (by simpa [IntKind.bits] using h), IntKind.wrap_u64]
theorem m_maskn (n : Nat) (h1 : 1 ≤ n) (h2 : n ≤ 64) : (18446744073709551615 : Int) / 2 ^ (64 - n) = ((2 ^ n - 1 : Nat) : Int) := by
  have hp : 2 ^ (64 - n) * 2 ^ n = (18446744073709551616 : Nat) := by rw [← Nat.pow_add, show 64 - n + n = 64 by omega]
  have h0 : 0 < 2 ^ (64 - n) := Nat.two_pow_pos _
  have h3 : 0 < 2 ^ n := Nat.two_pow_pos _
  have e : (18446744073709551615 : Nat) / 2 ^ (64 - n) = 2 ^ n - 1 := by
    apply Nat.div_eq_of_lt_le
    · rw [Nat.mul_comm, Nat.mul_sub, hp]; omega
    · rw [Nat.sub_add_cancel h3, Nat.mul_comm, hp]; omega
  have := congrArg (fun x : Nat => (x : Int)) e
  simpa using this
theorem m_mask (p n : Nat) (h1 : 1 ≤ n) (h2 : p + n ≤ 64) : shl .u64 (shr .u64 18446744073709551615 ((64 - n : Nat) : Int)) (p : Int) = (((2 ^ n - 1) * 2 ^ p : Nat) : Int) := by
  rw [m_shr _ _ (by omega), m_shl _ _ (by omega), m_maskn n h1 (by omega)]
  have hp : 2 ^ n * 2 ^ p ≤ (18446744073709551616 : Nat) := by
    rw [← Nat.pow_add]; exact Nat.le_trans (Nat.pow_le_pow_right (by decide) (show n + p ≤ 64 by omega)) (by decide)
  have h3 : 0 < 2 ^ p := Nat.two_pow_pos _
  have h4 : (2 ^ n - 1) * 2 ^ p < (18446744073709551616 : Nat) := by
    rw [Nat.sub_mul]; omega
  have e : ((2 ^ n - 1) * 2 ^ p) % (18446744073709551616 : Nat) = (2 ^ n - 1) * 2 ^ p := Nat.mod_eq_of_lt h4
  have := congrArg (fun x : Nat => (x : Int)) e
  simpa using this
theorem m_get (a : Nat) (ha : a < 18446744073709551616) (p n : Nat) (h1 : 1 ≤ n) (h2 : p + n ≤ 64) :
    shr .u64 (Go.bits .and .u64 (a : Int) (((2 ^ n - 1) * 2 ^ p : Nat) : Int)) (p : Int) = ((a / 2 ^ p % 2 ^ n : Nat) : Int) := by
  have hp : 2 ^ n * 2 ^ p ≤ (18446744073709551616 : Nat) := by
    rw [← Nat.pow_add]; exact Nat.le_trans (Nat.pow_le_pow_right (by decide) (show n + p ≤ 64 by omega)) (by decide)
  have h3 : 0 < 2 ^ p := Nat.two_pow_pos _
  have h4 : (2 ^ n - 1) * 2 ^ p < (18446744073709551616 : Nat) := by
    rw [Nat.sub_mul]; omega
  rw [u64_and_nat _ _ ha h4, m_shr _ _ (by omega)]
  have e : (a &&& (2 ^ n - 1) * 2 ^ p) / 2 ^ p = a / 2 ^ p % 2 ^ n := by
    rw [← Nat.shiftRight_eq_div_pow, Nat.shiftRight_and_distrib, Nat.shiftRight_eq_div_pow, Nat.shiftRight_eq_div_pow, Nat.mul_div_cancel _ h3, Nat.and_two_pow_sub_one_eq_mod]
  have := congrArg (fun x : Nat => (x : Int)) e
  simpa using this

/-! ### A bit of a word, by halving -/
theorem m_tdiv (x n : Nat) : Int.tdiv (x : Int) (n : Int) = ((x / n : Nat) : Int) := rfl
theorem m_tmod (x n : Nat) : Int.tmod (x : Int) (n : Int) = ((x % n : Nat) : Int) := rfl
theorem m_w64 (x : Nat) (h : x < 9223372036854775808) : wrap64 (x : Int) = x := by unfold wrap64; omega
theorem m_wu (x : Nat) (h : x < 18446744073709551616) : IntKind.u64.wrap (x : Int) = x := by rw [IntKind.wrap_u64]; omega

/-! ### Fields -/
theorem fMay (p n : Nat) (h1 : 1 ≤ n) (h2 : p + n ≤ 64) : field_May.f (p : Int) (n : Int) = some true := by
  unfold field_May.f
  have e : wrap64 (64 - (n : Int)) = ((64 - n : Nat) : Int) := by unfold wrap64; omega
  rw [if_pos (by omega), if_pos (by omega), if_pos (by omega), e]
  simp; omega
theorem fMask (p n : Nat) (h1 : 1 ≤ n) (h2 : p + n ≤ 64) : field_Mask.f (p : Int) (n : Int) = some (((2 ^ n - 1) * 2 ^ p : Nat) : Int) := by
  unfold field_Mask.f
  have e : wrap64 (64 - (n : Int)) = ((64 - n : Nat) : Int) := by unfold wrap64; omega
  rw [fMay p n h1 h2]
  simp only [Option.bind_some, if_true]
  rw [e, if_pos (by omega), if_pos (by omega), m_mask p n h1 h2]
theorem fGet (a : Nat) (ha : a < 18446744073709551616) (p n : Nat) (h1 : 1 ≤ n) (h2 : p + n ≤ 64) : field_Get.f (a : Int) (p : Int) (n : Int) = some ((a / 2 ^ p % 2 ^ n : Nat) : Int) := by
  unfold field_Get.f
  rw [fMay p n h1 h2, fMask p n h1 h2]
  simp only [Option.bind_some, if_true]
  rw [if_pos (by omega), m_get a ha p n h1 h2]

/-! ### A number put into a field -/
def putOf (a p n v : Nat) : Nat := a - a / 2 ^ p % 2 ^ n * 2 ^ p + v % 2 ^ n * 2 ^ p
theorem m_put (a v : Nat) (ha : a < 18446744073709551616) (p n : Nat) (h1 : 1 ≤ n) (h2 : p + n ≤ 64) :
    (a &&& (18446744073709551615 - (2 ^ n - 1) * 2 ^ p)) ||| ((v * 2 ^ p % 18446744073709551616) &&& ((2 ^ n - 1) * 2 ^ p)) = putOf a p n v := by
  have hn0 : 0 < 2 ^ n := Nat.two_pow_pos n
  have hp0 : 0 < 2 ^ p := Nat.two_pow_pos p
  have hM : (2 ^ n - 1) * 2 ^ p < 2 ^ 64 := by
    have hp : 2 ^ n * 2 ^ p ≤ (2 ^ 64 : Nat) := by
      rw [← Nat.pow_add]; exact Nat.pow_le_pow_right (by decide) (by omega)
    rw [Nat.sub_mul]; omega
  have hT : putOf a p n v = 2 ^ (p + n) * (a / 2 ^ (p + n)) + (2 ^ p * (v % 2 ^ n) + a % 2 ^ p) := by
    unfold putOf
    have e1 : a = 2 ^ p * (a / 2 ^ p) + a % 2 ^ p := (Nat.div_add_mod a (2 ^ p)).symm
    have e2 : a / 2 ^ p = 2 ^ n * (a / 2 ^ p / 2 ^ n) + a / 2 ^ p % 2 ^ n := (Nat.div_add_mod (a / 2 ^ p) (2 ^ n)).symm
    rw [Nat.div_div_eq_div_mul, ← Nat.pow_add] at e2
    have e3 : 2 ^ p * (a / 2 ^ p) = 2 ^ (p + n) * (a / 2 ^ (p + n)) + a / 2 ^ p % 2 ^ n * 2 ^ p := by
      conv => lhs; rw [e2]
      rw [Nat.mul_add, ← Nat.mul_assoc, ← Nat.pow_add, Nat.mul_comm (a / 2 ^ p % 2 ^ n)]
    have e4 : v % 2 ^ n * 2 ^ p = 2 ^ p * (v % 2 ^ n) := Nat.mul_comm _ _
    omega
  have hin : 2 ^ p * (v % 2 ^ n) + a % 2 ^ p < 2 ^ (p + n) := by
    have x1 : v % 2 ^ n < 2 ^ n := Nat.mod_lt _ hn0
    have x2 : a % 2 ^ p < 2 ^ p := Nat.mod_lt _ hp0
    have x3 : 2 ^ p * (v % 2 ^ n + 1) ≤ 2 ^ p * 2 ^ n := Nat.mul_le_mul_left _ x1
    rw [Nat.pow_add]
    rw [Nat.mul_add, Nat.mul_one] at x3
    omega
  rw [hT]
  apply Nat.eq_of_testBit_eq
  intro i
  rw [show (18446744073709551615 : Nat) - (2 ^ n - 1) * 2 ^ p = 2 ^ 64 - ((2 ^ n - 1) * 2 ^ p + 1) by omega, show (18446744073709551616 : Nat) = 2 ^ 64 from rfl]
  rw [Nat.testBit_or, Nat.testBit_and, Nat.testBit_and, Nat.testBit_two_pow_sub_succ hM, Nat.testBit_mod_two_pow, Nat.testBit_mul_two_pow, Nat.testBit_mul_two_pow, Nat.testBit_two_pow_sub_one]
  rw [Nat.testBit_two_pow_mul_add _ hin, Nat.testBit_two_pow_mul_add _ (Nat.mod_lt a hp0), Nat.testBit_mod_two_pow, Nat.testBit_mod_two_pow, Nat.testBit_div_two_pow]
  have hhi : 64 ≤ i → a.testBit i = false := fun h => Nat.testBit_lt_two_pow (Nat.lt_of_lt_of_le ha (Nat.pow_le_pow_right (by decide) h : 2 ^ 64 ≤ 2 ^ i))
  by_cases c1 : i < p
  · have c2 : i < p + n := by omega
    have c3 : ¬ p ≤ i := by omega
    have c4 : i < 64 := by omega
    simp [c1, c2, c3, c4]
  · by_cases c2 : i < p + n
    · have c3 : p ≤ i := by omega
      have c4 : i < 64 := by omega
      have c5 : i - p < n := by omega
      simp [c1, c2, c3, c4, c5]
    · have c3 : p ≤ i := by omega
      have c5 : ¬ i - p < n := by omega
      by_cases c4 : i < 64
      · simp [c1, c2, c3, c4, c5, Nat.sub_add_cancel (show p + n ≤ i by omega)]
      · simp [c1, c2, c3, c4, c5, hhi (by omega), Nat.sub_add_cancel (show p + n ≤ i by omega)]
theorem putOf_lt (a v : Nat) (ha : a < 18446744073709551616) (p n : Nat) (h1 : 1 ≤ n) (h2 : p + n ≤ 64) : putOf a p n v < 18446744073709551616 := by
  rw [← m_put a v ha p n h1 h2]
  apply Nat.or_lt_two_pow (n := 64)
  · exact Nat.lt_of_le_of_lt Nat.and_le_left ha
  · exact Nat.lt_of_le_of_lt Nat.and_le_left (Nat.mod_lt _ (by decide))
theorem fPut (a v : Nat) (ha : a < 18446744073709551616) (p n : Nat) (h1 : 1 ≤ n) (h2 : p + n ≤ 64) : field_Put.f (a : Int) (p : Int) (n : Int) (v : Int) = some (putOf a p n v : Int) := by
  unfold field_Put.f
  have hM : (2 ^ n - 1) * 2 ^ p < 18446744073709551616 := by
    have hp : 2 ^ n * 2 ^ p ≤ (2 ^ 64 : Nat) := by
      rw [← Nat.pow_add]; exact Nat.pow_le_pow_right (by decide) (by omega)
    have h3 : 0 < 2 ^ p := Nat.two_pow_pos p
    rw [Nat.sub_mul]; omega
  rw [fMay p n h1 h2, fMask p n h1 h2]
  simp only [Option.bind_some, if_true]
  have e : (v : Int) * 2 ^ p % 18446744073709551616 = ((v * 2 ^ p % 18446744073709551616 : Nat) : Int) := by simp
  rw [if_pos (by omega), m_shl _ _ (by omega), e, u64_andNot_nat _ _ ha hM, u64_and_nat _ _ (Nat.mod_lt _ (by decide)) hM, u64_or_nat _ _ (Nat.lt_of_le_of_lt Nat.and_le_left ha) (Nat.lt_of_le_of_lt Nat.and_le_left (Nat.mod_lt _ (by decide))), m_put a v ha p n h1 h2]
def b2n (b : Bool) : Nat := if b then 1 else 0
theorem b2n_lt (b : Bool) : b2n b < 2 := by cases b <;> decide
theorem fSet (a : Nat) (ha : a < 18446744073709551616) (p : Nat) (h2 : p < 64) (b : Bool) : field_Set.f (a : Int) (p : Int) b = some (putOf a p 1 (b2n b) : Int) := by
  unfold field_Set.f
  have f1 := fPut a 1 ha p 1 (by omega) (by omega)
  have f0 := fPut a 0 ha p 1 (by omega) (by omega)
  rw [show ((1 : Nat) : Int) = 1 from rfl] at f1 f0
  rw [show ((0 : Nat) : Int) = 0 from rfl] at f0
  cases b
  · rw [if_neg (by decide), f0]; rfl
  · rw [if_pos rfl, f1]; rfl
/-- A field that is empty. -/
theorem put_add (a p n v P N : Nat) (hP : 2 ^ p = P) (hN : 2 ^ n = N) (h : a / P % N = 0) (hv : v < N) : putOf a p n v = a + v * P := by
  unfold putOf; rw [hP, hN, h, Nat.mod_eq_of_lt hv]; omega

theorem cz2 {W : World} {g : Nat} {t : TypeId} {a0 a1 : Value} (h : W.heap[g]? = some (.cells #[a0, a1] t (0, 0))) : W.cell? ⟨g, 0, none⟩ = some a0 ∧ W.cell? ⟨g, 1, none⟩ = some a1 := ⟨(blk_cell h 0).trans rfl, (blk_cell h 1).trans rfl⟩
/-- The tag target of a tag access. -/
def tgt (x : Int) : Int := x % 8192 * 281474976710656 + x / 4194304
theorem get_hi {x : Int} (h : (Lit.int .u64 x).wf = true) : field_Get.f x 22 42 = some (x / 4194304) := by
  obtain ⟨h0, h1⟩ := m_u64 h
  obtain ⟨X, rfl⟩ := Int.eq_ofNat_of_zero_le h0
  have := fGet X (by omega) 22 42 (by omega) (by omega)
  rw [show ((22 : Nat) : Int) = 22 from rfl, show ((42 : Nat) : Int) = 42 from rfl] at this
  rw [this]
  refine congrArg some ?_
  have e : X / 2 ^ 22 % 2 ^ 42 = X / 4194304 := by simp only [Nat.reducePow]; omega
  rw [e]; simp
theorem get_lo {x : Int} (h : (Lit.int .u64 x).wf = true) : field_Get.f x 0 13 = some (x % 8192) := by
  obtain ⟨h0, h1⟩ := m_u64 h
  obtain ⟨X, rfl⟩ := Int.eq_ofNat_of_zero_le h0
  have := fGet X (by omega) 0 13 (by omega) (by omega)
  rw [show ((0 : Nat) : Int) = 0 from rfl, show ((13 : Nat) : Int) = 13 from rfl] at this
  rw [this]
  refine congrArg some ?_
  have e : X / 2 ^ 0 % 2 ^ 13 = X % 8192 := by simp
  rw [e]; simp
theorem put_hi {x : Int} (h : (Lit.int .u64 x).wf = true) : field_Put.f (x / 4194304) 48 13 (x % 8192) = some (tgt x) := by
  obtain ⟨h0, h1⟩ := m_u64 h
  obtain ⟨X, rfl⟩ := Int.eq_ofNat_of_zero_le h0
  have := fPut (X / 4194304) (X % 8192) (by omega) 48 13 (by omega) (by omega)
  rw [show ((48 : Nat) : Int) = 48 from rfl, show ((13 : Nat) : Int) = 13 from rfl] at this
  have e1 : ((X : Int) / 4194304) = ((X / 4194304 : Nat) : Int) := by simp
  have e2 : ((X : Int) % 8192) = ((X % 8192 : Nat) : Int) := by simp
  unfold tgt
  rw [e1, e2, this, put_add (X / 4194304) 48 13 (X % 8192) 281474976710656 8192 rfl rfl (by omega) (by omega)]
  refine congrArg some ?_
  rw [Int.natCast_add, Int.natCast_mul, Int.add_comm]
  rfl
theorem new_regs {B w0 W} (hb : Below B w0 W) (hB : B ≤ W.heap.size) : Regs B w0 (W.heap.size + 1) W.heap.size 0 (.map []) ((W.alloc (Obj.map #[] 0)).alloc (Obj.cells #[.map (some W.heap.size)] 126)) := by
  have e1 : (W.alloc (Obj.map #[] 0)).heap.size = W.heap.size + 1 := by simp
  have h1 := MapKept.heap_alloc (W.alloc (Obj.map #[] 0)) (Obj.cells #[.map (some W.heap.size)] 126)
  have e2 : ((W.alloc (Obj.map #[] 0)).alloc (Obj.cells #[.map (some W.heap.size)] 126)).heap.size = W.heap.size + 2 := by simp
  exact ⟨(hb.alloc hB _).alloc (by omega) _, by omega, hB, by omega, by rw [← e1]; exact h1.1, (World.ownsMap_made W _ _ _).alloc _⟩
theorem new_calls {B w0 W} (hb : Below B w0 W) (hB : B ≤ W.heap.size) :
    Calls Try.prog 73 #[] W fun e W' => ∃ p mb, e = .returned (.pointer (some ⟨p, 0, none⟩)) ∧ Regs B w0 p mb 0 (.map []) W' ∧ W.grownBy W' none := by
  have HB := Aside0.mk hb
  clear hb
  have hmm := @run_makeMap Try.prog
  go_enter Try.func73, Try.ntmps73
  go_wp2
  go_ret
  exact ⟨W.heap.size + 1, W.heap.size, rfl, new_regs HB.out hB, grown_two (World.grownBy_alloc W _ none) (World.grownBy_alloc _ _ none)⟩
noncomputable def get2_T : Bool × List (List Nat × List Nat) := rtab .any (opsOf Try.f78 2)
theorem get2_tab : rtab .any (opsOf Try.f78 2) = get2_T := rfl
noncomputable def get3_T : Bool × List (List Nat × List Nat) := rtab .any (opsOf Try.f78 3)
theorem get3_tab : rtab .any (opsOf Try.f78 3) = get3_T := rfl
theorem get_plain {B w0 p mb n D W} (h : Regs B w0 p mb n D W) (a q : Int) (ha : (Lit.int .i64 a).wf = true) (hq : (Lit.int .u64 q).wf = true) (h0 : (q != 0) = true) :
    Calls Try.prog 78 #[.pointer (some ⟨p, 0, none⟩), .agg #[.int .i64 a, .int .u64 q]] W fun e W' => e = .returned (.int .u64 (rdk D a q)) ∧ W.grownBy W' none := by
  have c0 := h.cell
  have HM := Aside0.mk h
  clear h
  go_enter Try.func78, Try.ntmps78
  go_wp2_with (first | ((with_reducible refine gate_dst (N := 3) rfl ?_); refine box_event ?hg (N := 3) ?hd (cs := #[.int .i64 a, .int .u64 q]) (t := 113) ?hr ?_; (case hd => rfl); (case hg => rfl); (case hr => first | (go_simp; done) | (go_simp; rfl)); intro g3 hgb w1 hbox hb; have H3 := Aside0.mk hbox; have GH3 := Aside0.mk (below_grown hb); have LH3 := Aside0.mk (Nat.le_of_eq hgb.symm); clear hgb hbox hb; have HM1 := Aside0.mk (HM.out.same GH3.out); have d0 := HM1.out.cell; obtain ⟨k0, k1⟩ := cz2 H3.out; clear HM) | go_in)
  have AHS := Aside0.mk (show w1.drew.cell? ⟨p, 0, none⟩ = some (.map (some mb)) ∧ w1.drew.cell? ⟨g3, 0, none⟩ = some (.int .i64 a) ∧ w1.drew.cell? ⟨g3, 1, none⟩ = some (.int .u64 q) ∧ w1.drew.ownsMap Try.prog 113 (plainElem Try.prog 22) mb n D from ⟨d0, k0, k1, HM1.out.own.drew⟩)
  refine start_ (n := 7) (S := fun w' => w'.cell? ⟨p, 0, none⟩ = some (.map (some mb)) ∧ w'.cell? ⟨g3, 0, none⟩ = some (.int .i64 a) ∧ w'.cell? ⟨g3, 1, none⟩ = some (.int .u64 q) ∧ w'.ownsMap Try.prog 113 (plainElem Try.prog 22) mb n D) (ds := []) #[false, false, false, false, false, false, false] (by kernel_rfl) rfl rfl AHS.out (fun hHeld => ?_)
  refine with_tab get2_tab (fun HT_ => ?_)
  refine pure_ (i := 0) (N := some 9) (v := ?_) (a' := ?_) #[true, false, false, false, false, false, false] rfl rfl (any_of HT_.out (by kernel_rfl)) (fun _ _ _ h => h) (Or.inl ⟨by rfl, ?_⟩) ?_ ?_
  rotate_left
  · intro w'
    go_simp
    with_reducible rfl
  rotate_left
  · simp only [Act.put, List.setIfInBounds_toArray, List.set_cons_zero, List.set_cons_succ, i64_w, i32_w]
    rfl
  refine pure_ (i := 1) (N := some 10) (v := ?_) (a' := ?_) #[true, true, false, false, false, false, false] rfl rfl (any_of HT_.out (by kernel_rfl)) (fun _ _ _ h => h) (Or.inl ⟨by rfl, ?_⟩) ?_ ?_
  rotate_left
  · intro w'
    go_simp
    with_reducible rfl
  rotate_left
  · simp only [Act.put, List.setIfInBounds_toArray, List.set_cons_zero, List.set_cons_succ, i64_w, i32_w]
    rfl
  refine pure_ (i := 2) (N := some 11) (v := ?_) (a' := ?_) #[true, true, true, false, false, false, false] rfl rfl (any_of HT_.out (by kernel_rfl)) (fun _ _ _ h => h) (Or.inl ⟨by rfl, ?_⟩) ?_ ?_
  rotate_left
  · intro w'
    go_simp
    with_reducible rfl
  rotate_left
  · simp only [Act.put, List.setIfInBounds_toArray, List.set_cons_zero, List.set_cons_succ, i64_w, i32_w]
    rfl
  refine take_ (i := 3) (N := some 12) (v := ?_) (a' := ?_) #[true, true, true, true, false, false, false] rfl rfl (take_of HT_.out (by kernel_rfl)) (fun _ _ _ h => h) (Or.inl ⟨by rfl, ?_⟩) hHeld ?_ ?_
  rotate_left
  · rintro w' ⟨s0, s1, s2, s3⟩
    go_simp
    with_reducible rfl
  rotate_left
  · simp only [Act.put, List.setIfInBounds_toArray, List.set_cons_zero, List.set_cons_succ, i64_w, i32_w]
    rfl
  refine take_ (i := 4) (N := some 13) (v := ?_) (a' := ?_) #[true, true, true, true, true, false, false] rfl rfl (take_of HT_.out (by kernel_rfl)) (fun _ _ _ h => h) (Or.inl ⟨by rfl, ?_⟩) hHeld ?_ ?_
  rotate_left
  · rintro w' ⟨s0, s1, s2, s3⟩
    go_simp
    with_reducible rfl
  rotate_left
  · simp only [Act.put, List.setIfInBounds_toArray, List.set_cons_zero, List.set_cons_succ, i64_w, i32_w]
    rfl
  refine take_ (i := 5) (N := some 14) (v := .int .u64 (rdk D a q)) (a' := ?_) #[true, true, true, true, true, true, false] rfl rfl (take_of HT_.out (by kernel_rfl)) (fun _ _ _ h => h) (Or.inl ⟨by rfl, ?_⟩) hHeld ?_ ?_
  · rintro w' ⟨s0, s1, s2, s3⟩
    obtain ⟨c, hrun, hat, _⟩ := s3.lookup_int lawK Try.underlying124 Try.underlying22 (zeroU _) (keyAt (a) (q) (ha) (hq))
    rw [rdk_of hat] at hrun
    go_simp
    first | done | (rw [hrun])
  rotate_left
  · simp only [Act.put, List.setIfInBounds_toArray, List.set_cons_zero, List.set_cons_succ, i64_w, i32_w]
    rfl
  refine pure_ (i := 6) (N := some 4) (v := ?_) (a' := ?_) #[true, true, true, true, true, true, true] rfl rfl (any_of HT_.out (by kernel_rfl)) (fun _ _ _ h => h) (Or.inl ⟨by rfl, ?_⟩) ?_ ?_
  rotate_left
  · intro w'
    go_simp
    with_reducible rfl
  rotate_left
  · simp only [Act.put, List.setIfInBounds_toArray, List.set_cons_zero, List.set_cons_succ, i64_w, i32_w]
    rfl
  refine done_ (done_of HT_.out (by kernel_rfl)) ?_
  go_wp2
  go_ret
  exact ⟨rfl, grown_two GH3.out (grown_drew _ _)⟩
theorem get_target {B w0 p mb n D W} (h : Regs B w0 p mb n D W) (a : Int) (ha : (Lit.int .i64 a).wf = true) (hw : (Lit.int .u64 (rdk D a 48)).wf = true) :
    Calls Try.prog 78 #[.pointer (some ⟨p, 0, none⟩), .agg #[.int .i64 a, .int .u64 0]] W fun e W' => e = .returned (.int .u64 (tgt (rdk D a 48))) ∧ W.grownBy W' none := by
  have c0 := h.cell
  have HM := Aside0.mk h
  clear h
  have HG1 := Aside0.mk (get_hi hw)
  have HG2 := Aside0.mk (get_lo hw)
  have HG3 := Aside0.mk (put_hi hw)
  clear hw
  go_enter Try.func78, Try.ntmps78
  go_wp2_with (first | ((with_reducible refine gate_dst (N := 3) rfl ?_); refine box_event ?hg (N := 3) ?hd (cs := #[.int .i64 a, .int .u64 0]) (t := 113) ?hr ?_; (case hd => rfl); (case hg => rfl); (case hr => first | (go_simp; done) | (go_simp; rfl)); intro g3 hgb w1 hbox hb; have H3 := Aside0.mk hbox; have GH3 := Aside0.mk (below_grown hb); have LH3 := Aside0.mk (Nat.le_of_eq hgb.symm); clear hgb hbox hb; have HM1 := Aside0.mk (HM.out.same GH3.out); have d0 := HM1.out.cell; obtain ⟨k0, k1⟩ := cz2 H3.out; clear HM) | go_in)
  have AHS := Aside0.mk (show w1.drew.cell? ⟨p, 0, none⟩ = some (.map (some mb)) ∧ w1.drew.cell? ⟨g3, 0, none⟩ = some (.int .i64 a) ∧ w1.drew.cell? ⟨g3, 1, none⟩ = some (.int .u64 0) ∧ w1.drew.ownsMap Try.prog 113 (plainElem Try.prog 22) mb n D from ⟨d0, k0, k1, HM1.out.own.drew⟩)
  refine start_ (n := 9) (S := fun w' => w'.cell? ⟨p, 0, none⟩ = some (.map (some mb)) ∧ w'.cell? ⟨g3, 0, none⟩ = some (.int .i64 a) ∧ w'.cell? ⟨g3, 1, none⟩ = some (.int .u64 0) ∧ w'.ownsMap Try.prog 113 (plainElem Try.prog 22) mb n D) (ds := []) #[false, false, false, false, false, false, false, false, false] (by kernel_rfl) rfl rfl AHS.out (fun hHeld => ?_)
  refine with_tab get3_tab (fun HT_ => ?_)
  refine pure_ (i := 0) (N := some 15) (v := ?_) (a' := ?_) #[true, false, false, false, false, false, false, false, false] rfl rfl (any_of HT_.out (by kernel_rfl)) (fun _ _ _ h => h) (Or.inl ⟨by rfl, ?_⟩) ?_ ?_
  rotate_left
  · intro w'
    go_simp
    with_reducible rfl
  rotate_left
  · simp only [Act.put, List.setIfInBounds_toArray, List.set_cons_zero, List.set_cons_succ, i64_w, i32_w]
    rfl
  refine pure_ (i := 1) (N := some 16) (v := ?_) (a' := ?_) #[true, true, false, false, false, false, false, false, false] rfl rfl (any_of HT_.out (by kernel_rfl)) (fun _ _ _ h => h) (Or.inl ⟨by rfl, ?_⟩) ?_ ?_
  rotate_left
  · intro w'
    go_simp
    with_reducible rfl
  rotate_left
  · simp only [Act.put, List.setIfInBounds_toArray, List.set_cons_zero, List.set_cons_succ, i64_w, i32_w]
    rfl
  refine pure_ (i := 2) (N := some 17) (v := ?_) (a' := ?_) #[true, true, true, false, false, false, false, false, false] rfl rfl (any_of HT_.out (by kernel_rfl)) (fun _ _ _ h => h) (Or.inl ⟨by rfl, ?_⟩) ?_ ?_
  rotate_left
  · intro w'
    go_simp
    with_reducible rfl
  rotate_left
  · simp only [Act.put, List.setIfInBounds_toArray, List.set_cons_zero, List.set_cons_succ, i64_w, i32_w]
    rfl
  refine take_ (i := 3) (N := some 18) (v := ?_) (a' := ?_) #[true, true, true, true, false, false, false, false, false] rfl rfl (take_of HT_.out (by kernel_rfl)) (fun _ _ _ h => h) (Or.inl ⟨by rfl, ?_⟩) hHeld ?_ ?_
  rotate_left
  · rintro w' ⟨s0, s1, s2, s3⟩
    go_simp
    with_reducible rfl
  rotate_left
  · simp only [Act.put, List.setIfInBounds_toArray, List.set_cons_zero, List.set_cons_succ, i64_w, i32_w]
    rfl
  refine pure_ (i := 4) (N := some 19) (v := ?_) (a' := ?_) #[true, true, true, true, true, false, false, false, false] rfl rfl (any_of HT_.out (by kernel_rfl)) (fun _ _ _ h => h) (Or.inl ⟨by rfl, ?_⟩) ?_ ?_
  rotate_left
  · intro w'
    go_simp
    with_reducible rfl
  rotate_left
  · simp only [Act.put, List.setIfInBounds_toArray, List.set_cons_zero, List.set_cons_succ, i64_w, i32_w]
    rfl
  refine take_ (i := 5) (N := some 20) (v := ?_) (a' := ?_) #[true, true, true, true, true, true, false, false, false] rfl rfl (take_of HT_.out (by kernel_rfl)) (fun _ _ _ h => h) (Or.inl ⟨by rfl, ?_⟩) hHeld ?_ ?_
  rotate_left
  · rintro w' ⟨s0, s1, s2, s3⟩
    go_simp
    with_reducible rfl
  rotate_left
  · simp only [Act.put, List.setIfInBounds_toArray, List.set_cons_zero, List.set_cons_succ, i64_w, i32_w]
    rfl
  refine pure_ (i := 6) (N := some 21) (v := ?_) (a' := ?_) #[true, true, true, true, true, true, true, false, false] rfl rfl (any_of HT_.out (by kernel_rfl)) (fun _ _ _ h => h) (Or.inl ⟨by rfl, ?_⟩) ?_ ?_
  rotate_left
  · intro w'
    go_simp
    with_reducible rfl
  rotate_left
  · simp only [Act.put, List.setIfInBounds_toArray, List.set_cons_zero, List.set_cons_succ, i64_w, i32_w]
    rfl
  refine take_ (i := 7) (N := some 22) (v := .int .u64 (rdk D a 48)) (a' := ?_) #[true, true, true, true, true, true, true, true, false] rfl rfl (take_of HT_.out (by kernel_rfl)) (fun _ _ _ h => h) (Or.inl ⟨by rfl, ?_⟩) hHeld ?_ ?_
  · rintro w' ⟨s0, s1, s2, s3⟩
    obtain ⟨c, hrun, hat, _⟩ := s3.lookup_int lawK Try.underlying124 Try.underlying22 (zeroU _) (keyAt (a) (48) (ha) (by decide))
    rw [rdk_of hat] at hrun
    go_simp
    first | done | (rw [hrun])
  rotate_left
  · simp only [Act.put, List.setIfInBounds_toArray, List.set_cons_zero, List.set_cons_succ, i64_w, i32_w]
    rfl
  refine pure_ (i := 8) (N := some 5) (v := ?_) (a' := ?_) #[true, true, true, true, true, true, true, true, true] rfl rfl (any_of HT_.out (by kernel_rfl)) (fun _ _ _ h => h) (Or.inl ⟨by rfl, ?_⟩) ?_ ?_
  rotate_left
  · intro w'
    go_simp
    with_reducible rfl
  rotate_left
  · simp only [Act.put, List.setIfInBounds_toArray, List.set_cons_zero, List.set_cons_succ, i64_w, i32_w]
    rfl
  refine done_ (done_of HT_.out (by kernel_rfl)) ?_
  have HC := Aside0.mk (grown_two GH3.out (grown_drew w1 none))
  generalize w1.drew = w2 at HC ⊢
  go_wp2_with (first | (go_at_call 100; first | (refine (field_Get.calls _ _ _ _ _ HG1.out).mono ?_; rintro e w3 ⟨rfl, hd⟩; have HC3 := Aside0.mk (grown_two HC.out (drawn_grown hd)); clear HG1 HC hd) | (refine (field_Get.calls _ _ _ _ _ HG2.out).mono ?_; rintro e w4 ⟨rfl, hd⟩; have HC4 := Aside0.mk (grown_two HC3.out (drawn_grown hd)); clear HC3 hd)) | (go_at_call 99; refine (field_Put.calls _ _ _ _ _ _ HG3.out).mono ?_; rintro e w5 ⟨rfl, hd⟩; have HC5 := Aside0.mk (grown_two HC4.out (drawn_grown hd)); clear hd) | go_in)
  go_ret
  exact ⟨rfl, HC5.out⟩
theorem grown_row (W : World) (g : Nat) (cs : Array Value) : W.grownBy (W.setRow g cs) (some g) := by
  refine ⟨rfl, rfl, rfl, ?_, fun k hk hn => ?_⟩
  · simp [World.setRow]
  · exact setRow_other W g k cs (fun e => hn (by rw [e]))
theorem grown_new {W w1 w2 : World} {g : Nat} (h : W.grownBy w1 none) (k : w1.grownBy w2 (some g)) (hg : W.heap.size ≤ g) : W.grownBy w2 none := h.andThen k (fun j e => by cases e; exact .inl hg)
theorem Regs.wfk {B w0 p mb n D W} (h : Regs B w0 p mb n D W) (a q : Int) (ha : (Lit.int .i64 a).wf = true) (hq : (Lit.int .u64 q).wf = true) : (Lit.int .u64 (rdk D a q)).wf = true := by
  obtain ⟨c, _, hat, hwc⟩ := h.own.lookup_int lawK Try.underlying124 Try.underlying22 (zeroU _) (keyAt a q ha hq)
  rw [← rdk_of hat]; exact hwc
/-- Which registers there are. -/
def keysL : List S113 := [⟨80, 0⟩, ⟨80, 24⟩, ⟨80, 40⟩, ⟨80, 48⟩, ⟨88, 0⟩, ⟨88, 8⟩, ⟨88, 16⟩, ⟨88, 24⟩, ⟨88, 32⟩, ⟨88, 40⟩, ⟨88, 48⟩]
def thereOf (a q : Int) : Bool := keysL.any fun x => x.f0 == a && x.f1 == q
theorem there_l (xs : List S113) (hx : xs.length ≤ 100) (a q : Int) (d : Nat) : ∀ (i k : Nat), i + d = xs.length → d < k → regs_there.l0 k xs (xs.length : Int) (i : Int) a q = some ((xs.drop i).any fun x => x.f0 == a && x.f1 == q) := by
  induction d with
  | zero =>
    intro i k hi hk
    obtain ⟨k, rfl⟩ : ∃ m, k = m + 1 := ⟨k - 1, by omega⟩
    simp only [regs_there.l0]
    rw [if_neg (by omega), List.drop_eq_nil_of_le (by omega)]
    rfl
  | succ d ih =>
    intro i k hi hk
    obtain ⟨k, rfl⟩ : ∃ m, k = m + 1 := ⟨k - 1, by omega⟩
    simp only [regs_there.l0]
    rw [if_pos (by omega), if_pos (by omega), if_pos (by omega)]
    have hlt : i < xs.length := by omega
    have e : rd_T113 xs (i : Int) = xs[i] := by
      unfold rd_T113
      simp [List.getD, hlt]
    have e2 : wrap64 ((i : Int) + 1) = ((i + 1 : Nat) : Int) := by unfold wrap64; omega
    rw [e, e2, List.drop_eq_getElem_cons hlt, List.any_cons, ih (i + 1) k (by omega) (by omega)]
    cases h : (xs[i].f0 == a && xs[i].f1 == q)
    · rw [if_neg (by decide)]; rfl
    · rw [if_pos rfl]; rfl
theorem there_f (a q : Int) : regs_there.f 20 a q = some (thereOf a q) := by
  unfold regs_there.f regs_keys.f
  rw [Option.bind_some]
  exact there_l keysL (by decide) a q 11 0 20 rfl (by omega)
def getOf (D : DataW Unit) (a q : Int) : Int := if q = 0 then tgt (rdk D a 48) else rdk D a q
theorem get_calls {B w0 p mb n D W} (h : Regs B w0 p mb n D W) (a q : Int) (ha : (Lit.int .i64 a).wf = true) (hq : (Lit.int .u64 q).wf = true) :
    Calls Try.prog 78 #[.pointer (some ⟨p, 0, none⟩), .agg #[.int .i64 a, .int .u64 q]] W fun e W' => e = .returned (.int .u64 (getOf D a q)) ∧ W.grownBy W' none := by
  unfold getOf
  by_cases h0 : q = 0
  · subst h0
    rw [if_pos rfl]
    exact get_target h a ha (h.wfk a 48 ha (by decide))
  · rw [if_neg h0]
    exact get_plain h a q ha hq (bne_iff_ne.mpr h0)
theorem read_ok {B w0 p mb n D W} (h : Regs B w0 p mb n D W) (a q : Int) (ha : (Lit.int .i64 a).wf = true) (hq : (Lit.int .u64 q).wf = true) (ht : thereOf a q = true) :
    Calls Try.prog 42 #[.pointer (some ⟨p, 0, none⟩), .int .i64 a, .int .u64 q] W fun e W' => e = .returned (.tuple #[.int .u64 (getOf D a q), .int .i64 0]) ∧ W.grownBy W' none := by
  have c0 := h.cell
  have HM := Aside0.mk h
  have HT := Aside0.mk ((there_f a q).trans (congrArg some ht))
  clear h ht
  have hu := Try.underlying113
  go_enter Try.func42, Try.ntmps42
  go_wp2_with (first | ((with_reducible refine gate_dst (N := 8) rfl ?_); refine box_event ?hg (N := 8) ?hd (cs := #[.int .i64 0, .int .u64 0]) (t := 113) ?hr ?_; (case hd => rfl); (case hg => rfl); (case hr => first | (go_simp; done) | (go_simp; rfl)); intro gk hgb w1 hbox hb; have HK := Aside0.mk hbox; have GHK := Aside0.mk (below_grown hb); have LHK := Aside0.mk (Nat.le_of_eq hgb.symm); clear hgb hbox hb) | ((with_reducible refine gate_store (t := 113) (p := 8) rfl ?_); refine wpList_store_row rfl 113 (.tmp 8) (.tmp 11) rfl gk #[.int .i64 a, .int .u64 q] rfl rfl 113 _ HK.out (by kernel_rfl) rfl (by kernel_rfl) ?_; have SHK := Aside0.mk (setRow_heap _ gk _ #[.int .i64 a, .int .u64 q] _ _ HK.out); have THK := Aside0.mk (grown_row w1 gk #[.int .i64 a, .int .u64 q]); have HKN := Aside0.mk (show gk ≠ mb ∧ gk ≠ p ∧ B ≤ gk from ⟨Nat.ne_of_gt (Nat.lt_of_lt_of_le HM.out.own.lt LHK.out), Nat.ne_of_gt (Nat.lt_of_lt_of_le HM.out.lt LHK.out), Nat.le_trans HM.out.hB LHK.out⟩); have HMk := Aside0.mk ((HM.out.same GHK.out).kept THK.out (fun e => HKN.out.1 (Option.some.inj e).symm) (fun e => HKN.out.2.1 (Option.some.inj e).symm) (fun j e => by cases e; exact HKN.out.2.2)); have HGK := Aside0.mk (grown_new GHK.out THK.out LHK.out); obtain ⟨k0, k1⟩ := cz2 SHK.out; clear HM HK GHK THK) | (go_at_call 77; refine (regs_there.calls 20 a q _ _ HT.out).mono ?_; rintro e w2 ⟨rfl, hb⟩; have HKt := Aside0.mk (blk_below SHK.out hb); have HMt := Aside0.mk (HMk.out.same (below_grown hb)); have HGt := Aside0.mk (grown_two HGK.out (below_grown hb)); obtain ⟨k0', k1'⟩ := cz2 HKt.out; clear hb HMk HGK SHK) | (go_at_call 78; refine (get_calls HMt.out a q ha hq).mono ?_; rintro e w3 ⟨rfl, hg⟩; have HGe := Aside0.mk (grown_two HGt.out hg); clear hg) | go_in)
  go_ret2
  exact ⟨rfl, HGe.out⟩
theorem read_none {B w0 p mb n D W} (h : Regs B w0 p mb n D W) (a q : Int) (ha : (Lit.int .i64 a).wf = true) (hq : (Lit.int .u64 q).wf = true) (ht : thereOf a q = false) :
    Calls Try.prog 42 #[.pointer (some ⟨p, 0, none⟩), .int .i64 a, .int .u64 q] W fun e W' => e = .returned (.tuple #[.int .u64 0, .int .i64 10]) ∧ W.grownBy W' none := by
  have c0 := h.cell
  have HM := Aside0.mk h
  have HT := Aside0.mk ((there_f a q).trans (congrArg some ht))
  clear h ht
  have hu := Try.underlying113
  go_enter Try.func42, Try.ntmps42
  go_wp2_with (first | ((with_reducible refine gate_dst (N := 8) rfl ?_); refine box_event ?hg (N := 8) ?hd (cs := #[.int .i64 0, .int .u64 0]) (t := 113) ?hr ?_; (case hd => rfl); (case hg => rfl); (case hr => first | (go_simp; done) | (go_simp; rfl)); intro gk hgb w1 hbox hb; have HK := Aside0.mk hbox; have GHK := Aside0.mk (below_grown hb); have LHK := Aside0.mk (Nat.le_of_eq hgb.symm); clear hgb hbox hb) | ((with_reducible refine gate_store (t := 113) (p := 8) rfl ?_); refine wpList_store_row rfl 113 (.tmp 8) (.tmp 11) rfl gk #[.int .i64 a, .int .u64 q] rfl rfl 113 _ HK.out (by kernel_rfl) rfl (by kernel_rfl) ?_; have SHK := Aside0.mk (setRow_heap _ gk _ #[.int .i64 a, .int .u64 q] _ _ HK.out); have THK := Aside0.mk (grown_row w1 gk #[.int .i64 a, .int .u64 q]); have HKN := Aside0.mk (show gk ≠ mb ∧ gk ≠ p ∧ B ≤ gk from ⟨Nat.ne_of_gt (Nat.lt_of_lt_of_le HM.out.own.lt LHK.out), Nat.ne_of_gt (Nat.lt_of_lt_of_le HM.out.lt LHK.out), Nat.le_trans HM.out.hB LHK.out⟩); have HMk := Aside0.mk ((HM.out.same GHK.out).kept THK.out (fun e => HKN.out.1 (Option.some.inj e).symm) (fun e => HKN.out.2.1 (Option.some.inj e).symm) (fun j e => by cases e; exact HKN.out.2.2)); have HGK := Aside0.mk (grown_new GHK.out THK.out LHK.out); obtain ⟨k0, k1⟩ := cz2 SHK.out; clear HM HK GHK THK) | (go_at_call 77; refine (regs_there.calls 20 a q _ _ HT.out).mono ?_; rintro e w2 ⟨rfl, hb⟩; have HKt := Aside0.mk (blk_below SHK.out hb); have HMt := Aside0.mk (HMk.out.same (below_grown hb)); have HGt := Aside0.mk (grown_two HGK.out (below_grown hb)); obtain ⟨k0', k1'⟩ := cz2 HKt.out; clear hb HMk HGK SHK) | go_in)
  go_ret2
  exact ⟨rfl, HGt.out⟩
end
end Go.Proofs.Ythclbckkfgmbaaa.QRegsPlays
