/- RegsOwn, walked: a Write changes its own register, and what hangs on it, alone. -/
import Derived.Test.YtdfejnakhpgekaaRegsDeeds
namespace Go.Proofs.Ytdfejnakhpgekaa.QRegsPlays
open Go.RowKit Go.Maps Go.Proofs.YtdfejnakhpgekaaW.PrintWords Go.Proofs.YtdfejnakhpgekaaW.PrintLast Go.Proofs.YtdfejnakhpgekaaW.PrintMore
set_option linter.unusedSimpArgs false
set_option linter.unusedVariables false
section
set_option maxHeartbeats 1000000
set_option maxRecDepth 100000
theorem same_l (xs : List Int) (hx : xs.length ≤ 1000) (d : Nat) : ∀ (i k : Nat), i + d = xs.length → d < k → lookasideref07_Same.l0 k xs xs (i : Int) = some true := by
  induction d with
  | zero =>
    intro i k hi hk
    obtain ⟨k, rfl⟩ : ∃ m, k = m + 1 := ⟨k - 1, by omega⟩
    simp only [lookasideref07_Same.l0]
    rw [if_neg (by omega)]
  | succ d ih =>
    intro i k hi hk
    obtain ⟨k, rfl⟩ : ∃ m, k = m + 1 := ⟨k - 1, by omega⟩
    simp only [lookasideref07_Same.l0]
    have e2 : wrap64 ((i : Int) + 1) = ((i + 1 : Nat) : Int) := by unfold wrap64; omega
    rw [if_pos (by omega), if_pos (by omega), if_pos (by omega), if_pos True.intro, e2, ih (i + 1) k (by omega) (by omega)]
theorem same_f (xs : List Int) (hx : xs.length = 11) : lookasideref07_Same.f 20 xs xs = some true := by
  unfold lookasideref07_Same.f
  rw [if_pos rfl]
  exact same_l xs (by omega) 11 0 20 (by omega) (by omega)
theorem grown_drewN (W : World) (k : Nat) : W.grownBy (W.drewN k) none := ⟨rfl, rfl, rfl, Nat.le_refl _, fun _ _ _ => rfl⟩
theorem R_mb {B w0 p mb n D W W'} (h : Regs B w0 p mb n D W) {base : Nat} {ok : Nat → Prop} {v : Value} {xs : List Int} (hr : (Kd.int .u64).R 22 W base ok v xs) (hg : W.grownBy W' (some mb)) : (Kd.int .u64).R 22 W' base ok v xs := by
  obtain ⟨es, c, hb, _⟩ := h.own
  exact Kd.R_grown2 hr rfl hg (fun k e => by cases e; exact R_far_map hr hb)
def WriteAs (B : Nat) (w0 : World) (p mb : Nat) (a q v x : Int) : Prop := ∀ (n : Nat) (D : DataW Unit) (W : World), Regs B w0 p mb n D W → n < 900000 → Calls Try.prog 16 #[.pointer (some ⟨p, 0, none⟩), .int .i64 a, .int .u64 q, .int .u64 v] W fun e W' => e = .returned (.int .i64 0) ∧ Regs B w0 p mb (n + 1) (pk D a q x) W' ∧ W.grownBy W' (some mb)
def WriteNot (B : Nat) (w0 : World) (p mb : Nat) (a q v e : Int) : Prop := ∀ (n : Nat) (D : DataW Unit) (W : World), Regs B w0 p mb n D W → Calls Try.prog 16 #[.pointer (some ⟨p, 0, none⟩), .int .i64 a, .int .u64 q, .int .u64 v] W fun e' W' => e' = .returned (.int .i64 e) ∧ W.grownBy W' none
theorem own_cases (B : Nat) (w0 : World) (p mb : Nat) {a q v : Int} (ha : (Lit.int .i64 a).wf = true) (hq : (Lit.int .u64 q).wf = true) (hv : (Lit.int .u64 v).wf = true) :
    (∃ x, thereOf a q = true ∧ q ≠ 0 ∧ WriteAs B w0 p mb a q v x ∧ WriteAs B w0 p mb a q x x) ∨ ∃ e, e ≠ 0 ∧ WriteNot B w0 p mb a q v e := by
  cases ht : thereOf a q with
  | false => exact .inr ⟨10, by decide, fun n D W h => write_none h a q ha hq v ht⟩
  | true =>
    rcases there_cases ht with ⟨rfl, rfl | rfl | rfl | rfl⟩ | ⟨rfl, rfl | rfl | rfl | rfl | rfl | rfl | rfl⟩
    · exact .inr ⟨11, by decide, fun n D W h => write_state h 80 0 ha hq v ht 0 rfl rfl⟩
    · refine .inl ⟨v % 16384 + v / 65536 % 256 * 65536, rfl, by decide, fun n D W h hn => ?_, fun n D W h hn => ?_⟩
      · have := write_put h 80 24 ha hq v ht 16728063 rfl rfl (by omega)
        rw [(want24 hv).1] at this
        exact this
      · have := write_put h 80 24 ha hq (v % 16384 + v / 65536 % 256 * 65536) ht 16728063 rfl rfl (by omega)
        rw [(want24 hv).2] at this
        exact this
    · refine .inl ⟨v / 4096 * 4096 + v % 8, rfl, by decide, fun n D W h hn => ?_, fun n D W h hn => ?_⟩
      · have := write_put h 80 40 ha hq v ht 18446744073709547527 rfl rfl (by omega)
        rw [(want40 hv).1] at this
        exact this
      · have := write_put h 80 40 ha hq (v / 4096 * 4096 + v % 8) ht 18446744073709547527 rfl rfl (by omega)
        rw [(want40 hv).2] at this
        exact this
    · refine .inl ⟨v, rfl, by decide, fun n D W h hn => ?_, fun n D W h hn => ?_⟩
      · have := write_put h 80 48 ha hq v ht 18446744073709551615 rfl rfl (by omega)
        rw [(want48 hv).1] at this
        exact this
      · have := write_put h 80 48 ha hq (v) ht 18446744073709551615 rfl rfl (by omega)
        rw [(want48 hv).2] at this
        exact this
    · exact .inr ⟨11, by decide, fun n D W h => write_state h 88 0 ha hq v ht 0 rfl rfl⟩
    · refine .inl ⟨v % 8192, rfl, by decide, fun n D W h hn => ?_, fun n D W h hn => ?_⟩
      · have := write_put h 88 8 ha hq v ht 8191 rfl rfl (by omega)
        rw [(want8 hv).1] at this
        exact this
      · have := write_put h 88 8 ha hq (v % 8192) ht 8191 rfl rfl (by omega)
        rw [(want8 hv).2] at this
        exact this
    · refine .inl ⟨v % 8192, rfl, by decide, fun n D W h hn => ?_, fun n D W h hn => ?_⟩
      · have := write_put h 88 16 ha hq v ht 8191 rfl rfl (by omega)
        rw [(want8 hv).1] at this
        exact this
      · have := write_put h 88 16 ha hq (v % 8192) ht 8191 rfl rfl (by omega)
        rw [(want8 hv).2] at this
        exact this
    · refine .inl ⟨v % 16384 + v / 65536 % 256 * 65536, rfl, by decide, fun n D W h hn => ?_, fun n D W h hn => ?_⟩
      · have := write_put h 88 24 ha hq v ht 16728063 rfl rfl (by omega)
        rw [(want24 hv).1] at this
        exact this
      · have := write_put h 88 24 ha hq (v % 16384 + v / 65536 % 256 * 65536) ht 16728063 rfl rfl (by omega)
        rw [(want24 hv).2] at this
        exact this
    · exact .inr ⟨11, by decide, fun n D W h => write_state h 88 32 ha hq v ht 0 rfl rfl⟩
    · refine .inl ⟨v / 4096 * 4096 + v % 8, rfl, by decide, fun n D W h hn => ?_, fun n D W h hn => ?_⟩
      · have := write_put h 88 40 ha hq v ht 18446744073709547527 rfl rfl (by omega)
        rw [(want40 hv).1] at this
        exact this
      · have := write_put h 88 40 ha hq (v / 4096 * 4096 + v % 8) ht 18446744073709547527 rfl rfl (by omega)
        rw [(want40 hv).2] at this
        exact this
    · refine .inl ⟨v, rfl, by decide, fun n D W h hn => ?_, fun n D W h hn => ?_⟩
      · have := write_put h 88 48 ha hq v ht 18446744073709551615 rfl rfl (by omega)
        rw [(want48 hv).1] at this
        exact this
      · have := write_put h 88 48 ha hq (v) ht 18446744073709551615 rfl rfl (by omega)
        rw [(want48 hv).2] at this
        exact this
theorem get_other {D : DataW Unit} {a q a' q' : Int} (x : Int) (ha : (Lit.int .i64 a).wf = true) (hq : (Lit.int .u64 q).wf = true) (ha' : (Lit.int .i64 a').wf = true) (hq' : (Lit.int .u64 q').wf = true) (hn : ¬ (a' = a ∧ (q' = q ∨ (q' = 0 ∧ q = 48)))) : getOf (pk D a q x) a' q' = getOf D a' q' := by
  unfold getOf
  by_cases h : q' = 0
  · rw [if_pos h, if_pos h, rdk_other (key_ne (fun e => hn ⟨e.1, .inr ⟨h, e.2.symm⟩⟩) ha' (by decide) ha hq)]
  · rw [if_neg h, if_neg h, rdk_other (key_ne (fun e => hn ⟨e.1, .inl e.2⟩) ha' hq' ha hq)]
theorem rd_all (D : DataW Unit) (i : Nat) (h : i < 11) : rd (allOf D) (i : Int) = getOf D (rd_T102 keysL i).f0 (rd_T102 keysL i).f1 := by
  match i, h with
  | 0, _ | 1, _ | 2, _ | 3, _ | 4, _ | 5, _ | 6, _ | 7, _ | 8, _ | 9, _ | 10, _ => rfl
def hangs (a q : Int) (i : Nat) : Bool := (rd_T102 keysL i).f0 == a && ((rd_T102 keysL i).f1 == q || ((rd_T102 keysL i).f1 == 0 && q == 48))
def bdOf (a q : Int) : Nat → Nat
  | 0 => 0
  | i + 1 => bdOf a q i + if hangs a q i = true then 1 else 0
structure OwnB (L1 L2 : List Int) (most : Nat) (bd : Nat → Nat) : Prop where
  z : bd 0 = 0
  step : ∀ i : Nat, i < 11 → rd L1 (i : Int) ≠ rd L2 (i : Int) → bd i + 1 ≤ bd (i + 1)
  mono : ∀ i : Nat, i < 11 → bd i ≤ bd (i + 1)
  top : bd 11 ≤ most
theorem own_bd (D : DataW Unit) {a q : Int} (x : Int) (ha : (Lit.int .i64 a).wf = true) (hq : (Lit.int .u64 q).wf = true) (ht : thereOf a q = true) (hq0 : q ≠ 0) (most : Nat) (hm : (if q = 48 then 2 else 1) = most) : OwnB (allOf D) (allOf (pk D a q x)) most (bdOf a q) := by
  refine ⟨rfl, fun i hi hne => ?_, fun i hi => Nat.le_add_right _ _, ?_⟩
  · show bdOf a q i + 1 ≤ bdOf a q i + _
    cases hh : hangs a q i with
    | true => rw [if_pos rfl]; exact Nat.le_refl _
    | false =>
      exfalso
      apply hne
      rw [rd_all D i hi, rd_all _ i hi]
      obtain ⟨k0, k1⟩ := key_wf i hi
      refine (get_other x ha hq k0 k1 (fun e => ?_)).symm
      have : hangs a q i = true := by
        unfold hangs
        rw [Bool.and_eq_true, Bool.or_eq_true, Bool.and_eq_true, beq_iff_eq, beq_iff_eq, beq_iff_eq, beq_iff_eq]
        exact e
      rw [this] at hh
      cases hh
  · subst hm
    rcases there_cases ht with ⟨rfl, rfl | rfl | rfl | rfl⟩ | ⟨rfl, rfl | rfl | rfl | rfl | rfl | rfl | rfl⟩ <;> first | exact absurd rfl hq0 | decide
theorem own_eq (L : List Int) (most : Nat) : OwnB L L most (fun _ => 0) := ⟨rfl, fun i _ h => absurd rfl h, fun _ _ => Nat.le_refl _, Nat.zero_le _⟩
theorem all_twice {D : DataW Unit} (h : IsMap D) {a q : Int} (x : Int) (ha : (Lit.int .i64 a).wf = true) (hq : (Lit.int .u64 q).wf = true) : allOf (pk (pk D a q x) a q x) = allOf (pk D a q x) := by
  have e : ∀ a' q' : Int, (Lit.int .i64 a').wf = true → (Lit.int .u64 q').wf = true → rdk (pk (pk D a q x) a q x) a' q' = rdk (pk D a q x) a' q' := fun a' q' ha' hq' => by
    by_cases c : a' = a ∧ q' = q
    · obtain ⟨rfl, rfl⟩ := c
      rw [rdk_same (pk_isMap h _ _ _), rdk_same h]
    · rw [rdk_other (key_ne c ha' hq' ha hq)]
  unfold allOf keysL
  simp only [List.map_cons, List.map_nil, getOf]
  rw [e 80 0 (by decide) (by decide), e 88 0 (by decide) (by decide), e 80 48 (by decide) (by decide), e 88 48 (by decide) (by decide), e 80 24 (by decide) (by decide), e 80 40 (by decide) (by decide), e 88 8 (by decide) (by decide), e 88 16 (by decide) (by decide), e 88 24 (by decide) (by decide), e 88 32 (by decide) (by decide), e 88 40 (by decide) (by decide)]
theorem get_own {D : DataW Unit} (h : IsMap D) {a q : Int} (x : Int) (hq0 : q ≠ 0) : getOf (pk D a q x) a q = x := by
  unfold getOf
  rw [if_neg hq0, rdk_same h]
end
end Go.Proofs.Ytdfejnakhpgekaa.QRegsPlays
