/- place, Give, and what follows of a taking, at whatever numbers. -/
import Derived.Test.YtlndljgoliepdaaFrPure2
namespace Go.Proofs.Ytlndljgoliepdaa.QFramesPlays
open Go.RowKit Go.Proofs.YtlndljgoliepdaaW.PrintWords Go.Proofs.YtlndljgoliepdaaW.PrintLast Go.Proofs.YtlndljgoliepdaaW.PrintMore
set_option linter.unusedSimpArgs false
set_option linter.unusedVariables false
section
set_option maxHeartbeats 1000000
set_option maxRecDepth 100000
theorem i64_b {a : Int} (h : (Lit.int .i64 a).wf = true) : -9223372036854775808 ≤ a ∧ a ≤ 9223372036854775807 := by
  simp [Lit.wf, IntKind.min, IntKind.max, IntKind.signed, IntKind.bits] at h
  omega
/-- modulo, from 0 on. -/
def pl (a m : Int) : Int := (if a < 0 then -(a + 1) else a) % m
theorem pl_lt (a m : Int) (hm : 1 ≤ m) : 0 ≤ pl a m ∧ pl a m < m := ⟨Int.emod_nonneg _ (by omega), Int.emod_lt_of_pos _ (by omega)⟩
theorem place_f (a m : Int) (ha : (Lit.int .i64 a).wf = true) (hm : 1 ≤ m) : lookasidelaw05_place.f a m = some (pl a m) := by
  have h := i64_b ha
  unfold lookasidelaw05_place.f pl
  by_cases h0 : a < 0
  · rw [if_pos h0, if_neg (by omega), if_pos h0, show wrap64 (a + 1) = a + 1 by unfold wrap64; omega, show wrap64 (-(a + 1)) = -(a + 1) by unfold wrap64; omega, Int.tmod_eq_emod_of_nonneg (by omega)]
  · rw [if_neg h0, if_neg (by omega), if_neg h0, Int.tmod_eq_emod_of_nonneg (by omega)]
theorem place_any (a m : Int) (ha : (Lit.int .i64 a).wf = true) (hm : 1 ≤ m) (W : World) : Calls Try.prog 36 #[.int .i64 a, .int .i64 m] W fun e W' => ∃ r : Nat, e = .returned (.int .i64 r) ∧ (r : Int) = pl a m ∧ (r : Int) < m ∧ W.grownBy W' none := by
  have hp := pl_lt a m hm
  refine (lookasidelaw05_place.calls a m (pl a m) W (place_f a m ha hm)).mono fun e W' ⟨he, hd⟩ => ⟨(pl a m).toNat, ?_, by omega, by omega, drawn_grown hd⟩
  rw [he, Int.toNat_of_nonneg hp.1]
theorem place_eq (a m : Int) (ha : (Lit.int .i64 a).wf = true) (hm : 1 ≤ m) (W : World) (r : Nat) (hr : pl a m = r) : Calls Try.prog 36 #[.int .i64 a, .int .i64 m] W fun e W' => e = .returned (.int .i64 r) ∧ W.grownBy W' none :=
  (lookasidelaw05_place.calls a m r W (by rw [place_f a m ha hm, hr])).mono fun e W' ⟨he, hd⟩ => ⟨he, drawn_grown hd⟩
instance (ts : List Bool) (a k : Nat) : Decidable (AllIn ts a k) := by unfold AllIn; exact inferInstance
/-- What Give answers, and which are taken then. -/
def giveOf (ts : List Bool) (a n : Int) : Int × List Bool := if n < 1 then (1, ts) else if inOf ts a n = true then (if AllIn ts a.toNat n.toNat then (0, setN ts a.toNat false n.toNat) else (11, ts)) else (5, ts)
theorem giveOf_len (ts : List Bool) (a n : Int) : (giveOf ts a n).2.length = ts.length := by
  unfold giveOf
  split
  · rfl
  · split
    · split
      · exact setN_len _ _ _ _
      · rfl
    · rfl
theorem fs_give {B w0 p r ts W} (h : Fs B w0 p r ts W) (a n : Int) : Calls Try.prog 38 #[.pointer (some ⟨p, 0, none⟩), .int .i64 a, .int .i64 n] W fun e W' => e = .returned (.int .i64 (giveOf ts a n).1) ∧ Fs B w0 p r (giveOf ts a n).2 W' ∧ FrK W p r W' := by
  have hc := cnt_le ts
  have hl := h.len
  unfold giveOf
  by_cases h1 : n < 1
  · simp only [if_pos h1]
    exact fr_give_arg h a n h1
  · simp only [if_neg h1]
    cases h2 : inOf ts a n with
    | false =>
      simp only [Bool.false_eq_true, if_false]
      exact fr_give_range h a n (by omega) h2
    | true =>
      simp only [if_true]
      have h3 : 0 ≤ a ∧ a < ts.length ∧ n ≤ ts.length - a := of_decide_eq_true h2
      obtain ⟨x, rfl⟩ := Int.eq_ofNat_of_zero_le h3.1
      obtain ⟨k, rfl⟩ := Int.eq_ofNat_of_zero_le (show 0 ≤ n by omega)
      simp only [Int.toNat_natCast]
      refine (fr_give_in h x k (by omega) (by omega) hc.1 (by omega)).mono fun e W' ⟨c, he, h4, h5, hk⟩ => ?_
      by_cases h6 : AllIn ts x k
      · simp only [if_pos h6]
        obtain ⟨rfl, hf⟩ := h4 h6
        refine ⟨he, ?_, hk⟩
        unfold Fs
        rw [cnt_give (by omega) h6]
        exact hf
      · simp only [if_neg h6]
        obtain ⟨rfl, hf⟩ := h5 h6
        exact ⟨he, hf, hk⟩
theorem fs_give_any {B w0 p r ts W} (h : Fs B w0 p r ts W) (a n : Int) : Calls Try.prog 38 #[.pointer (some ⟨p, 0, none⟩), .int .i64 a, .int .i64 n] W fun e W' => ∃ c ts', e = .returned (.int .i64 c) ∧ ts'.length = ts.length ∧ Fs B w0 p r ts' W' ∧ FrK W p r W' :=
  (fs_give h a n).mono fun e W' z => ⟨_, _, z.1, giveOf_len ts a n, z.2⟩
theorem took_any {B w0 W0 p r ts n each e W'} (h : Took B w0 W0 p r ts n each e W') : ∃ v ts', e = .returned v ∧ ts'.length = ts.length ∧ Fs B w0 p r ts' W' ∧ FrK W0 p r W' := by
  obtain ⟨hk, ⟨he, hf, hn⟩ | ⟨y, he, hf, hy⟩⟩ := h
  · exact ⟨_, ts, he, rfl, hf, hk⟩
  · exact ⟨_, _, he, setN_len _ _ _ _, hf, hk⟩
theorem least (q : Nat → Prop) (n : Nat) : q n → ∃ m, q m ∧ ∀ j, j < m → ¬ q j := by
  induction n using Nat.strongRecOn with
  | ind n ih =>
    intro h
    by_cases c : ∃ j, j < n ∧ q j
    · obtain ⟨j, hj, hq⟩ := c
      exact ih j hj hq
    · exact ⟨n, h, fun j hj hq => c ⟨j, hj, hq⟩⟩
theorem first_of {ts : List Bool} {n : Nat} (h : ∃ x, x + n ≤ ts.length ∧ FreeIn ts x n) : ∃ x, First ts n 1 x := by
  obtain ⟨y, hy⟩ := h
  obtain ⟨x, hx, hl⟩ := least (fun x => x + n ≤ ts.length ∧ FreeIn ts x n) y hy
  exact ⟨x, x, by simp, hx.1, hx.2, fun j hj hf => hl j hj ⟨by have := hx.1; omega, by simpa using hf⟩⟩
theorem took_not {B w0 W0 p r ts n each e W'} (h : Took B w0 W0 p r ts n each e W') (hn : ∀ x, ¬ First ts n each x) : e = .returned (.tuple #[.int .i64 0, .int .i64 6]) ∧ Fs B w0 p r ts W' ∧ FrK W0 p r W' := by
  obtain ⟨hk, ⟨he, hf, _⟩ | ⟨y, he, hf, hy⟩⟩ := h
  · exact ⟨he, hf, hk⟩
  · exact absurd hy (hn y)
theorem is_set {ts : List Bool} {x n : Nat} (hl : x + n ≤ ts.length) (i : Nat) (h1 : x ≤ i) (h2 : i < x + n) : isOf (setN ts x true n) (i : Int) = true := by
  unfold isOf
  rw [setN_len, decide_eq_true (by omega : 0 ≤ (i : Int) ∧ (i : Int) < (ts.length : Int)), Int.toNat_natCast, setN_at _ _ _ _ _ hl, if_pos ⟨h1, h2⟩]
  rfl
theorem fs_is_set {B w0 p r ts W x n} (h : Fs B w0 p r (setN ts x true n) W) (hl : x + n ≤ ts.length) (a : Int) (h1 : (x : Int) ≤ a) (h2 : a < x + n) : Calls Try.prog 34 #[.pointer (some ⟨p, 0, none⟩), .int .i64 a] W fun e W' => e = .returned (.bool true) ∧ Fs B w0 p r (setN ts x true n) W' ∧ W.grownBy W' none := by
  obtain ⟨i, rfl⟩ := Int.eq_ofNat_of_zero_le (show 0 ≤ a by omega)
  exact fs_is h _ _ (is_set hl i (by omega) (by omega))
end
end Go.Proofs.Ytlndljgoliepdaa.QFramesPlays
