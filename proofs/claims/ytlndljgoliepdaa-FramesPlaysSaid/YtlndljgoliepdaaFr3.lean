/- Give: frames given back; whatever numbers. -/
import Derived.Test.YtlndljgoliepdaaFr2
namespace Go.Proofs.Ytlndljgoliepdaa.QFramesPlays
open Go.RowKit Go.Proofs.YtlndljgoliepdaaW.PrintWords Go.Proofs.YtlndljgoliepdaaW.PrintLast Go.Proofs.YtlndljgoliepdaaW.PrintMore
set_option linter.unusedSimpArgs false
set_option linter.unusedVariables false
section
set_option maxHeartbeats 1000000
set_option maxRecDepth 100000
theorem FrK.of_grown {W W' : World} {p r : Nat} (h : W.grownBy W' none) : FrK W p r W' := ⟨h.os, h.tape, h.output, h.size, fun k hk _ _ => h.block k hk (by simp)⟩
theorem FrK.trans {W W1 W2 : World} {p r : Nat} (h : FrK W p r W1) (k : FrK W1 p r W2) : FrK W p r W2 := ⟨k.os.trans h.os, k.tape.trans h.tape, k.output.trans h.output, Nat.le_trans h.size k.size, fun i hi h1 h2 => (k.block i (Nat.lt_of_lt_of_le hi h.size) h1 h2).trans (h.block i hi h1 h2)⟩
def inOf (ts : List Bool) (a n : Int) : Bool := decide (0 ≤ a ∧ a < ts.length ∧ n ≤ ts.length - a)
theorem in_f {ts : List Bool} (hl : ts.length ≤ 65536) (free a n : Int) : frames_Frames_in.f ts free a n = some (inOf ts a n, free) := by
  unfold frames_Frames_in.f inOf
  by_cases h1 : 0 ≤ a
  · rw [if_pos h1]
    by_cases h2 : a < (ts.length : Int)
    · rw [if_pos h2, show wrap64 ((ts.length : Int) - a) = ts.length - a by unfold wrap64; omega]
      simp [h1, h2]
    · rw [if_neg h2]
      simp [h2]
  · rw [if_neg h1]
    simp [h1]
theorem fr_in_eq {B w0 p r ts free W} (h : Fr B w0 p r ts free W) (a n : Int) (b : Bool) (hb : inOf ts a n = b) : Calls Try.prog 55 #[.pointer (some ⟨p, 0, none⟩), .int .i64 a, .int .i64 n] W fun e W' => e = .returned (.bool b) ∧ Fr B w0 p r ts free W' ∧ W.grownBy W' none := by
  subst hb
  exact (frames_Frames_in.calls p ts free a n _ _ (trunc W p) W h.isS (trunc_below h.lt) (in_f h.len free a n)).mono fun e W' z => ⟨z.1, h.same (h.after0 z.2.1 z.2.2.1 z.2.2.2), h.after0 z.2.1 z.2.2.1 z.2.2.2⟩
def AllIn (ts : List Bool) (a n : Nat) : Prop := ∀ i, i < n → ts.getD (a + i) false = true
theorem fr_give_arg {B w0 p r ts free W} (h : Fr B w0 p r ts free W) (a n : Int) (hn : n < 1) :
    Calls Try.prog 38 #[.pointer (some ⟨p, 0, none⟩), .int .i64 a, .int .i64 n] W fun e W' => e = .returned (.int .i64 1) ∧ Fr B w0 p r ts free W' ∧ FrK W p r W' := by
  have HM := Aside0.mk h
  clear h
  go_enter Try.func38, Try.ntmps38
  go_wp2
  go_ret
  exact ⟨rfl, HM.out, FrK.refl _ _ _⟩
theorem fr_give_range {B w0 p r ts free W} (h : Fr B w0 p r ts free W) (a n : Int) (hn : 1 ≤ n) (hi : inOf ts a n = false) :
    Calls Try.prog 38 #[.pointer (some ⟨p, 0, none⟩), .int .i64 a, .int .i64 n] W fun e W' => e = .returned (.int .i64 5) ∧ Fr B w0 p r ts free W' ∧ FrK W p r W' := by
  have HM := Aside0.mk h
  have HI := Aside0.mk hi
  clear h hi
  go_enter Try.func38, Try.ntmps38
  go_wp2_with (first | (go_at_call 55; refine (fr_in_eq HM.out _ _ _ HI.out).mono ?_; rintro e w1 ⟨rfl, hM, hg⟩; have HM1 := Aside0.mk hM; have HK1 := Aside0.mk (FrK.of_grown (p := p) (r := r) hg); clear hM hg HM) | go_in)
  go_ret
  exact ⟨rfl, HM1.out, HK1.out⟩
theorem fr_give_in {B w0 p r ts free W} (h : Fr B w0 p r ts free W) (a n : Nat) (hn : 1 ≤ n) (han : a + n ≤ ts.length) (hf0 : 0 ≤ free) (hf1 : free ≤ 65536) :
    Calls Try.prog 38 #[.pointer (some ⟨p, 0, none⟩), .int .i64 a, .int .i64 n] W fun e W' => ∃ c, e = .returned (.int .i64 c) ∧ (AllIn ts a n → c = 0 ∧ Fr B w0 p r (setN ts a false n) (free + n) W') ∧ (¬ AllIn ts a n → c = 11 ∧ Fr B w0 p r ts free W') ∧ FrK W p r W' := by
  have HM := Aside0.mk h
  have hl := h.len
  have HI := Aside0.mk (show inOf ts a n = true by unfold inOf; exact decide_eq_true ⟨by omega, by omega, by omega⟩)
  have hn' : (1 : Int) ≤ (n : Int) := by omega
  clear h
  go_enter Try.func38, Try.ntmps38
  go_wp2_with (first | (go_at_call 55; refine (fr_in_eq HM.out _ _ _ HI.out).mono ?_; rintro e w1 ⟨rfl, hM, hg⟩; have HM1 := Aside0.mk hM; have HK1 := Aside0.mk (FrK.of_grown (p := p) (r := r) hg); clear hM hg HM) | go_in)
  go_loopw [18] (fun v18 wr => ∃ (k : Nat), v18 = .int .i64 k ∧ k ≤ n ∧ Aside0 (AllIn ts a k) ∧ Aside0 (Fr B w0 p r ts free wr) ∧ Aside0 (FrK W p r wr)) (fun v18 _ => n - (intOf v18).toNat)
  case atStart => exact ⟨0, rfl, by omega, ⟨fun i hi => by omega⟩, HM1, HK1⟩
  case round =>
    clear HM1 HK1
    obtain ⟨k, rfl, hk, HA, HM, HK⟩ := hrel
    obtain ⟨c0, c1, f1⟩ := HM.out.cells
    by_cases h1 : k < n
    · have h1' : (k : Int) < (n : Int) := by omega
      have p1 : (0 : Int) ≤ (a : Int) + (k : Int) := by omega
      have q1 : (a : Int) + (k : Int) < (ts.length : Int) := by omega
      have hw : wrap64 ((a : Int) + (k : Int)) = ((a + k : Nat) : Int) := by unfold wrap64; omega
      have p2 : (0 : Int) ≤ ((a + k : Nat) : Int) := by omega
      have q2 : ((a + k : Nat) : Int) < (ts.length : Int) := by omega
      obtain ⟨b0, f0⟩ := HM.out.bit (a + k) (by omega)
      cases hb : ts.getD (a + k) false with
      | true =>
        rw [hb] at b0
        have HA2 := Aside0.mk (show AllIn ts a (k + 1) from fun i hi => by
          by_cases e : i = k
          · subst e; exact hb
          · exact HA.out i (by omega))
        clear hb
        go_wp2
        go_roundw
        case rel => exact ⟨k + 1, by go_num, by omega, HA2, HM, HK⟩
        case measure => simp [intOf]; omega
      | false =>
        rw [hb] at b0
        have HN := Aside0.mk (show ¬ AllIn ts a n from fun x => by have := x k h1; rw [hb] at this; cases this)
        clear hb
        go_wp2
        go_ret
        exact ⟨11, rfl, fun x => absurd x HN.out, fun _ => ⟨rfl, HM.out⟩, HK.out⟩
    · obtain rfl : k = n := by omega
      go_wp2_with (first | (go_at_call 57; refine (fr_turn HM.out a k false (by omega) hf0 hf1).mono ?_; rintro e w2 ⟨rfl, hM, hg⟩; have HM2 := Aside0.mk hM; have HK2 := Aside0.mk (HK.out.trans hg); clear hM hg HM HK) | go_in)
      go_ret
      exact ⟨0, rfl, fun _ => ⟨rfl, HM2.out⟩, fun x => absurd HA.out x, HK2.out⟩
end
end Go.Proofs.Ytlndljgoliepdaa.QFramesPlays
