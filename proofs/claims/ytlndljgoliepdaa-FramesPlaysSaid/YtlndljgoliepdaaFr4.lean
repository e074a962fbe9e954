/- open: how many free frames stand one behind the other from one on; whatever numbers. -/
import Derived.Test.YtlndljgoliepdaaFr3
namespace Go.Proofs.Ytlndljgoliepdaa.QFramesPlays
open Go.RowKit Go.Proofs.YtlndljgoliepdaaW.PrintWords Go.Proofs.YtlndljgoliepdaaW.PrintLast Go.Proofs.YtlndljgoliepdaaW.PrintMore
set_option linter.unusedSimpArgs false
set_option linter.unusedVariables false
section
set_option maxHeartbeats 1000000
set_option maxRecDepth 100000
/-- k free frames from a on. -/
def FreeIn (ts : List Bool) (a k : Nat) : Prop := ∀ i, i < k → a + i < ts.length ∧ ts.getD (a + i) false = false
theorem fr_open {B w0 p r ts free W} (h : Fr B w0 p r ts free W) (a m : Nat) (ha : a ≤ 70000) (hm : m ≤ 70000) :
    Calls Try.prog 71 #[.pointer (some ⟨p, 0, none⟩), .int .i64 a, .int .i64 m] W fun e W' => ∃ k : Nat, e = .returned (.int .i64 k) ∧ k ≤ m ∧ FreeIn ts a k ∧ (k = m ∨ ts.length ≤ a + k ∨ ts.getD (a + k) false = true) ∧ Fr B w0 p r ts free W' ∧ W.grownBy W' none := by
  have hl := h.len
  have HM := Aside0.mk h
  have HK := Aside0.mk (grown_refl W none)
  clear h
  go_enter Try.func71, Try.ntmps71
  go_wp2
  go_loopw [7] (fun v7 wr => ∃ (k : Nat), v7 = .int .i64 k ∧ k ≤ m ∧ Aside0 (FreeIn ts a k) ∧ Aside0 (Fr B w0 p r ts free wr) ∧ Aside0 (W.grownBy wr none)) (fun v7 _ => m - (intOf v7).toNat)
  case atStart => exact ⟨0, rfl, by omega, ⟨fun i hi => by omega⟩, HM, HK⟩
  case round =>
    clear HM HK
    obtain ⟨k, rfl, hk, HA, HM, HK⟩ := hrel
    by_cases h1 : k < m
    · have h1' : (k : Int) < (m : Int) := by omega
      have hw : wrap64 ((a : Int) + (k : Int)) = (a : Int) + (k : Int) := by unfold wrap64; omega
      by_cases h2 : a + k < ts.length
      · have HI := Aside0.mk (show inOf ts ((a : Int) + (k : Int)) 1 = true by unfold inOf; exact decide_eq_true ⟨by omega, by omega, by omega⟩)
        have p1 : (0 : Int) ≤ (a : Int) + (k : Int) := by omega
        have q1 : (a : Int) + (k : Int) < (ts.length : Int) := by omega
        cases hb : ts.getD (a + k) false with
        | true =>
          have HB := Aside0.mk hb
          clear hb
          go_wp2_with (first | (go_at_call 55; refine (fr_in_eq HM.out _ _ _ HI.out).mono ?_; rintro e w1 ⟨rfl, hM, hg⟩; have HM1 := Aside0.mk hM; have HK1 := Aside0.mk (grown_two HK.out hg); obtain ⟨d0, d1, d2⟩ := hM.cells; have b0 := (hM.bit (a + k) h2).1; rw [HB.out] at b0; clear hM hg HM HK) | go_in)
          go_ret
          exact ⟨k, rfl, hk, HA.out, .inr (.inr HB.out), HM1.out, HK1.out⟩
        | false =>
          have HA2 := Aside0.mk (show FreeIn ts a (k + 1) from fun i hi => by
            by_cases e : i = k
            · subst e; exact ⟨h2, hb⟩
            · exact HA.out i (by omega))
          have HB := Aside0.mk hb
          clear hb
          go_wp2_with (first | (go_at_call 55; refine (fr_in_eq HM.out _ _ _ HI.out).mono ?_; rintro e w1 ⟨rfl, hM, hg⟩; have HM1 := Aside0.mk hM; have HK1 := Aside0.mk (grown_two HK.out hg); obtain ⟨d0, d1, d2⟩ := hM.cells; have b0 := (hM.bit (a + k) h2).1; rw [HB.out] at b0; clear hM hg HM HK) | go_in)
          go_roundw
          case rel => exact ⟨k + 1, by go_num, by omega, HA2, HM1, HK1⟩
          case measure => simp [intOf]; omega
      · have HI := Aside0.mk (show inOf ts ((a : Int) + (k : Int)) 1 = false by unfold inOf; exact decide_eq_false (fun x => h2 (by omega)))
        go_wp2_with (first | (go_at_call 55; refine (fr_in_eq HM.out _ _ _ HI.out).mono ?_; rintro e w1 ⟨rfl, hM, hg⟩; have HM1 := Aside0.mk hM; have HK1 := Aside0.mk (grown_two HK.out hg); obtain ⟨d0, d1, d2⟩ := hM.cells; clear hM hg HM HK) | go_in)
        go_ret
        exact ⟨k, rfl, hk, HA.out, .inr (.inl (by omega)), HM1.out, HK1.out⟩
    · obtain rfl : k = m := by omega
      go_wp2
      go_ret
      exact ⟨k, rfl, hk, HA.out, .inl rfl, HM.out, HK.out⟩
end
end Go.Proofs.Ytlndljgoliepdaa.QFramesPlays
