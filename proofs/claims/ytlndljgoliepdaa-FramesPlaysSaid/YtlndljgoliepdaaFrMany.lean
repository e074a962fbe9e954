/- FramesMany, walked. -/
import Derived.Test.YtlndljgoliepdaaFr8
namespace Go.Proofs.Ytlndljgoliepdaa.QFramesPlays
open Go.RowKit Go.Proofs.YtlndljgoliepdaaW.PrintWords Go.Proofs.YtlndljgoliepdaaW.PrintLast Go.Proofs.YtlndljgoliepdaaW.PrintMore
set_option linter.unusedSimpArgs false
set_option linter.unusedVariables false
section
set_option maxHeartbeats 1000000
set_option maxRecDepth 100000
theorem rd_mem {z : List Int} {i : Nat} (h : i < z.length) : Go.Proofs.YtlndljgoliepdaaW.PrintWords.rd z i ∈ z := by
  unfold Go.Proofs.YtlndljgoliepdaaW.PrintWords.rd
  rw [Int.toNat_natCast]
  simp [List.getD, h]
theorem below_of_grown {W W1 : World} (h : W.grownBy W1 none) : Below W.heap.size W W1 := ⟨h.os, h.tape, h.output, h.size, fun k hk => h.block k hk (by simp)⟩
theorem many_walk (a0 : Int) (a1 : Option Addr) (len cap : Nat) (zs : List Int) (a2 : Int) (w : World) (w0_ : (Lit.int .i64 a0).wf = true) (h1 : (a1 = none ∧ len = 0 ∧ cap = 0 ∧ zs = []) ∨ ∃ x, a1 = some x ∧ len ≤ cap ∧ cap ≤ maxLen ∧ zs.length = cap ∧ (∀ i, i < zs.length → w.cell? (x.add i) = some (.int .i64 (zs.getD i 0))) ∧ ∀ n ∈ zs, (Lit.int .i64 n).wf = true) (y1 : len * 8 ≤ 140737488351232) (w2_ : (Lit.int .i64 a2).wf = true) :
    Calls Try.prog 10 #[.int .i64 a0, .slice a1 len cap, .int .i64 a2] w fun e w' => e = .returned (.bool true) ∧ Below w.heap.size w w' := by
  have HBa := i64_b w0_
  obtain ⟨z, rfl, hr, hm, hz, hc⟩ := ReadsInt.ofRowC h1
  have HRd := Aside0.mk hr
  have HZ := Aside0.mk hz
  have hml : z.length ≤ 140737488351232 := by omega
  clear h1 hr hz y1 hm
  have HB := Aside0.mk (Below.refl w.heap.size w)
  go_enter Try.func10, Try.ntmps10
  go_wp2_with (go_at_call 36; refine (place_any _ _ (by first | assumption | exact HWF.out) (by omega) _).mono ?_; rintro e wn ⟨N, rfl, hre, hN, hg⟩; replace HB := Aside0.mk (HB.out.trans (below_of_grown hg)); have HRE := Aside0.mk hre; clear hg hre HRE)
  have hN' : N ≤ 300 := by omega
  go_wp2_with (go_at_call 27; refine (fs_new HB.out HB.out.size _ N (by unfold mn mx; split <;> split <;> omega)).mono ?_; rintro e w1 ⟨p, r, rfl, hM, hr, hg⟩; have HM := Aside0.mk hM; clear hM hr hg)
  go_loopw [8] (fun v wr => ∃ (i : Nat) (ts : List Bool), v = .int .i64 i ∧ i ≤ N ∧ Aside0 (ts.length = N) ∧ Aside0 (Fs w.heap.size w p r ts wr)) (fun v _ => N - (intOf v).toNat)
  case atStart => exact ⟨0, _, rfl, by omega, ⟨by simp⟩, HM⟩
  case round =>
    clear HM
    obtain ⟨i, ts, rfl, hi, HT, HM⟩ := hrel
    by_cases h1 : i < N
    · have h1' : (i : Int) < (N : Int) := by omega
      go_wp2_with (go_at_call 37; refine (fs_Take HM.out 0 1 (by decide) (by omega) (by omega)).mono ?_; intro e wn ht; obtain ⟨v, ts2, rfl, hl2, hM, hk⟩ := took_any ht; clear ht; have HM2 := Aside0.mk hM; have HT2 := Aside0.mk (hl2.trans HT.out); clear hM hl2 hk)
      go_roundw
      case rel => exact ⟨i + 1, ts2, by go_num, by omega, HT2, HM2⟩
      case measure => simp [intOf]; omega
    · obtain rfl : i = N := by omega
      go_wp2
      go_loopw [9] (fun v wr => ∃ (j : Nat) (ts : List Bool), v = .int .i64 j ∧ j ≤ z.length ∧ j ≤ 30 ∧ Aside0 (ts.length = i) ∧ Aside0 (Fs w.heap.size w p r ts wr)) (fun v _ => z.length - (intOf v).toNat)
      case atStart => exact ⟨0, ts, rfl, by omega, by omega, HT, HM⟩
      case round =>
        clear HM HT
        obtain ⟨j, ts, rfl, hj, hj2, HT, HM⟩ := hrel
        by_cases h2 : j < z.length ∧ j < 30 ∧ 0 < i
        · obtain ⟨h2, h3, h4⟩ := h2
          have h2' : (j : Int) < (z.length : Int) := by omega
          have h3' : (j : Int) < 30 := by omega
          have h4' : 0 < (i : Int) := by omega
          obtain ⟨ad, rfl, hcell⟩ := HRd.out.at_ j (by omega) (by omega)
          rw [Int.toNat_natCast] at hcell
          have hcr := pw_cell_below HM.out.below hcell
          have HWF := Aside0.mk (HZ.out _ (rd_mem (z := z) (i := j) h2))
          generalize Go.Proofs.YtlndljgoliepdaaW.PrintWords.rd z j = b at hcr hcell HWF
          clear hcell
          go_wp2_with (first | (go_at_call 36; refine (place_any _ _ (by first | assumption | exact HWF.out) (by omega) _).mono ?_; rintro e wn ⟨rr, rfl, hre, hrl, hg⟩; replace HM := Aside0.mk (fs_same HM.out hg); have HRE := Aside0.mk hre; clear hg hre) | (go_at_call 38; refine (fs_give_any HM.out _ _).mono ?_; rintro e wn ⟨c, ts2, rfl, hl2, hM, hk⟩; have HM2 := Aside0.mk hM; have HT2 := Aside0.mk (hl2.trans HT.out); clear hM hk hl2))
          go_roundw
          case rel => exact ⟨j + 1, _, by go_num, by omega, by omega, HT2, HM2⟩
          case measure => simp [intOf]; omega
        · obtain ⟨L, hL, hLl, hLo⟩ := longest_f ts (by rw [HT.out]; omega) (cnt ts)
          have HLF := Aside0.mk hL
          have HLO := Aside0.mk hLo
          have HP := Aside0.mk (pl_lt a2 12 (by omega))
          obtain ⟨M, hMe⟩ : ∃ M : Nat, pl a2 12 = M := ⟨(pl a2 12).toNat, by have := HP.out; omega⟩
          have hM12 : M < 12 := by have := HP.out; omega
          have HME := Aside0.mk hMe
          clear hL hLo hMe
          by_cases hM0 : M = 0
          · subst hM0
            go_wp2_with (first | (go_at_call 33; (with_reducible refine (fs_longest HM.out 70000 _ HLF.out).mono ?_); rintro e wn ⟨rfl, hM, hg⟩; replace HM := Aside0.mk hM; clear hM hg) | (go_at_call 36; refine (place_eq _ _ w2_ (by omega) _ _ HME.out).mono ?_; rintro e wn ⟨rfl, hg⟩; replace HM := Aside0.mk (fs_same HM.out hg); clear hg) | (go_at_call 39; (with_reducible refine (fs_Many0 HM.out _ (by omega)).mono ?_); rintro e wn ⟨rfl, hM, hg⟩; replace HM := Aside0.mk hM; clear hM hg) | (go_at_call 35; refine (lives_calls _).mono ?_; rintro e wn ⟨rfl, hg⟩; replace HM := Aside0.mk (fs_same HM.out hg); clear hg))
            all_goals
              go_ret
              exact ⟨rfl, HM.out.below⟩
          · have hM1 : 1 ≤ M := by omega
            have hM1' : 1 ≤ (M : Int) := by omega
            have hMz : ((M : Int) == 0) = false := by rw [beq_eq_false_iff_ne]; omega
            clear hM0
            by_cases hML : M ≤ L
            · have hML' : (M : Int) ≤ (L : Int) := by omega
              obtain ⟨x, hx⟩ := first_of ((HLO.out M hM1).2 hML)
              have hxl : x + M ≤ i := by obtain ⟨_, _, h, _⟩ := hx; rw [HT.out] at h; exact h
              have HX := Aside0.mk hx
              clear hx
              go_wp2_with (first | (go_at_call 33; (with_reducible refine (fs_longest HM.out 70000 _ HLF.out).mono ?_); rintro e wn ⟨rfl, hM, hg⟩; replace HM := Aside0.mk hM; clear hM hg) | (go_at_call 36; refine (place_eq _ _ w2_ (by omega) _ _ HME.out).mono ?_; rintro e wn ⟨rfl, hg⟩; replace HM := Aside0.mk (fs_same HM.out hg); clear hg) | (go_at_call 39; refine (fs_Many HM.out M hM1).mono ?_; intro e wn ht; obtain ⟨rfl, hM, hk⟩ := took_at ht HX.out; replace HM := Aside0.mk hM; clear hM hk ht) | (go_at_call 34; refine (fs_is_set HM.out (by rw [HT.out]; omega) _ (by omega) (by omega)).mono ?_; rintro e wn ⟨rfl, hM, hg⟩; replace HM := Aside0.mk hM; clear hM hg) | (go_at_call 35; refine (lives_calls _).mono ?_; rintro e wn ⟨rfl, hg⟩; replace HM := Aside0.mk (fs_same HM.out hg); clear hg))
              all_goals
                go_ret
                exact ⟨rfl, HM.out.below⟩
            · have hML' : (L : Int) < (M : Int) := by omega
              have HX := Aside0.mk (show ∀ x, ¬ First ts M 1 x from fun x hx => hML ((HLO.out M hM1).1 ⟨x, by obtain ⟨_, _, h, h', _⟩ := hx; exact ⟨h, h'⟩⟩))
              go_wp2_with (first | (go_at_call 33; (with_reducible refine (fs_longest HM.out 70000 _ HLF.out).mono ?_); rintro e wn ⟨rfl, hM, hg⟩; replace HM := Aside0.mk hM; clear hM hg) | (go_at_call 36; refine (place_eq _ _ w2_ (by omega) _ _ HME.out).mono ?_; rintro e wn ⟨rfl, hg⟩; replace HM := Aside0.mk (fs_same HM.out hg); clear hg) | (go_at_call 39; refine (fs_Many HM.out M hM1).mono ?_; intro e wn ht; obtain ⟨rfl, hM, hk⟩ := took_not ht HX.out; replace HM := Aside0.mk hM; clear hM hk ht) | (go_at_call 35; refine (lives_calls _).mono ?_; rintro e wn ⟨rfl, hg⟩; replace HM := Aside0.mk (fs_same HM.out hg); clear hg))
              all_goals
                go_ret
                exact ⟨rfl, HM.out.below⟩
end
end Go.Proofs.Ytlndljgoliepdaa.QFramesPlays
