/- FramesSizes, walked. -/
import Derived.Test.YtlndljgoliepdaaFrPure2
namespace Go.Proofs.Ytlndljgoliepdaa.QFramesPlays
open Go.RowKit Go.Proofs.YtlndljgoliepdaaW.PrintWords Go.Proofs.YtlndljgoliepdaaW.PrintLast Go.Proofs.YtlndljgoliepdaaW.PrintMore
set_option linter.unusedSimpArgs false
set_option linter.unusedVariables false
section
set_option maxHeartbeats 1000000
set_option maxRecDepth 100000
theorem sizes_walk (a0 a1 : Int) (w : World) (w0_ : (Lit.int .i64 a0).wf = true) (w1_ : (Lit.int .i64 a1).wf = true) :
    Calls Try.prog 8 #[.int .i64 a0, .int .i64 a1] w fun e w' => e = .returned (.bool true) ∧ Below w.heap.size w w' := by
  clear w0_ w1_
  have hfv : ∀ (c0 c1 : Value) (W_ : World), (Instr.field 59 (.agg #[c0, c1]) 0).run Try.prog W_ = .ok c0 W_ := fun _ _ _ => by kernel_rfl
  obtain ⟨n, hn⟩ : ∃ n : Int, (if 70000 < a1 then 65000 + a1 % 5000 else a1) = n := ⟨_, rfl⟩
  obtain ⟨m, hm⟩ : ∃ m : Nat, mn (mx n 0) 65536 = m := ⟨(mn (mx n 0) 65536).toNat, by unfold mn mx; split <;> split <;> omega⟩
  have hm2 : m ≤ 65536 := by unfold mn at hm; split at hm <;> omega
  have HL := Aside0.mk (longest_new_f m hm2 (cnt (List.replicate m false)))
  have HN := Aside0.mk hm
  have HE := Aside0.mk (show ((List.replicate m false).length : Int) = m by simp)
  have HI1 := Aside0.mk (show isOf (List.replicate m false) (-1) = false by unfold isOf; simp)
  have HI2 := Aside0.mk (show isOf (List.replicate m false) (m : Int) = false by unfold isOf; simp)
  have HC := Aside0.mk (cnt_new m)
  clear hm
  by_cases h : 70000 < a1
  · have hr : 0 ≤ a1 % 5000 ∧ a1 % 5000 < 5000 := by omega
    have hn' : 65000 + a1 % 5000 = n := by rw [← hn, if_pos h]
    have HN2 := Aside0.mk hn'
    clear hn hn'
    go_enter Try.func8, Try.ntmps8
    go_wp2_with (first | (go_at_call 27; refine (fs_new (Below.refl w.heap.size w) (Nat.le_refl _) (65000 + a1 % 5000) m (by rw [HN2.out]; rw [HN.out])).mono ?_; rintro e w1 ⟨p, r, rfl, hM, hr, hg⟩; have HM := Aside0.mk hM; clear hM hr hg) | (go_at_call 28; refine (frames_Run.calls _ _ _ (prog_run _)).mono ?_; rintro e wn ⟨rfl, hd⟩; replace HM := Aside0.mk (fs_same HM.out (drawn_grown hd)); clear hd) | (go_at_call 29; refine (lookasideref05_Run.calls _ _ _ (ref_run _)).mono ?_; rintro e wn ⟨rfl, hd⟩; replace HM := Aside0.mk (fs_same HM.out (drawn_grown hd)); clear hd) | (go_at_call 31; refine (lookasideref05_New.calls _ (m : Int) [] _ (by unfold lookasideref05_New.f; rw [HN2.out, HN.out])).mono ?_; rintro e wn ⟨v1, rfl, _, hb⟩; replace HM := Aside0.mk (fs_same HM.out (below_grown hb)); clear hb) | (go_at_call 30; (with_reducible refine (fs_len HM.out _ HE.out).mono ?_); rintro e wn ⟨rfl, hM, hg⟩; replace HM := Aside0.mk hM; clear hM hg) | (go_at_call 32; (with_reducible refine (fs_free HM.out _ HC.out).mono ?_); rintro e wn ⟨rfl, hM, hg⟩; replace HM := Aside0.mk hM; clear hM hg) | (go_at_call 33; (with_reducible refine (fs_longest HM.out 70000 _ HL.out).mono ?_); rintro e wn ⟨rfl, hM, hg⟩; replace HM := Aside0.mk hM; clear hM hg) | (go_at_call 34; first | ((with_reducible refine (fs_is HM.out (-1) _ HI1.out).mono ?_); rintro e wn ⟨rfl, hM, hg⟩; replace HM := Aside0.mk hM; clear hM hg) | ((with_reducible refine (fs_is HM.out (m : Int) _ HI2.out).mono ?_); rintro e wn ⟨rfl, hM, hg⟩; replace HM := Aside0.mk hM; clear hM hg)) | (go_at_call 35; refine (lives_calls _).mono ?_; rintro e wn ⟨rfl, hg⟩; replace HM := Aside0.mk (fs_same HM.out hg); clear hg))
    go_ret
    exact ⟨rfl, HM.out.below⟩
  · have hn' : a1 = n := by rw [← hn, if_neg h]
    subst hn'
    clear hn
    go_enter Try.func8, Try.ntmps8
    go_wp2_with (first | (go_at_call 27; refine (fs_new (Below.refl w.heap.size w) (Nat.le_refl _) _ m (by rw [HN.out])).mono ?_; rintro e w1 ⟨p, r, rfl, hM, hr, hg⟩; have HM := Aside0.mk hM; clear hM hr hg) | (go_at_call 28; refine (frames_Run.calls _ _ _ (prog_run _)).mono ?_; rintro e wn ⟨rfl, hd⟩; replace HM := Aside0.mk (fs_same HM.out (drawn_grown hd)); clear hd) | (go_at_call 29; refine (lookasideref05_Run.calls _ _ _ (ref_run _)).mono ?_; rintro e wn ⟨rfl, hd⟩; replace HM := Aside0.mk (fs_same HM.out (drawn_grown hd)); clear hd) | (go_at_call 31; refine (lookasideref05_New.calls _ (m : Int) [] _ (by unfold lookasideref05_New.f; rw [HN.out])).mono ?_; rintro e wn ⟨v1, rfl, _, hb⟩; replace HM := Aside0.mk (fs_same HM.out (below_grown hb)); clear hb) | (go_at_call 30; (with_reducible refine (fs_len HM.out _ HE.out).mono ?_); rintro e wn ⟨rfl, hM, hg⟩; replace HM := Aside0.mk hM; clear hM hg) | (go_at_call 32; (with_reducible refine (fs_free HM.out _ HC.out).mono ?_); rintro e wn ⟨rfl, hM, hg⟩; replace HM := Aside0.mk hM; clear hM hg) | (go_at_call 33; (with_reducible refine (fs_longest HM.out 70000 _ HL.out).mono ?_); rintro e wn ⟨rfl, hM, hg⟩; replace HM := Aside0.mk hM; clear hM hg) | (go_at_call 34; first | ((with_reducible refine (fs_is HM.out (-1) _ HI1.out).mono ?_); rintro e wn ⟨rfl, hM, hg⟩; replace HM := Aside0.mk hM; clear hM hg) | ((with_reducible refine (fs_is HM.out (m : Int) _ HI2.out).mono ?_); rintro e wn ⟨rfl, hM, hg⟩; replace HM := Aside0.mk hM; clear hM hg)) | (go_at_call 35; refine (lives_calls _).mono ?_; rintro e wn ⟨rfl, hg⟩; replace HM := Aside0.mk (fs_same HM.out hg); clear hg))
    go_ret
    exact ⟨rfl, HM.out.below⟩
end
end Go.Proofs.Ytlndljgoliepdaa.QFramesPlays
