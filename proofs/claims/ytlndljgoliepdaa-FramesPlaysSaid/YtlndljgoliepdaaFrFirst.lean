/- FramesFirst, walked. -/
import Derived.Test.YtlndljgoliepdaaFrMany
namespace Go.Proofs.Ytlndljgoliepdaa.QFramesPlays
open Go.RowKit Go.Proofs.YtlndljgoliepdaaW.PrintWords Go.Proofs.YtlndljgoliepdaaW.PrintLast Go.Proofs.YtlndljgoliepdaaW.PrintMore
set_option linter.unusedSimpArgs false
set_option linter.unusedVariables false
section
set_option maxHeartbeats 1000000
set_option maxRecDepth 100000
theorem runOf_size (S : Nat) (h : S < 4) : ∃ R : Nat, runOf (S : Int) = R ∧ 1 ≤ R ∧ R ≤ 512 := by
  obtain rfl | rfl | rfl | rfl : S = 0 ∨ S = 1 ∨ S = 2 ∨ S = 3 := by omega
  · exact ⟨1, rfl, by omega, by omega⟩
  · exact ⟨8, rfl, by omega, by omega⟩
  · exact ⟨64, rfl, by omega, by omega⟩
  · exact ⟨512, rfl, by omega, by omega⟩
/-- What the law has found so far. -/
def Wants (ts : List Bool) (R j : Nat) (v : Value) : Prop := (v = .int .i64 (-1) ∧ ∀ j', j' < j → ¬ FreeIn ts (j' * R) R) ∨ ∃ x : Nat, v = .int .i64 x ∧ First ts R R x
theorem first_walk (a0 : Int) (a1 : Option Addr) (len cap : Nat) (zs : List Int) (a2 : Int) (w : World) (w0_ : (Lit.int .i64 a0).wf = true) (h1 : (a1 = none ∧ len = 0 ∧ cap = 0 ∧ zs = []) ∨ ∃ x, a1 = some x ∧ len ≤ cap ∧ cap ≤ maxLen ∧ zs.length = cap ∧ (∀ i, i < zs.length → w.cell? (x.add i) = some (.int .i64 (zs.getD i 0))) ∧ ∀ n ∈ zs, (Lit.int .i64 n).wf = true) (y1 : len * 8 ≤ 140737488351232) (w2_ : (Lit.int .i64 a2).wf = true) :
    Calls Try.prog 9 #[.int .i64 a0, .slice a1 len cap, .int .i64 a2] w fun e w' => e = .returned (.bool true) ∧ Below w.heap.size w w' := by
  have HBa := i64_b w0_
  obtain ⟨z, rfl, hr, hm, hz, hc⟩ := ReadsInt.ofRowC h1
  have HRd := Aside0.mk hr
  have HZ := Aside0.mk hz
  have hml : z.length ≤ 140737488351232 := by omega
  clear h1 hr hz y1 hm
  have HB := Aside0.mk (Below.refl w.heap.size w)
  go_enter Try.func9, Try.ntmps9
  go_wp2_with (go_at_call 36; refine (place_any _ _ (by first | assumption | exact HWF.out) (by omega) _).mono ?_; rintro e wn ⟨N, rfl, hre, hN, hg⟩; replace HB := Aside0.mk (HB.out.trans (below_of_grown hg)); have HRE := Aside0.mk hre; clear hg hre HRE)
  have hN' : N ≤ 100 := by omega
  go_wp2_with (go_at_call 27; refine (fs_new HB.out HB.out.size _ N (by unfold mn mx; split <;> split <;> omega)).mono ?_; rintro e w1 ⟨p, r, rfl, hM, hr, hg⟩; have HM := Aside0.mk hM; clear hM hr hg)
  go_loopw [8] (fun v wr => ∃ (i : Nat) (ts : List Bool), v = .int .i64 i ∧ i ≤ N ∧ Aside0 (ts.length = N) ∧ Aside0 (Fs w.heap.size w p r ts wr)) (fun v _ => N - (intOf v).toNat)
  case atStart => exact ⟨0, _, rfl, by omega, ⟨by simp⟩, HM⟩
  case round =>
    clear HM
    obtain ⟨i, ts, rfl, hi, HT, HM⟩ := hrel
    by_cases h1 : i < N
    · have h1' : (i : Int) < (N : Int) := by omega
      go_wp2_with (go_at_call 37; refine (fs_Take HM.out 0 1 (by decide) (by omega) (by omega)).mono ?_; intro e wn ht; obtain ⟨v, ts2, rfl, hl2, hM, hk⟩ := took_any ht; clear ht; have HM2 := Aside0.mk hM; have HT2 := Aside0.mk (hl2.trans HT.out); clear hM hl2 hk)
      go_roundw
      case rel => exact ⟨i + 1, ts2, by go_num, by omega, HT2, HM2⟩
      case measure => simp [intOf]; omega
    · obtain rfl : i = N := by omega
      go_wp2
      go_loopw [9] (fun v wr => ∃ (j : Nat) (ts : List Bool), v = .int .i64 j ∧ j ≤ z.length ∧ j ≤ 40 ∧ Aside0 (ts.length = i) ∧ Aside0 (Fs w.heap.size w p r ts wr)) (fun v _ => z.length - (intOf v).toNat)
      case atStart => exact ⟨0, ts, rfl, by omega, by omega, HT, HM⟩
      case round =>
        clear HM HT
        obtain ⟨j, ts, rfl, hj, hj2, HT, HM⟩ := hrel
        by_cases h2 : j < z.length ∧ j < 40 ∧ 0 < i
        · obtain ⟨h2, h3, h4⟩ := h2
          have h2' : (j : Int) < (z.length : Int) := by omega
          have h3' : (j : Int) < 40 := by omega
          have h4' : 0 < (i : Int) := by omega
          obtain ⟨ad, rfl, hcell⟩ := HRd.out.at_ j (by omega) (by omega)
          rw [Int.toNat_natCast] at hcell
          have hcr := pw_cell_below HM.out.below hcell
          have HWF := Aside0.mk (HZ.out _ (rd_mem (z := z) (i := j) h2))
          generalize Go.Proofs.YtlndljgoliepdaaW.PrintWords.rd z j = b at hcr hcell HWF
          clear hcell
          go_wp2_with (first | (go_at_call 36; refine (place_any _ _ (by first | assumption | exact HWF.out) (by omega) _).mono ?_; rintro e wn ⟨rr, rfl, hre, hrl, hg⟩; replace HM := Aside0.mk (fs_same HM.out hg); have HRE := Aside0.mk hre; clear hg hre) | (go_at_call 38; refine (fs_give_any HM.out _ _).mono ?_; rintro e wn ⟨c, ts2, rfl, hl2, hM, hk⟩; have HM2 := Aside0.mk hM; have HT2 := Aside0.mk (hl2.trans HT.out); clear hM hk hl2))
          go_roundw
          case rel => exact ⟨j + 1, _, by go_num, by omega, by omega, HT2, HM2⟩
          case measure => simp [intOf]; omega
        · have HP := Aside0.mk (pl_lt a2 4 (by omega))
          obtain ⟨S, hSe⟩ : ∃ S : Nat, pl a2 4 = S := ⟨(pl a2 4).toNat, by have := HP.out; omega⟩
          have hS4 : S < 4 := by have := HP.out; omega
          have HME := Aside0.mk hSe
          obtain ⟨R, hR, hR1, hR2⟩ := runOf_size S hS4
          have HR := Aside0.mk hR
          have hR1' : 1 ≤ (R : Int) := by omega
          have hR2' : (R : Int) ≤ 512 := by omega
          clear hSe hR
          go_wp2_with (first | (go_at_call 36; refine (place_eq _ _ w2_ (by omega) _ _ HME.out).mono ?_; rintro e wn ⟨rfl, hg⟩; replace HM := Aside0.mk (fs_same HM.out hg); clear hg) | (go_at_call 29; refine (lookasideref05_Run.calls _ (R : Int) _ (by rw [ref_run, HR.out])).mono ?_; rintro e wn ⟨rfl, hd⟩; replace HM := Aside0.mk (fs_same HM.out (drawn_grown hd)); clear hd))
          all_goals
            go_loopw [11, 12, 13, 14] (fun v11 v12 _ _ wr => ∃ (q x : Nat), v12 = .int .i64 x ∧ x ≤ i + R ∧ Aside0 (x = q * R) ∧ Aside0 (Wants ts R q v11) ∧ Aside0 (Fs w.heap.size w p r ts wr)) (fun _ v12 _ _ _ => i + R + 1 - (intOf v12).toNat)
            case atStart => exact ⟨0, 0, rfl, by omega, ⟨by simp⟩, ⟨.inl ⟨rfl, fun j' h => by omega⟩⟩, HM⟩
            case round =>
              clear HM
              obtain ⟨q, x, rfl, hx, HQ, HW, HM⟩ := hrel
              rcases HW.out with ⟨rfl, hno⟩ | ⟨y, rfl, hy⟩
              · have HNO := Aside0.mk hno
                clear hno HW
                by_cases hin : x + R ≤ i
                · have hin' : (x : Int) + (R : Int) ≤ (i : Int) := by omega
                  go_wp2
                  go_loopw [13, 14] (fun v13 v14 wq => ∃ (k : Nat) (b : Bool), v14 = .int .i64 k ∧ v13 = .bool b ∧ x ≤ k ∧ k ≤ x + R ∧ Aside0 (b = true ↔ ∀ u, x ≤ u → u < k → ts.getD u false = false) ∧ Aside0 (Fs w.heap.size w p r ts wq)) (fun _ v14 _ => x + R - (intOf v14).toNat)
                  case atStart => exact ⟨x, true, rfl, rfl, by omega, by omega, ⟨by simp; intro u h1 h2; omega⟩, HM⟩
                  case round =>
                    clear HM
                    obtain ⟨k, b, rfl, rfl, hk1, hk2, HBk, HM⟩ := hrel
                    by_cases hk : k < x + R
                    · have hk' : (k : Int) < (x : Int) + (R : Int) := by omega
                      have HI := Aside0.mk (show isOf ts (k : Int) = ts.getD k false by
                        unfold isOf
                        rw [decide_eq_true (show 0 ≤ (k : Int) ∧ (k : Int) < (ts.length : Int) from ⟨by omega, by rw [HT.out]; omega⟩), Int.toNat_natCast]
                        rfl)
                      cases b with
                      | true =>
                        cases hb : ts.getD k false with
                        | true =>
                          have HI2 := Aside0.mk (HI.out.trans hb)
                          have HB2 := Aside0.mk (show false = true ↔ ∀ u, x ≤ u → u < k + 1 → ts.getD u false = false from ⟨fun h => (by cases h), fun h => (by have := h k hk1 (by omega); rw [hb] at this; cases this)⟩)
                          clear hb
                          go_wp2_with (go_at_call 34; refine (fs_is HM.out _ _ HI2.out).mono ?_; rintro e wn ⟨rfl, hM, hg⟩; have HM2 := Aside0.mk hM; clear hM hg)
                          go_roundw
                          case rel => exact ⟨k + 1, false, by go_num, rfl, by omega, by omega, ⟨by simpa using HB2.out⟩, HM2⟩
                          case measure => simp [intOf]; omega
                        | false =>
                          have HI2 := Aside0.mk (HI.out.trans hb)
                          have HB2 := Aside0.mk (show true = true ↔ ∀ u, x ≤ u → u < k + 1 → ts.getD u false = false from ⟨fun _ u h1 h2 => (by
                            by_cases e : u = k
                            · subst e; exact hb
                            · exact HBk.out.1 rfl u h1 (by omega)), fun _ => rfl⟩)
                          clear hb
                          go_wp2_with (go_at_call 34; refine (fs_is HM.out _ _ HI2.out).mono ?_; rintro e wn ⟨rfl, hM, hg⟩; have HM2 := Aside0.mk hM; clear hM hg)
                          go_roundw
                          case rel => exact ⟨k + 1, true, by go_num, rfl, by omega, by omega, ⟨by simpa using HB2.out⟩, HM2⟩
                          case measure => simp [intOf]; omega
                      | false =>
                        have HB2 := Aside0.mk (show false = true ↔ ∀ u, x ≤ u → u < k + 1 → ts.getD u false = false from ⟨fun h => (by cases h), fun h => HBk.out.2 (fun u h1 h2 => h u h1 (by omega))⟩)
                        go_wp2
                        go_roundw
                        case rel => exact ⟨k + 1, false, by go_num, rfl, by omega, by omega, ⟨by simpa using HB2.out⟩, HM⟩
                        case measure => simp [intOf]; omega
                    · obtain rfl : k = x + R := by omega
                      cases b with
                      | true =>
                        have HF := Aside0.mk (show First ts R R x from ⟨q, HQ.out, by rw [HT.out]; exact hin, fun u hu => ⟨by rw [HT.out]; omega, HBk.out.1 rfl (x + u) (by omega) (by omega)⟩, HNO.out⟩)
                        go_wp2
                        go_roundw
                        case rel => exact ⟨q + 1, x + R, by go_num, by omega, ⟨by rw [Nat.succ_mul, HQ.out]⟩, ⟨.inr ⟨x, rfl, HF.out⟩⟩, HM⟩
                        case measure => simp [intOf]; omega
                      | false =>
                        have HF := Aside0.mk (show ¬ FreeIn ts (q * R) R from fun h => (by
                          have := HBk.out.2 (fun u h1 h2 => (by
                            have h3 := (h (u - x) (by omega)).2
                            rw [← HQ.out, show x + (u - x) = u by omega] at h3
                            exact h3))
                          cases this))
                        go_wp2
                        go_roundw
                        case rel => exact ⟨q + 1, x + R, by go_num, by omega, ⟨by rw [Nat.succ_mul, HQ.out]⟩, ⟨.inl ⟨rfl, fun j' hj' => (by
                          by_cases e : j' < q
                          · exact HNO.out j' e
                          · obtain rfl : j' = q := by omega
                            exact HF.out)⟩⟩, HM⟩
                        case measure => simp [intOf]; omega
                · have hin' : ¬ (x : Int) + (R : Int) ≤ (i : Int) := by omega
                  have HX := Aside0.mk (show ∀ y, ¬ First ts R R y from fun y hy => (by
                    obtain ⟨j', rfl, h1, h2, _⟩ := hy
                    refine HNO.out j' ?_ h2
                    by_cases e : j' < q
                    · exact e
                    · exfalso
                      have h3 : q * R ≤ j' * R := Nat.mul_le_mul_right _ (by omega)
                      rw [HT.out] at h1
                      have := HQ.out
                      omega))
                  go_wp2_with (first | (go_at_call 32; (with_reducible refine (fs_free HM.out _ rfl).mono ?_); rintro e wn ⟨rfl, hM, hg⟩; replace HM := Aside0.mk hM; clear hM hg) | (go_at_call 37; refine (fs_Take HM.out _ R HR.out hR1 hR2).mono ?_; intro e wn ht; obtain ⟨rfl, hM, hk⟩ := took_not ht HX.out; replace HM := Aside0.mk hM; clear hM hk ht) | (go_at_call 35; refine (lives_calls _).mono ?_; rintro e wn ⟨rfl, hg⟩; replace HM := Aside0.mk (fs_same HM.out hg); clear hg))
                  all_goals
                    go_ret
                    exact ⟨rfl, HM.out.below⟩
              · clear HW
                have hyl : y + R ≤ i := by obtain ⟨_, _, h, _⟩ := hy; rw [HT.out] at h; exact h
                have HX := Aside0.mk hy
                obtain ⟨c, hce⟩ : ∃ c, cnt ts = c := ⟨_, rfl⟩
                have hcl := cnt_le ts
                rw [hce, HT.out] at hcl
                obtain ⟨hc0, hc1⟩ := hcl
                have HCe := Aside0.mk hce
                have HCn := Aside0.mk (show cnt (setN ts y true R) = c - R from by rw [← hce]; exact (by obtain ⟨_, _, h, h', _⟩ := hy; exact cnt_take h h'))
                clear hy hce
                go_wp2_with (first | (go_at_call 32; first | ((with_reducible refine (fs_free (ts := setN ts y true R) HM.out _ HCn.out).mono ?_); rintro e wn ⟨rfl, hM, hg⟩; replace HM := Aside0.mk hM; clear hM hg) | ((with_reducible refine (fs_free (ts := ts) HM.out _ HCe.out).mono ?_); rintro e wn ⟨rfl, hM, hg⟩; replace HM := Aside0.mk hM; clear hM hg)) | (go_at_call 37; refine (fs_Take HM.out _ R HR.out hR1 hR2).mono ?_; intro e wn ht; obtain ⟨rfl, hM, hk⟩ := took_at ht HX.out; replace HM := Aside0.mk hM; clear hM hk ht) | (go_at_call 34; refine (fs_is_set HM.out (by rw [HT.out]; omega) _ (by omega) (by omega)).mono ?_; rintro e wn ⟨rfl, hM, hg⟩; replace HM := Aside0.mk hM; clear hM hg) | (go_at_call 35; refine (lives_calls _).mono ?_; rintro e wn ⟨rfl, hg⟩; replace HM := Aside0.mk (fs_same HM.out hg); clear hg))
                all_goals
                  go_ret
                  exact ⟨rfl, HM.out.below⟩
end
end Go.Proofs.Ytlndljgoliepdaa.QFramesPlays
