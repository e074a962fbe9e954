/- The walk through the law MemoryWords, at whatever place and words; no conditions. -/
import Derived.Test.YtlndljgoliepdaaMem2
import Derived.Test.YtlndljgoliepdaaMemBytes
namespace Go.Proofs.Ytlndljgoliepdaa.Mem
open Go.RowKit Go.Maps Go.Proofs.YtlndljgoliepdaaW.PrintWords Go.Proofs.YtlndljgoliepdaaW.PrintLast Go.Proofs.YtlndljgoliepdaaW.PrintMore
set_option linter.unusedSimpArgs false
set_option linter.unusedVariables false
section
set_option maxHeartbeats 1000000
set_option maxRecDepth 100000
/-- What the memory has, ahead of each round. -/
def WordsAt (A x y : Int) (D : DataW Unit) : Prop := Clean D ∧ rd D (A / 8) = x ∧ rd D (A / 8 + 1) = y ∧ Maps.size D = one x + one y
theorem wordsAt_start (A x y : Int) : WordsAt A x y (st (st (.map []) (A / 8) x) (A / 8 + 1) y) := by
  have h1 := clean_st clean_empty (A / 8) x
  have h2 := size_st clean_empty (A / 8) x
  have h3 := size_st h1 (A / 8 + 1) y
  have e0 : rd (.map []) (A / 8) = 0 := rfl
  have e1 : rd (st (.map []) (A / 8) x) (A / 8 + 1) = 0 := by rw [rd_st_other (by omega)]; rfl
  rw [e0] at h2
  rw [e1] at h3
  have e2 : Maps.size (.map [] : DataW Unit) = 0 := rfl
  have e3 : one 0 = 0 := rfl
  exact ⟨clean_st h1 _ _, by rw [rd_st_other (by omega), rd_st_same isMap_empty], rd_st_same h1.1.isMap _ _, by omega⟩
theorem wordsAt_round {A x y : Int} {D : DataW Unit} (h : WordsAt A x y D) (hx : (Lit.int .u64 x).wf = true) (hy : (Lit.int .u64 y).wf = true) (a b : Int) (hb0 : 0 ≤ b) (hb : b < 256) (ha : a / 8 = A / 8 ∨ a / 8 = A / 8 + 1) :
    WordsAt A x y (st (st D (a / 8) (putB (rd D (a / 8)) a b)) (a / 8) (putB (rd (st D (a / 8) (putB (rd D (a / 8)) a b)) (a / 8)) a (byteAt D a))) := by
  obtain ⟨h1, h2, h3, h4⟩ := h
  have hw : (Lit.int .u64 (rd D (a / 8))).wf = true := by
    rcases ha with e | e
    · rw [e, h2]; exact hx
    · rw [e, h3]; exact hy
  have k1 := clean_st h1 (a / 8) (putB (rd D (a / 8)) a b)
  have e1 : putB (rd (st D (a / 8) (putB (rd D (a / 8)) a b)) (a / 8)) a (byteAt D a) = rd D (a / 8) := by
    rw [rd_st_same h1.1.isMap]
    exact putB_back hw a b _ hb0 hb rfl
  rw [e1]
  have k2 := clean_st k1 (a / 8) (rd D (a / 8))
  have s1 := size_st h1 (a / 8) (putB (rd D (a / 8)) a b)
  have s2 := size_st k1 (a / 8) (rd D (a / 8))
  rw [rd_st_same h1.1.isMap] at s2
  have r : ∀ k, rd (st (st D (a / 8) (putB (rd D (a / 8)) a b)) (a / 8) (rd D (a / 8))) k = rd D k := by
    intro k
    by_cases e : k = a / 8
    · rw [e, rd_st_same k1.1.isMap]
    · rw [rd_st_other e, rd_st_other e]
  exact ⟨k2, by rw [r, h2], by rw [r, h3], by omega⟩
theorem words_walk (a x y : Int) (w : World) (ha : (Lit.int .u64 a).wf = true) (hx : (Lit.int .u64 x).wf = true) (hy : (Lit.int .u64 y).wf = true) :
    Calls Try.prog 4 #[.int .u64 a, .int .u64 x, .int .u64 y] w fun e w' => e = .returned (.bool true) ∧ Below w.heap.size w w' := by
  have HB := Aside0.mk (Below.refl w.heap.size w)
  have ha0 := (u64_b ha).1
  have HA := Aside0.mk (show mayOf 20000 (a % 1000 * 16) 16 16 = 0 by unfold mayOf; rw [if_neg (by omega), if_neg (by omega)])
  have HA8 := Aside0.mk (show mayOf 20000 (a % 1000 * 16) 8 8 = 0 by unfold mayOf; rw [if_neg (by omega), if_neg (by omega)])
  have HA88 := Aside0.mk (show mayOf 20000 (a % 1000 * 16 + 8) 8 8 = 0 by unfold mayOf; rw [if_neg (by omega), if_neg (by omega)])
  have WA := Aside0.mk (show (Lit.int .u64 (a % 1000 * 16)).wf = true from WalkArith.wf_u64 (by omega))
  have WA8 := Aside0.mk (show (Lit.int .u64 (a % 1000 * 16 + 8)).wf = true from WalkArith.wf_u64 (by omega))
  have HS := Aside0.mk (wordsAt_start (a % 1000 * 16) x y)
  have R1 := Aside0.mk (show rd (st (st (.map []) (a % 1000 * 16 / 8) x) (a % 1000 * 16 / 8 + 1) y) ((a % 1000 * 16 + 8) / 8) = y by rw [show (a % 1000 * 16 + 8) / 8 = a % 1000 * 16 / 8 + 1 by omega]; exact HS.out.2.2.1)
  go_enter Try.func4, Try.ntmps4
  go_wp2_with (first | (go_at_call 13; refine (new_calls HB.out (Nat.le_refl _) 20000 (by decide) (by decide)).mono ?_; rintro e wn ⟨p, mb, rfl, hM, hg, hmb, hp⟩; have HP := Aside0.mk (And.intro hmb hp); clear hmb hp; have HM0 := Aside0.mk hM; have HG0 := Aside0.mk hg; clear hM hg ) | (go_at_call 18; refine (putPair_ok HM0.out _ WA.out x y hx hy (by omega) HA.out).mono ?_; rintro e w1 ⟨rfl, hM, hg⟩; have HM1 := Aside0.mk hM; have HG1 := Aside0.mk hg; clear hM hg HM0) | (go_at_call 15; first | (refine (word_eq HM1.out _ WA.out HA8.out x HS.out.2.1).mono ?_; rintro e w4 ⟨rfl, hM, hg⟩; have HM2 := Aside0.mk hM; have HG2 := Aside0.mk hg; clear hM hg HM1) | (refine (word_eq HM2.out _ WA8.out HA88.out y R1.out).mono ?_; rintro e w5 ⟨rfl, hM, hg⟩; have HM3 := Aside0.mk hM; have HG3 := Aside0.mk hg; clear hM hg HM2)) | go_in)
  go_loopw [13] (fun v13 wr => ∃ (i n : Nat) (D : DataW Unit), v13 = .int .u64 i ∧ i ≤ 16 ∧ n ≤ 2 + 2 * i ∧ Aside0 (WordsAt (a % 1000 * 16) x y D) ∧ Aside0 (Mem w.heap.size w p mb 20000 n D wr)) (fun v13 _ => 16 - (intOf v13).toNat)
  case atStart => exact ⟨0, 2, _, rfl, by omega, by omega, HS, HM3⟩
  case round =>
    clear HM3 HS
    obtain ⟨i, n, D, rfl, hi, hn, HW, HM⟩ := hrel
    by_cases h8 : i < 16
    · have h8' : (i : Int) < 16 := by omega
      have HWI := Aside0.mk (show (Lit.int .u64 (a % 1000 * 16 + i)).wf = true from WalkArith.wf_u64 (by omega))
      have HMI := Aside0.mk (show mayOf 20000 (a % 1000 * 16 + i) 1 1 = 0 by unfold mayOf; rw [if_neg (by omega), if_neg (by omega)])
      go_wp2_with (first | (go_at_call 16; refine (byte_eq HM.out _ HWI.out HMI.out _ rfl).mono ?_; rintro e w6 ⟨rfl, hM, hg⟩; have HM5 := Aside0.mk hM; have HG5 := Aside0.mk hg; clear hM hg HM) | (go_at_call 19; first | (refine (putByte_ok HM5.out _ HWI.out _ (by omega) HMI.out).mono ?_; rintro e w7 ⟨rfl, hM, hg⟩; have HM6 := Aside0.mk hM; have HG6 := Aside0.mk hg; clear hM hg HM5) | (refine (putByte_ok HM6.out _ HWI.out _ (by omega) HMI.out).mono ?_; rintro e w8 ⟨rfl, hM, hg⟩; have HM7 := Aside0.mk hM; have HG7 := Aside0.mk hg; clear hM hg HM6)) | go_in)
      go_roundw
      case rel => exact ⟨i + 1, n + 1 + 1, _, by go_num, by omega, by omega, ⟨wordsAt_round HW.out hx hy _ _ (by first | omega | (rw [wrap_u8]; omega)) (by first | omega | (rw [wrap_u8]; omega)) (by omega)⟩, HM7⟩
      case measure => simp [intOf]; omega
    · obtain rfl : i = 16 := by omega
      have HR0 := Aside0.mk HW.out.2.1
      have HR1 := Aside0.mk HW.out.2.2.1
      have HSZ := Aside0.mk HW.out.2.2.2
      cases hx0 : (x != 0) <;> cases hy0 : (y != 0)
      · have HSN := Aside0.mk (show (Maps.size D : Int) = 0 by rw [HSZ.out]; unfold one; rw [if_pos (bne_eq_false_iff_eq.mp hx0), if_pos (bne_eq_false_iff_eq.mp hy0)]; rfl)
        go_wp2_with (first | (go_at_call 20; refine (pair_eq HM.out _ WA.out HA.out x y HR0.out HR1.out).mono ?_; rintro e w9 ⟨rfl, hM, hg⟩; have HM8 := Aside0.mk hM; have HG8 := Aside0.mk hg; clear hM hg HM) | (go_at_call 21; refine (used_eq HM8.out 0 HSN.out).mono ?_; rintro e w10 ⟨rfl, hM, hg⟩; have HM9 := Aside0.mk hM; have HG9 := Aside0.mk hg; clear hM hg HM8) | (go_at_call 17; refine (lives_calls _).mono ?_; rintro e w11 ⟨rfl, hg⟩) | go_in)
        go_ret
        exact ⟨rfl, (HM9.out.same hg).below⟩
      · have HSN := Aside0.mk (show (Maps.size D : Int) = 1 by rw [HSZ.out]; unfold one; rw [if_pos (bne_eq_false_iff_eq.mp hx0), if_neg (bne_iff_ne.mp hy0)]; rfl)
        go_wp2_with (first | (go_at_call 20; refine (pair_eq HM.out _ WA.out HA.out x y HR0.out HR1.out).mono ?_; rintro e w9 ⟨rfl, hM, hg⟩; have HM8 := Aside0.mk hM; have HG8 := Aside0.mk hg; clear hM hg HM) | (go_at_call 21; refine (used_eq HM8.out 1 HSN.out).mono ?_; rintro e w10 ⟨rfl, hM, hg⟩; have HM9 := Aside0.mk hM; have HG9 := Aside0.mk hg; clear hM hg HM8) | (go_at_call 17; refine (lives_calls _).mono ?_; rintro e w11 ⟨rfl, hg⟩) | go_in)
        go_ret
        exact ⟨rfl, (HM9.out.same hg).below⟩
      · have HSN := Aside0.mk (show (Maps.size D : Int) = 1 by rw [HSZ.out]; unfold one; rw [if_neg (bne_iff_ne.mp hx0), if_pos (bne_eq_false_iff_eq.mp hy0)]; rfl)
        go_wp2_with (first | (go_at_call 20; refine (pair_eq HM.out _ WA.out HA.out x y HR0.out HR1.out).mono ?_; rintro e w9 ⟨rfl, hM, hg⟩; have HM8 := Aside0.mk hM; have HG8 := Aside0.mk hg; clear hM hg HM) | (go_at_call 21; refine (used_eq HM8.out 1 HSN.out).mono ?_; rintro e w10 ⟨rfl, hM, hg⟩; have HM9 := Aside0.mk hM; have HG9 := Aside0.mk hg; clear hM hg HM8) | (go_at_call 17; refine (lives_calls _).mono ?_; rintro e w11 ⟨rfl, hg⟩) | go_in)
        go_ret
        exact ⟨rfl, (HM9.out.same hg).below⟩
      · have HSN := Aside0.mk (show (Maps.size D : Int) = 2 by rw [HSZ.out]; unfold one; rw [if_neg (bne_iff_ne.mp hx0), if_neg (bne_iff_ne.mp hy0)]; rfl)
        go_wp2_with (first | (go_at_call 20; refine (pair_eq HM.out _ WA.out HA.out x y HR0.out HR1.out).mono ?_; rintro e w9 ⟨rfl, hM, hg⟩; have HM8 := Aside0.mk hM; have HG8 := Aside0.mk hg; clear hM hg HM) | (go_at_call 21; refine (used_eq HM8.out 2 HSN.out).mono ?_; rintro e w10 ⟨rfl, hM, hg⟩; have HM9 := Aside0.mk hM; have HG9 := Aside0.mk hg; clear hM hg HM8) | (go_at_call 17; refine (lives_calls _).mono ?_; rintro e w11 ⟨rfl, hg⟩) | go_in)
        go_ret
        exact ⟨rfl, (HM9.out.same hg).below⟩
end
end Go.Proofs.Ytlndljgoliepdaa.Mem
