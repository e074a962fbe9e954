/- The walk through the law MemoryRound, at whatever places and words; no conditions. -/
import Derived.Test.YtlndljgoliepdaaMem2
namespace Go.Proofs.Ytlndljgoliepdaa.Mem
open Go.RowKit Go.Maps Go.Proofs.YtlndljgoliepdaaW.PrintWords Go.Proofs.YtlndljgoliepdaaW.PrintLast Go.Proofs.YtlndljgoliepdaaW.PrintMore
set_option linter.unusedSimpArgs false
set_option linter.unusedVariables false
section
set_option maxHeartbeats 1000000
set_option maxRecDepth 100000
theorem isKey (k : Int) (h : (Lit.int .u64 k).wf = true) : WideAt.IsKeyLit (.int .u64 k) := by trivial
theorem st_isMap {D : DataW Unit} (h : IsMap D) (k v : Int) : IsMap (st D k v) := by unfold st; split; exact h.del _; exact h.put _ _
theorem rd_st_same {D : DataW Unit} (h : IsMap D) (k v : Int) : rd (st D k v) k = v := by
  unfold rd st
  by_cases hv : v = 0
  · rw [if_pos hv, atKey_del_same, hv]
  · rw [if_neg hv, atKey_put_same h (by trivial)]
theorem rd_st_other {D : DataW Unit} {k k' : Int} (hne : k' ≠ k) (v : Int) : rd (st D k v) k' = rd D k' := by
  have h : Lit.int .u64 k' ≠ Lit.int .u64 k := fun e => hne (by injection e)
  unfold rd st
  by_cases hv : v = 0
  · rw [if_pos hv, atKey_del_other h]
  · rw [if_neg hv, atKey_put_other h]
/-- A word's i highest bytes. -/
def pre (x : Int) (i : Nat) : Int := x / 2 ^ (8 * (8 - i))
def bt (x : Int) (i : Nat) : Int := x / 2 ^ ((7 - i) * 8) % 256
theorem pre_zero {x : Int} (hx : (Lit.int .u64 x).wf = true) : (0 : Int) = pre x 0 := by
  have := u64_b hx
  unfold pre
  simp
  omega
theorem pre_eight (x : Int) : pre x 8 = x := by
  unfold pre
  simp
theorem pre_step {x : Int} (hx : (Lit.int .u64 x).wf = true) {i : Nat} (hi : i < 8) : IntKind.u64.wrap (IntKind.u64.wrap (256 * pre x i) + IntKind.u64.wrap (bt x i)) = pre x (i + 1) := by
  have := u64_b hx
  unfold IntKind.wrap pre bt
  simp only [IntKind.signed, IntKind.bits]
  match i, hi with
  | 0, _ | 1, _ | 2, _ | 3, _ | 4, _ | 5, _ | 6, _ | 7, _ => simp; omega
theorem byte_at_i {D : DataW Unit} {A x : Int} {i : Nat} (hA : A % 8 = 0) (hi : i < 8) (h : rd D (A / 8) = x) : byteAt D (A + i) = bt x i := by
  unfold byteAt bt
  have e1 : (A + i) / 8 = A / 8 := by omega
  have e2 : (A + i) % 8 = i := by omega
  rw [e1, e2, h]
  have e3 : ((7 - (i : Int)) * 8).toNat = (7 - i) * 8 := by omega
  rw [e3]
theorem round_ne (a b x y : Int) (w : World) (ha : (Lit.int .u64 a).wf = true) (hb : (Lit.int .u64 b).wf = true) (hx : (Lit.int .u64 x).wf = true) (hy : (Lit.int .u64 y).wf = true) (hne : (a % 1048576 * 8 == b % 1048576 * 8) = false) :
    Calls Try.prog 3 #[.int .u64 a, .int .u64 b, .int .u64 x, .int .u64 y] w fun e w' => e = .returned (.bool true) ∧ Below w.heap.size w w' := by
  have HB := Aside0.mk (Below.refl w.heap.size w)
  have ha0 := (u64_b ha).1
  have hb0 := (u64_b hb).1
  have hA : mayOf 16777216 (a % 1048576 * 8) 8 8 = 0 := by unfold mayOf; rw [if_neg (by omega), if_neg (by omega)]
  have hB : mayOf 16777216 (b % 1048576 * 8) 8 8 = 0 := by unfold mayOf; rw [if_neg (by omega), if_neg (by omega)]
  have HA := Aside0.mk hA
  have HBb := Aside0.mk hB
  clear hA hB
  have wA : (Lit.int .u64 (a % 1048576 * 8)).wf = true := WalkArith.wf_u64 (by omega)
  have wB : (Lit.int .u64 (b % 1048576 * 8)).wf = true := WalkArith.wf_u64 (by omega)
  have WA := Aside0.mk wA
  have WB := Aside0.mk wB
  clear wA wB
  have RA := Aside0.mk (show rd (st (st (.map []) (a % 1048576 * 8 / 8) x) (b % 1048576 * 8 / 8) y) (a % 1048576 * 8 / 8) = x by rw [rd_st_other (by have := beq_eq_false_iff_ne.mp hne; omega), rd_st_same isMap_empty])
  have RB := Aside0.mk (show rd (st (st (.map []) (a % 1048576 * 8 / 8) x) (b % 1048576 * 8 / 8) y) (b % 1048576 * 8 / 8) = y by rw [rd_st_same (st_isMap isMap_empty _ _)])
  go_enter Try.func3, Try.ntmps3
  go_wp2_with (first | (go_at_call 13; refine (new_calls HB.out (Nat.le_refl _) 16777216 (by decide) (by decide)).mono ?_; rintro e wn ⟨p, mb, rfl, hM, hg, hmb, hp⟩; have HP := Aside0.mk (And.intro hmb hp); clear hmb hp; have HM0 := Aside0.mk hM; have HG0 := Aside0.mk hg; clear hM hg ) | (go_at_call 14; refine (putWord_ok HM0.out _ WA.out _ hx (by omega) HA.out).mono ?_; rintro e w1 ⟨rfl, hM, hg⟩; have HM1 := Aside0.mk hM; have HG1 := Aside0.mk hg; clear hM hg HM0) | (go_at_call 14; refine (putWord_ok HM1.out _ WB.out _ hy (by omega) HBb.out).mono ?_; rintro e w2 ⟨rfl, hM, hg⟩; have HM2 := Aside0.mk hM; have HG2 := Aside0.mk hg; clear hM hg HM1) | (go_at_call 15; first | (refine (word_eq HM2.out _ WA.out HA.out x RA.out).mono ?_; rintro e w4 ⟨rfl, hM, hg⟩; have HM3 := Aside0.mk hM; have HG3 := Aside0.mk hg; clear hM hg HM2) | (refine (word_eq HM3.out _ WB.out HBb.out y RB.out).mono ?_; rintro e w5 ⟨rfl, hM, hg⟩; have HM4 := Aside0.mk hM; have HG4 := Aside0.mk hg; clear hM hg HM3)) | go_in)
  go_loopw [14, 15] (fun v14 v15 wr => ∃ i : Nat, v15 = .int .u64 i ∧ i ≤ 8 ∧ v14 = .int .u64 (pre x i) ∧ Aside0 (Mem w.heap.size w p mb 16777216 2 (st (st (.map []) (a % 1048576 * 8 / 8) x) (b % 1048576 * 8 / 8) y) wr)) (fun _ v15 _ => 8 - (intOf v15).toNat)
  case atStart => exact ⟨0, rfl, by omega, by rw [pre_zero hx], HM4⟩
  case round =>
    clear HM4
    obtain ⟨i, rfl, hi, rfl, HM⟩ := hrel
    by_cases h8 : i < 8
    · have h8' : (i : Int) < 8 := by omega
      have hb' : byteAt (st (st (.map []) (a % 1048576 * 8 / 8) x) (b % 1048576 * 8 / 8) y) (a % 1048576 * 8 + i) = bt x i := byte_at_i (by omega) h8 RA.out
      have HBY := Aside0.mk hb'
      clear hb'
      have HWI := Aside0.mk (show (Lit.int .u64 (a % 1048576 * 8 + i)).wf = true from WalkArith.wf_u64 (by omega))
      have HMI := Aside0.mk (show mayOf 16777216 (a % 1048576 * 8 + i) 1 1 = 0 by unfold mayOf; rw [if_neg (by omega), if_neg (by omega)])
      have HPS := Aside0.mk (pre_step hx h8)
      go_wp2_with (first | (go_at_call 16; refine (byte_eq HM.out _ HWI.out HMI.out (bt x i) HBY.out).mono ?_; rintro e w6 ⟨rfl, hM, hg⟩; have HM5 := Aside0.mk hM; have HG5 := Aside0.mk hg; clear hM hg HM) | go_in)
      go_roundw
      case rel => exact ⟨i + 1, by go_num, by omega, by rw [HPS.out], HM5⟩
      case measure => simp [intOf]; omega
    · obtain rfl : i = 8 := by omega
      have hp8 := pre_eight x
      go_wp2_with (first | (go_at_call 17; refine (lives_calls _).mono ?_; rintro e w7 ⟨rfl, hg⟩) | go_in)
      go_ret
      exact ⟨rfl, (HM.out.same hg).below⟩
theorem round_eq (a b x y : Int) (w : World) (ha : (Lit.int .u64 a).wf = true) (hb : (Lit.int .u64 b).wf = true) (hx : (Lit.int .u64 x).wf = true) (hy : (Lit.int .u64 y).wf = true) (hne : (a % 1048576 * 8 == b % 1048576 * 8) = true) :
    Calls Try.prog 3 #[.int .u64 a, .int .u64 b, .int .u64 x, .int .u64 y] w fun e w' => e = .returned (.bool true) ∧ Below w.heap.size w w' := by
  have HB := Aside0.mk (Below.refl w.heap.size w)
  have ha0 := (u64_b ha).1
  have hb0 := (u64_b hb).1
  have hA : mayOf 16777216 (a % 1048576 * 8) 8 8 = 0 := by unfold mayOf; rw [if_neg (by omega), if_neg (by omega)]
  have hB : mayOf 16777216 (((b % 1048576 * 8 + 8) % 8388608)) 8 8 = 0 := by unfold mayOf; rw [if_neg (by omega), if_neg (by omega)]
  have HA := Aside0.mk hA
  have HBb := Aside0.mk hB
  clear hA hB
  have wA : (Lit.int .u64 (a % 1048576 * 8)).wf = true := WalkArith.wf_u64 (by omega)
  have wB : (Lit.int .u64 (((b % 1048576 * 8 + 8) % 8388608))).wf = true := WalkArith.wf_u64 (by omega)
  have WA := Aside0.mk wA
  have WB := Aside0.mk wB
  clear wA wB
  have RA := Aside0.mk (show rd (st (st (.map []) (a % 1048576 * 8 / 8) x) (((b % 1048576 * 8 + 8) % 8388608) / 8) y) (a % 1048576 * 8 / 8) = x by rw [rd_st_other (by have := beq_iff_eq.mp hne; omega), rd_st_same isMap_empty])
  have RB := Aside0.mk (show rd (st (st (.map []) (a % 1048576 * 8 / 8) x) (((b % 1048576 * 8 + 8) % 8388608) / 8) y) (((b % 1048576 * 8 + 8) % 8388608) / 8) = y by rw [rd_st_same (st_isMap isMap_empty _ _)])
  go_enter Try.func3, Try.ntmps3
  go_wp2_with (first | (go_at_call 13; refine (new_calls HB.out (Nat.le_refl _) 16777216 (by decide) (by decide)).mono ?_; rintro e wn ⟨p, mb, rfl, hM, hg, hmb, hp⟩; have HP := Aside0.mk (And.intro hmb hp); clear hmb hp; have HM0 := Aside0.mk hM; have HG0 := Aside0.mk hg; clear hM hg ) | (go_at_call 14; refine (putWord_ok HM0.out _ WA.out _ hx (by omega) HA.out).mono ?_; rintro e w1 ⟨rfl, hM, hg⟩; have HM1 := Aside0.mk hM; have HG1 := Aside0.mk hg; clear hM hg HM0) | (go_at_call 14; refine (putWord_ok HM1.out _ WB.out _ hy (by omega) HBb.out).mono ?_; rintro e w2 ⟨rfl, hM, hg⟩; have HM2 := Aside0.mk hM; have HG2 := Aside0.mk hg; clear hM hg HM1) | (go_at_call 15; first | (refine (word_eq HM2.out _ WA.out HA.out x RA.out).mono ?_; rintro e w4 ⟨rfl, hM, hg⟩; have HM3 := Aside0.mk hM; have HG3 := Aside0.mk hg; clear hM hg HM2) | (refine (word_eq HM3.out _ WB.out HBb.out y RB.out).mono ?_; rintro e w5 ⟨rfl, hM, hg⟩; have HM4 := Aside0.mk hM; have HG4 := Aside0.mk hg; clear hM hg HM3)) | go_in)
  go_loopw [14, 15] (fun v14 v15 wr => ∃ i : Nat, v15 = .int .u64 i ∧ i ≤ 8 ∧ v14 = .int .u64 (pre x i) ∧ Aside0 (Mem w.heap.size w p mb 16777216 2 (st (st (.map []) (a % 1048576 * 8 / 8) x) (((b % 1048576 * 8 + 8) % 8388608) / 8) y) wr)) (fun _ v15 _ => 8 - (intOf v15).toNat)
  case atStart => exact ⟨0, rfl, by omega, by rw [pre_zero hx], HM4⟩
  case round =>
    clear HM4
    obtain ⟨i, rfl, hi, rfl, HM⟩ := hrel
    by_cases h8 : i < 8
    · have h8' : (i : Int) < 8 := by omega
      have hb' : byteAt (st (st (.map []) (a % 1048576 * 8 / 8) x) (((b % 1048576 * 8 + 8) % 8388608) / 8) y) (a % 1048576 * 8 + i) = bt x i := byte_at_i (by omega) h8 RA.out
      have HBY := Aside0.mk hb'
      clear hb'
      have HWI := Aside0.mk (show (Lit.int .u64 (a % 1048576 * 8 + i)).wf = true from WalkArith.wf_u64 (by omega))
      have HMI := Aside0.mk (show mayOf 16777216 (a % 1048576 * 8 + i) 1 1 = 0 by unfold mayOf; rw [if_neg (by omega), if_neg (by omega)])
      have HPS := Aside0.mk (pre_step hx h8)
      go_wp2_with (first | (go_at_call 16; refine (byte_eq HM.out _ HWI.out HMI.out (bt x i) HBY.out).mono ?_; rintro e w6 ⟨rfl, hM, hg⟩; have HM5 := Aside0.mk hM; have HG5 := Aside0.mk hg; clear hM hg HM) | go_in)
      go_roundw
      case rel => exact ⟨i + 1, by go_num, by omega, by rw [HPS.out], HM5⟩
      case measure => simp [intOf]; omega
    · obtain rfl : i = 8 := by omega
      have hp8 := pre_eight x
      go_wp2_with (first | (go_at_call 17; refine (lives_calls _).mono ?_; rintro e w7 ⟨rfl, hg⟩) | go_in)
      go_ret
      exact ⟨rfl, (HM.out.same hg).below⟩
theorem round_walk (a b x y : Int) (w : World) (ha : (Lit.int .u64 a).wf = true) (hb : (Lit.int .u64 b).wf = true) (hx : (Lit.int .u64 x).wf = true) (hy : (Lit.int .u64 y).wf = true) :
    Calls Try.prog 3 #[.int .u64 a, .int .u64 b, .int .u64 x, .int .u64 y] w fun e w' => e = .returned (.bool true) ∧ Below w.heap.size w w' := by
  cases h : (a % 1048576 * 8 == b % 1048576 * 8) with
  | true => exact round_eq a b x y w ha hb hx hy h
  | false => exact round_ne a b x y w ha hb hx hy h
end
end Go.Proofs.Ytlndljgoliepdaa.Mem
