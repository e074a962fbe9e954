/- TlbPlays: whatever is done to a TLB, it answers, and has, what the document says; at whatever numbers. -/
import Derived.Test.YthclbckkfgmbaaaTlLike
namespace Go.Proofs.Ythclbckkfgmbaaa.QTlbPlays
open Go.RowKit Go.Proofs.YthclbckkfgmbaaaW.PrintWords Go.Proofs.YthclbckkfgmbaaaW.PrintLast Go.Proofs.YthclbckkfgmbaaaW.PrintMore
set_option linter.unusedSimpArgs false
set_option linter.unusedVariables false
section
set_option maxHeartbeats 1000000
set_option maxRecDepth 100000
theorem tlbPlays_calls (slots : Int) (a : Option Addr) (len cap : Nat) (W : World) (hs : (Lit.int .i64 slots).wf = true) (hl : Deeds W a len ∧ len ≤ maxLen) :
    Calls Try.prog 9 #[.int .i64 slots, .slice a len cap] W fun x W' => x = .returned (.bool true) ∧ Below W.heap.size W W' := by
  have hu := Try.underlying26
  have hu2 := Try.underlying24
  have hu3 := Try.underlying54
  have HDS := Aside0.mk hl.1
  have HLF := Aside0.mk lives_calls
  have hlm : len ≤ 9223372036854775807 := hl.2
  clear hl hs
  by_cases h10 : slots > 10
  all_goals
    go_enter Try.func9, Try.ntmps9
    go_wp2_with fail
    refine (tl_new_ex (Below.refl W.heap.size W) (Nat.le_refl _) _).mono ?_
    rintro x0 w1 ⟨p, r, N, rfl, hN, hN1, hr0, hM, hg⟩
    have HM := Aside0.mk hM
    clear hM hg hr0
    go_wp2_with fail
    refine (lookasideref06_New.calls _ _ _ (refL_new _)).mono ?_
    rintro x0 w2 ⟨v0, rfl, hR, hb⟩
    have hg := below_grown hb
    have hV := Kd.V_mono (ok' := fun k => k ≠ r) (Kd.R_V (base' := 0) (Kd.R_bound hR)) (fun k hk e => by subst e; have := HM.out.rlt; have := hk.2.1; omega)
    obtain ⟨A, c, rfl⟩ := Kd.V_slice hV
    have HV := Aside0.mk hV
    replace HM := Aside0.mk (HM.out.same hg)
    clear hR hb hg hV
    rw [← hN] at HV
    go_wp2_with fail
    go_loopw [6, 7] (fun v6 v7 wr => ∃ (k : Nat) (es : List (Option Ent)) (A : Option Addr) (c : Nat), v7 = .int .i64 k ∧ v6 = .slice A (refL es).length c ∧ k ≤ len ∧ k ≤ 40 ∧ Aside0 (es.length = N) ∧ Aside0 (Inv es) ∧ Aside0 (Tl W.heap.size W p r es wr) ∧ Aside0 (Kd.V k26 26 wr 0 (fun k => k ≠ r) (.slice A (refL es).length c) (refL es))) (fun _ v7 _ => 40 - (intOf v7).toNat)
    case atStart => exact ⟨0, _, A, c, rfl, by rw [← hN], by omega, by omega, ⟨by simp⟩, ⟨inv_new N⟩, HM, HV⟩
    case round =>
      clear HM HV
      obtain ⟨k, es, A, c, rfl, rfl, hk, hk25, HLN, HINV, HM, HV⟩ := hrel
      by_cases h12 : k < len ∧ k < 40
      · have h1 := h12.1
        have h1' : (k : Int) < (len : Int) := by omega
        have h2' : (k : Int) < 40 := by omega
        have h0' : (0 : Int) ≤ (k : Int) := by omega
        obtain ⟨y, kd, n, cx, va, e, raw, rfl, hd⟩ := HDS.out.at k h1
        have HDA := Aside0.mk (hd.grown (below_grown HM.out.below))
        clear hd
        obtain ⟨hn, hva, he, c0, c1, c2, c3, c4, c5, c6, c7, c8, c9, c10, c11, c12, c13, c14, c15⟩ := HDA.out
        have HW3 := Aside0.mk (And.intro hn (And.intro hva he))
        clear hn hva he HDA
        go_wp2_with fail
        refine (does_any HM.out HINV.out A c HV.out kd n cx va e raw HW3.out.1 HW3.out.2.1 HW3.out.2.2).mono ?_
        rintro x0 wd ⟨v', es2, rfl, hinv, hlen, hM, hV, hg⟩
        obtain ⟨A9, cc9, rfl⟩ := Kd.V_slice hV
        have HINV2 := Aside0.mk hinv
        have HLN2 := Aside0.mk (hlen.trans HLN.out)
        have HM2 := Aside0.mk hM
        have HV2 := Aside0.mk hV
        clear c0 c1 c2 c3 c4 c5 c6 c7 c8 c9 c10 c11 c12 c13 c14 c15 hinv hlen hM hV
        clear hg
        go_wp2_with fail
        refine (like_calls HM2.out HINV2.out A9 cc9 HV2.out).mono ?_
        rintro x0 wk ⟨rfl, hg⟩
        replace HM2 := Aside0.mk (HM2.out.same hg)
        replace HV2 := Aside0.mk (Kd.V_grown HV2.out hg (by simp))
        clear hg
        go_wp2_with fail
        go_roundw
        case rel => exact ⟨k + 1, es2, A9, cc9, by go_num, rfl, by omega, by omega, HLN2, HINV2, HM2, HV2⟩
        case measure => simp [intOf]; omega
      · have hex : (k = 40 ∧ (40 : Int) < (len : Int)) ∨ k = len := by omega
        rcases hex with ⟨rfl, h1q⟩ | rfl
        all_goals
          go_wp2_with fail
          refine (HLF.out _).mono ?_
          rintro x0 wl ⟨rfl, hg⟩
          have HE := Aside0.mk (HM.out.same hg).below
          clear hg
          go_wp2
          go_ret
          exact ⟨rfl, HE.out⟩
end
end Go.Proofs.Ythclbckkfgmbaaa.QTlbPlays
