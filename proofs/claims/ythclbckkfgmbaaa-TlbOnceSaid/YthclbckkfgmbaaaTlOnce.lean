/- TlbOnce: never is an address in a context two entries'; at whatever numbers. -/
import Derived.Test.YthclbckkfgmbaaaTl19
import Derived.Test.YthclbckkfgmbaaaTl17
namespace Go.Proofs.Ythclbckkfgmbaaa.QTlbPlays
open Go.RowKit Go.Proofs.YthclbckkfgmbaaaW.PrintWords Go.Proofs.YthclbckkfgmbaaaW.PrintLast Go.Proofs.YthclbckkfgmbaaaW.PrintMore
set_option linter.unusedSimpArgs false
set_option linter.unusedVariables false
section
set_option maxHeartbeats 1000000
set_option maxRecDepth 100000
theorem once_le {es : List (Option Ent)} (h : Inv es) (va ctx : Int) : ((listOf es).filter (fun e => hitsB e va ctx)).length ≤ 1 := by
  rw [← plL_filter]
  cases hl : plL es (fun e => hitsB e va ctx) with
  | nil => simp
  | cons i l =>
    obtain ⟨e, hx, hq⟩ := mem_plL.1 (show i ∈ plL es (fun e => hitsB e va ctx) by rw [hl]; exact List.mem_cons_self)
    rw [h.one hx hq] at hl
    cases hl
    simp
theorem once_own {es : List (Option Ent)} (h : Inv es) {e : Ent} (he : e ∈ listOf es) : ((listOf es).filter (fun b => hitsB b e.f2 e.f1)).length = 1 := by
  obtain ⟨i, hx⟩ := mem_listOf he
  rw [← plL_filter, h.one hx (hits_self (may_okS (ok_at h.ok hx).2))]
  rfl
theorem tlbOnce_calls (slots : Int) (a : Option Addr) (len cap : Nat) (va0 ctx0 : Int) (W : World) (hs : (Lit.int .i64 slots).wf = true) (hl : Deeds W a len ∧ len ≤ maxLen) (hva0 : (Lit.int .u64 va0).wf = true) (hc0 : (Lit.int .i64 ctx0).wf = true) :
    Calls Try.prog 7 #[.int .i64 slots, .slice a len cap, .int .u64 va0, .int .i64 ctx0] W fun x W' => x = .returned (.bool true) ∧ Below W.heap.size W W' := by
  have hu := Try.underlying26
  have hu2 := Try.underlying24
  have hu3 := Try.underlying54
  have HDS := Aside0.mk hl.1
  have HVA := Aside0.mk hva0
  have HLF := Aside0.mk lives_calls
  have hlm : len ≤ 9223372036854775807 := hl.2
  clear hl hva0 hs hc0
  by_cases h10 : slots > 10
  all_goals
    go_enter Try.func7, Try.ntmps7
    go_wp2_with fail
    refine (tl_new_ex (Below.refl W.heap.size W) (Nat.le_refl _) _).mono ?_
    rintro x0 w1 ⟨p, r, N, rfl, hN, hN1, hr0, hM, hg⟩
    have HM := Aside0.mk hM
    have hN64 : N ≤ 64 := by have := hM.len; simpa using this
    clear hM hg hr0
    go_wp2_with fail
    refine (lookasideref06_New.calls _ _ _ (refL_new _)).mono ?_
    rintro x0 w2 ⟨v0, rfl, hR, hb⟩
    have hg := below_grown hb
    have hV := Kd.V_mono (ok' := fun k => k ≠ r) (Kd.R_V (base' := 0) (Kd.R_bound hR)) (fun k hk e => by subst e; have := HM.out.rlt; have := hk.2.1; omega)
    obtain ⟨A, c, rfl⟩ := Kd.V_slice hV
    have HV := Aside0.mk hV
    replace HM := Aside0.mk (HM.out.same hg)
    clear hR hb hg hV
    rw [← hN] at HV
    have HRS := Aside0.mk (show Inv (List.replicate N (none : Option Ent)) ∧ 1 ≤ (List.replicate N (none : Option Ent)).length ∧ (List.replicate N (none : Option Ent)).length ≤ 64 ∧ ∀ i, (List.replicate N (none : Option Ent)).getD i none = none from ⟨inv_new N, by simpa using hN1, by simpa using hN64, rep_none N⟩)
    rw [← hN]
    have HINV := Aside0.mk (inv_new N)
    obtain ⟨es0, hes0⟩ : ∃ z, z = List.replicate N (none : Option Ent) := ⟨_, rfl⟩
    rw [← hes0] at HINV HM
    clear hes0
    generalize List.replicate N (none : Option Ent) = rs at HV HRS ⊢
    clear hN hN1 hN64
    go_wp2_with fail
    go_loopw [11] (fun v11 wr => ∃ (k : Nat) (es : List (Option Ent)), v11 = .int .i64 k ∧ k ≤ len ∧ k ≤ 40 ∧ Aside0 (Inv es) ∧ Aside0 (Tl W.heap.size W p r es wr) ∧ Aside0 (Kd.V k26 26 wr 0 (fun k => k ≠ r) (.slice A (refL rs).length c) (refL rs))) (fun v11 _ => 40 - (intOf v11).toNat)
    case atStart => exact ⟨0, es0, rfl, by omega, by omega, HINV, HM, HV⟩
    case round =>
      clear HM HV HINV
      obtain ⟨k, es, rfl, hk, hk25, HINV, HM, HV⟩ := hrel
      by_cases h12 : k < len ∧ k < 40
      · have h1 := h12.1
        have h1' : (k : Int) < (len : Int) := by omega
        have h2' : (k : Int) < 40 := by omega
        have h0' : (0 : Int) ≤ (k : Int) := by omega
        obtain ⟨y, kd, n, cx, va, e, raw, rfl, hd⟩ := HDS.out.at k h1
        have HDA := Aside0.mk (hd.grown (below_grown HM.out.below))
        clear hd
        obtain ⟨hn, hva, he, c0, c1, c2, c3, c4, c5, c6, c7, c8, c9, c10, c11, c12, c13, c14, c15⟩ := HDA.out
        have HW3 := Aside0.mk (And.intro hn (And.intro hva he))
        clear hn hva he HDA
        go_wp2_with fail
        refine (once_any HM.out HINV.out HRS.out.1 HRS.out.2.1 HRS.out.2.2.1 HRS.out.2.2.2 A c HV.out kd n cx va e raw HW3.out.1 HW3.out.2.1 HW3.out.2.2).mono ?_
        rintro x0 wd ⟨v', bb, es2, rfl, hinv, hlen, hM, hg⟩
        have HINV2 := Aside0.mk hinv
        replace HM := Aside0.mk hM
        replace HV := Aside0.mk (Kd.V_grown HV.out hg (fun k hk e => hk (Option.some.inj e)))
        clear c0 c1 c2 c3 c4 c5 c6 c7 c8 c9 c10 c11 c12 c13 c14 c15 hinv hlen hM hg HINV
        go_wp2_with fail
        refine (tl_list HM.out).mono ?_
        rintro x0 w3 ⟨⟨v0, rfl, hO⟩, hg⟩
        have hV := Kd.V_mono (ok' := fun k => k ≠ r) (Kd.R_V (base' := 0) (Kd.R_bound hO)) (fun k hk e => by subst e; have := HM.out.rlt; have := hk.2.1; omega)
        obtain ⟨A1, cc1, rfl⟩ := Kd.V_slice hV
        have HL := Aside0.mk hV
        replace HM := Aside0.mk (HM.out.same hg)
        replace HV := Aside0.mk (Kd.V_grown HV.out hg (by simp))
        clear hO hg hV
        have HWW := Aside0.mk (fun e (he : e ∈ listOf es2) => (ok_at HINV2.out.ok (mem_listOf he).choose_spec).1)
        have HC1 := Aside0.mk (fun va ctx => once_le HINV2.out va ctx)
        have HC2 := Aside0.mk (fun e (he : e ∈ listOf es2) => once_own HINV2.out he)
        have hll := Nat.le_trans (list_le es2) HM.out.len
        generalize listOf es2 = L at HL HWW HC1 HC2 hll ⊢
        go_wp2_with fail
        go_loopw [13] (fun v13 w2 => ∃ (j : Nat), v13 = .int .i64 j ∧ j ≤ L.length + 1 ∧ Aside0 (Tl W.heap.size W p r es2 w2) ∧ Aside0 (Kd.V k26 26 w2 0 (fun k => k ≠ r) (.slice A1 L.length cc1) L) ∧ Aside0 (Kd.V k26 26 w2 0 (fun k => k ≠ r) (.slice A (refL rs).length c) (refL rs))) (fun v13 _ => L.length + 1 - (intOf v13).toNat)
        case atStart => exact ⟨0, rfl, by omega, HM, HL, HV⟩
        case round =>
          clear HM HL HV
          obtain ⟨j, rfl, hj, HM, HL, HV⟩ := hrel
          by_cases hj2 : j < L.length
          · have hj2' : (j : Int) < (L.length : Int) := by omega
            have hj3' : (j : Int) ≤ (L.length : Int) := by omega
            have hj0 : (0 : Int) ≤ (j : Int) := by omega
            obtain ⟨ad0, hA0, he⟩ := V_row HL.out j hj2
            have HME := Aside0.mk (show L.getD j zE ∈ L by simp [List.getD, hj2])
            generalize L.getD j zE = z at HME he
            have HCO := Aside0.mk (HC2.out z HME.out)
            have HWZ := Aside0.mk (HWW.out z HME.out)
            subst hA0
            obtain ⟨c0, c1, c2, c3, c4, c5, c6, c7, c8, c9, c10⟩ := he
            go_wp2_with fail
            go_loopw [16, 17] (fun v16 v17 w3 => ∃ (b cn : Nat), v17 = .int .i64 b ∧ b ≤ L.length ∧ v16 = .int .i64 cn ∧ cn ≤ b ∧ Aside0 (((L.take b).filter (fun e => hitsB e z.f2 z.f1)).length = cn) ∧ Aside0 (Tl W.heap.size W p r es2 w3) ∧ Aside0 (Kd.V k26 26 w3 0 (fun k => k ≠ r) (.slice (some ad0) L.length cc1) L) ∧ Aside0 (Kd.V k26 26 w3 0 (fun k => k ≠ r) (.slice A (refL rs).length c) (refL rs))) (fun _ v17 _ => L.length - (intOf v17).toNat)
            case atStart => exact ⟨0, 0, rfl, by omega, rfl, by omega, ⟨by simp⟩, HM, HL, HV⟩
            case round =>
              clear HM HL HV
              obtain ⟨b, cn, rfl, hb, rfl, hcn, HCN, HM, HL, HV⟩ := hrel
              by_cases hb2 : b < L.length
              · have hb2' : (b : Int) < (L.length : Int) := by omega
                have hb0 : (0 : Int) ≤ (b : Int) := by omega
                obtain ⟨ad, hA, he⟩ := V_row HL.out b hb2
                have HME := Aside0.mk (show L.getD b zE ∈ L by simp [List.getD, hb2])
                have HTK := Aside0.mk (show L.take (b + 1) = L.take b ++ [L.getD b zE] by rw [List.take_succ_eq_append_getElem hb2]; simp [List.getD, hb2])
                generalize L.getD b zE = x at HME HTK he
                first | subst hA | cases hA
                obtain ⟨c0, c1, c2, c3, c4, c5, c6, c7, c8, c9, c10⟩ := he
                have HWE := Aside0.mk (HWW.out x HME.out)
                go_wp2_with fail
                refine (rhits_calls HWE.out HWZ.out.v z.f1 _).mono ?_
                rintro x0 w6 ⟨rfl, hg⟩
                replace HM := Aside0.mk (HM.out.same hg)
                replace HL := Aside0.mk (Kd.V_grown HL.out hg (by simp))
                replace HV := Aside0.mk (Kd.V_grown HV.out hg (by simp))
                clear hg c0 c1 c2 c3 c4 c5 c6 c7 c8 c9 c10
                cases hq : hitsB x z.f2 z.f1 with
                | true =>
                  have HCN2 := Aside0.mk (show ((L.take (b + 1)).filter (fun e => hitsB e z.f2 z.f1)).length = cn + 1 by rw [HTK.out, List.filter_append, List.length_append, HCN.out]; simp [hq])
                  clear hq
                  go_wp2_with fail
                  go_roundw
                  case rel => exact ⟨b + 1, cn + 1, by go_num, by omega, by go_num, by omega, HCN2, HM, HL, HV⟩
                  case measure => first | (simp [intOf]; done) | (simp [intOf]; omega)
                | false =>
                  have HCN2 := Aside0.mk (show ((L.take (b + 1)).filter (fun e => hitsB e z.f2 z.f1)).length = cn by rw [HTK.out, List.filter_append, List.length_append, HCN.out]; simp [hq])
                  clear hq
                  go_wp2_with fail
                  go_roundw
                  case rel => exact ⟨b + 1, cn, by go_num, by omega, rfl, by omega, HCN2, HM, HL, HV⟩
                  case measure => first | (simp [intOf]; done) | (simp [intOf]; omega)
              · obtain rfl : b = L.length := by omega
                have hcn2 := HCN.out
                rw [List.take_length] at hcn2
                rw [HCO.out] at hcn2
                subst hcn2
                go_wp2_with fail
                go_roundw
                case rel => exact ⟨j + 1, by go_num, by omega, HM, HL, HV⟩
                case measure => first | (simp [intOf]; done) | (simp [intOf]; omega)
          · by_cases hj4 : j = L.length
            · subst hj4
              go_wp2_with fail
              go_loopw [16, 17] (fun v16 v17 w3 => ∃ (b cn : Nat), v17 = .int .i64 b ∧ b ≤ L.length ∧ v16 = .int .i64 cn ∧ cn ≤ b ∧ Aside0 (((L.take b).filter (fun e => hitsB e va0 ctx0)).length = cn) ∧ Aside0 (Tl W.heap.size W p r es2 w3) ∧ Aside0 (Kd.V k26 26 w3 0 (fun k => k ≠ r) (.slice A1 L.length cc1) L) ∧ Aside0 (Kd.V k26 26 w3 0 (fun k => k ≠ r) (.slice A (refL rs).length c) (refL rs))) (fun _ v17 _ => L.length - (intOf v17).toNat)
              case atStart => exact ⟨0, 0, rfl, by omega, rfl, by omega, ⟨by simp⟩, HM, HL, HV⟩
              case round =>
                clear HM HL HV
                obtain ⟨b, cn, rfl, hb, rfl, hcn, HCN, HM, HL, HV⟩ := hrel
                by_cases hb2 : b < L.length
                · have hb2' : (b : Int) < (L.length : Int) := by omega
                  have hb0 : (0 : Int) ≤ (b : Int) := by omega
                  obtain ⟨ad, hA, he⟩ := V_row HL.out b hb2
                  have HME := Aside0.mk (show L.getD b zE ∈ L by simp [List.getD, hb2])
                  have HTK := Aside0.mk (show L.take (b + 1) = L.take b ++ [L.getD b zE] by rw [List.take_succ_eq_append_getElem hb2]; simp [List.getD, hb2])
                  generalize L.getD b zE = x at HME HTK he
                  first | subst hA | cases hA
                  obtain ⟨c0, c1, c2, c3, c4, c5, c6, c7, c8, c9, c10⟩ := he
                  have HWE := Aside0.mk (HWW.out x HME.out)
                  go_wp2_with fail
                  refine (rhits_calls HWE.out HVA.out ctx0 _).mono ?_
                  rintro x0 w6 ⟨rfl, hg⟩
                  replace HM := Aside0.mk (HM.out.same hg)
                  replace HL := Aside0.mk (Kd.V_grown HL.out hg (by simp))
                  replace HV := Aside0.mk (Kd.V_grown HV.out hg (by simp))
                  clear hg c0 c1 c2 c3 c4 c5 c6 c7 c8 c9 c10
                  cases hq : hitsB x va0 ctx0 with
                  | true =>
                    have HCN2 := Aside0.mk (show ((L.take (b + 1)).filter (fun e => hitsB e va0 ctx0)).length = cn + 1 by rw [HTK.out, List.filter_append, List.length_append, HCN.out]; simp [hq])
                    clear hq
                    go_wp2_with fail
                    go_roundw
                    case rel => exact ⟨b + 1, cn + 1, by go_num, by omega, by go_num, by omega, HCN2, HM, HL, HV⟩
                    case measure => first | (simp [intOf]; done) | (simp [intOf]; omega)
                  | false =>
                    have HCN2 := Aside0.mk (show ((L.take (b + 1)).filter (fun e => hitsB e va0 ctx0)).length = cn by rw [HTK.out, List.filter_append, List.length_append, HCN.out]; simp [hq])
                    clear hq
                    go_wp2_with fail
                    go_roundw
                    case rel => exact ⟨b + 1, cn, by go_num, by omega, rfl, by omega, HCN2, HM, HL, HV⟩
                    case measure => first | (simp [intOf]; done) | (simp [intOf]; omega)
                · obtain rfl : b = L.length := by omega
                  have hcn2 := HCN.out
                  rw [List.take_length] at hcn2
                  have hcl := HC1.out va0 ctx0
                  rw [hcn2] at hcl
                  have hcl' : (cn : Int) ≤ 1 := by omega
                  clear hcn2
                  go_wp2_with fail
                  go_roundw
                  case rel => exact ⟨L.length + 1, by go_num, by omega, HM, HL, HV⟩
                  case measure => first | (simp [intOf]; done) | (simp [intOf]; omega)
            · obtain rfl : j = L.length + 1 := by omega
              have hjn : decide ((L.length : Int) + 1 ≤ (L.length : Int)) = false := decide_eq_false (by omega)
              go_wp2_with fail
              go_roundw
              case rel => exact ⟨k + 1, es2, by go_num, by omega, by omega, HINV2, HM, HV⟩
              case measure => first | (simp [intOf]; done) | (simp [intOf]; omega)
      · have hex : (k = 40 ∧ (40 : Int) < (len : Int)) ∨ k = len := by omega
        rcases hex with ⟨rfl, h1q⟩ | rfl
        all_goals
          go_wp2_with fail
          refine (HLF.out _).mono ?_
          rintro x0 wl ⟨rfl, hg⟩
          have HE := Aside0.mk (HM.out.same hg).below
          clear hg
          go_wp2
          go_ret
          exact ⟨rfl, HE.out⟩
end
end Go.Proofs.Ythclbckkfgmbaaa.QTlbPlays
