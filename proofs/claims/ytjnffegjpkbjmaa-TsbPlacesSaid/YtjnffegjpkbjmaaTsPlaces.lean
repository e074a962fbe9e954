/- TsbPlaces: where a TSB may be, and how many places it has, is told as the document says; it is locked at first. -/
import Derived.Test.YtjnffegjpkbjmaaTsLk
import Derived.Test.YtjnffegjpkbjmaaTsLR
import Derived.Test.YtjnffegjpkbjmaaTsP3
import Derived.Deep.Onto
namespace Go.Proofs.Ytjnffegjpkbjmaa.Mem
open Go.RowKit Go.Maps Go.Shelf Go.Proofs.YtjnffegjpkbjmaaW.PrintWords Go.Proofs.YtjnffegjpkbjmaaW.PrintLast Go.Proofs.YtjnffegjpkbjmaaW.PrintMore Go.Proofs.Ytjnffegjpkbjmaa.QTsbPlays Go.Proofs.Ytjnffegjpkbjmaa.Pure
set_option linter.unusedSimpArgs false
set_option linter.unusedVariables false
section
set_option maxHeartbeats 2000000
set_option maxRecDepth 100000
theorem tnew_bad {B : Nat} {w0 W : World} {p mb sz n : Nat} {D : DataW Unit} (h : Mem B w0 p mb (sz : Int) n D W) (hsz : sz ≤ 2199023255552) (base : Nat) (hb : base < 18446744073709551616) (size grade : Int) (c : Int) (hw : whyOf sz base (plcW size grade) = c) (hc : c ≠ 0) :
    Calls Try.prog 38 #[.pointer (some ⟨p, 0, none⟩), .int .u64 base, .int .i64 size, .int .i64 grade] W fun e W' => e = .returned (.tuple #[.pointer none, .int .i64 c]) ∧ W.grownBy W' none := by
  have hn := plcW_le size grade
  have HM := Aside0.mk h
  have HPL := Aside0.mk (pPlacesA size grade)
  clear h
  generalize plcW size grade = N at hw hn HPL
  have HSZ := Aside0.mk (show ∀ W', W.grownBy W' none → Calls Try.prog 74 #[.pointer (some ⟨p, 0, none⟩)] W' fun e W2 => e = .returned (.int .u64 (sz : Int)) ∧ W'.grownBy W2 none from fun W' hg => memSize_calls (HM.out.same hg))
  have HG := Aside0.mk (grown_refl W none)
  have hw1 : IntKind.i64.wrap (16 * (N : Int)) = 16 * (N : Int) := IntWalk.i64_in _ (by omega)
  have hw2 : IntKind.u64.wrap (16 * (N : Int)) = 16 * (N : Int) := by rw [IntKind.wrap_u64]; omega
  clear HM
  unfold whyOf at hw
  by_cases h0 : N = 0
  · rw [if_pos h0] at hw
    subst hw
    have hN0 : ((N : Int) == 0) = true := by rw [h0]; rfl
    go_enter Try.func38, Try.ntmps38
    go_wp2_with fail
    refine (tsb_Places.calls size grade N _ HPL.out).mono ?_
    rintro x0 w1 ⟨rfl, hd⟩
    have hg := drawn_grown hd
    clear hd
    go_wp2
    exact bodyPost_ret (v := .tuple #[.pointer none, .int .i64 1]) (by simp [results, Try.f38, go_sem]) rfl ⟨rfl, hg⟩
  · rw [if_neg h0] at hw
    have hN0 : ((N : Int) == 0) = false := beq_eq_false_iff_ne.2 (by omega)
    by_cases h1 : base % 16 = 0
    · rw [if_neg (by omega)] at hw
      have hm : ((base : Int) % 16 != 0) = false := bne_eq_false_iff_eq.2 (by omega)
      by_cases h2 : 16 * N > sz
      · rw [if_pos (.inl h2)] at hw
        subst hw
        have hlt : (16 * (N : Int) > (sz : Int)) = True := by simp; omega
        go_enter Try.func38, Try.ntmps38
        go_wp2_with fail
        refine (tsb_Places.calls size grade N _ HPL.out).mono ?_
        rintro x0 w1 ⟨rfl, hd⟩
        replace HG := Aside0.mk (grown_two HG.out (drawn_grown hd))
        clear hd
        go_wp2_with (go_at_call 74; refine (HSZ.out _ HG.out).mono ?_; rintro e wn ⟨rfl, hg⟩; replace HG := Aside0.mk (grown_two HG.out hg); clear hg)
        exact bodyPost_ret (v := .tuple #[.pointer none, .int .i64 5]) (by simp [results, Try.f38, go_sem]) rfl ⟨rfl, HG.out⟩
      · have hw3 : IntKind.u64.wrap ((sz : Int) - 16 * (N : Int)) = (sz : Int) - 16 * (N : Int) := by rw [IntKind.wrap_u64]; omega
        have hlt : (16 * (N : Int) > (sz : Int)) = False := by simp; omega
        by_cases h3 : base > sz - 16 * N
        · rw [if_pos (.inr h3)] at hw
          subst hw
          have hlt2 : ((base : Int) > (sz : Int) - 16 * (N : Int)) = True := by simp; omega
          go_enter Try.func38, Try.ntmps38
          go_wp2_with fail
          refine (tsb_Places.calls size grade N _ HPL.out).mono ?_
          rintro x0 w1 ⟨rfl, hd⟩
          replace HG := Aside0.mk (grown_two HG.out (drawn_grown hd))
          clear hd
          go_wp2_with (go_at_call 74; refine (HSZ.out _ HG.out).mono ?_; rintro e wn ⟨rfl, hg⟩; replace HG := Aside0.mk (grown_two HG.out hg); clear hg)
          exact bodyPost_ret (v := .tuple #[.pointer none, .int .i64 5]) (by simp [results, Try.f38, go_sem]) rfl ⟨rfl, HG.out⟩
        · rw [if_neg (by omega)] at hw
          exact absurd hw.symm hc
    · rw [if_pos h1] at hw
      subst hw
      have hm : ((base : Int) % 16 != 0) = true := bne_iff_ne.2 (by omega)
      go_enter Try.func38, Try.ntmps38
      go_wp2_with fail
      refine (tsb_Places.calls size grade N _ HPL.out).mono ?_
      rintro x0 w1 ⟨rfl, hd⟩
      have hg := drawn_grown hd
      clear hd
      go_wp2
      exact bodyPost_ret (v := .tuple #[.pointer none, .int .i64 4]) (by simp [results, Try.f38, go_sem]) rfl ⟨rfl, hg⟩
theorem listX_none (N s : Nat) (is : List Nat) : listX N s (fun _ => (BADW, 0)) is = [] := by
  unfold listX
  rw [List.filterMap_eq_nil_iff]
  intro i _
  exact ownW_bad N s i 0
theorem lockX_all (is : List Nat) : lockX (fun _ => (BADW, 0)) is = is.length := by
  unfold lockX
  simp
theorem tbase_calls {W pt p} {base : Int} {N : Nat} {size grade : Int} (kt : W.heap[pt]? = some (.cells (TCs p base N size grade) 95 (0, 0))) : Calls Try.prog 18 #[.pointer (some ⟨pt, 0, none⟩)] W fun e W' => e = .returned (.int .u64 base) ∧ W.grownBy W' none := by
  obtain ⟨y0, y1, y2, y3, y4⟩ := cz5 kt
  clear kt
  go_enter Try.func18, Try.ntmps18
  go_wp2
  go_ret
  exact ⟨rfl, grown_refl _ _⟩
theorem tgrade_calls {W pt p} {base : Int} {N : Nat} {size grade : Int} (kt : W.heap[pt]? = some (.cells (TCs p base N size grade) 95 (0, 0))) : Calls Try.prog 41 #[.pointer (some ⟨pt, 0, none⟩)] W fun e W' => e = .returned (.int .i64 grade) ∧ W.grownBy W' none := by
  obtain ⟨y0, y1, y2, y3, y4⟩ := cz5 kt
  clear kt
  go_enter Try.func41, Try.ntmps41
  go_wp2
  go_ret
  exact ⟨rfl, grown_refl _ _⟩
theorem tsbPlaces_calls (bytes base size grade : Int) (W : World) (hby : (Lit.int .u64 bytes).wf = true) (hba : (Lit.int .u64 base).wf = true) (hs : (Lit.int .i64 size).wf = true) (hgr : (Lit.int .i64 grade).wf = true) :
    Calls Try.prog 7 #[.int .u64 bytes, .int .u64 base, .int .i64 size, .int .i64 grade] W fun e W' => e = .returned (.bool true) ∧ Below W.heap.size W W' := by
  obtain ⟨bytes, rfl⟩ := Int.eq_ofNat_of_zero_le (m_u64 hby).1
  obtain ⟨base, rfl⟩ := Int.eq_ofNat_of_zero_le (m_u64 hba).1
  have hbl : base < 18446744073709551616 := by have := (m_u64 hba).2; omega
  obtain ⟨sz, hsz⟩ : ∃ sz, sz = bytes % 200001 := ⟨_, rfl⟩
  have hszl : sz < 200001 := by omega
  have htm : Int.tmod (bytes : Int) 200001 = (sz : Int) := by rw [hsz]; rfl
  have HG := Aside0.mk (grown_refl W none)
  have HPL := Aside0.mk (pPlacesA size grade)
  have HRL := Aside0.mk (rPlacesA size grade)
  have HWY := Aside0.mk (rWhy sz base (by omega) hbl size grade)
  have HZW := Aside0.mk (show (Lit.int .u64 (sz : Int)).wf = true from wfN (by omega))
  clear hby hba hs hgr hsz
  obtain ⟨c, hc⟩ : ∃ c, c = whyOf sz base (plcW size grade) := ⟨_, rfl⟩
  have HC := Aside0.mk hc.symm
  rw [← hc] at HWY
  clear hc
  by_cases hc0 : c = 0
  · subst hc0
    obtain ⟨h1, h2, h3⟩ : plcW size grade ≠ 0 ∧ base % 16 = 0 ∧ base + 16 * plcW size grade ≤ sz := by
      have h := HC.out
      unfold whyOf at h
      split at h
      · cases h
      · split at h
        · cases h
        · split at h
          · cases h
          · omega
    obtain ⟨s, g, hs, hg, hse, hge, hpw⟩ := plcW_pos h1
    have hb := plcs_le s g hs hg
    have HTB := Aside0.mk (show TB base (plcW size grade) s (sz : Int) from by
      rw [hpw]
      rw [hpw] at h3
      exact ⟨hs, hb.1, hb.2, h2, by omega, by omega, plcs_mod s g hs hg⟩)
    have hNl := plcW_le size grade
    have HSE := Aside0.mk hse
    clear HC hpw hb hse hge hs hg
    generalize plcW size grade = N at HPL HRL HWY HTB hNl h1 h3
    go_enter Try.func7, Try.ntmps7
    go_wp2_with fail
    refine (new_calls (Below.refl W.heap.size W) (Nat.le_refl _) (sz : Int) HZW.out (by omega)).mono ?_
    rintro x0 w1 ⟨p, mb, rfl, hM, hg, hmb, hp⟩
    have HM := Aside0.mk hM
    have HMB := Aside0.mk hmb
    replace HG := Aside0.mk (grown_two HG.out hg)
    clear hM hg hmb hp
    go_wp2_with fail
    refine (lookasideref10_Why.calls _ _ _ _ _ _ HWY.out).mono ?_
    rintro x0 w2 ⟨rfl, hb⟩
    have hg := below_grown hb
    replace HG := Aside0.mk (grown_two HG.out hg)
    replace HM := Aside0.mk (HM.out.same hg)
    clear hb hg
    go_wp2_with fail
    refine (tnew_calls (base := (base : Int)) (N := N) HM.out HPL.out (by omega) (by omega) (by omega) (by omega) (by omega) (by omega) (by omega)).mono ?_
    rintro x0 w3 ⟨pt, rfl, hM, hT, hpt, hg⟩
    rw [HSE.out] at hT
    have HD := Aside0.mk (cleared HTB.out (.map []) isMap_empty)
    have HT := Aside0.mk hT
    replace HG := Aside0.mk (grown_loc HG.out hg HMB.out)
    replace HM := Aside0.mk hM
    clear hM hT hpt hg h1 h2 h3
    have hNe : ((N : Int) != (N : Int)) = false := by simp
    go_wp2_with (first | (go_at_call 39; refine (tsb_Places.calls size grade _ _ HPL.out).mono ?_; rintro e wn ⟨rfl, hd⟩; have hg := drawn_grown hd; replace HG := Aside0.mk (grown_two HG.out hg); replace HM := Aside0.mk (HM.out.same hg); replace HT := Aside0.mk (blk_grown HT.out hg); clear hg hd) | (go_at_call 40; refine (lookasideref10_Places.calls size grade _ _ HRL.out).mono ?_; rintro e wn ⟨rfl, hd⟩; have hg := below_grown hd; replace HG := Aside0.mk (grown_two HG.out hg); replace HM := Aside0.mk (HM.out.same hg); replace HT := Aside0.mk (blk_grown HT.out hg); clear hg hd) | (go_at_call 17; refine (tlen_calls HT.out).mono ?_; rintro e wn ⟨rfl, hg⟩; replace HG := Aside0.mk (grown_two HG.out hg); replace HM := Aside0.mk (HM.out.same hg); replace HT := Aside0.mk (blk_grown HT.out hg); clear hg) | (go_at_call 18; refine (tbase_calls HT.out).mono ?_; rintro e wn ⟨rfl, hg⟩; replace HG := Aside0.mk (grown_two HG.out hg); replace HM := Aside0.mk (HM.out.same hg); replace HT := Aside0.mk (blk_grown HT.out hg); clear hg) | (go_at_call 41; refine (tgrade_calls HT.out).mono ?_; rintro e wn ⟨rfl, hg⟩; replace HG := Aside0.mk (grown_two HG.out hg); replace HM := Aside0.mk (HM.out.same hg); replace HT := Aside0.mk (blk_grown HT.out hg); clear hg) | (go_at_call 42; refine (locked_calls HTB.out HM.out HD.out HT.out).mono ?_; rintro e wn ⟨hx, hg⟩; rw [lockX_all, List.length_range] at hx; subst hx; replace HG := Aside0.mk (grown_two HG.out hg); replace HM := Aside0.mk (HM.out.same hg); replace HT := Aside0.mk (blk_grown HT.out hg); clear hg) | (go_at_call 34; refine (q_list HTB.out HM.out HD.out HT.out).mono ?_; rintro e wn ⟨v, rfl, hR, hg⟩; rw [show listW N s (fun _ => (BADW, 0)) = [] from listX_none _ _ _] at hR; obtain ⟨A1, c1, rfl⟩ := Kd.R_slice hR; clear hR; replace HG := Aside0.mk (grown_two HG.out hg); replace HM := Aside0.mk (HM.out.same hg); replace HT := Aside0.mk (blk_grown HT.out hg); clear hg) | (go_at_call 26; refine (lives10 _).mono ?_; rintro e wn ⟨rfl, hg⟩; replace HG := Aside0.mk (grown_two HG.out hg); clear hg))
    go_ret
    exact ⟨rfl, below_of_grown HG.out⟩
  · have hcb : (c == 0) = false := beq_eq_false_iff_ne.2 hc0
    have hcn : (c != 0) = true := bne_iff_ne.2 hc0
    go_enter Try.func7, Try.ntmps7
    go_wp2_with fail
    refine (new_calls (Below.refl W.heap.size W) (Nat.le_refl _) (sz : Int) HZW.out (by omega)).mono ?_
    rintro x0 w1 ⟨p, mb, rfl, hM, hg, hmb, hp⟩
    have HM := Aside0.mk hM
    replace HG := Aside0.mk (grown_two HG.out hg)
    clear hM hg hmb hp
    go_wp2_with fail
    refine (lookasideref10_Why.calls _ _ _ _ _ _ HWY.out).mono ?_
    rintro x0 w2 ⟨rfl, hb⟩
    have hg := below_grown hb
    replace HG := Aside0.mk (grown_two HG.out hg)
    replace HM := Aside0.mk (HM.out.same hg)
    clear hb hg
    go_wp2_with fail
    refine (tnew_bad HM.out (by omega) base hbl size grade c HC.out hc0).mono ?_
    rintro x0 w3 ⟨rfl, hg⟩
    replace HG := Aside0.mk (grown_two HG.out hg)
    clear hg HM
    go_wp2_with (first | (go_at_call 39; refine (tsb_Places.calls size grade _ _ HPL.out).mono ?_; rintro e wn ⟨rfl, hd⟩; have hg := drawn_grown hd; replace HG := Aside0.mk (grown_two HG.out hg); clear hg hd) | (go_at_call 40; refine (lookasideref10_Places.calls size grade _ _ HRL.out).mono ?_; rintro e wn ⟨rfl, hd⟩; have hg := below_grown hd; replace HG := Aside0.mk (grown_two HG.out hg); clear hg hd) | (go_at_call 26; refine (lives10 _).mono ?_; rintro e wn ⟨rfl, hg⟩; replace HG := Aside0.mk (grown_two HG.out hg); clear hg))
    go_ret
    exact ⟨rfl, below_of_grown HG.out⟩
end
end Go.Proofs.Ytjnffegjpkbjmaa.Mem
