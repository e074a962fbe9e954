/- TsbDrops: what is dropped is not found any more, and all else is. -/
import Derived.Test.YtjnffegjpkbjmaaTsO
import Derived.Test.YtjnffegjpkbjmaaTsRi
namespace Go.Proofs.Ytjnffegjpkbjmaa.Mem
open Go.RowKit Go.Maps Go.Proofs.YtjnffegjpkbjmaaW.PrintWords Go.Proofs.YtjnffegjpkbjmaaW.PrintLast Go.Proofs.YtjnffegjpkbjmaaW.PrintMore Go.Proofs.Ytjnffegjpkbjmaa.QTsbPlays Go.Proofs.Ytjnffegjpkbjmaa.Pure
set_option linter.unusedSimpArgs false
set_option linter.unusedVariables false
section
set_option maxHeartbeats 2000000
set_option maxRecDepth 100000
theorem mem_list {N s : Nat} {os : Nat → Option GE} (h : OKO N s os) {g : GE} (hg : g ∈ listO N os) : g.ok ∧ g.s = s ∧ plcOf N (s : Int) g.v < N ∧ os (plcOf N (s : Int) g.v) = some g := by
  obtain ⟨i, hi, ho⟩ := List.mem_filterMap.1 hg
  obtain ⟨h1, h2, h3⟩ := h i (List.mem_range.1 hi) g ho
  rw [h3]
  exact ⟨h1, h2, List.mem_range.1 hi, ho⟩
theorem drops_fact {N s base : Nat} {sz : Int} (b : TB base N s sz) {os : Nat → Option GE} (h : OKO N s os) (va : Nat) (ctx : Int) {F : Option GE} (hF : F = findO (os (plcOf N (s : Int) va)) va ctx) {os2 : Nat → Option GE} (h2 : os2 = if F.isSome = true then setO os (plcOf N (s : Int) va) none else os) :
    findO (os2 (plcOf N (s : Int) va)) va ctx = none ∧ (listO N os2).length + (if F.isSome = true then 1 else 0) = (listO N os).length ∧ ∀ g ∈ listO N os, g.ok ∧ findO (os2 (plcOf N (s : Int) g.v)) g.v g.c = if g.hit va ctx = true then none else some g := by
  refine ⟨?_, ?_, fun g hg => ?_⟩
  · rw [h2]
    by_cases hs : F.isSome = true
    · rw [if_pos hs, setO_at]; rfl
    · rw [if_neg hs, ← hF]
      cases F with
      | none => rfl
      | some x => exact absurd rfl hs
  · rw [h2]
    by_cases hs : F.isSome = true
    · rw [if_pos hs, if_pos hs]
      have e := list_none (os := os) (i := plcOf N (s : Int) va) (List.range N) List.nodup_range
      rw [if_pos (List.mem_range.2 (b.in va))] at e
      have ho : (os (plcOf N (s : Int) va)).isSome = true := by
        cases ho : os (plcOf N (s : Int) va) with
        | none => rw [ho] at hF; rw [hF] at hs; exact hs
        | some x => rfl
      rw [if_pos ho] at e
      exact e
    · rw [if_neg hs, if_neg hs]; rfl
  · obtain ⟨h3, h4, h5, h6⟩ := mem_list h hg
    refine ⟨h3, ?_⟩
    subst h4
    by_cases hh : g.hit va ctx = true
    · rw [if_pos hh]
      have hA : va / Pure.bytesOf (g.s : Int) * Pure.bytesOf (g.s : Int) = g.v := by
        unfold GE.hit at hh
        simp only [Bool.and_eq_true, decide_eq_true_eq] at hh
        exact hh.1
      have hp : plcOf N (g.s : Int) va = plcOf N (g.s : Int) g.v := plc_page N _ hA (by have := bytes_pos h3.os; omega)
      have hFg : F = some g := by rw [hF, hp, h6]; unfold findO; simp only; rw [if_pos hh]
      rw [h2, hFg, if_pos (show (some g).isSome = true from rfl), hp, setO_at]
      rfl
    · rw [if_neg hh]
      have ho : os2 (plcOf N (g.s : Int) g.v) = some g := by
        rw [h2]
        by_cases hs : F.isSome = true
        · rw [if_pos hs]
          by_cases hp : plcOf N (g.s : Int) g.v = plcOf N (g.s : Int) va
          · rw [← hp, h6] at hF
            unfold findO at hF
            simp only at hF
            rw [if_neg hh] at hF
            rw [hF] at hs
            cases hs
          · rw [setO_ne hp, h6]
        · rw [if_neg hs, h6]
      rw [ho, found_self h3]
noncomputable def tdrops7_T : Bool × List (List Nat × List Nat) := rtab .any (opsOf Try.f8 7)
theorem tdrops7_tab : rtab .any (opsOf Try.f8 7) = tdrops7_T := rfl
noncomputable def tdrops22_T : Bool × List (List Nat × List Nat) := rtab .any (opsOf Try.f8 22)
theorem tdrops22_tab : rtab .any (opsOf Try.f8 22) = tdrops22_T := rfl
noncomputable def tdrops24_T : Bool × List (List Nat × List Nat) := rtab .any (opsOf Try.f8 24)
theorem tdrops24_tab : rtab .any (opsOf Try.f8 24) = tdrops24_T := rfl
theorem tsbDrops_calls (size grade : Int) (a : Option Addr) (len cap : Nat) (va ctx : Int) (W : World) (hs : (Lit.int .i64 size).wf = true) (hgr : (Lit.int .i64 grade).wf = true) (hl : Ents W a len ∧ len ≤ maxLen) (hva : (Lit.int .u64 va).wf = true) (hc : (Lit.int .i64 ctx).wf = true) :
    Calls Try.prog 8 #[.int .i64 size, .int .i64 grade, .slice a len cap, .int .u64 va, .int .i64 ctx] W fun e W' => e = .returned (.bool true) ∧ Below W.heap.size W W' := by
  have hu := Try.underlying50
  have hu2 := Try.underlying44
  obtain ⟨va, rfl⟩ := Int.eq_ofNat_of_zero_le (m_u64 hva).1
  have HVL := Aside0.mk (show va < 18446744073709551616 by have := (m_u64 hva).2; omega)
  clear hva
  have HEN := Aside0.mk hl.1
  have hlm : len ≤ 9223372036854775807 := hl.2
  have HG := Aside0.mk (grown_refl W none)
  clear hl hc
  go_enter Try.func8, Try.ntmps8
  go_wp2_with fail
  refine (o_begin (below_of_grown HG.out) HG.out.size size grade).mono ?_
  rintro x0 w1 ⟨p, mb, pt, A, c, rfl, hR, hM, hmb, hg, hTB⟩
  have HM := Aside0.mk hM
  have HO := Aside0.mk hR
  have HTB := Aside0.mk hTB
  have HMB := Aside0.mk hmb
  replace HG := Aside0.mk hg
  clear hM hmb hg hTB hR
  generalize plcs (ar4 size) (ar4 grade) = N at HM HTB ⊢
  generalize ar4 size = s at HM HTB ⊢
  generalize (ar4 grade : Int) = gr at HM ⊢
  have hg := World.grownBy_alloc w1 (.cells #[.int .i64 s, .int .i64 N, .slice A 0 c] 44) none
  have HB12 := Aside0.mk (heap_alloc_new w1 (.cells #[.int .i64 s, .int .i64 N, .slice A 0 c] 44))
  have HH12 := Aside0.mk (show W.heap.size ≤ w1.heap.size from HG.out.size)
  replace HG := Aside0.mk (grown_two HG.out hg)
  replace HM := Aside0.mk (HM.out.same hg)
  replace HO := Aside0.mk (Kd.R_grown HO.out hg (by simp))
  clear hg
  go_wp2_with fail
  generalize w1.heap.size = h12 at HB12 HH12 ⊢
  generalize w1.alloc (.cells #[.int .i64 s, .int .i64 N, .slice A 0 c] 44) = w2 at HB12 HG HM HO ⊢
  go_loopw [13] (fun v13 wr => ∃ (k : Nat) (os : Nat → Option GE) (l : List WS) (A : Option Addr) (c : Nat), v13 = .int .i64 k ∧ k ≤ len ∧ k ≤ 10 ∧ l.length ≤ 3 * k ∧ Aside0 (TQ W.heap.size W p mb pt 1048576 65536 N s gr (2 * N + 3 * k) (os) wr) ∧ Aside0 (Kd.R k122 122 wr W.heap.size (fun _ => True) (.slice A l.length c) l) ∧ Aside0 (W.grownBy wr none) ∧ Aside0 (wr.heap[h12]? = some (.cells #[.int .i64 s, .int .i64 N, .slice A l.length c] 44 (0, 0)))) (fun v13 _ => 10 - (intOf v13).toNat)
  case atStart => exact ⟨0, fun _ => none, [], A, c, rfl, by omega, by omega, by simp, HM, HO, HG, HB12⟩
  case round =>
    clear HM HO HG HB12
    obtain ⟨k, os, l, A, c, rfl, hk, hkm, hll, HM, HO, HG, HB12⟩ := hrel
    by_cases hlk : k < len ∧ k < 10
    · have h1' : (k : Int) < (len : Int) := by omega
      have h2' : (k : Int) < 10 := by omega
      have h0' : (0 : Int) ≤ (k : Int) := by omega
      obtain ⟨y, e, rfl, HEW0⟩ := HEN.out.at k hlk.1
      have HEW := Aside0.mk HEW0
      have HWE := Aside0.mk HEW0.wf
      clear HEW0
      go_upto_region 7 with fail
      replace HB12 := Aside0.mk (blk_grown HB12.out (grown_drew wr none))
      replace HG := Aside0.mk (grown_two HG.out (grown_drew wr none))
      replace HM := Aside0.mk (HM.out.same (grown_drew wr none))
      replace HO := Aside0.mk (Kd.R_drew HO.out)
      refine start_ (n := 10) (S := fun w' => EntAt w' (y.add (k * 11)) e ∧ w'.heap[h12]? = some (.cells #[.int .i64 s, .int .i64 N, .slice A l.length c] 44 (0, 0))) (ds := []) #[false, false, false, false, false, false, false, false, false, false] (by kernel_rfl) rfl rfl ⟨HEW.out.grown HG.out, HB12.out⟩ (fun hHeld => ?_)
      refine with_tab tdrops7_tab (fun HT_ => ?_)
      refine pure_ (i := 0) (N := some 43) (v := ?_) (a' := ?_) #[true, false, false, false, false, false, false, false, false, false] rfl rfl (any_of HT_.out (by kernel_rfl)) (fun _ _ _ h => h) (Or.inl ⟨by rfl, ?_⟩) ?_ ?_
      rotate_left
      · intro w'
        go_simp
        with_reducible rfl
      rotate_left
      · simp only [Act.put, List.setIfInBounds_toArray, List.set_cons_zero, List.set_cons_succ, i64_w, i32_w]
        rfl
      refine pure_ (i := 1) (N := some 44) (v := ?_) (a' := ?_) #[true, true, false, false, false, false, false, false, false, false] rfl rfl (any_of HT_.out (by kernel_rfl)) (fun _ _ _ h => h) (Or.inl ⟨by rfl, ?_⟩) ?_ ?_
      rotate_left
      · intro w'
        go_simp
        with_reducible rfl
      rotate_left
      · simp only [Act.put, List.setIfInBounds_toArray, List.set_cons_zero, List.set_cons_succ, i64_w, i32_w]
        rfl
      refine pure_ (i := 2) (N := some 45) (v := ?_) (a' := ?_) #[true, true, true, false, false, false, false, false, false, false] rfl rfl (any_of HT_.out (by kernel_rfl)) (fun _ _ _ h => h) (Or.inl ⟨by rfl, ?_⟩) ?_ ?_
      rotate_left
      · intro w'
        go_simp
        with_reducible rfl
      rotate_left
      · simp only [Act.put, List.setIfInBounds_toArray, List.set_cons_zero, List.set_cons_succ, i64_w, i32_w]
        rfl
      refine pure_ (i := 5) (N := some 48) (v := ?_) (a' := ?_) #[true, true, true, false, false, true, false, false, false, false] rfl rfl (any_of HT_.out (by kernel_rfl)) (fun _ _ _ h => h) (Or.inl ⟨by rfl, ?_⟩) ?_ ?_
      rotate_left
      · intro w'
        go_simp
        with_reducible rfl
      rotate_left
      · simp only [Act.put, List.setIfInBounds_toArray, List.set_cons_zero, List.set_cons_succ, i64_w, i32_w]
        rfl
      refine take_ (i := 3) (N := some 46) (v := .agg (entA e)) (a' := ?_) #[true, true, true, true, false, true, false, false, false, false] rfl rfl (take_of HT_.out (by kernel_rfl)) (fun _ _ _ h => h) (Or.inl ⟨by rfl, ?_⟩) hHeld ?_ ?_
      · rintro w' ⟨s1, s2⟩
        obtain ⟨_, c0, c1, c2, c3, c4, c5, c6, c7, c8, c9, c10⟩ := s1
        go_simp
      rotate_left
      · simp only [Act.put, List.setIfInBounds_toArray, List.set_cons_zero, List.set_cons_succ, i64_w, i32_w]
        rfl
      refine pure_ (i := 4) (N := some 47) (v := ?_) (a' := ?_) #[true, true, true, true, true, true, false, false, false, false] rfl rfl (any_of HT_.out (by kernel_rfl)) (fun _ _ _ h => h) (Or.inl ⟨by rfl, ?_⟩) ?_ ?_
      rotate_left
      · intro w'
        go_simp
        with_reducible rfl
      rotate_left
      · simp only [Act.put, List.setIfInBounds_toArray, List.set_cons_zero, List.set_cons_succ, i64_w, i32_w]
        rfl
      refine take_ (i := 6) (N := some 49) (v := .int .i64 s) (a' := ?_) #[true, true, true, true, true, true, true, false, false, false] rfl rfl (take_of HT_.out (by kernel_rfl)) (fun _ _ _ h => h) (Or.inl ⟨by rfl, ?_⟩) hHeld ?_ ?_
      · rintro w' ⟨s1, s2⟩
        obtain ⟨q0, q1, q2⟩ := cz3q s2
        go_simp
      rotate_left
      · simp only [Act.put, List.setIfInBounds_toArray, List.set_cons_zero, List.set_cons_succ, i64_w, i32_w]
        rfl
      refine two_ (i := 7) (j := 8) (Ni := some 50) (Nj := some 14) #[true, true, true, true, true, true, true, true, false, false] #[true, true, true, true, true, true, true, false, true, false] rfl rfl rfl rfl (two_of HT_.out (by kernel_rfl)) (by decide) (by decide) (fun K hK => ?_) (fun K hK => ?_)
      · refine goes_ Try.func21 (by kernel_rfl) rfl #[.agg #[.int .i64 0, .int .i64 0, .int .u64 0, .int .i64 e.f0, .int .i64 e.f1, .int .u64 e.f2, .int .u64 e.f3, .bool e.f4.f0, .bool e.f4.f1, .bool e.f4.f2, .bool e.f4.f3, .bool e.f4.f4, .bool e.f4.f5, .bool e.f5, .bool false], .int .i64 s] (by rfl) rfl rfl (by (try simp only [List.map_toArray, List.map_cons, List.map_nil]); first | done | rfl) ?_
        refine (entry_calls e HWE.out s HTB.out.hs _).mono ?_
        rintro x0 wn ⟨rfl, hg⟩
        replace HG := Aside0.mk (grown_two HG.out hg)
        replace HM := Aside0.mk (HM.out.same hg)
        replace HO := Aside0.mk (Kd.R_grown HO.out hg (by simp))
        have hs : EntAt wn (y.add (k * 11)) e ∧ wn.heap[h12]? = some (.cells #[.int .i64 s, .int .i64 N, .slice A l.length c] 44 (0, 0)) := ⟨hHeld.1.grown hg, blk_grown hHeld.2 hg⟩
        clear hg
        refine ⟨_, rfl, ?_⟩
        refine hK.out _ _ hs (fun hHeld => ?_)
        clear hK K
        refine norm_ (a' := ?_) ?_ ?_
        rotate_left
        · show Act.put _ (some 50) _ = _
          simp only [Act.put, List.setIfInBounds_toArray, List.set_cons_zero, List.set_cons_succ, i64_w, i32_w]
          rfl
        refine one_ (i := 8) (N := some 14) #[true, true, true, true, true, true, true, true, true, false] rfl rfl (one_of HT_.out (by kernel_rfl)) (by decide) (fun K hK => ?_)
        refine box_step ?hg (N := 14) ?hd (cs := #[.int .i64 0, .int .i64 0, .int .u64 0, .int .u64 0, .bool false, .bool false, .bool false, .bool false, .bool false, .bool false, .bool false]) (t := 50) ?hr ?_; (case hd => rfl); (case hg => rfl); (case hr => first | (go_simp; done) | (go_simp; rfl))
        intro h15 hg15 wn hbox hb
        have HB15 := Aside0.mk hbox
        have HN15 := Aside0.mk (show W.heap.size ≤ h15 ∧ h12 ≠ h15 from ⟨by rw [hg15]; exact HG.out.size, fun e => by have := blk_lt hHeld.2; omega⟩)
        have hg := below_grown hb
        replace HG := Aside0.mk (grown_two HG.out hg)
        replace HM := Aside0.mk (HM.out.same hg)
        replace HO := Aside0.mk (Kd.R_grown HO.out hg (by simp))
        have hs : EntAt wn (y.add (k * 11)) e ∧ wn.heap[h12]? = some (.cells #[.int .i64 s, .int .i64 N, .slice A l.length c] 44 (0, 0)) := ⟨hHeld.1.grown hg, blk_grown hHeld.2 hg⟩
        clear hg hg15 hbox hb
        refine hK.out _ _ hs (fun hHeld => ?_)
        clear hK K
        refine norm_ (a' := ?_) ?_ ?_
        rotate_left
        · show Act.put _ (some 14) _ = _
          simp only [Act.put, List.setIfInBounds_toArray, List.set_cons_zero, List.set_cons_succ, i64_w, i32_w]
          rfl
        refine one_ (i := 9) (N := none) #[true, true, true, true, true, true, true, true, true, true] rfl rfl (one_of HT_.out (by kernel_rfl)) (by decide) (fun K hK => ?_)
        rw [if_pos (by rfl)]
        refine wp_store_row 50 (.tmp 14) (.tmp 50) rfl h15 (geA (geE s e)) rfl rfl 50 #[.int .i64 0, .int .i64 0, .int .u64 0, .int .u64 0, .bool false, .bool false, .bool false, .bool false, .bool false, .bool false, .bool false] HB15.out (by kernel_rfl) rfl (by kernel_rfl) ?_
        have hb2 := setRow_heap wn h15 _ (geA (geE s e)) _ _ HB15.out
        have hgr := grown_row wn h15 (geA (geE s e))
        have ht := (hgr.block h12 (blk_lt hHeld.2) (fun e => HN15.out.2 (Option.some.inj e))).trans hHeld.2
        replace HM := Aside0.mk (HM.out.kept hgr HB15.out (by decide) (by decide) HN15.out.1)
        replace HG := Aside0.mk (grown_loc HG.out hgr HN15.out.1)
        replace HO := Aside0.mk (Kd.R_mono (ok' := fun _ => True) (Kd.R_grown (Kd.R_types HO.out HB15.out (by decide)) hgr (fun k hk e => hk.2 (Option.some.inj e))) (fun _ _ => trivial))
        have hs : EntAt (World.setRow wn h15 (geA (geE s e))) (y.add (k * 11)) e ∧ (World.setRow wn h15 (geA (geE s e))).heap[h12]? = some (.cells #[.int .i64 s, .int .i64 N, .slice A l.length c] 44 (0, 0)) := ⟨HEW.out.grown HG.out, ht⟩
        generalize World.setRow wn h15 (geA (geE s e)) = wb at hb2 ht hs HM HG HO ⊢
        replace HB15 := Aside0.mk hb2
        replace HB12 := Aside0.mk ht
        clear hgr hb2 ht
        refine hK.out _ _ hs (fun hHeld => ?_)
        clear hK K
        refine norm_ (a' := ?_) ?_ ?_
        rotate_left
        · show Act.put _ none _ = _
          rfl
        refine done_ (done_of HT_.out (by kernel_rfl)) ?_
        obtain ⟨g, hge⟩ : ∃ g, g = geE s e := ⟨_, rfl⟩
        rw [← hge] at HB15 ⊢
        have HGO := Aside0.mk (show g.ok ∧ g.s = s by rw [hge]; exact ⟨geE_ok s e HTB.out.hs, rfl⟩)
        clear hge
        obtain ⟨z0, z1, z2, z3, z4, z5, z6, z7, z8, z9, z10⟩ := tte_Read.cz11 HB15.out
        go_wp2_with fail
        refine (o_insert HTB.out HM.out g HGO.out.1 HGO.out.2 (by have := HTB.out.hN; omega)).mono ?_
        rintro x0 w8 ⟨rfl, hM, hg⟩
        replace HB15 := Aside0.mk ((hg.block _ (blk_lt HB15.out) (fun e => HM.out.nb _ _ _ HB15.out (Option.some.inj e))).trans HB15.out)
        replace HB12 := Aside0.mk ((hg.block _ (blk_lt HB12.out) (fun e => HM.out.nb _ _ _ HB12.out (Option.some.inj e))).trans HB12.out)
        replace HO := Aside0.mk (Kd.R_mono (ok' := fun _ => True) (Kd.R_grown (Kd.R_bound HO.out) hg (fun k hk e => by obtain ⟨_, _, _, q, _, cs, hc⟩ := hk; exact HM.out.nb k cs q hc (Option.some.inj e))) (fun _ _ => trivial))
        replace HG := Aside0.mk (grown_loc HG.out hg HMB.out)
        replace HM := Aside0.mk hM
        clear hM hg z0 z1 z2 z3 z4 z5 z6 z7 z8 z9 z10
        obtain ⟨z0, z1, z2, z3, z4, z5, z6, z7, z8, z9, z10⟩ := tte_Read.cz11 HB15.out
        obtain ⟨q0, q1, q2⟩ := cz3q HB12.out
        go_wp2_with fail
        refine (rinsert_calls HTB.out.hs HTB.out.h1 HTB.out.hN g HGO.out.1 HGO.out.2 (Kd.R_reads' HO.out).2.2 (Kd.R_reads' HO.out).2.1 (by omega)).mono ?_
        rintro x0 w9 ⟨v2, rfl, hR, hg⟩
        have HLL := Aside0.mk (insW_len l (plcOf N (s : Int) g.v : Int) (g.tag : Int) (g.data : Int))
        generalize insW l (plcOf N (s : Int) g.v : Int) (g.tag : Int) (g.data : Int) = l2 at hR HLL
        obtain ⟨A2, c2, rfl⟩ := Kd.R_slice hR
        have HO2 := Aside0.mk (Kd.R_lower hR HG.out.size)
        replace HB12 := Aside0.mk (blk_grown HB12.out hg)
        replace HG := Aside0.mk (grown_two HG.out hg)
        replace HM := Aside0.mk (HM.out.same hg)
        clear hR hg q0 q1 q2 z0 z1 z2 z3 z4 z5 z6 z7 z8 z9 z10 HO HB15
        go_wp2_with (first | ((with_reducible refine gate_store (t := 44) (p := 12) rfl ?_); refine wpList_store_row rfl 44 (.tmp 12) (.tmp 56) rfl h12 #[.int .i64 s, .int .i64 N, .slice A2 l2.length c2] rfl rfl 44 _ HB12.out (by kernel_rfl) rfl (by kernel_rfl) ?_; have SHB12 := Aside0.mk (setRow_heap _ h12 _ #[.int .i64 s, .int .i64 N, .slice A2 l2.length c2] _ _ HB12.out); have THB12 := Aside0.mk (grown_row w9 h12 #[.int .i64 s, .int .i64 N, .slice A2 l2.length c2])))
        replace HM := Aside0.mk (HM.out.kept THB12.out HB12.out (by decide) (by decide) HH12.out)
        have HO := Aside0.mk (Kd.R_mono (ok' := fun _ => True) (Kd.R_grown (Kd.R_types HO2.out HB12.out (by decide)) THB12.out (fun k hk e => hk.2 (Option.some.inj e))) (fun _ _ => trivial))
        replace HG := Aside0.mk (grown_loc HG.out THB12.out HH12.out)
        replace HB12 := Aside0.mk SHB12.out
        generalize World.setRow w9 h12 #[.int .i64 s, .int .i64 N, .slice A2 l2.length c2] = w10 at HM HO HG HB12 ⊢
        clear SHB12 THB12 HO2
        go_wp2_with fail
        go_roundw
        case rel => exact ⟨k + 1, _, l2, A2, c2, by go_num, by omega, by omega, by have := HLL.out; omega, HM, HO, HG, HB12⟩
        case measure => simp [intOf]; omega
      · refine box_step ?hg (N := 14) ?hd (cs := #[.int .i64 0, .int .i64 0, .int .u64 0, .int .u64 0, .bool false, .bool false, .bool false, .bool false, .bool false, .bool false, .bool false]) (t := 50) ?hr ?_; (case hd => rfl); (case hg => rfl); (case hr => first | (go_simp; done) | (go_simp; rfl))
        intro h15 hg15 wn hbox hb
        have HB15 := Aside0.mk hbox
        have HN15 := Aside0.mk (show W.heap.size ≤ h15 ∧ h12 ≠ h15 from ⟨by rw [hg15]; exact HG.out.size, fun e => by have := blk_lt hHeld.2; omega⟩)
        have hg := below_grown hb
        replace HG := Aside0.mk (grown_two HG.out hg)
        replace HM := Aside0.mk (HM.out.same hg)
        replace HO := Aside0.mk (Kd.R_grown HO.out hg (by simp))
        have hs : EntAt wn (y.add (k * 11)) e ∧ wn.heap[h12]? = some (.cells #[.int .i64 s, .int .i64 N, .slice A l.length c] 44 (0, 0)) := ⟨hHeld.1.grown hg, blk_grown hHeld.2 hg⟩
        clear hg hg15 hbox hb
        refine hK.out _ _ hs (fun hHeld => ?_)
        clear hK K
        refine norm_ (a' := ?_) ?_ ?_
        rotate_left
        · show Act.put _ (some 14) _ = _
          simp only [Act.put, List.setIfInBounds_toArray, List.set_cons_zero, List.set_cons_succ, i64_w, i32_w]
          rfl
        refine one_ (i := 7) (N := some 50) #[true, true, true, true, true, true, true, true, true, false] rfl rfl (one_of HT_.out (by kernel_rfl)) (by decide) (fun K hK => ?_)
        refine goes_ Try.func21 (by kernel_rfl) rfl #[.agg #[.int .i64 0, .int .i64 0, .int .u64 0, .int .i64 e.f0, .int .i64 e.f1, .int .u64 e.f2, .int .u64 e.f3, .bool e.f4.f0, .bool e.f4.f1, .bool e.f4.f2, .bool e.f4.f3, .bool e.f4.f4, .bool e.f4.f5, .bool e.f5, .bool false], .int .i64 s] (by rfl) rfl rfl (by (try simp only [List.map_toArray, List.map_cons, List.map_nil]); first | done | rfl) ?_
        refine (entry_calls e HWE.out s HTB.out.hs _).mono ?_
        rintro x0 wn ⟨rfl, hg⟩
        replace HG := Aside0.mk (grown_two HG.out hg)
        replace HM := Aside0.mk (HM.out.same hg)
        replace HO := Aside0.mk (Kd.R_grown HO.out hg (by simp))
        have hs : EntAt wn (y.add (k * 11)) e ∧ wn.heap[h12]? = some (.cells #[.int .i64 s, .int .i64 N, .slice A l.length c] 44 (0, 0)) := ⟨hHeld.1.grown hg, blk_grown hHeld.2 hg⟩
        replace HB15 := Aside0.mk (blk_grown HB15.out hg)
        clear hg
        refine ⟨_, rfl, ?_⟩
        refine hK.out _ _ hs (fun hHeld => ?_)
        clear hK K
        refine norm_ (a' := ?_) ?_ ?_
        rotate_left
        · show Act.put _ (some 50) _ = _
          simp only [Act.put, List.setIfInBounds_toArray, List.set_cons_zero, List.set_cons_succ, i64_w, i32_w]
          rfl
        refine one_ (i := 9) (N := none) #[true, true, true, true, true, true, true, true, true, true] rfl rfl (one_of HT_.out (by kernel_rfl)) (by decide) (fun K hK => ?_)
        rw [if_pos (by rfl)]
        refine wp_store_row 50 (.tmp 14) (.tmp 50) rfl h15 (geA (geE s e)) rfl rfl 50 #[.int .i64 0, .int .i64 0, .int .u64 0, .int .u64 0, .bool false, .bool false, .bool false, .bool false, .bool false, .bool false, .bool false] HB15.out (by kernel_rfl) rfl (by kernel_rfl) ?_
        have hb2 := setRow_heap wn h15 _ (geA (geE s e)) _ _ HB15.out
        have hgr := grown_row wn h15 (geA (geE s e))
        have ht := (hgr.block h12 (blk_lt hHeld.2) (fun e => HN15.out.2 (Option.some.inj e))).trans hHeld.2
        replace HM := Aside0.mk (HM.out.kept hgr HB15.out (by decide) (by decide) HN15.out.1)
        replace HG := Aside0.mk (grown_loc HG.out hgr HN15.out.1)
        replace HO := Aside0.mk (Kd.R_mono (ok' := fun _ => True) (Kd.R_grown (Kd.R_types HO.out HB15.out (by decide)) hgr (fun k hk e => hk.2 (Option.some.inj e))) (fun _ _ => trivial))
        have hs : EntAt (World.setRow wn h15 (geA (geE s e))) (y.add (k * 11)) e ∧ (World.setRow wn h15 (geA (geE s e))).heap[h12]? = some (.cells #[.int .i64 s, .int .i64 N, .slice A l.length c] 44 (0, 0)) := ⟨HEW.out.grown HG.out, ht⟩
        generalize World.setRow wn h15 (geA (geE s e)) = wb at hb2 ht hs HM HG HO ⊢
        replace HB15 := Aside0.mk hb2
        replace HB12 := Aside0.mk ht
        clear hgr hb2 ht
        refine hK.out _ _ hs (fun hHeld => ?_)
        clear hK K
        refine norm_ (a' := ?_) ?_ ?_
        rotate_left
        · show Act.put _ none _ = _
          rfl
        refine done_ (done_of HT_.out (by kernel_rfl)) ?_
        obtain ⟨g, hge⟩ : ∃ g, g = geE s e := ⟨_, rfl⟩
        rw [← hge] at HB15 ⊢
        have HGO := Aside0.mk (show g.ok ∧ g.s = s by rw [hge]; exact ⟨geE_ok s e HTB.out.hs, rfl⟩)
        clear hge
        obtain ⟨z0, z1, z2, z3, z4, z5, z6, z7, z8, z9, z10⟩ := tte_Read.cz11 HB15.out
        go_wp2_with fail
        refine (o_insert HTB.out HM.out g HGO.out.1 HGO.out.2 (by have := HTB.out.hN; omega)).mono ?_
        rintro x0 w8 ⟨rfl, hM, hg⟩
        replace HB15 := Aside0.mk ((hg.block _ (blk_lt HB15.out) (fun e => HM.out.nb _ _ _ HB15.out (Option.some.inj e))).trans HB15.out)
        replace HB12 := Aside0.mk ((hg.block _ (blk_lt HB12.out) (fun e => HM.out.nb _ _ _ HB12.out (Option.some.inj e))).trans HB12.out)
        replace HO := Aside0.mk (Kd.R_mono (ok' := fun _ => True) (Kd.R_grown (Kd.R_bound HO.out) hg (fun k hk e => by obtain ⟨_, _, _, q, _, cs, hc⟩ := hk; exact HM.out.nb k cs q hc (Option.some.inj e))) (fun _ _ => trivial))
        replace HG := Aside0.mk (grown_loc HG.out hg HMB.out)
        replace HM := Aside0.mk hM
        clear hM hg z0 z1 z2 z3 z4 z5 z6 z7 z8 z9 z10
        obtain ⟨z0, z1, z2, z3, z4, z5, z6, z7, z8, z9, z10⟩ := tte_Read.cz11 HB15.out
        obtain ⟨q0, q1, q2⟩ := cz3q HB12.out
        go_wp2_with fail
        refine (rinsert_calls HTB.out.hs HTB.out.h1 HTB.out.hN g HGO.out.1 HGO.out.2 (Kd.R_reads' HO.out).2.2 (Kd.R_reads' HO.out).2.1 (by omega)).mono ?_
        rintro x0 w9 ⟨v2, rfl, hR, hg⟩
        have HLL := Aside0.mk (insW_len l (plcOf N (s : Int) g.v : Int) (g.tag : Int) (g.data : Int))
        generalize insW l (plcOf N (s : Int) g.v : Int) (g.tag : Int) (g.data : Int) = l2 at hR HLL
        obtain ⟨A2, c2, rfl⟩ := Kd.R_slice hR
        have HO2 := Aside0.mk (Kd.R_lower hR HG.out.size)
        replace HB12 := Aside0.mk (blk_grown HB12.out hg)
        replace HG := Aside0.mk (grown_two HG.out hg)
        replace HM := Aside0.mk (HM.out.same hg)
        clear hR hg q0 q1 q2 z0 z1 z2 z3 z4 z5 z6 z7 z8 z9 z10 HO HB15
        go_wp2_with (first | ((with_reducible refine gate_store (t := 44) (p := 12) rfl ?_); refine wpList_store_row rfl 44 (.tmp 12) (.tmp 56) rfl h12 #[.int .i64 s, .int .i64 N, .slice A2 l2.length c2] rfl rfl 44 _ HB12.out (by kernel_rfl) rfl (by kernel_rfl) ?_; have SHB12 := Aside0.mk (setRow_heap _ h12 _ #[.int .i64 s, .int .i64 N, .slice A2 l2.length c2] _ _ HB12.out); have THB12 := Aside0.mk (grown_row w9 h12 #[.int .i64 s, .int .i64 N, .slice A2 l2.length c2])))
        replace HM := Aside0.mk (HM.out.kept THB12.out HB12.out (by decide) (by decide) HH12.out)
        have HO := Aside0.mk (Kd.R_mono (ok' := fun _ => True) (Kd.R_grown (Kd.R_types HO2.out HB12.out (by decide)) THB12.out (fun k hk e => hk.2 (Option.some.inj e))) (fun _ _ => trivial))
        replace HG := Aside0.mk (grown_loc HG.out THB12.out HH12.out)
        replace HB12 := Aside0.mk SHB12.out
        generalize World.setRow w9 h12 #[.int .i64 s, .int .i64 N, .slice A2 l2.length c2] = w10 at HM HO HG HB12 ⊢
        clear SHB12 THB12 HO2
        go_wp2_with fail
        go_roundw
        case rel => exact ⟨k + 1, _, l2, A2, c2, by go_num, by omega, by omega, by have := HLL.out; omega, HM, HO, HG, HB12⟩
        case measure => simp [intOf]; omega
    · have HKL := Aside0.mk (show k = len ∨ k = 10 by omega)
      have HK12 := Aside0.mk hkm
      have hkk : ((k : Int) < (len : Int) ∧ ¬ (k : Int) < 10) ∨ ¬ (k : Int) < (len : Int) := by omega
      clear HO HB12 hk hkm
      rcases hkk with ⟨h1', h2'⟩ | h1'
      all_goals
        clear HKL hlk
        have hN0 : N ≤ 4096 := HTB.out.hN
        obtain ⟨n0, hn⟩ : ∃ n0, n0 = 2 * N + 3 * k := ⟨_, rfl⟩
        rw [← hn] at HM
        have hn0 : n0 ≤ 9000 := by have := HK12.out; omega
        clear hn
        go_wp2_with fail
        refine (o_list HTB.out HM.out).mono ?_
        rintro x0 w3 ⟨v15, rfl, hR, hg⟩
        obtain ⟨A1, c1, rfl⟩ := Kd.R_slice hR
        rw [List.length_map] at hR ⊢
        have HL := Aside0.mk (Kd.R_lower hR HG.out.size)
        replace HG := Aside0.mk (grown_two HG.out hg)
        replace HM := Aside0.mk (HM.out.same hg)
        clear hR hg
        go_wp2_with fail
        refine (o_drop HTB.out HM.out va HVL.out ctx (by omega)).mono ?_
        rintro x0 w4 ⟨hx0, hM, hg⟩
        obtain ⟨F, hF⟩ : ∃ F, F = findO (os (plcOf N (s : Int) va)) va ctx := ⟨_, rfl⟩
        rw [← hF] at hx0 hM
        obtain ⟨os2, h2⟩ : ∃ os2, os2 = if F.isSome = true then setO os (plcOf N (s : Int) va) none else os := ⟨_, rfl⟩
        rw [← h2] at hM
        have HDF := Aside0.mk (drops_fact HTB.out HM.out.ok va ctx hF h2)
        subst hx0
        replace HL := Aside0.mk (Kd.R_mono (ok' := fun _ => True) (Kd.R_grown (Kd.R_bound HL.out) hg (fun k hk e => by obtain ⟨_, _, _, q, _, cs, hc⟩ := hk; exact HM.out.nb k cs q hc (Option.some.inj e))) (fun _ _ => trivial))
        replace HG := Aside0.mk (grown_loc HG.out hg HMB.out)
        replace HM := Aside0.mk hM
        have hle := list_le N os
        have hle2 := list_le N os2
        have HXF := Aside0.mk HDF.out.2.2
        generalize listO N os = xs at HL HDF HXF hle ⊢
        obtain ⟨L2, hL2⟩ : ∃ L, L = (listO N os2).length := ⟨_, rfl⟩
        rw [← hL2] at hle2
        have HL2 := Aside0.mk hL2
        have HD2 := Aside0.mk (show L2 + (if F.isSome = true then 1 else 0) = xs.length by rw [hL2]; exact HDF.out.2.1)
        have HD1 := Aside0.mk HDF.out.1
        clear hM hg hF h2 hL2 HDF
        cases hfs : F.isSome
        case' true =>
          rw [hfs, if_pos rfl] at HD2
          have hwl : IntKind.i64.wrap ((xs.length : Int) - 1) = (L2 : Int) := by rw [IntWalk.i64_in _ (by omega)]; have := HD2.out; omega
        case' false =>
          rw [hfs, if_neg (by decide)] at HD2
          have hwl : IntKind.i64.wrap ((xs.length : Int) - 0) = (L2 : Int) := by rw [IntWalk.i64_in _ (by omega)]; have := HD2.out; omega
          have hwl2 : (xs.length : Int) = (L2 : Int) := by have := HD2.out; omega
        all_goals
          clear hfs
          go_wp2_with fail
          refine (o_find HTB.out HM.out va HVL.out ctx).mono ?_
          rintro x0 w5 ⟨hx0, hg⟩
          obtain rfl : x0 = .returned (.tuple #[.agg #[.int .i64 0, .int .i64 0, .int .u64 0, .int .u64 0, .bool false, .bool false, .bool false, .bool false, .bool false, .bool false, .bool false], .bool false]) := by rw [hx0, HD1.out]; rfl
          have hg2 := grown_two hg (World.grownBy_alloc w5 (.cells #[.int .i64 0, .int .i64 0, .int .u64 0, .int .u64 0, .bool false, .bool false, .bool false, .bool false, .bool false, .bool false, .bool false] 50) none)
          replace HG := Aside0.mk (grown_two HG.out hg2)
          replace HM := Aside0.mk (HM.out.same hg2)
          replace HL := Aside0.mk (Kd.R_grown HL.out hg2 (by simp))
          clear hx0 hg hg2
          go_wp2_with fail
          refine (o_list HTB.out HM.out).mono ?_
          rintro x0 w6 ⟨v20, rfl, hR, hg⟩
          obtain ⟨A3, c3, rfl⟩ := Kd.R_slice hR
          rw [List.length_map, ← HL2.out]
          replace HG := Aside0.mk (grown_two HG.out hg)
          replace HM := Aside0.mk (HM.out.same hg)
          replace HL := Aside0.mk (Kd.R_grown HL.out hg (by simp))
          clear hR hg
          go_wp2_with fail
          go_loopw [21] (fun v21 wr => ∃ (i : Nat), v21 = .int .i64 i ∧ i ≤ xs.length ∧ Aside0 (TQ W.heap.size W p mb pt 1048576 65536 N s gr ((n0 + 2)) (os2) wr) ∧ Aside0 (Kd.R k50 50 wr W.heap.size (fun _ => True) (.slice A1 xs.length c1) (xs.map geS)) ∧ Aside0 (W.grownBy wr none)) (fun v21 _ => xs.length - (intOf v21).toNat)
          case atStart => exact ⟨0, rfl, by omega, HM, HL, HG⟩
          case round =>
            clear HM HL HG
            obtain ⟨i, rfl, hi, HM, HL, HG⟩ := hrel
            by_cases hix : i < xs.length
            · have hi1 : (i : Int) < (xs.length : Int) := by omega
              have hi0 : (0 : Int) ≤ (i : Int) := by omega
              obtain ⟨ad, hA, hgi⟩ := own_ge HL.out (fun g hg => (HXF.out g hg).1) i hix
              have hxf := HXF.out _ (List.getElem_mem hix)
              have HKI := Aside0.mk hxf.1
              have HFI := Aside0.mk hxf.2
              first | subst hA | cases hA
              have HEI := Aside0.mk hgi
              clear hgi hxf
              generalize hg2 : xs[i] = gi at HEI HKI HFI
              have HXI := Aside0.mk hg2
              clear hg2
              go_upto_region 22 with fail
              replace HG := Aside0.mk (grown_two HG.out (grown_drew wr none))
              replace HM := Aside0.mk (HM.out.same (grown_drew wr none))
              replace HL := Aside0.mk (Kd.R_drew HL.out)
              replace HEI := Aside0.mk (HEI.out.grown (grown_drew wr none))
              cases hh : gi.hit va ctx with
              | true =>
                rw [hh, if_pos rfl] at HFI
                have HHH := Aside0.mk hh
                clear hh
                refine start_ (n := 18) (S := fun w' => GEAt w' (ad.add (i * 11)) gi) (ds := []) #[false, false, false, false, false, false, false, false, false, false, false, false, false, false, false, false, false, false] (by kernel_rfl) rfl rfl HEI.out (fun hHeld => ?_)
                refine with_tab tdrops22_tab (fun HT_ => ?_)
                refine pure_ (i := 0) (N := some 90) (v := ?_) (a' := ?_) #[true, false, false, false, false, false, false, false, false, false, false, false, false, false, false, false, false, false] rfl rfl (any_of HT_.out (by kernel_rfl)) (fun _ _ _ h => h) (Or.inl ⟨by rfl, ?_⟩) ?_ ?_
                rotate_left
                · intro w'
                  go_simp
                  with_reducible rfl
                rotate_left
                · simp only [Act.put, List.setIfInBounds_toArray, List.set_cons_zero, List.set_cons_succ, i64_w, i32_w]
                  rfl
                refine pure_ (i := 1) (N := some 91) (v := ?_) (a' := ?_) #[true, true, false, false, false, false, false, false, false, false, false, false, false, false, false, false, false, false] rfl rfl (any_of HT_.out (by kernel_rfl)) (fun _ _ _ h => h) (Or.inl ⟨by rfl, ?_⟩) ?_ ?_
                rotate_left
                · intro w'
                  go_simp
                  with_reducible rfl
                rotate_left
                · simp only [Act.put, List.setIfInBounds_toArray, List.set_cons_zero, List.set_cons_succ, i64_w, i32_w]
                  rfl
                refine pure_ (i := 2) (N := some 92) (v := ?_) (a' := ?_) #[true, true, true, false, false, false, false, false, false, false, false, false, false, false, false, false, false, false] rfl rfl (any_of HT_.out (by kernel_rfl)) (fun _ _ _ h => h) (Or.inl ⟨by rfl, ?_⟩) ?_ ?_
                rotate_left
                · intro w'
                  go_simp
                  with_reducible rfl
                rotate_left
                · simp only [Act.put, List.setIfInBounds_toArray, List.set_cons_zero, List.set_cons_succ, i64_w, i32_w]
                  rfl
                refine pure_ (i := 3) (N := some 93) (v := ?_) (a' := ?_) #[true, true, true, true, false, false, false, false, false, false, false, false, false, false, false, false, false, false] rfl rfl (any_of HT_.out (by kernel_rfl)) (fun _ _ _ h => h) (Or.inl ⟨by rfl, ?_⟩) ?_ ?_
                rotate_left
                · intro w'
                  go_simp
                  with_reducible rfl
                rotate_left
                · simp only [Act.put, List.setIfInBounds_toArray, List.set_cons_zero, List.set_cons_succ, i64_w, i32_w]
                  rfl
                refine pure_ (i := 4) (N := some 94) (v := ?_) (a' := ?_) #[true, true, true, true, true, false, false, false, false, false, false, false, false, false, false, false, false, false] rfl rfl (any_of HT_.out (by kernel_rfl)) (fun _ _ _ h => h) (Or.inl ⟨by rfl, ?_⟩) ?_ ?_
                rotate_left
                · intro w'
                  go_simp
                  with_reducible rfl
                rotate_left
                · simp only [Act.put, List.setIfInBounds_toArray, List.set_cons_zero, List.set_cons_succ, i64_w, i32_w]
                  rfl
                refine pure_ (i := 6) (N := some 96) (v := ?_) (a' := ?_) #[true, true, true, true, true, false, true, false, false, false, false, false, false, false, false, false, false, false] rfl rfl (any_of HT_.out (by kernel_rfl)) (fun _ _ _ h => h) (Or.inl ⟨by rfl, ?_⟩) ?_ ?_
                rotate_left
                · intro w'
                  go_simp
                  with_reducible rfl
                rotate_left
                · simp only [Act.put, List.setIfInBounds_toArray, List.set_cons_zero, List.set_cons_succ, i64_w, i32_w]
                  rfl
                refine pure_ (i := 7) (N := some 97) (v := ?_) (a' := ?_) #[true, true, true, true, true, false, true, true, false, false, false, false, false, false, false, false, false, false] rfl rfl (any_of HT_.out (by kernel_rfl)) (fun _ _ _ h => h) (Or.inl ⟨by rfl, ?_⟩) ?_ ?_
                rotate_left
                · intro w'
                  go_simp
                  with_reducible rfl
                rotate_left
                · simp only [Act.put, List.setIfInBounds_toArray, List.set_cons_zero, List.set_cons_succ, i64_w, i32_w]
                  rfl
                refine pure_ (i := 8) (N := some 98) (v := ?_) (a' := ?_) #[true, true, true, true, true, false, true, true, true, false, false, false, false, false, false, false, false, false] rfl rfl (any_of HT_.out (by kernel_rfl)) (fun _ _ _ h => h) (Or.inl ⟨by rfl, ?_⟩) ?_ ?_
                rotate_left
                · intro w'
                  go_simp
                  with_reducible rfl
                rotate_left
                · simp only [Act.put, List.setIfInBounds_toArray, List.set_cons_zero, List.set_cons_succ, i64_w, i32_w]
                  rfl
                refine pure_ (i := 9) (N := some 99) (v := ?_) (a' := ?_) #[true, true, true, true, true, false, true, true, true, true, false, false, false, false, false, false, false, false] rfl rfl (any_of HT_.out (by kernel_rfl)) (fun _ _ _ h => h) (Or.inl ⟨by rfl, ?_⟩) ?_ ?_
                rotate_left
                · intro w'
                  go_simp
                  with_reducible rfl
                rotate_left
                · simp only [Act.put, List.setIfInBounds_toArray, List.set_cons_zero, List.set_cons_succ, i64_w, i32_w]
                  rfl
                refine take_ (i := 5) (N := some 95) (v := .int .u64 (gi.v : Int)) (a' := ?_) #[true, true, true, true, true, true, true, true, true, true, false, false, false, false, false, false, false, false] rfl rfl (take_of HT_.out (by kernel_rfl)) (fun _ _ _ h => h) (Or.inl ⟨by rfl, ?_⟩) hHeld ?_ ?_
                · rintro w' s1
                  obtain ⟨c0, c1, c2, c3, c4, c5, c6, c7, c8, c9, c10⟩ := s1
                  go_simp
                rotate_left
                · simp only [Act.put, List.setIfInBounds_toArray, List.set_cons_zero, List.set_cons_succ, i64_w, i32_w]
                  rfl
                refine take_ (i := 10) (N := some 100) (v := .int .i64 (gi.c : Int)) (a' := ?_) #[true, true, true, true, true, true, true, true, true, true, true, false, false, false, false, false, false, false] rfl rfl (take_of HT_.out (by kernel_rfl)) (fun _ _ _ h => h) (Or.inl ⟨by rfl, ?_⟩) hHeld ?_ ?_
                · rintro w' s1
                  obtain ⟨c0, c1, c2, c3, c4, c5, c6, c7, c8, c9, c10⟩ := s1
                  go_simp
                rotate_left
                · simp only [Act.put, List.setIfInBounds_toArray, List.set_cons_zero, List.set_cons_succ, i64_w, i32_w]
                  rfl
                refine two_ (i := 11) (j := 15) (Ni := some 101) (Nj := some 22) #[true, true, true, true, true, true, true, true, true, true, true, true, false, false, false, false, false, false] #[true, true, true, true, true, true, true, true, true, true, true, false, false, false, false, true, false, false] rfl rfl rfl rfl (two_of HT_.out (by kernel_rfl)) (by decide) (by decide) (fun K hK => ?_) (fun K hK => ?_)
                · refine goes_ Try.func24 (by kernel_rfl) rfl #[.pointer (some ⟨pt, 0, none⟩), .int .u64 (gi.v : Int), .int .i64 (gi.c : Int)] (by rfl) rfl rfl (by (try simp only [List.map_toArray, List.map_cons, List.map_nil]); first | done | rfl) ?_
                  refine (o_find HTB.out HM.out gi.v HKI.out.hv gi.c).mono ?_
                  rintro x0 wn ⟨hx0, hg⟩
                  obtain rfl : x0 = .returned (.tuple #[.agg #[.int .i64 0, .int .i64 0, .int .u64 0, .int .u64 0, .bool false, .bool false, .bool false, .bool false, .bool false, .bool false, .bool false], .bool false]) := by rw [hx0, HFI.out]; rfl
                  clear hx0
                  replace HG := Aside0.mk (grown_two HG.out hg)
                  replace HM := Aside0.mk (HM.out.same hg)
                  replace HL := Aside0.mk (Kd.R_grown HL.out hg (by simp))
                  have hs : GEAt wn (ad.add (i * 11)) gi := hHeld.grown hg
                  clear hg
                  refine ⟨_, rfl, ?_⟩
                  refine hK.out _ _ hs (fun hHeld => ?_)
                  clear hK K
                  refine norm_ (a' := ?_) ?_ ?_
                  rotate_left
                  · show Act.put _ (some 101) _ = _
                    simp only [Act.put, List.setIfInBounds_toArray, List.set_cons_zero, List.set_cons_succ, i64_w, i32_w]
                    rfl
                  refine pure_ (i := 12) (N := some 89) (v := ?_) (a' := ?_) #[true, true, true, true, true, true, true, true, true, true, true, true, true, false, false, false, false, false] rfl rfl (any_of HT_.out (by kernel_rfl)) (fun _ _ _ h => h) (Or.inl ⟨by rfl, ?_⟩) ?_ ?_
                  rotate_left
                  · intro w'
                    go_simp
                    with_reducible rfl
                  rotate_left
                  · simp only [Act.put, List.setIfInBounds_toArray, List.set_cons_zero, List.set_cons_succ, i64_w, i32_w]
                    rfl
                  refine pure_ (i := 13) (N := some 102) (v := ?_) (a' := ?_) #[true, true, true, true, true, true, true, true, true, true, true, true, true, true, false, false, false, false] rfl rfl (any_of HT_.out (by kernel_rfl)) (fun _ _ _ h => h) (Or.inl ⟨by rfl, ?_⟩) ?_ ?_
                  rotate_left
                  · intro w'
                    go_simp
                    with_reducible rfl
                  rotate_left
                  · simp only [Act.put, List.setIfInBounds_toArray, List.set_cons_zero, List.set_cons_succ, i64_w, i32_w]
                    rfl
                  refine pure_ (i := 14) (N := some 103) (v := ?_) (a' := ?_) #[true, true, true, true, true, true, true, true, true, true, true, true, true, true, true, false, false, false] rfl rfl (any_of HT_.out (by kernel_rfl)) (fun _ _ _ h => h) (Or.inl ⟨by rfl, ?_⟩) ?_ ?_
                  rotate_left
                  · intro w'
                    go_simp
                    with_reducible rfl
                  rotate_left
                  · simp only [Act.put, List.setIfInBounds_toArray, List.set_cons_zero, List.set_cons_succ, i64_w, i32_w]
                    rfl
                  refine one_ (i := 15) (N := some 22) #[true, true, true, true, true, true, true, true, true, true, true, true, true, true, true, true, false, false] rfl rfl (one_of HT_.out (by kernel_rfl)) (by decide) (fun K hK => ?_)
                  refine box_step ?hg (N := 22) ?hd (cs := #[.int .i64 0, .int .i64 0, .int .u64 0, .int .u64 0, .bool false, .bool false, .bool false, .bool false, .bool false, .bool false, .bool false]) (t := 50) ?hr ?_; (case hd => rfl); (case hg => rfl); (case hr => first | (go_simp; done) | (go_simp; rfl))
                  intro h22 hg22 wn hbox hb
                  have HB22 := Aside0.mk hbox
                  have HN22 := Aside0.mk (show W.heap.size ≤ h22 from by rw [hg22]; exact HG.out.size)
                  replace HL := Aside0.mk (Kd.R_elderB HL.out h22 (Nat.le_of_eq hg22.symm))
                  have hg := below_grown hb
                  replace HG := Aside0.mk (grown_two HG.out hg)
                  replace HM := Aside0.mk (HM.out.same hg)
                  replace HL := Aside0.mk (Kd.R_grown HL.out hg (by simp))
                  have hs : GEAt wn (ad.add (i * 11)) gi := hHeld.grown hg
                  clear hg hg22 hbox hb
                  refine hK.out _ _ hs (fun hHeld => ?_)
                  clear hK K
                  refine norm_ (a' := ?_) ?_ ?_
                  rotate_left
                  · show Act.put _ (some 22) _ = _
                    simp only [Act.put, List.setIfInBounds_toArray, List.set_cons_zero, List.set_cons_succ, i64_w, i32_w]
                    rfl
                  refine one_ (i := 16) (N := none) #[true, true, true, true, true, true, true, true, true, true, true, true, true, true, true, true, true, false] rfl rfl (one_of HT_.out (by kernel_rfl)) (by decide) (fun K hK => ?_)
                  rw [if_pos (by rfl)]
                  refine wp_store_row 50 (.tmp 22) (.tmp 102) rfl h22 #[.int .i64 0, .int .i64 0, .int .u64 0, .int .u64 0, .bool false, .bool false, .bool false, .bool false, .bool false, .bool false, .bool false] rfl rfl 50 #[.int .i64 0, .int .i64 0, .int .u64 0, .int .u64 0, .bool false, .bool false, .bool false, .bool false, .bool false, .bool false, .bool false] HB22.out (by kernel_rfl) rfl (by kernel_rfl) ?_
                  have hb2 := setRow_heap wn h22 _ #[.int .i64 0, .int .i64 0, .int .u64 0, .int .u64 0, .bool false, .bool false, .bool false, .bool false, .bool false, .bool false, .bool false] _ _ HB22.out
                  have hgr := grown_row wn h22 #[.int .i64 0, .int .i64 0, .int .u64 0, .int .u64 0, .bool false, .bool false, .bool false, .bool false, .bool false, .bool false, .bool false]
                  replace HM := Aside0.mk (HM.out.kept hgr HB22.out (by decide) (by decide) HN22.out)
                  replace HG := Aside0.mk (grown_loc HG.out hgr HN22.out)
                  replace HL := Aside0.mk (Kd.R_mono (ok' := fun _ => True) (Kd.R_grown HL.out hgr (fun k hk e => hk.2 (Option.some.inj e))) (fun _ _ => trivial))
                  have hs : GEAt (World.setRow wn h22 #[.int .i64 0, .int .i64 0, .int .u64 0, .int .u64 0, .bool false, .bool false, .bool false, .bool false, .bool false, .bool false, .bool false]) (ad.add (i * 11)) gi := by
                    obtain ⟨ad3, hA3, hg3⟩ := own_ge HL.out (fun g hg => (HXF.out g hg).1) i hix
                    obtain rfl : ad = ad3 := Option.some.inj hA3
                    rw [HXI.out] at hg3
                    exact hg3
                  generalize World.setRow wn h22 #[.int .i64 0, .int .i64 0, .int .u64 0, .int .u64 0, .bool false, .bool false, .bool false, .bool false, .bool false, .bool false, .bool false] = wb at hb2 hs HM HG HL ⊢
                  replace HB22 := Aside0.mk hb2
                  clear hgr hb2
                  refine hK.out _ _ hs (fun hHeld => ?_)
                  clear hK K
                  refine norm_ (a' := ?_) ?_ ?_
                  rotate_left
                  · show Act.put _ none _ = _
                    rfl
                  refine pure_ (i := 17) (N := some 23) (v := ?_) (a' := ?_) #[true, true, true, true, true, true, true, true, true, true, true, true, true, true, true, true, true, true] rfl rfl (any_of HT_.out (by kernel_rfl)) (fun _ _ _ h => h) (Or.inl ⟨by rfl, ?_⟩) ?_ ?_
                  rotate_left
                  · intro w'
                    go_simp
                    with_reducible rfl
                  rotate_left
                  · simp only [Act.put, List.setIfInBounds_toArray, List.set_cons_zero, List.set_cons_succ, i64_w, i32_w]
                    rfl
                  refine done_ (done_of HT_.out (by kernel_rfl)) ?_
                  have HEI := Aside0.mk hHeld
                  clear hHeld
                  obtain ⟨c0, c1, c2, c3, c4, c5, c6, c7, c8, c9, c10⟩ := HEI.out
                  go_wp2_with fail
                  refine (rhits_calls HKI.out va HVL.out ctx _).mono ?_
                  rintro x0 wn ⟨rfl, hg⟩
                  clear c0 c1 c2 c3 c4 c5 c6 c7 c8 c9 c10
                  replace HG := Aside0.mk (grown_two HG.out hg)
                  replace HM := Aside0.mk (HM.out.same hg)
                  replace HL := Aside0.mk (Kd.R_grown HL.out hg (by simp))
                  replace HB22 := Aside0.mk (blk_grown HB22.out hg)
                  replace HEI := Aside0.mk (HEI.out.grown hg)
                  rw [HHH.out]
                  clear hg
                  go_upto_region 24 with fail
                  replace HG := Aside0.mk (grown_two HG.out (grown_drew wn none))
                  replace HM := Aside0.mk (HM.out.same (grown_drew wn none))
                  replace HL := Aside0.mk (Kd.R_drew HL.out)
                  replace HB22 := Aside0.mk (blk_grown HB22.out (grown_drew wn none))
                  replace HEI := Aside0.mk (HEI.out.grown (grown_drew wn none))
                  refine start_ (n := 14) (S := fun w' => True) (ds := []) #[false, false, false, false, false, false, false, false, false, false, false, false, false, false] (by kernel_rfl) rfl rfl trivial (fun hHeld => ?_)
                  refine with_tab tdrops24_tab (fun HT_ => ?_)
                  refine pure_ (i := 0) (N := some 111) (v := ?_) (a' := ?_) #[true, false, false, false, false, false, false, false, false, false, false, false, false, false] rfl rfl (any_of HT_.out (by kernel_rfl)) (fun _ _ _ h => h) (Or.inl ⟨by rfl, ?_⟩) ?_ ?_
                  rotate_left
                  · intro w'
                    go_simp
                    with_reducible rfl
                  rotate_left
                  · simp only [Act.put, List.setIfInBounds_toArray, List.set_cons_zero, List.set_cons_succ, i64_w, i32_w]
                    rfl
                  refine pure_ (i := 1) (N := some 112) (v := ?_) (a' := ?_) #[true, true, false, false, false, false, false, false, false, false, false, false, false, false] rfl rfl (any_of HT_.out (by kernel_rfl)) (fun _ _ _ h => h) (Or.inl ⟨by rfl, ?_⟩) ?_ ?_
                  rotate_left
                  · intro w'
                    go_simp
                    with_reducible rfl
                  rotate_left
                  · simp only [Act.put, List.setIfInBounds_toArray, List.set_cons_zero, List.set_cons_succ, i64_w, i32_w]
                    rfl
                  refine pure_ (i := 2) (N := some 113) (v := ?_) (a' := ?_) #[true, true, true, false, false, false, false, false, false, false, false, false, false, false] rfl rfl (any_of HT_.out (by kernel_rfl)) (fun _ _ _ h => h) (Or.inl ⟨by rfl, ?_⟩) ?_ ?_
                  rotate_left
                  · intro w'
                    go_simp
                    with_reducible rfl
                  rotate_left
                  · simp only [Act.put, List.setIfInBounds_toArray, List.set_cons_zero, List.set_cons_succ, i64_w, i32_w]
                    rfl
                  refine pure_ (i := 3) (N := some 114) (v := ?_) (a' := ?_) #[true, true, true, true, false, false, false, false, false, false, false, false, false, false] rfl rfl (any_of HT_.out (by kernel_rfl)) (fun _ _ _ h => h) (Or.inl ⟨by rfl, ?_⟩) ?_ ?_
                  rotate_left
                  · intro w'
                    go_simp
                    with_reducible rfl
                  rotate_left
                  · simp only [Act.put, List.setIfInBounds_toArray, List.set_cons_zero, List.set_cons_succ, i64_w, i32_w]
                    rfl
                  refine pure_ (i := 4) (N := some 115) (v := ?_) (a' := ?_) #[true, true, true, true, true, false, false, false, false, false, false, false, false, false] rfl rfl (any_of HT_.out (by kernel_rfl)) (fun _ _ _ h => h) (Or.inl ⟨by rfl, ?_⟩) ?_ ?_
                  rotate_left
                  · intro w'
                    go_simp
                    with_reducible rfl
                  rotate_left
                  · simp only [Act.put, List.setIfInBounds_toArray, List.set_cons_zero, List.set_cons_succ, i64_w, i32_w]
                    rfl
                  refine pure_ (i := 5) (N := some 116) (v := ?_) (a' := ?_) #[true, true, true, true, true, true, false, false, false, false, false, false, false, false] rfl rfl (any_of HT_.out (by kernel_rfl)) (fun _ _ _ h => h) (Or.inl ⟨by rfl, ?_⟩) ?_ ?_
                  rotate_left
                  · intro w'
                    go_simp
                    with_reducible rfl
                  rotate_left
                  · simp only [Act.put, List.setIfInBounds_toArray, List.set_cons_zero, List.set_cons_succ, i64_w, i32_w]
                    rfl
                  refine pure_ (i := 6) (N := some 117) (v := undef) (a' := ?_) #[true, true, true, true, true, true, true, false, false, false, false, false, false, false] rfl rfl (any_of HT_.out (by kernel_rfl)) (fun _ _ _ h => h) (Or.inr ⟨by rfl, rfl⟩) ?_ ?_
                  rotate_left
                  · simp only [Act.put, List.setIfInBounds_toArray, List.set_cons_zero, List.set_cons_succ, i64_w, i32_w]
                    rfl
                  refine pure_ (i := 7) (N := some 118) (v := undef) (a' := ?_) #[true, true, true, true, true, true, true, true, false, false, false, false, false, false] rfl rfl (any_of HT_.out (by kernel_rfl)) (fun _ _ _ h => h) (Or.inr ⟨by rfl, rfl⟩) ?_ ?_
                  rotate_left
                  · simp only [Act.put, List.setIfInBounds_toArray, List.set_cons_zero, List.set_cons_succ, i64_w, i32_w]
                    rfl
                  refine pure_ (i := 8) (N := some 119) (v := undef) (a' := ?_) #[true, true, true, true, true, true, true, true, true, false, false, false, false, false] rfl rfl (any_of HT_.out (by kernel_rfl)) (fun _ _ _ h => h) (Or.inr ⟨by rfl, rfl⟩) ?_ ?_
                  rotate_left
                  · simp only [Act.put, List.setIfInBounds_toArray, List.set_cons_zero, List.set_cons_succ, i64_w, i32_w]
                    rfl
                  refine pure_ (i := 9) (N := some 120) (v := undef) (a' := ?_) #[true, true, true, true, true, true, true, true, true, true, false, false, false, false] rfl rfl (any_of HT_.out (by kernel_rfl)) (fun _ _ _ h => h) (Or.inr ⟨by rfl, rfl⟩) ?_ ?_
                  rotate_left
                  · simp only [Act.put, List.setIfInBounds_toArray, List.set_cons_zero, List.set_cons_succ, i64_w, i32_w]
                    rfl
                  refine pure_ (i := 10) (N := some 121) (v := undef) (a' := ?_) #[true, true, true, true, true, true, true, true, true, true, true, false, false, false] rfl rfl (any_of HT_.out (by kernel_rfl)) (fun _ _ _ h => h) (Or.inr ⟨by rfl, rfl⟩) ?_ ?_
                  rotate_left
                  · simp only [Act.put, List.setIfInBounds_toArray, List.set_cons_zero, List.set_cons_succ, i64_w, i32_w]
                    rfl
                  refine pure_ (i := 11) (N := some 122) (v := undef) (a' := ?_) #[true, true, true, true, true, true, true, true, true, true, true, true, false, false] rfl rfl (any_of HT_.out (by kernel_rfl)) (fun _ _ _ h => h) (Or.inr ⟨by rfl, rfl⟩) ?_ ?_
                  rotate_left
                  · simp only [Act.put, List.setIfInBounds_toArray, List.set_cons_zero, List.set_cons_succ, i64_w, i32_w]
                    rfl
                  refine pure_ (i := 12) (N := some 123) (v := ?_) (a' := ?_) #[true, true, true, true, true, true, true, true, true, true, true, true, true, false] rfl rfl (any_of HT_.out (by kernel_rfl)) (fun _ _ _ h => h) (Or.inl ⟨by rfl, ?_⟩) ?_ ?_
                  rotate_left
                  · intro w'
                    go_simp
                    with_reducible rfl
                  rotate_left
                  · simp only [Act.put, List.setIfInBounds_toArray, List.set_cons_zero, List.set_cons_succ, i64_w, i32_w]
                    rfl
                  refine pure_ (i := 13) (N := some 124) (v := ?_) (a' := ?_) #[true, true, true, true, true, true, true, true, true, true, true, true, true, true] rfl rfl (any_of HT_.out (by kernel_rfl)) (fun _ _ _ h => h) (Or.inl ⟨by rfl, ?_⟩) ?_ ?_
                  rotate_left
                  · intro w'
                    go_simp
                    with_reducible rfl
                  rotate_left
                  · simp only [Act.put, List.setIfInBounds_toArray, List.set_cons_zero, List.set_cons_succ, i64_w, i32_w]
                    rfl
                  refine done_ (done_of HT_.out (by kernel_rfl)) ?_
                  go_wp2_with fail
                  go_roundw
                  case rel => exact ⟨i + 1, by go_num, by omega, HM, HL, HG⟩
                  case measure => simp [intOf]; omega
                · refine box_step ?hg (N := 22) ?hd (cs := #[.int .i64 0, .int .i64 0, .int .u64 0, .int .u64 0, .bool false, .bool false, .bool false, .bool false, .bool false, .bool false, .bool false]) (t := 50) ?hr ?_; (case hd => rfl); (case hg => rfl); (case hr => first | (go_simp; done) | (go_simp; rfl))
                  intro h22 hg22 wn hbox hb
                  have HB22 := Aside0.mk hbox
                  have HN22 := Aside0.mk (show W.heap.size ≤ h22 from by rw [hg22]; exact HG.out.size)
                  replace HL := Aside0.mk (Kd.R_elderB HL.out h22 (Nat.le_of_eq hg22.symm))
                  have hg := below_grown hb
                  replace HG := Aside0.mk (grown_two HG.out hg)
                  replace HM := Aside0.mk (HM.out.same hg)
                  replace HL := Aside0.mk (Kd.R_grown HL.out hg (by simp))
                  have hs : GEAt wn (ad.add (i * 11)) gi := hHeld.grown hg
                  clear hg hg22 hbox hb
                  refine hK.out _ _ hs (fun hHeld => ?_)
                  clear hK K
                  refine norm_ (a' := ?_) ?_ ?_
                  rotate_left
                  · show Act.put _ (some 22) _ = _
                    simp only [Act.put, List.setIfInBounds_toArray, List.set_cons_zero, List.set_cons_succ, i64_w, i32_w]
                    rfl
                  refine one_ (i := 11) (N := some 101) #[true, true, true, true, true, true, true, true, true, true, true, true, false, false, false, true, false, false] rfl rfl (one_of HT_.out (by kernel_rfl)) (by decide) (fun K hK => ?_)
                  refine goes_ Try.func24 (by kernel_rfl) rfl #[.pointer (some ⟨pt, 0, none⟩), .int .u64 (gi.v : Int), .int .i64 (gi.c : Int)] (by rfl) rfl rfl (by (try simp only [List.map_toArray, List.map_cons, List.map_nil]); first | done | rfl) ?_
                  refine (o_find HTB.out HM.out gi.v HKI.out.hv gi.c).mono ?_
                  rintro x0 wn ⟨hx0, hg⟩
                  obtain rfl : x0 = .returned (.tuple #[.agg #[.int .i64 0, .int .i64 0, .int .u64 0, .int .u64 0, .bool false, .bool false, .bool false, .bool false, .bool false, .bool false, .bool false], .bool false]) := by rw [hx0, HFI.out]; rfl
                  clear hx0
                  replace HG := Aside0.mk (grown_two HG.out hg)
                  replace HM := Aside0.mk (HM.out.same hg)
                  replace HL := Aside0.mk (Kd.R_grown HL.out hg (by simp))
                  have hs : GEAt wn (ad.add (i * 11)) gi := hHeld.grown hg
                  replace HB22 := Aside0.mk (blk_grown HB22.out hg)
                  clear hg
                  refine ⟨_, rfl, ?_⟩
                  refine hK.out _ _ hs (fun hHeld => ?_)
                  clear hK K
                  refine norm_ (a' := ?_) ?_ ?_
                  rotate_left
                  · show Act.put _ (some 101) _ = _
                    simp only [Act.put, List.setIfInBounds_toArray, List.set_cons_zero, List.set_cons_succ, i64_w, i32_w]
                    rfl
                  refine pure_ (i := 12) (N := some 89) (v := ?_) (a' := ?_) #[true, true, true, true, true, true, true, true, true, true, true, true, true, false, false, true, false, false] rfl rfl (any_of HT_.out (by kernel_rfl)) (fun _ _ _ h => h) (Or.inl ⟨by rfl, ?_⟩) ?_ ?_
                  rotate_left
                  · intro w'
                    go_simp
                    with_reducible rfl
                  rotate_left
                  · simp only [Act.put, List.setIfInBounds_toArray, List.set_cons_zero, List.set_cons_succ, i64_w, i32_w]
                    rfl
                  refine pure_ (i := 13) (N := some 102) (v := ?_) (a' := ?_) #[true, true, true, true, true, true, true, true, true, true, true, true, true, true, false, true, false, false] rfl rfl (any_of HT_.out (by kernel_rfl)) (fun _ _ _ h => h) (Or.inl ⟨by rfl, ?_⟩) ?_ ?_
                  rotate_left
                  · intro w'
                    go_simp
                    with_reducible rfl
                  rotate_left
                  · simp only [Act.put, List.setIfInBounds_toArray, List.set_cons_zero, List.set_cons_succ, i64_w, i32_w]
                    rfl
                  refine pure_ (i := 14) (N := some 103) (v := ?_) (a' := ?_) #[true, true, true, true, true, true, true, true, true, true, true, true, true, true, true, true, false, false] rfl rfl (any_of HT_.out (by kernel_rfl)) (fun _ _ _ h => h) (Or.inl ⟨by rfl, ?_⟩) ?_ ?_
                  rotate_left
                  · intro w'
                    go_simp
                    with_reducible rfl
                  rotate_left
                  · simp only [Act.put, List.setIfInBounds_toArray, List.set_cons_zero, List.set_cons_succ, i64_w, i32_w]
                    rfl
                  refine one_ (i := 16) (N := none) #[true, true, true, true, true, true, true, true, true, true, true, true, true, true, true, true, true, false] rfl rfl (one_of HT_.out (by kernel_rfl)) (by decide) (fun K hK => ?_)
                  rw [if_pos (by rfl)]
                  refine wp_store_row 50 (.tmp 22) (.tmp 102) rfl h22 #[.int .i64 0, .int .i64 0, .int .u64 0, .int .u64 0, .bool false, .bool false, .bool false, .bool false, .bool false, .bool false, .bool false] rfl rfl 50 #[.int .i64 0, .int .i64 0, .int .u64 0, .int .u64 0, .bool false, .bool false, .bool false, .bool false, .bool false, .bool false, .bool false] HB22.out (by kernel_rfl) rfl (by kernel_rfl) ?_
                  have hb2 := setRow_heap wn h22 _ #[.int .i64 0, .int .i64 0, .int .u64 0, .int .u64 0, .bool false, .bool false, .bool false, .bool false, .bool false, .bool false, .bool false] _ _ HB22.out
                  have hgr := grown_row wn h22 #[.int .i64 0, .int .i64 0, .int .u64 0, .int .u64 0, .bool false, .bool false, .bool false, .bool false, .bool false, .bool false, .bool false]
                  replace HM := Aside0.mk (HM.out.kept hgr HB22.out (by decide) (by decide) HN22.out)
                  replace HG := Aside0.mk (grown_loc HG.out hgr HN22.out)
                  replace HL := Aside0.mk (Kd.R_mono (ok' := fun _ => True) (Kd.R_grown HL.out hgr (fun k hk e => hk.2 (Option.some.inj e))) (fun _ _ => trivial))
                  have hs : GEAt (World.setRow wn h22 #[.int .i64 0, .int .i64 0, .int .u64 0, .int .u64 0, .bool false, .bool false, .bool false, .bool false, .bool false, .bool false, .bool false]) (ad.add (i * 11)) gi := by
                    obtain ⟨ad3, hA3, hg3⟩ := own_ge HL.out (fun g hg => (HXF.out g hg).1) i hix
                    obtain rfl : ad = ad3 := Option.some.inj hA3
                    rw [HXI.out] at hg3
                    exact hg3
                  generalize World.setRow wn h22 #[.int .i64 0, .int .i64 0, .int .u64 0, .int .u64 0, .bool false, .bool false, .bool false, .bool false, .bool false, .bool false, .bool false] = wb at hb2 hs HM HG HL ⊢
                  replace HB22 := Aside0.mk hb2
                  clear hgr hb2
                  refine hK.out _ _ hs (fun hHeld => ?_)
                  clear hK K
                  refine norm_ (a' := ?_) ?_ ?_
                  rotate_left
                  · show Act.put _ none _ = _
                    rfl
                  refine pure_ (i := 17) (N := some 23) (v := ?_) (a' := ?_) #[true, true, true, true, true, true, true, true, true, true, true, true, true, true, true, true, true, true] rfl rfl (any_of HT_.out (by kernel_rfl)) (fun _ _ _ h => h) (Or.inl ⟨by rfl, ?_⟩) ?_ ?_
                  rotate_left
                  · intro w'
                    go_simp
                    with_reducible rfl
                  rotate_left
                  · simp only [Act.put, List.setIfInBounds_toArray, List.set_cons_zero, List.set_cons_succ, i64_w, i32_w]
                    rfl
                  refine done_ (done_of HT_.out (by kernel_rfl)) ?_
                  have HEI := Aside0.mk hHeld
                  clear hHeld
                  obtain ⟨c0, c1, c2, c3, c4, c5, c6, c7, c8, c9, c10⟩ := HEI.out
                  go_wp2_with fail
                  refine (rhits_calls HKI.out va HVL.out ctx _).mono ?_
                  rintro x0 wn ⟨rfl, hg⟩
                  clear c0 c1 c2 c3 c4 c5 c6 c7 c8 c9 c10
                  replace HG := Aside0.mk (grown_two HG.out hg)
                  replace HM := Aside0.mk (HM.out.same hg)
                  replace HL := Aside0.mk (Kd.R_grown HL.out hg (by simp))
                  replace HB22 := Aside0.mk (blk_grown HB22.out hg)
                  replace HEI := Aside0.mk (HEI.out.grown hg)
                  rw [HHH.out]
                  clear hg
                  go_upto_region 24 with fail
                  replace HG := Aside0.mk (grown_two HG.out (grown_drew wn none))
                  replace HM := Aside0.mk (HM.out.same (grown_drew wn none))
                  replace HL := Aside0.mk (Kd.R_drew HL.out)
                  replace HB22 := Aside0.mk (blk_grown HB22.out (grown_drew wn none))
                  replace HEI := Aside0.mk (HEI.out.grown (grown_drew wn none))
                  refine start_ (n := 14) (S := fun w' => True) (ds := []) #[false, false, false, false, false, false, false, false, false, false, false, false, false, false] (by kernel_rfl) rfl rfl trivial (fun hHeld => ?_)
                  refine with_tab tdrops24_tab (fun HT_ => ?_)
                  refine pure_ (i := 0) (N := some 111) (v := ?_) (a' := ?_) #[true, false, false, false, false, false, false, false, false, false, false, false, false, false] rfl rfl (any_of HT_.out (by kernel_rfl)) (fun _ _ _ h => h) (Or.inl ⟨by rfl, ?_⟩) ?_ ?_
                  rotate_left
                  · intro w'
                    go_simp
                    with_reducible rfl
                  rotate_left
                  · simp only [Act.put, List.setIfInBounds_toArray, List.set_cons_zero, List.set_cons_succ, i64_w, i32_w]
                    rfl
                  refine pure_ (i := 1) (N := some 112) (v := ?_) (a' := ?_) #[true, true, false, false, false, false, false, false, false, false, false, false, false, false] rfl rfl (any_of HT_.out (by kernel_rfl)) (fun _ _ _ h => h) (Or.inl ⟨by rfl, ?_⟩) ?_ ?_
                  rotate_left
                  · intro w'
                    go_simp
                    with_reducible rfl
                  rotate_left
                  · simp only [Act.put, List.setIfInBounds_toArray, List.set_cons_zero, List.set_cons_succ, i64_w, i32_w]
                    rfl
                  refine pure_ (i := 2) (N := some 113) (v := ?_) (a' := ?_) #[true, true, true, false, false, false, false, false, false, false, false, false, false, false] rfl rfl (any_of HT_.out (by kernel_rfl)) (fun _ _ _ h => h) (Or.inl ⟨by rfl, ?_⟩) ?_ ?_
                  rotate_left
                  · intro w'
                    go_simp
                    with_reducible rfl
                  rotate_left
                  · simp only [Act.put, List.setIfInBounds_toArray, List.set_cons_zero, List.set_cons_succ, i64_w, i32_w]
                    rfl
                  refine pure_ (i := 3) (N := some 114) (v := ?_) (a' := ?_) #[true, true, true, true, false, false, false, false, false, false, false, false, false, false] rfl rfl (any_of HT_.out (by kernel_rfl)) (fun _ _ _ h => h) (Or.inl ⟨by rfl, ?_⟩) ?_ ?_
                  rotate_left
                  · intro w'
                    go_simp
                    with_reducible rfl
                  rotate_left
                  · simp only [Act.put, List.setIfInBounds_toArray, List.set_cons_zero, List.set_cons_succ, i64_w, i32_w]
                    rfl
                  refine pure_ (i := 4) (N := some 115) (v := ?_) (a' := ?_) #[true, true, true, true, true, false, false, false, false, false, false, false, false, false] rfl rfl (any_of HT_.out (by kernel_rfl)) (fun _ _ _ h => h) (Or.inl ⟨by rfl, ?_⟩) ?_ ?_
                  rotate_left
                  · intro w'
                    go_simp
                    with_reducible rfl
                  rotate_left
                  · simp only [Act.put, List.setIfInBounds_toArray, List.set_cons_zero, List.set_cons_succ, i64_w, i32_w]
                    rfl
                  refine pure_ (i := 5) (N := some 116) (v := ?_) (a' := ?_) #[true, true, true, true, true, true, false, false, false, false, false, false, false, false] rfl rfl (any_of HT_.out (by kernel_rfl)) (fun _ _ _ h => h) (Or.inl ⟨by rfl, ?_⟩) ?_ ?_
                  rotate_left
                  · intro w'
                    go_simp
                    with_reducible rfl
                  rotate_left
                  · simp only [Act.put, List.setIfInBounds_toArray, List.set_cons_zero, List.set_cons_succ, i64_w, i32_w]
                    rfl
                  refine pure_ (i := 6) (N := some 117) (v := undef) (a' := ?_) #[true, true, true, true, true, true, true, false, false, false, false, false, false, false] rfl rfl (any_of HT_.out (by kernel_rfl)) (fun _ _ _ h => h) (Or.inr ⟨by rfl, rfl⟩) ?_ ?_
                  rotate_left
                  · simp only [Act.put, List.setIfInBounds_toArray, List.set_cons_zero, List.set_cons_succ, i64_w, i32_w]
                    rfl
                  refine pure_ (i := 7) (N := some 118) (v := undef) (a' := ?_) #[true, true, true, true, true, true, true, true, false, false, false, false, false, false] rfl rfl (any_of HT_.out (by kernel_rfl)) (fun _ _ _ h => h) (Or.inr ⟨by rfl, rfl⟩) ?_ ?_
                  rotate_left
                  · simp only [Act.put, List.setIfInBounds_toArray, List.set_cons_zero, List.set_cons_succ, i64_w, i32_w]
                    rfl
                  refine pure_ (i := 8) (N := some 119) (v := undef) (a' := ?_) #[true, true, true, true, true, true, true, true, true, false, false, false, false, false] rfl rfl (any_of HT_.out (by kernel_rfl)) (fun _ _ _ h => h) (Or.inr ⟨by rfl, rfl⟩) ?_ ?_
                  rotate_left
                  · simp only [Act.put, List.setIfInBounds_toArray, List.set_cons_zero, List.set_cons_succ, i64_w, i32_w]
                    rfl
                  refine pure_ (i := 9) (N := some 120) (v := undef) (a' := ?_) #[true, true, true, true, true, true, true, true, true, true, false, false, false, false] rfl rfl (any_of HT_.out (by kernel_rfl)) (fun _ _ _ h => h) (Or.inr ⟨by rfl, rfl⟩) ?_ ?_
                  rotate_left
                  · simp only [Act.put, List.setIfInBounds_toArray, List.set_cons_zero, List.set_cons_succ, i64_w, i32_w]
                    rfl
                  refine pure_ (i := 10) (N := some 121) (v := undef) (a' := ?_) #[true, true, true, true, true, true, true, true, true, true, true, false, false, false] rfl rfl (any_of HT_.out (by kernel_rfl)) (fun _ _ _ h => h) (Or.inr ⟨by rfl, rfl⟩) ?_ ?_
                  rotate_left
                  · simp only [Act.put, List.setIfInBounds_toArray, List.set_cons_zero, List.set_cons_succ, i64_w, i32_w]
                    rfl
                  refine pure_ (i := 11) (N := some 122) (v := undef) (a' := ?_) #[true, true, true, true, true, true, true, true, true, true, true, true, false, false] rfl rfl (any_of HT_.out (by kernel_rfl)) (fun _ _ _ h => h) (Or.inr ⟨by rfl, rfl⟩) ?_ ?_
                  rotate_left
                  · simp only [Act.put, List.setIfInBounds_toArray, List.set_cons_zero, List.set_cons_succ, i64_w, i32_w]
                    rfl
                  refine pure_ (i := 12) (N := some 123) (v := ?_) (a' := ?_) #[true, true, true, true, true, true, true, true, true, true, true, true, true, false] rfl rfl (any_of HT_.out (by kernel_rfl)) (fun _ _ _ h => h) (Or.inl ⟨by rfl, ?_⟩) ?_ ?_
                  rotate_left
                  · intro w'
                    go_simp
                    with_reducible rfl
                  rotate_left
                  · simp only [Act.put, List.setIfInBounds_toArray, List.set_cons_zero, List.set_cons_succ, i64_w, i32_w]
                    rfl
                  refine pure_ (i := 13) (N := some 124) (v := ?_) (a' := ?_) #[true, true, true, true, true, true, true, true, true, true, true, true, true, true] rfl rfl (any_of HT_.out (by kernel_rfl)) (fun _ _ _ h => h) (Or.inl ⟨by rfl, ?_⟩) ?_ ?_
                  rotate_left
                  · intro w'
                    go_simp
                    with_reducible rfl
                  rotate_left
                  · simp only [Act.put, List.setIfInBounds_toArray, List.set_cons_zero, List.set_cons_succ, i64_w, i32_w]
                    rfl
                  refine done_ (done_of HT_.out (by kernel_rfl)) ?_
                  go_wp2_with fail
                  go_roundw
                  case rel => exact ⟨i + 1, by go_num, by omega, HM, HL, HG⟩
                  case measure => simp [intOf]; omega
              | false =>
                rw [hh, if_neg (by decide)] at HFI
                have HHH := Aside0.mk hh
                clear hh
                refine start_ (n := 18) (S := fun w' => GEAt w' (ad.add (i * 11)) gi) (ds := []) #[false, false, false, false, false, false, false, false, false, false, false, false, false, false, false, false, false, false] (by kernel_rfl) rfl rfl HEI.out (fun hHeld => ?_)
                refine with_tab tdrops22_tab (fun HT_ => ?_)
                refine pure_ (i := 0) (N := some 90) (v := ?_) (a' := ?_) #[true, false, false, false, false, false, false, false, false, false, false, false, false, false, false, false, false, false] rfl rfl (any_of HT_.out (by kernel_rfl)) (fun _ _ _ h => h) (Or.inl ⟨by rfl, ?_⟩) ?_ ?_
                rotate_left
                · intro w'
                  go_simp
                  with_reducible rfl
                rotate_left
                · simp only [Act.put, List.setIfInBounds_toArray, List.set_cons_zero, List.set_cons_succ, i64_w, i32_w]
                  rfl
                refine pure_ (i := 1) (N := some 91) (v := ?_) (a' := ?_) #[true, true, false, false, false, false, false, false, false, false, false, false, false, false, false, false, false, false] rfl rfl (any_of HT_.out (by kernel_rfl)) (fun _ _ _ h => h) (Or.inl ⟨by rfl, ?_⟩) ?_ ?_
                rotate_left
                · intro w'
                  go_simp
                  with_reducible rfl
                rotate_left
                · simp only [Act.put, List.setIfInBounds_toArray, List.set_cons_zero, List.set_cons_succ, i64_w, i32_w]
                  rfl
                refine pure_ (i := 2) (N := some 92) (v := ?_) (a' := ?_) #[true, true, true, false, false, false, false, false, false, false, false, false, false, false, false, false, false, false] rfl rfl (any_of HT_.out (by kernel_rfl)) (fun _ _ _ h => h) (Or.inl ⟨by rfl, ?_⟩) ?_ ?_
                rotate_left
                · intro w'
                  go_simp
                  with_reducible rfl
                rotate_left
                · simp only [Act.put, List.setIfInBounds_toArray, List.set_cons_zero, List.set_cons_succ, i64_w, i32_w]
                  rfl
                refine pure_ (i := 3) (N := some 93) (v := ?_) (a' := ?_) #[true, true, true, true, false, false, false, false, false, false, false, false, false, false, false, false, false, false] rfl rfl (any_of HT_.out (by kernel_rfl)) (fun _ _ _ h => h) (Or.inl ⟨by rfl, ?_⟩) ?_ ?_
                rotate_left
                · intro w'
                  go_simp
                  with_reducible rfl
                rotate_left
                · simp only [Act.put, List.setIfInBounds_toArray, List.set_cons_zero, List.set_cons_succ, i64_w, i32_w]
                  rfl
                refine pure_ (i := 4) (N := some 94) (v := ?_) (a' := ?_) #[true, true, true, true, true, false, false, false, false, false, false, false, false, false, false, false, false, false] rfl rfl (any_of HT_.out (by kernel_rfl)) (fun _ _ _ h => h) (Or.inl ⟨by rfl, ?_⟩) ?_ ?_
                rotate_left
                · intro w'
                  go_simp
                  with_reducible rfl
                rotate_left
                · simp only [Act.put, List.setIfInBounds_toArray, List.set_cons_zero, List.set_cons_succ, i64_w, i32_w]
                  rfl
                refine pure_ (i := 6) (N := some 96) (v := ?_) (a' := ?_) #[true, true, true, true, true, false, true, false, false, false, false, false, false, false, false, false, false, false] rfl rfl (any_of HT_.out (by kernel_rfl)) (fun _ _ _ h => h) (Or.inl ⟨by rfl, ?_⟩) ?_ ?_
                rotate_left
                · intro w'
                  go_simp
                  with_reducible rfl
                rotate_left
                · simp only [Act.put, List.setIfInBounds_toArray, List.set_cons_zero, List.set_cons_succ, i64_w, i32_w]
                  rfl
                refine pure_ (i := 7) (N := some 97) (v := ?_) (a' := ?_) #[true, true, true, true, true, false, true, true, false, false, false, false, false, false, false, false, false, false] rfl rfl (any_of HT_.out (by kernel_rfl)) (fun _ _ _ h => h) (Or.inl ⟨by rfl, ?_⟩) ?_ ?_
                rotate_left
                · intro w'
                  go_simp
                  with_reducible rfl
                rotate_left
                · simp only [Act.put, List.setIfInBounds_toArray, List.set_cons_zero, List.set_cons_succ, i64_w, i32_w]
                  rfl
                refine pure_ (i := 8) (N := some 98) (v := ?_) (a' := ?_) #[true, true, true, true, true, false, true, true, true, false, false, false, false, false, false, false, false, false] rfl rfl (any_of HT_.out (by kernel_rfl)) (fun _ _ _ h => h) (Or.inl ⟨by rfl, ?_⟩) ?_ ?_
                rotate_left
                · intro w'
                  go_simp
                  with_reducible rfl
                rotate_left
                · simp only [Act.put, List.setIfInBounds_toArray, List.set_cons_zero, List.set_cons_succ, i64_w, i32_w]
                  rfl
                refine pure_ (i := 9) (N := some 99) (v := ?_) (a' := ?_) #[true, true, true, true, true, false, true, true, true, true, false, false, false, false, false, false, false, false] rfl rfl (any_of HT_.out (by kernel_rfl)) (fun _ _ _ h => h) (Or.inl ⟨by rfl, ?_⟩) ?_ ?_
                rotate_left
                · intro w'
                  go_simp
                  with_reducible rfl
                rotate_left
                · simp only [Act.put, List.setIfInBounds_toArray, List.set_cons_zero, List.set_cons_succ, i64_w, i32_w]
                  rfl
                refine take_ (i := 5) (N := some 95) (v := .int .u64 (gi.v : Int)) (a' := ?_) #[true, true, true, true, true, true, true, true, true, true, false, false, false, false, false, false, false, false] rfl rfl (take_of HT_.out (by kernel_rfl)) (fun _ _ _ h => h) (Or.inl ⟨by rfl, ?_⟩) hHeld ?_ ?_
                · rintro w' s1
                  obtain ⟨c0, c1, c2, c3, c4, c5, c6, c7, c8, c9, c10⟩ := s1
                  go_simp
                rotate_left
                · simp only [Act.put, List.setIfInBounds_toArray, List.set_cons_zero, List.set_cons_succ, i64_w, i32_w]
                  rfl
                refine take_ (i := 10) (N := some 100) (v := .int .i64 (gi.c : Int)) (a' := ?_) #[true, true, true, true, true, true, true, true, true, true, true, false, false, false, false, false, false, false] rfl rfl (take_of HT_.out (by kernel_rfl)) (fun _ _ _ h => h) (Or.inl ⟨by rfl, ?_⟩) hHeld ?_ ?_
                · rintro w' s1
                  obtain ⟨c0, c1, c2, c3, c4, c5, c6, c7, c8, c9, c10⟩ := s1
                  go_simp
                rotate_left
                · simp only [Act.put, List.setIfInBounds_toArray, List.set_cons_zero, List.set_cons_succ, i64_w, i32_w]
                  rfl
                refine two_ (i := 11) (j := 15) (Ni := some 101) (Nj := some 22) #[true, true, true, true, true, true, true, true, true, true, true, true, false, false, false, false, false, false] #[true, true, true, true, true, true, true, true, true, true, true, false, false, false, false, true, false, false] rfl rfl rfl rfl (two_of HT_.out (by kernel_rfl)) (by decide) (by decide) (fun K hK => ?_) (fun K hK => ?_)
                · refine goes_ Try.func24 (by kernel_rfl) rfl #[.pointer (some ⟨pt, 0, none⟩), .int .u64 (gi.v : Int), .int .i64 (gi.c : Int)] (by rfl) rfl rfl (by (try simp only [List.map_toArray, List.map_cons, List.map_nil]); first | done | rfl) ?_
                  refine (o_find HTB.out HM.out gi.v HKI.out.hv gi.c).mono ?_
                  rintro x0 wn ⟨hx0, hg⟩
                  obtain rfl : x0 = .returned (.tuple #[.agg (geA gi), .bool true]) := by rw [hx0, HFI.out]; rfl
                  clear hx0
                  replace HG := Aside0.mk (grown_two HG.out hg)
                  replace HM := Aside0.mk (HM.out.same hg)
                  replace HL := Aside0.mk (Kd.R_grown HL.out hg (by simp))
                  have hs : GEAt wn (ad.add (i * 11)) gi := hHeld.grown hg
                  clear hg
                  refine ⟨_, rfl, ?_⟩
                  refine hK.out _ _ hs (fun hHeld => ?_)
                  clear hK K
                  refine norm_ (a' := ?_) ?_ ?_
                  rotate_left
                  · show Act.put _ (some 101) _ = _
                    simp only [Act.put, List.setIfInBounds_toArray, List.set_cons_zero, List.set_cons_succ, i64_w, i32_w]
                    rfl
                  refine pure_ (i := 12) (N := some 89) (v := ?_) (a' := ?_) #[true, true, true, true, true, true, true, true, true, true, true, true, true, false, false, false, false, false] rfl rfl (any_of HT_.out (by kernel_rfl)) (fun _ _ _ h => h) (Or.inl ⟨by rfl, ?_⟩) ?_ ?_
                  rotate_left
                  · intro w'
                    go_simp
                    with_reducible rfl
                  rotate_left
                  · simp only [Act.put, List.setIfInBounds_toArray, List.set_cons_zero, List.set_cons_succ, i64_w, i32_w]
                    rfl
                  refine pure_ (i := 13) (N := some 102) (v := ?_) (a' := ?_) #[true, true, true, true, true, true, true, true, true, true, true, true, true, true, false, false, false, false] rfl rfl (any_of HT_.out (by kernel_rfl)) (fun _ _ _ h => h) (Or.inl ⟨by rfl, ?_⟩) ?_ ?_
                  rotate_left
                  · intro w'
                    go_simp
                    with_reducible rfl
                  rotate_left
                  · simp only [Act.put, List.setIfInBounds_toArray, List.set_cons_zero, List.set_cons_succ, i64_w, i32_w]
                    rfl
                  refine pure_ (i := 14) (N := some 103) (v := ?_) (a' := ?_) #[true, true, true, true, true, true, true, true, true, true, true, true, true, true, true, false, false, false] rfl rfl (any_of HT_.out (by kernel_rfl)) (fun _ _ _ h => h) (Or.inl ⟨by rfl, ?_⟩) ?_ ?_
                  rotate_left
                  · intro w'
                    go_simp
                    with_reducible rfl
                  rotate_left
                  · simp only [Act.put, List.setIfInBounds_toArray, List.set_cons_zero, List.set_cons_succ, i64_w, i32_w]
                    rfl
                  refine one_ (i := 15) (N := some 22) #[true, true, true, true, true, true, true, true, true, true, true, true, true, true, true, true, false, false] rfl rfl (one_of HT_.out (by kernel_rfl)) (by decide) (fun K hK => ?_)
                  refine box_step ?hg (N := 22) ?hd (cs := #[.int .i64 0, .int .i64 0, .int .u64 0, .int .u64 0, .bool false, .bool false, .bool false, .bool false, .bool false, .bool false, .bool false]) (t := 50) ?hr ?_; (case hd => rfl); (case hg => rfl); (case hr => first | (go_simp; done) | (go_simp; rfl))
                  intro h22 hg22 wn hbox hb
                  have HB22 := Aside0.mk hbox
                  have HN22 := Aside0.mk (show W.heap.size ≤ h22 from by rw [hg22]; exact HG.out.size)
                  replace HL := Aside0.mk (Kd.R_elderB HL.out h22 (Nat.le_of_eq hg22.symm))
                  have hg := below_grown hb
                  replace HG := Aside0.mk (grown_two HG.out hg)
                  replace HM := Aside0.mk (HM.out.same hg)
                  replace HL := Aside0.mk (Kd.R_grown HL.out hg (by simp))
                  have hs : GEAt wn (ad.add (i * 11)) gi := hHeld.grown hg
                  clear hg hg22 hbox hb
                  refine hK.out _ _ hs (fun hHeld => ?_)
                  clear hK K
                  refine norm_ (a' := ?_) ?_ ?_
                  rotate_left
                  · show Act.put _ (some 22) _ = _
                    simp only [Act.put, List.setIfInBounds_toArray, List.set_cons_zero, List.set_cons_succ, i64_w, i32_w]
                    rfl
                  refine one_ (i := 16) (N := none) #[true, true, true, true, true, true, true, true, true, true, true, true, true, true, true, true, true, false] rfl rfl (one_of HT_.out (by kernel_rfl)) (by decide) (fun K hK => ?_)
                  rw [if_pos (by rfl)]
                  refine wp_store_row 50 (.tmp 22) (.tmp 102) rfl h22 (geA gi) rfl rfl 50 #[.int .i64 0, .int .i64 0, .int .u64 0, .int .u64 0, .bool false, .bool false, .bool false, .bool false, .bool false, .bool false, .bool false] HB22.out (by kernel_rfl) rfl (by kernel_rfl) ?_
                  have hb2 := setRow_heap wn h22 _ (geA gi) _ _ HB22.out
                  have hgr := grown_row wn h22 (geA gi)
                  replace HM := Aside0.mk (HM.out.kept hgr HB22.out (by decide) (by decide) HN22.out)
                  replace HG := Aside0.mk (grown_loc HG.out hgr HN22.out)
                  replace HL := Aside0.mk (Kd.R_mono (ok' := fun _ => True) (Kd.R_grown HL.out hgr (fun k hk e => hk.2 (Option.some.inj e))) (fun _ _ => trivial))
                  have hs : GEAt (World.setRow wn h22 (geA gi)) (ad.add (i * 11)) gi := by
                    obtain ⟨ad3, hA3, hg3⟩ := own_ge HL.out (fun g hg => (HXF.out g hg).1) i hix
                    obtain rfl : ad = ad3 := Option.some.inj hA3
                    rw [HXI.out] at hg3
                    exact hg3
                  generalize World.setRow wn h22 (geA gi) = wb at hb2 hs HM HG HL ⊢
                  replace HB22 := Aside0.mk hb2
                  clear hgr hb2
                  refine hK.out _ _ hs (fun hHeld => ?_)
                  clear hK K
                  refine norm_ (a' := ?_) ?_ ?_
                  rotate_left
                  · show Act.put _ none _ = _
                    rfl
                  refine pure_ (i := 17) (N := some 23) (v := ?_) (a' := ?_) #[true, true, true, true, true, true, true, true, true, true, true, true, true, true, true, true, true, true] rfl rfl (any_of HT_.out (by kernel_rfl)) (fun _ _ _ h => h) (Or.inl ⟨by rfl, ?_⟩) ?_ ?_
                  rotate_left
                  · intro w'
                    go_simp
                    with_reducible rfl
                  rotate_left
                  · simp only [Act.put, List.setIfInBounds_toArray, List.set_cons_zero, List.set_cons_succ, i64_w, i32_w]
                    rfl
                  refine done_ (done_of HT_.out (by kernel_rfl)) ?_
                  have HEI := Aside0.mk hHeld
                  clear hHeld
                  obtain ⟨c0, c1, c2, c3, c4, c5, c6, c7, c8, c9, c10⟩ := HEI.out
                  go_wp2_with fail
                  refine (rhits_calls HKI.out va HVL.out ctx _).mono ?_
                  rintro x0 wn ⟨rfl, hg⟩
                  clear c0 c1 c2 c3 c4 c5 c6 c7 c8 c9 c10
                  replace HG := Aside0.mk (grown_two HG.out hg)
                  replace HM := Aside0.mk (HM.out.same hg)
                  replace HL := Aside0.mk (Kd.R_grown HL.out hg (by simp))
                  replace HB22 := Aside0.mk (blk_grown HB22.out hg)
                  replace HEI := Aside0.mk (HEI.out.grown hg)
                  rw [HHH.out]
                  clear hg
                  go_upto_region 24 with fail
                  replace HG := Aside0.mk (grown_two HG.out (grown_drew wn none))
                  replace HM := Aside0.mk (HM.out.same (grown_drew wn none))
                  replace HL := Aside0.mk (Kd.R_drew HL.out)
                  replace HB22 := Aside0.mk (blk_grown HB22.out (grown_drew wn none))
                  replace HEI := Aside0.mk (HEI.out.grown (grown_drew wn none))
                  refine start_ (n := 14) (S := fun w' => GEAt w' (ad.add (i * 11)) gi ∧ w'.heap[h22]? = some (.cells (geA gi) 50 (0, 0))) (ds := []) #[false, false, false, false, false, false, false, false, false, false, false, false, false, false] (by kernel_rfl) rfl rfl ⟨HEI.out, HB22.out⟩ (fun hHeld => ?_)
                  refine with_tab tdrops24_tab (fun HT_ => ?_)
                  refine pure_ (i := 0) (N := some 111) (v := ?_) (a' := ?_) #[true, false, false, false, false, false, false, false, false, false, false, false, false, false] rfl rfl (any_of HT_.out (by kernel_rfl)) (fun _ _ _ h => h) (Or.inl ⟨by rfl, ?_⟩) ?_ ?_
                  rotate_left
                  · intro w'
                    go_simp
                    with_reducible rfl
                  rotate_left
                  · simp only [Act.put, List.setIfInBounds_toArray, List.set_cons_zero, List.set_cons_succ, i64_w, i32_w]
                    rfl
                  refine pure_ (i := 1) (N := some 112) (v := ?_) (a' := ?_) #[true, true, false, false, false, false, false, false, false, false, false, false, false, false] rfl rfl (any_of HT_.out (by kernel_rfl)) (fun _ _ _ h => h) (Or.inl ⟨by rfl, ?_⟩) ?_ ?_
                  rotate_left
                  · intro w'
                    go_simp
                    with_reducible rfl
                  rotate_left
                  · simp only [Act.put, List.setIfInBounds_toArray, List.set_cons_zero, List.set_cons_succ, i64_w, i32_w]
                    rfl
                  refine pure_ (i := 2) (N := some 113) (v := ?_) (a' := ?_) #[true, true, true, false, false, false, false, false, false, false, false, false, false, false] rfl rfl (any_of HT_.out (by kernel_rfl)) (fun _ _ _ h => h) (Or.inl ⟨by rfl, ?_⟩) ?_ ?_
                  rotate_left
                  · intro w'
                    go_simp
                    with_reducible rfl
                  rotate_left
                  · simp only [Act.put, List.setIfInBounds_toArray, List.set_cons_zero, List.set_cons_succ, i64_w, i32_w]
                    rfl
                  refine pure_ (i := 3) (N := some 114) (v := ?_) (a' := ?_) #[true, true, true, true, false, false, false, false, false, false, false, false, false, false] rfl rfl (any_of HT_.out (by kernel_rfl)) (fun _ _ _ h => h) (Or.inl ⟨by rfl, ?_⟩) ?_ ?_
                  rotate_left
                  · intro w'
                    go_simp
                    with_reducible rfl
                  rotate_left
                  · simp only [Act.put, List.setIfInBounds_toArray, List.set_cons_zero, List.set_cons_succ, i64_w, i32_w]
                    rfl
                  refine pure_ (i := 4) (N := some 115) (v := ?_) (a' := ?_) #[true, true, true, true, true, false, false, false, false, false, false, false, false, false] rfl rfl (any_of HT_.out (by kernel_rfl)) (fun _ _ _ h => h) (Or.inl ⟨by rfl, ?_⟩) ?_ ?_
                  rotate_left
                  · intro w'
                    go_simp
                    with_reducible rfl
                  rotate_left
                  · simp only [Act.put, List.setIfInBounds_toArray, List.set_cons_zero, List.set_cons_succ, i64_w, i32_w]
                    rfl
                  refine pure_ (i := 5) (N := some 116) (v := ?_) (a' := ?_) #[true, true, true, true, true, true, false, false, false, false, false, false, false, false] rfl rfl (any_of HT_.out (by kernel_rfl)) (fun _ _ _ h => h) (Or.inl ⟨by rfl, ?_⟩) ?_ ?_
                  rotate_left
                  · intro w'
                    go_simp
                    with_reducible rfl
                  rotate_left
                  · simp only [Act.put, List.setIfInBounds_toArray, List.set_cons_zero, List.set_cons_succ, i64_w, i32_w]
                    rfl
                  refine pure_ (i := 7) (N := some 118) (v := ?_) (a' := ?_) #[true, true, true, true, true, true, false, true, false, false, false, false, false, false] rfl rfl (any_of HT_.out (by kernel_rfl)) (fun _ _ _ h => h) (Or.inl ⟨by rfl, ?_⟩) ?_ ?_
                  rotate_left
                  · intro w'
                    go_simp
                    with_reducible rfl
                  rotate_left
                  · simp only [Act.put, List.setIfInBounds_toArray, List.set_cons_zero, List.set_cons_succ, i64_w, i32_w]
                    rfl
                  refine pure_ (i := 8) (N := some 119) (v := ?_) (a' := ?_) #[true, true, true, true, true, true, false, true, true, false, false, false, false, false] rfl rfl (any_of HT_.out (by kernel_rfl)) (fun _ _ _ h => h) (Or.inl ⟨by rfl, ?_⟩) ?_ ?_
                  rotate_left
                  · intro w'
                    go_simp
                    with_reducible rfl
                  rotate_left
                  · simp only [Act.put, List.setIfInBounds_toArray, List.set_cons_zero, List.set_cons_succ, i64_w, i32_w]
                    rfl
                  refine pure_ (i := 9) (N := some 120) (v := ?_) (a' := ?_) #[true, true, true, true, true, true, false, true, true, true, false, false, false, false] rfl rfl (any_of HT_.out (by kernel_rfl)) (fun _ _ _ h => h) (Or.inl ⟨by rfl, ?_⟩) ?_ ?_
                  rotate_left
                  · intro w'
                    go_simp
                    with_reducible rfl
                  rotate_left
                  · simp only [Act.put, List.setIfInBounds_toArray, List.set_cons_zero, List.set_cons_succ, i64_w, i32_w]
                    rfl
                  refine take_ (i := 6) (N := some 117) (v := .agg (geA gi)) (a' := ?_) #[true, true, true, true, true, true, true, true, true, true, false, false, false, false] rfl rfl (take_of HT_.out (by kernel_rfl)) (fun _ _ _ h => h) (Or.inl ⟨by rfl, ?_⟩) hHeld ?_ ?_
                  · rintro w' ⟨s1, s2⟩
                    obtain ⟨z0, z1, z2, z3, z4, z5, z6, z7, z8, z9, z10⟩ := tte_Read.cz11 s2
                    go_simp
                  rotate_left
                  · simp only [Act.put, List.setIfInBounds_toArray, List.set_cons_zero, List.set_cons_succ, i64_w, i32_w]
                    rfl
                  refine take_ (i := 10) (N := some 121) (v := .agg (geA gi)) (a' := ?_) #[true, true, true, true, true, true, true, true, true, true, true, false, false, false] rfl rfl (take_of HT_.out (by kernel_rfl)) (fun _ _ _ h => h) (Or.inl ⟨by rfl, ?_⟩) hHeld ?_ ?_
                  · rintro w' ⟨s1, s2⟩
                    obtain ⟨c0, c1, c2, c3, c4, c5, c6, c7, c8, c9, c10⟩ := s1
                    go_simp
                  rotate_left
                  · simp only [Act.put, List.setIfInBounds_toArray, List.set_cons_zero, List.set_cons_succ, i64_w, i32_w]
                    rfl
                  refine pure_ (i := 11) (N := some 122) (v := ?_) (a' := ?_) #[true, true, true, true, true, true, true, true, true, true, true, true, false, false] rfl rfl (any_of HT_.out (by kernel_rfl)) (fun _ _ _ h => h) (Or.inl ⟨by rfl, ?_⟩) ?_ ?_
                  rotate_left
                  · intro w'
                    go_simp
                    with_reducible rfl
                  rotate_left
                  · simp only [Act.put, List.setIfInBounds_toArray, List.set_cons_zero, List.set_cons_succ, i64_w, i32_w]
                    rfl
                  refine pure_ (i := 12) (N := some 123) (v := ?_) (a' := ?_) #[true, true, true, true, true, true, true, true, true, true, true, true, true, false] rfl rfl (any_of HT_.out (by kernel_rfl)) (fun _ _ _ h => h) (Or.inl ⟨by rfl, ?_⟩) ?_ ?_
                  rotate_left
                  · intro w'
                    go_simp
                    with_reducible rfl
                  rotate_left
                  · simp only [Act.put, List.setIfInBounds_toArray, List.set_cons_zero, List.set_cons_succ, i64_w, i32_w]
                    rfl
                  refine pure_ (i := 13) (N := some 124) (v := ?_) (a' := ?_) #[true, true, true, true, true, true, true, true, true, true, true, true, true, true] rfl rfl (any_of HT_.out (by kernel_rfl)) (fun _ _ _ h => h) (Or.inl ⟨by rfl, ?_⟩) ?_ ?_
                  rotate_left
                  · intro w'
                    go_simp
                    with_reducible rfl
                  rotate_left
                  · simp only [Act.put, List.setIfInBounds_toArray, List.set_cons_zero, List.set_cons_succ, i64_w, i32_w]
                    rfl
                  refine done_ (done_of HT_.out (by kernel_rfl)) ?_
                  go_wp2_with fail
                  go_roundw
                  case rel => exact ⟨i + 1, by go_num, by omega, HM, HL, HG⟩
                  case measure => simp [intOf]; omega
                · refine box_step ?hg (N := 22) ?hd (cs := #[.int .i64 0, .int .i64 0, .int .u64 0, .int .u64 0, .bool false, .bool false, .bool false, .bool false, .bool false, .bool false, .bool false]) (t := 50) ?hr ?_; (case hd => rfl); (case hg => rfl); (case hr => first | (go_simp; done) | (go_simp; rfl))
                  intro h22 hg22 wn hbox hb
                  have HB22 := Aside0.mk hbox
                  have HN22 := Aside0.mk (show W.heap.size ≤ h22 from by rw [hg22]; exact HG.out.size)
                  replace HL := Aside0.mk (Kd.R_elderB HL.out h22 (Nat.le_of_eq hg22.symm))
                  have hg := below_grown hb
                  replace HG := Aside0.mk (grown_two HG.out hg)
                  replace HM := Aside0.mk (HM.out.same hg)
                  replace HL := Aside0.mk (Kd.R_grown HL.out hg (by simp))
                  have hs : GEAt wn (ad.add (i * 11)) gi := hHeld.grown hg
                  clear hg hg22 hbox hb
                  refine hK.out _ _ hs (fun hHeld => ?_)
                  clear hK K
                  refine norm_ (a' := ?_) ?_ ?_
                  rotate_left
                  · show Act.put _ (some 22) _ = _
                    simp only [Act.put, List.setIfInBounds_toArray, List.set_cons_zero, List.set_cons_succ, i64_w, i32_w]
                    rfl
                  refine one_ (i := 11) (N := some 101) #[true, true, true, true, true, true, true, true, true, true, true, true, false, false, false, true, false, false] rfl rfl (one_of HT_.out (by kernel_rfl)) (by decide) (fun K hK => ?_)
                  refine goes_ Try.func24 (by kernel_rfl) rfl #[.pointer (some ⟨pt, 0, none⟩), .int .u64 (gi.v : Int), .int .i64 (gi.c : Int)] (by rfl) rfl rfl (by (try simp only [List.map_toArray, List.map_cons, List.map_nil]); first | done | rfl) ?_
                  refine (o_find HTB.out HM.out gi.v HKI.out.hv gi.c).mono ?_
                  rintro x0 wn ⟨hx0, hg⟩
                  obtain rfl : x0 = .returned (.tuple #[.agg (geA gi), .bool true]) := by rw [hx0, HFI.out]; rfl
                  clear hx0
                  replace HG := Aside0.mk (grown_two HG.out hg)
                  replace HM := Aside0.mk (HM.out.same hg)
                  replace HL := Aside0.mk (Kd.R_grown HL.out hg (by simp))
                  have hs : GEAt wn (ad.add (i * 11)) gi := hHeld.grown hg
                  replace HB22 := Aside0.mk (blk_grown HB22.out hg)
                  clear hg
                  refine ⟨_, rfl, ?_⟩
                  refine hK.out _ _ hs (fun hHeld => ?_)
                  clear hK K
                  refine norm_ (a' := ?_) ?_ ?_
                  rotate_left
                  · show Act.put _ (some 101) _ = _
                    simp only [Act.put, List.setIfInBounds_toArray, List.set_cons_zero, List.set_cons_succ, i64_w, i32_w]
                    rfl
                  refine pure_ (i := 12) (N := some 89) (v := ?_) (a' := ?_) #[true, true, true, true, true, true, true, true, true, true, true, true, true, false, false, true, false, false] rfl rfl (any_of HT_.out (by kernel_rfl)) (fun _ _ _ h => h) (Or.inl ⟨by rfl, ?_⟩) ?_ ?_
                  rotate_left
                  · intro w'
                    go_simp
                    with_reducible rfl
                  rotate_left
                  · simp only [Act.put, List.setIfInBounds_toArray, List.set_cons_zero, List.set_cons_succ, i64_w, i32_w]
                    rfl
                  refine pure_ (i := 13) (N := some 102) (v := ?_) (a' := ?_) #[true, true, true, true, true, true, true, true, true, true, true, true, true, true, false, true, false, false] rfl rfl (any_of HT_.out (by kernel_rfl)) (fun _ _ _ h => h) (Or.inl ⟨by rfl, ?_⟩) ?_ ?_
                  rotate_left
                  · intro w'
                    go_simp
                    with_reducible rfl
                  rotate_left
                  · simp only [Act.put, List.setIfInBounds_toArray, List.set_cons_zero, List.set_cons_succ, i64_w, i32_w]
                    rfl
                  refine pure_ (i := 14) (N := some 103) (v := ?_) (a' := ?_) #[true, true, true, true, true, true, true, true, true, true, true, true, true, true, true, true, false, false] rfl rfl (any_of HT_.out (by kernel_rfl)) (fun _ _ _ h => h) (Or.inl ⟨by rfl, ?_⟩) ?_ ?_
                  rotate_left
                  · intro w'
                    go_simp
                    with_reducible rfl
                  rotate_left
                  · simp only [Act.put, List.setIfInBounds_toArray, List.set_cons_zero, List.set_cons_succ, i64_w, i32_w]
                    rfl
                  refine one_ (i := 16) (N := none) #[true, true, true, true, true, true, true, true, true, true, true, true, true, true, true, true, true, false] rfl rfl (one_of HT_.out (by kernel_rfl)) (by decide) (fun K hK => ?_)
                  rw [if_pos (by rfl)]
                  refine wp_store_row 50 (.tmp 22) (.tmp 102) rfl h22 (geA gi) rfl rfl 50 #[.int .i64 0, .int .i64 0, .int .u64 0, .int .u64 0, .bool false, .bool false, .bool false, .bool false, .bool false, .bool false, .bool false] HB22.out (by kernel_rfl) rfl (by kernel_rfl) ?_
                  have hb2 := setRow_heap wn h22 _ (geA gi) _ _ HB22.out
                  have hgr := grown_row wn h22 (geA gi)
                  replace HM := Aside0.mk (HM.out.kept hgr HB22.out (by decide) (by decide) HN22.out)
                  replace HG := Aside0.mk (grown_loc HG.out hgr HN22.out)
                  replace HL := Aside0.mk (Kd.R_mono (ok' := fun _ => True) (Kd.R_grown HL.out hgr (fun k hk e => hk.2 (Option.some.inj e))) (fun _ _ => trivial))
                  have hs : GEAt (World.setRow wn h22 (geA gi)) (ad.add (i * 11)) gi := by
                    obtain ⟨ad3, hA3, hg3⟩ := own_ge HL.out (fun g hg => (HXF.out g hg).1) i hix
                    obtain rfl : ad = ad3 := Option.some.inj hA3
                    rw [HXI.out] at hg3
                    exact hg3
                  generalize World.setRow wn h22 (geA gi) = wb at hb2 hs HM HG HL ⊢
                  replace HB22 := Aside0.mk hb2
                  clear hgr hb2
                  refine hK.out _ _ hs (fun hHeld => ?_)
                  clear hK K
                  refine norm_ (a' := ?_) ?_ ?_
                  rotate_left
                  · show Act.put _ none _ = _
                    rfl
                  refine pure_ (i := 17) (N := some 23) (v := ?_) (a' := ?_) #[true, true, true, true, true, true, true, true, true, true, true, true, true, true, true, true, true, true] rfl rfl (any_of HT_.out (by kernel_rfl)) (fun _ _ _ h => h) (Or.inl ⟨by rfl, ?_⟩) ?_ ?_
                  rotate_left
                  · intro w'
                    go_simp
                    with_reducible rfl
                  rotate_left
                  · simp only [Act.put, List.setIfInBounds_toArray, List.set_cons_zero, List.set_cons_succ, i64_w, i32_w]
                    rfl
                  refine done_ (done_of HT_.out (by kernel_rfl)) ?_
                  have HEI := Aside0.mk hHeld
                  clear hHeld
                  obtain ⟨c0, c1, c2, c3, c4, c5, c6, c7, c8, c9, c10⟩ := HEI.out
                  go_wp2_with fail
                  refine (rhits_calls HKI.out va HVL.out ctx _).mono ?_
                  rintro x0 wn ⟨rfl, hg⟩
                  clear c0 c1 c2 c3 c4 c5 c6 c7 c8 c9 c10
                  replace HG := Aside0.mk (grown_two HG.out hg)
                  replace HM := Aside0.mk (HM.out.same hg)
                  replace HL := Aside0.mk (Kd.R_grown HL.out hg (by simp))
                  replace HB22 := Aside0.mk (blk_grown HB22.out hg)
                  replace HEI := Aside0.mk (HEI.out.grown hg)
                  rw [HHH.out]
                  clear hg
                  go_upto_region 24 with fail
                  replace HG := Aside0.mk (grown_two HG.out (grown_drew wn none))
                  replace HM := Aside0.mk (HM.out.same (grown_drew wn none))
                  replace HL := Aside0.mk (Kd.R_drew HL.out)
                  replace HB22 := Aside0.mk (blk_grown HB22.out (grown_drew wn none))
                  replace HEI := Aside0.mk (HEI.out.grown (grown_drew wn none))
                  refine start_ (n := 14) (S := fun w' => GEAt w' (ad.add (i * 11)) gi ∧ w'.heap[h22]? = some (.cells (geA gi) 50 (0, 0))) (ds := []) #[false, false, false, false, false, false, false, false, false, false, false, false, false, false] (by kernel_rfl) rfl rfl ⟨HEI.out, HB22.out⟩ (fun hHeld => ?_)
                  refine with_tab tdrops24_tab (fun HT_ => ?_)
                  refine pure_ (i := 0) (N := some 111) (v := ?_) (a' := ?_) #[true, false, false, false, false, false, false, false, false, false, false, false, false, false] rfl rfl (any_of HT_.out (by kernel_rfl)) (fun _ _ _ h => h) (Or.inl ⟨by rfl, ?_⟩) ?_ ?_
                  rotate_left
                  · intro w'
                    go_simp
                    with_reducible rfl
                  rotate_left
                  · simp only [Act.put, List.setIfInBounds_toArray, List.set_cons_zero, List.set_cons_succ, i64_w, i32_w]
                    rfl
                  refine pure_ (i := 1) (N := some 112) (v := ?_) (a' := ?_) #[true, true, false, false, false, false, false, false, false, false, false, false, false, false] rfl rfl (any_of HT_.out (by kernel_rfl)) (fun _ _ _ h => h) (Or.inl ⟨by rfl, ?_⟩) ?_ ?_
                  rotate_left
                  · intro w'
                    go_simp
                    with_reducible rfl
                  rotate_left
                  · simp only [Act.put, List.setIfInBounds_toArray, List.set_cons_zero, List.set_cons_succ, i64_w, i32_w]
                    rfl
                  refine pure_ (i := 2) (N := some 113) (v := ?_) (a' := ?_) #[true, true, true, false, false, false, false, false, false, false, false, false, false, false] rfl rfl (any_of HT_.out (by kernel_rfl)) (fun _ _ _ h => h) (Or.inl ⟨by rfl, ?_⟩) ?_ ?_
                  rotate_left
                  · intro w'
                    go_simp
                    with_reducible rfl
                  rotate_left
                  · simp only [Act.put, List.setIfInBounds_toArray, List.set_cons_zero, List.set_cons_succ, i64_w, i32_w]
                    rfl
                  refine pure_ (i := 3) (N := some 114) (v := ?_) (a' := ?_) #[true, true, true, true, false, false, false, false, false, false, false, false, false, false] rfl rfl (any_of HT_.out (by kernel_rfl)) (fun _ _ _ h => h) (Or.inl ⟨by rfl, ?_⟩) ?_ ?_
                  rotate_left
                  · intro w'
                    go_simp
                    with_reducible rfl
                  rotate_left
                  · simp only [Act.put, List.setIfInBounds_toArray, List.set_cons_zero, List.set_cons_succ, i64_w, i32_w]
                    rfl
                  refine pure_ (i := 4) (N := some 115) (v := ?_) (a' := ?_) #[true, true, true, true, true, false, false, false, false, false, false, false, false, false] rfl rfl (any_of HT_.out (by kernel_rfl)) (fun _ _ _ h => h) (Or.inl ⟨by rfl, ?_⟩) ?_ ?_
                  rotate_left
                  · intro w'
                    go_simp
                    with_reducible rfl
                  rotate_left
                  · simp only [Act.put, List.setIfInBounds_toArray, List.set_cons_zero, List.set_cons_succ, i64_w, i32_w]
                    rfl
                  refine pure_ (i := 5) (N := some 116) (v := ?_) (a' := ?_) #[true, true, true, true, true, true, false, false, false, false, false, false, false, false] rfl rfl (any_of HT_.out (by kernel_rfl)) (fun _ _ _ h => h) (Or.inl ⟨by rfl, ?_⟩) ?_ ?_
                  rotate_left
                  · intro w'
                    go_simp
                    with_reducible rfl
                  rotate_left
                  · simp only [Act.put, List.setIfInBounds_toArray, List.set_cons_zero, List.set_cons_succ, i64_w, i32_w]
                    rfl
                  refine pure_ (i := 7) (N := some 118) (v := ?_) (a' := ?_) #[true, true, true, true, true, true, false, true, false, false, false, false, false, false] rfl rfl (any_of HT_.out (by kernel_rfl)) (fun _ _ _ h => h) (Or.inl ⟨by rfl, ?_⟩) ?_ ?_
                  rotate_left
                  · intro w'
                    go_simp
                    with_reducible rfl
                  rotate_left
                  · simp only [Act.put, List.setIfInBounds_toArray, List.set_cons_zero, List.set_cons_succ, i64_w, i32_w]
                    rfl
                  refine pure_ (i := 8) (N := some 119) (v := ?_) (a' := ?_) #[true, true, true, true, true, true, false, true, true, false, false, false, false, false] rfl rfl (any_of HT_.out (by kernel_rfl)) (fun _ _ _ h => h) (Or.inl ⟨by rfl, ?_⟩) ?_ ?_
                  rotate_left
                  · intro w'
                    go_simp
                    with_reducible rfl
                  rotate_left
                  · simp only [Act.put, List.setIfInBounds_toArray, List.set_cons_zero, List.set_cons_succ, i64_w, i32_w]
                    rfl
                  refine pure_ (i := 9) (N := some 120) (v := ?_) (a' := ?_) #[true, true, true, true, true, true, false, true, true, true, false, false, false, false] rfl rfl (any_of HT_.out (by kernel_rfl)) (fun _ _ _ h => h) (Or.inl ⟨by rfl, ?_⟩) ?_ ?_
                  rotate_left
                  · intro w'
                    go_simp
                    with_reducible rfl
                  rotate_left
                  · simp only [Act.put, List.setIfInBounds_toArray, List.set_cons_zero, List.set_cons_succ, i64_w, i32_w]
                    rfl
                  refine take_ (i := 6) (N := some 117) (v := .agg (geA gi)) (a' := ?_) #[true, true, true, true, true, true, true, true, true, true, false, false, false, false] rfl rfl (take_of HT_.out (by kernel_rfl)) (fun _ _ _ h => h) (Or.inl ⟨by rfl, ?_⟩) hHeld ?_ ?_
                  · rintro w' ⟨s1, s2⟩
                    obtain ⟨z0, z1, z2, z3, z4, z5, z6, z7, z8, z9, z10⟩ := tte_Read.cz11 s2
                    go_simp
                  rotate_left
                  · simp only [Act.put, List.setIfInBounds_toArray, List.set_cons_zero, List.set_cons_succ, i64_w, i32_w]
                    rfl
                  refine take_ (i := 10) (N := some 121) (v := .agg (geA gi)) (a' := ?_) #[true, true, true, true, true, true, true, true, true, true, true, false, false, false] rfl rfl (take_of HT_.out (by kernel_rfl)) (fun _ _ _ h => h) (Or.inl ⟨by rfl, ?_⟩) hHeld ?_ ?_
                  · rintro w' ⟨s1, s2⟩
                    obtain ⟨c0, c1, c2, c3, c4, c5, c6, c7, c8, c9, c10⟩ := s1
                    go_simp
                  rotate_left
                  · simp only [Act.put, List.setIfInBounds_toArray, List.set_cons_zero, List.set_cons_succ, i64_w, i32_w]
                    rfl
                  refine pure_ (i := 11) (N := some 122) (v := ?_) (a' := ?_) #[true, true, true, true, true, true, true, true, true, true, true, true, false, false] rfl rfl (any_of HT_.out (by kernel_rfl)) (fun _ _ _ h => h) (Or.inl ⟨by rfl, ?_⟩) ?_ ?_
                  rotate_left
                  · intro w'
                    go_simp
                    with_reducible rfl
                  rotate_left
                  · simp only [Act.put, List.setIfInBounds_toArray, List.set_cons_zero, List.set_cons_succ, i64_w, i32_w]
                    rfl
                  refine pure_ (i := 12) (N := some 123) (v := ?_) (a' := ?_) #[true, true, true, true, true, true, true, true, true, true, true, true, true, false] rfl rfl (any_of HT_.out (by kernel_rfl)) (fun _ _ _ h => h) (Or.inl ⟨by rfl, ?_⟩) ?_ ?_
                  rotate_left
                  · intro w'
                    go_simp
                    with_reducible rfl
                  rotate_left
                  · simp only [Act.put, List.setIfInBounds_toArray, List.set_cons_zero, List.set_cons_succ, i64_w, i32_w]
                    rfl
                  refine pure_ (i := 13) (N := some 124) (v := ?_) (a' := ?_) #[true, true, true, true, true, true, true, true, true, true, true, true, true, true] rfl rfl (any_of HT_.out (by kernel_rfl)) (fun _ _ _ h => h) (Or.inl ⟨by rfl, ?_⟩) ?_ ?_
                  rotate_left
                  · intro w'
                    go_simp
                    with_reducible rfl
                  rotate_left
                  · simp only [Act.put, List.setIfInBounds_toArray, List.set_cons_zero, List.set_cons_succ, i64_w, i32_w]
                    rfl
                  refine done_ (done_of HT_.out (by kernel_rfl)) ?_
                  go_wp2_with fail
                  go_roundw
                  case rel => exact ⟨i + 1, by go_num, by omega, HM, HL, HG⟩
                  case measure => simp [intOf]; omega
            · obtain rfl : i = xs.length := by omega
              have hw : IntKind.i64.wrap ((N : Int) - (L2 : Int)) = ((N - L2 : Nat) : Int) := by rw [IntWalk.i64_in _ (by omega)]; omega
              have ho := o_locked HTB.out HM.out
              rw [← HL2.out] at ho
              have HOL := Aside0.mk ho
              clear ho hi hix
              go_wp2_with fail
              refine HOL.out.mono ?_
              rintro x0 w7 ⟨rfl, hg⟩
              replace HG := Aside0.mk (grown_two HG.out hg)
              replace HM := Aside0.mk (HM.out.same hg)
              clear hg HOL
              go_wp2_with fail
              refine (tlen_calls HM.out.row).mono ?_
              rintro x0 w8 ⟨rfl, hg⟩
              replace HG := Aside0.mk (grown_two HG.out hg)
              clear hg
              go_wp2_with fail
              refine (lives10 _).mono ?_
              rintro x0 w9 ⟨rfl, hg⟩
              replace HG := Aside0.mk (grown_two HG.out hg)
              clear hg
              go_wp2_with fail
              go_ret
              exact ⟨rfl, below_of_grown HG.out⟩
end
end Go.Proofs.Ytjnffegjpkbjmaa.Mem
