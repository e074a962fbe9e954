/- TsbMoves: what a TSB has, another one of its size has behind Into. -/
import Derived.Test.YtjnffegjpkbjmaaTsMp
namespace Go.Proofs.Ytjnffegjpkbjmaa.Mem
open Go.RowKit Go.Maps Go.Proofs.YtjnffegjpkbjmaaW.PrintWords Go.Proofs.YtjnffegjpkbjmaaW.PrintLast Go.Proofs.YtjnffegjpkbjmaaW.PrintMore Go.Proofs.Ytjnffegjpkbjmaa.QTsbPlays Go.Proofs.Ytjnffegjpkbjmaa.Pure
set_option linter.unusedSimpArgs false
set_option linter.unusedVariables false
section
set_option maxHeartbeats 2000000
set_option maxRecDepth 100000
noncomputable def tmoves8_T : Bool × List (List Nat × List Nat) := rtab .any (opsOf Try.f6 8)
theorem tmoves8_tab : rtab .any (opsOf Try.f6 8) = tmoves8_T := rfl
noncomputable def tmoves13_T : Bool × List (List Nat × List Nat) := rtab .any (opsOf Try.f6 13)
theorem tmoves13_tab : rtab .any (opsOf Try.f6 13) = tmoves13_T := rfl
theorem insL_ok {N s : Nat} : ∀ (xs : List GE), (∀ g ∈ xs, g.ok ∧ g.s = s) → ∀ os, OKO N s os → OKO N s (insL N s xs os)
  | [], _, os, h => h
  | g :: xs, hx, os, h => insL_ok xs (fun z hz => hx z (by simp [hz])) _ (h.set (fun g' e => by cases e; exact ⟨(hx g (by simp)).1, (hx g (by simp)).2, rfl⟩))
theorem tsbMoves_calls (size a b : Int) (x : Option Addr) (len cap : Nat) (W : World) (hs : (Lit.int .i64 size).wf = true) (ha : (Lit.int .i64 a).wf = true) (hb : (Lit.int .i64 b).wf = true) (hl : Ents W x len ∧ len ≤ maxLen) :
    Calls Try.prog 6 #[.int .i64 size, .int .i64 a, .int .i64 b, .slice x len cap] W fun e W' => e = .returned (.bool true) ∧ Below W.heap.size W W' := by
  have hu := Try.underlying50
  have hu2 := Try.underlying44
  have HEN := Aside0.mk hl.1
  have hlm : len ≤ 9223372036854775807 := hl.2
  have HG := Aside0.mk (grown_refl W none)
  clear hl
  go_enter Try.func6, Try.ntmps6
  go_wp2_with fail
  refine (o_begin (below_of_grown HG.out) HG.out.size size a).mono ?_
  rintro x0 w1 ⟨p, mb, pt, A, c, rfl, hR, hM, hmb, hg, hTB⟩
  have HM := Aside0.mk hM
  have HO := Aside0.mk hR
  have HTB := Aside0.mk hTB
  have HMB := Aside0.mk hmb
  have HDV := Aside0.mk (plcs_dvd (ar4_lt size) (ar4_lt a) (ar4_lt b))
  replace HG := Aside0.mk hg
  clear hM hmb hg hTB hR
  have hg := World.grownBy_alloc w1 (.cells #[.int .i64 (ar4 size), .int .i64 (plcs (ar4 size) (ar4 a)), .slice A 0 c] 44) none
  have HB12 := Aside0.mk (heap_alloc_new w1 (.cells #[.int .i64 (ar4 size), .int .i64 (plcs (ar4 size) (ar4 a)), .slice A 0 c] 44))
  have HH12 := Aside0.mk (show W.heap.size ≤ w1.heap.size from HG.out.size)
  replace HG := Aside0.mk (grown_two HG.out hg)
  replace HM := Aside0.mk (HM.out.same hg)
  replace HO := Aside0.mk (Kd.R_grown HO.out hg (by simp))
  clear hg
  go_wp2_with fail
  generalize w1.heap.size = h12 at HB12 HH12 ⊢
  generalize w1.alloc (.cells #[.int .i64 (ar4 size), .int .i64 (plcs (ar4 size) (ar4 a)), .slice A 0 c] 44) = w2 at HB12 HG HM HO ⊢
  refine (o_begin (below_of_grown HG.out) HG.out.size size b).mono ?_
  rintro x0 w3 ⟨p2, mb2, pt2, A2, c2, rfl, hR, hM, hmb, hg, hTB⟩
  have HM2 := Aside0.mk hM
  have HO2 := Aside0.mk (Kd.R_lower hR HG.out.size)
  have HTB2 := Aside0.mk hTB
  have HMB2 := Aside0.mk (show mb ≠ mb2 ∧ W.heap.size ≤ mb2 from ⟨fun e => by have := HM.out.lt.2.1; omega, Nat.le_trans HG.out.size hmb⟩)
  replace HM := Aside0.mk (HM.out.same hg)
  replace HO := Aside0.mk (Kd.R_grown HO.out hg (by simp))
  replace HB12 := Aside0.mk (blk_grown HB12.out hg)
  replace HG := Aside0.mk (grown_two HG.out hg)
  clear hM hmb hg hTB hR
  generalize plcs (ar4 size) (ar4 a) = N at HM HTB HDV HB12 ⊢
  generalize plcs (ar4 size) (ar4 b) = N2 at HM2 HTB2 HDV ⊢
  generalize ar4 size = s at HM HM2 HTB HTB2 HB12 ⊢
  generalize (ar4 a : Int) = gr at HM ⊢
  generalize (ar4 b : Int) = gr2 at HM2 ⊢
  have hg := World.grownBy_alloc w3 (.cells #[.int .i64 s, .int .i64 N2, .slice A2 0 c2] 44) none
  have HB13 := Aside0.mk (heap_alloc_new w3 (.cells #[.int .i64 s, .int .i64 N2, .slice A2 0 c2] 44))
  have HH13 := Aside0.mk (show W.heap.size ≤ w3.heap.size from HG.out.size)
  have HN13 := Aside0.mk (show h12 ≠ w3.heap.size ∧ True from ⟨fun e => by have := blk_lt HB12.out; omega, trivial⟩)
  replace HG := Aside0.mk (grown_two HG.out hg)
  replace HM := Aside0.mk (HM.out.same hg)
  replace HM2 := Aside0.mk (HM2.out.same hg)
  replace HO := Aside0.mk (Kd.R_grown HO.out hg (by simp))
  replace HO2 := Aside0.mk (Kd.R_grown HO2.out hg (by simp))
  replace HB12 := Aside0.mk (blk_grown HB12.out hg)
  clear hg
  go_wp2_with fail
  generalize w3.heap.size = h13 at HB13 HH13 HN13 ⊢
  generalize w3.alloc (.cells #[.int .i64 s, .int .i64 N2, .slice A2 0 c2] 44) = w4 at HB12 HB13 HG HM HM2 HO HO2 ⊢
  go_loopw [13] (fun v13 wr => ∃ (k : Nat) (os : Nat → Option GE) (l : List WS) (A : Option Addr) (c : Nat), v13 = .int .i64 k ∧ k ≤ len ∧ k ≤ 12 ∧ l.length ≤ 3 * k ∧ Aside0 (DW N os l) ∧ Aside0 (TQ W.heap.size W p mb pt 1048576 65536 N s gr (2 * N + 3 * k) (os) wr) ∧ Aside0 (Kd.R k122 122 wr W.heap.size (fun _ => True) (.slice A l.length c) l) ∧ Aside0 (W.grownBy wr none) ∧ Aside0 (wr.heap[h12]? = some (.cells #[.int .i64 s, .int .i64 N, .slice A l.length c] 44 (0, 0))) ∧ Aside0 (TQ W.heap.size W p2 mb2 pt2 1048576 65536 N2 s gr2 (2 * N2) (fun _ => none) wr) ∧ Aside0 (Kd.R k122 122 wr W.heap.size (fun _ => True) (.slice A2 0 c2) []) ∧ Aside0 (wr.heap[h13]? = some (.cells #[.int .i64 s, .int .i64 N2, .slice A2 0 c2] 44 (0, 0)))) (fun v13 _ => 12 - (intOf v13).toNat)
  case atStart => exact ⟨0, fun _ => none, [], A, c, rfl, by omega, by omega, by simp, ⟨dw_nil N⟩, HM, HO, HG, HB12, HM2, HO2, HB13⟩
  case round =>
    clear HM HO HG HB12 HM2 HO2 HB13
    obtain ⟨k, os, l, A, c, rfl, hk, hkm, hll, HDW, HM, HO, HG, HB12, HM2, HO2, HB13⟩ := hrel
    by_cases hlk : k < len ∧ k < 12
    · have h1' : (k : Int) < (len : Int) := by omega
      have h2' : (k : Int) < 12 := by omega
      have h0' : (0 : Int) ≤ (k : Int) := by omega
      obtain ⟨y, e, rfl, HEW0⟩ := HEN.out.at k hlk.1
      have HEW := Aside0.mk HEW0
      have HWE := Aside0.mk HEW0.wf
      clear HEW0
      go_upto_region 8 with fail
      replace HB12 := Aside0.mk (blk_grown HB12.out (grown_drew wr none))
      replace HB13 := Aside0.mk (blk_grown HB13.out (grown_drew wr none))
      replace HG := Aside0.mk (grown_two HG.out (grown_drew wr none))
      replace HM := Aside0.mk (HM.out.same (grown_drew wr none))
      replace HM2 := Aside0.mk (HM2.out.same (grown_drew wr none))
      replace HO := Aside0.mk (Kd.R_drew HO.out)
      replace HO2 := Aside0.mk (Kd.R_drew HO2.out)
      refine start_ (n := 10) (S := fun w' => EntAt w' (y.add (k * 11)) e ∧ w'.heap[h12]? = some (.cells #[.int .i64 s, .int .i64 N, .slice A l.length c] 44 (0, 0))) (ds := []) #[false, false, false, false, false, false, false, false, false, false] (by kernel_rfl) rfl rfl ⟨HEW.out.grown HG.out, HB12.out⟩ (fun hHeld => ?_)
      refine with_tab tmoves8_tab (fun HT_ => ?_)
      refine pure_ (i := 0) (N := some 45) (v := ?_) (a' := ?_) #[true, false, false, false, false, false, false, false, false, false] rfl rfl (any_of HT_.out (by kernel_rfl)) (fun _ _ _ h => h) (Or.inl ⟨by rfl, ?_⟩) ?_ ?_
      rotate_left
      · intro w'
        go_simp
        with_reducible rfl
      rotate_left
      · simp only [Act.put, List.setIfInBounds_toArray, List.set_cons_zero, List.set_cons_succ, i64_w, i32_w]
        rfl
      refine pure_ (i := 1) (N := some 46) (v := ?_) (a' := ?_) #[true, true, false, false, false, false, false, false, false, false] rfl rfl (any_of HT_.out (by kernel_rfl)) (fun _ _ _ h => h) (Or.inl ⟨by rfl, ?_⟩) ?_ ?_
      rotate_left
      · intro w'
        go_simp
        with_reducible rfl
      rotate_left
      · simp only [Act.put, List.setIfInBounds_toArray, List.set_cons_zero, List.set_cons_succ, i64_w, i32_w]
        rfl
      refine pure_ (i := 2) (N := some 47) (v := ?_) (a' := ?_) #[true, true, true, false, false, false, false, false, false, false] rfl rfl (any_of HT_.out (by kernel_rfl)) (fun _ _ _ h => h) (Or.inl ⟨by rfl, ?_⟩) ?_ ?_
      rotate_left
      · intro w'
        go_simp
        with_reducible rfl
      rotate_left
      · simp only [Act.put, List.setIfInBounds_toArray, List.set_cons_zero, List.set_cons_succ, i64_w, i32_w]
        rfl
      refine pure_ (i := 5) (N := some 50) (v := ?_) (a' := ?_) #[true, true, true, false, false, true, false, false, false, false] rfl rfl (any_of HT_.out (by kernel_rfl)) (fun _ _ _ h => h) (Or.inl ⟨by rfl, ?_⟩) ?_ ?_
      rotate_left
      · intro w'
        go_simp
        with_reducible rfl
      rotate_left
      · simp only [Act.put, List.setIfInBounds_toArray, List.set_cons_zero, List.set_cons_succ, i64_w, i32_w]
        rfl
      refine take_ (i := 3) (N := some 48) (v := .agg (entA e)) (a' := ?_) #[true, true, true, true, false, true, false, false, false, false] rfl rfl (take_of HT_.out (by kernel_rfl)) (fun _ _ _ h => h) (Or.inl ⟨by rfl, ?_⟩) hHeld ?_ ?_
      · rintro w' ⟨s1, s2⟩
        obtain ⟨_, c0, c1, c2, c3, c4, c5, c6, c7, c8, c9, c10⟩ := s1
        go_simp
      rotate_left
      · simp only [Act.put, List.setIfInBounds_toArray, List.set_cons_zero, List.set_cons_succ, i64_w, i32_w]
        rfl
      refine pure_ (i := 4) (N := some 49) (v := ?_) (a' := ?_) #[true, true, true, true, true, true, false, false, false, false] rfl rfl (any_of HT_.out (by kernel_rfl)) (fun _ _ _ h => h) (Or.inl ⟨by rfl, ?_⟩) ?_ ?_
      rotate_left
      · intro w'
        go_simp
        with_reducible rfl
      rotate_left
      · simp only [Act.put, List.setIfInBounds_toArray, List.set_cons_zero, List.set_cons_succ, i64_w, i32_w]
        rfl
      refine take_ (i := 6) (N := some 51) (v := .int .i64 s) (a' := ?_) #[true, true, true, true, true, true, true, false, false, false] rfl rfl (take_of HT_.out (by kernel_rfl)) (fun _ _ _ h => h) (Or.inl ⟨by rfl, ?_⟩) hHeld ?_ ?_
      · rintro w' ⟨s1, s2⟩
        obtain ⟨q0, q1, q2⟩ := cz3q s2
        go_simp
      rotate_left
      · simp only [Act.put, List.setIfInBounds_toArray, List.set_cons_zero, List.set_cons_succ, i64_w, i32_w]
        rfl
      refine two_ (i := 7) (j := 8) (Ni := some 52) (Nj := some 14) #[true, true, true, true, true, true, true, true, false, false] #[true, true, true, true, true, true, true, false, true, false] rfl rfl rfl rfl (two_of HT_.out (by kernel_rfl)) (by decide) (by decide) (fun K hK => ?_) (fun K hK => ?_)
      · refine goes_ Try.func21 (by kernel_rfl) rfl #[.agg #[.int .i64 0, .int .i64 0, .int .u64 0, .int .i64 e.f0, .int .i64 e.f1, .int .u64 e.f2, .int .u64 e.f3, .bool e.f4.f0, .bool e.f4.f1, .bool e.f4.f2, .bool e.f4.f3, .bool e.f4.f4, .bool e.f4.f5, .bool e.f5, .bool false], .int .i64 s] (by rfl) rfl rfl (by (try simp only [List.map_toArray, List.map_cons, List.map_nil]); first | done | rfl) ?_
        refine (entry_calls e HWE.out s HTB.out.hs _).mono ?_
        rintro x0 wn ⟨rfl, hg⟩
        replace HG := Aside0.mk (grown_two HG.out hg)
        replace HM := Aside0.mk (HM.out.same hg)
        replace HO := Aside0.mk (Kd.R_grown HO.out hg (by simp))
        replace HM2 := Aside0.mk (HM2.out.same hg)
        replace HO2 := Aside0.mk (Kd.R_grown HO2.out hg (by simp))
        replace HB13 := Aside0.mk (blk_grown HB13.out hg)
        have hs : EntAt wn (y.add (k * 11)) e ∧ wn.heap[h12]? = some (.cells #[.int .i64 s, .int .i64 N, .slice A l.length c] 44 (0, 0)) := ⟨hHeld.1.grown hg, blk_grown hHeld.2 hg⟩
        clear hg
        refine ⟨_, rfl, ?_⟩
        refine hK.out _ _ hs (fun hHeld => ?_)
        clear hK K
        refine norm_ (a' := ?_) ?_ ?_
        rotate_left
        · show Act.put _ (some 52) _ = _
          simp only [Act.put, List.setIfInBounds_toArray, List.set_cons_zero, List.set_cons_succ, i64_w, i32_w]
          rfl
        refine one_ (i := 8) (N := some 14) #[true, true, true, true, true, true, true, true, true, false] rfl rfl (one_of HT_.out (by kernel_rfl)) (by decide) (fun K hK => ?_)
        refine box_step ?hg (N := 14) ?hd (cs := #[.int .i64 0, .int .i64 0, .int .u64 0, .int .u64 0, .bool false, .bool false, .bool false, .bool false, .bool false, .bool false, .bool false]) (t := 50) ?hr ?_; (case hd => rfl); (case hg => rfl); (case hr => first | (go_simp; done) | (go_simp; rfl))
        intro h15 hg15 wn hbox hb
        have HB15 := Aside0.mk hbox
        have HN15 := Aside0.mk (show W.heap.size ≤ h15 ∧ h12 ≠ h15 from ⟨by rw [hg15]; exact HG.out.size, fun e => by have := blk_lt hHeld.2; omega⟩)
        have hg := below_grown hb
        replace HG := Aside0.mk (grown_two HG.out hg)
        replace HM := Aside0.mk (HM.out.same hg)
        replace HO := Aside0.mk (Kd.R_grown HO.out hg (by simp))
        replace HM2 := Aside0.mk (HM2.out.same hg)
        replace HO2 := Aside0.mk (Kd.R_grown HO2.out hg (by simp))
        replace HB13 := Aside0.mk (blk_grown HB13.out hg)
        have hs : EntAt wn (y.add (k * 11)) e ∧ wn.heap[h12]? = some (.cells #[.int .i64 s, .int .i64 N, .slice A l.length c] 44 (0, 0)) := ⟨hHeld.1.grown hg, blk_grown hHeld.2 hg⟩
        clear hg hg15 hbox hb
        refine hK.out _ _ hs (fun hHeld => ?_)
        clear hK K
        refine norm_ (a' := ?_) ?_ ?_
        rotate_left
        · show Act.put _ (some 14) _ = _
          simp only [Act.put, List.setIfInBounds_toArray, List.set_cons_zero, List.set_cons_succ, i64_w, i32_w]
          rfl
        refine one_ (i := 9) (N := none) #[true, true, true, true, true, true, true, true, true, true] rfl rfl (one_of HT_.out (by kernel_rfl)) (by decide) (fun K hK => ?_)
        rw [if_pos (by rfl)]
        refine wp_store_row 50 (.tmp 14) (.tmp 52) rfl h15 (geA (geE s e)) rfl rfl 50 #[.int .i64 0, .int .i64 0, .int .u64 0, .int .u64 0, .bool false, .bool false, .bool false, .bool false, .bool false, .bool false, .bool false] HB15.out (by kernel_rfl) rfl (by kernel_rfl) ?_
        have hb2 := setRow_heap wn h15 _ (geA (geE s e)) _ _ HB15.out
        have hgr := grown_row wn h15 (geA (geE s e))
        have ht := (hgr.block h12 (blk_lt hHeld.2) (fun e => HN15.out.2 (Option.some.inj e))).trans hHeld.2
        replace HM := Aside0.mk (HM.out.kept hgr HB15.out (by decide) (by decide) HN15.out.1)
        replace HG := Aside0.mk (grown_loc HG.out hgr HN15.out.1)
        replace HO := Aside0.mk (Kd.R_mono (ok' := fun _ => True) (Kd.R_grown (Kd.R_types HO.out HB15.out (by decide)) hgr (fun k hk e => hk.2 (Option.some.inj e))) (fun _ _ => trivial))
        replace HM2 := Aside0.mk (HM2.out.kept hgr HB15.out (by decide) (by decide) HN15.out.1)
        replace HO2 := Aside0.mk (Kd.R_mono (ok' := fun _ => True) (Kd.R_grown (Kd.R_types HO2.out HB15.out (by decide)) hgr (fun k hk e => hk.2 (Option.some.inj e))) (fun _ _ => trivial))
        replace HB13 := Aside0.mk (blk_keptR HB13.out hgr (fun k e => by cases e; exact ⟨_, HB15.out⟩) (by decide))
        have hs : EntAt (World.setRow wn h15 (geA (geE s e))) (y.add (k * 11)) e ∧ (World.setRow wn h15 (geA (geE s e))).heap[h12]? = some (.cells #[.int .i64 s, .int .i64 N, .slice A l.length c] 44 (0, 0)) := ⟨HEW.out.grown HG.out, ht⟩
        generalize World.setRow wn h15 (geA (geE s e)) = wb at hb2 ht hs HM HG HO HM2 HO2 HB13 ⊢
        replace HB15 := Aside0.mk hb2
        replace HB12 := Aside0.mk ht
        clear hgr hb2 ht
        refine hK.out _ _ hs (fun hHeld => ?_)
        clear hK K
        refine norm_ (a' := ?_) ?_ ?_
        rotate_left
        · show Act.put _ none _ = _
          rfl
        refine done_ (done_of HT_.out (by kernel_rfl)) ?_
        obtain ⟨g, hge⟩ : ∃ g, g = geE s e := ⟨_, rfl⟩
        rw [← hge] at HB15 ⊢
        have HGO := Aside0.mk (show g.ok ∧ g.s = s by rw [hge]; exact ⟨geE_ok s e HTB.out.hs, rfl⟩)
        clear hge
        obtain ⟨z0, z1, z2, z3, z4, z5, z6, z7, z8, z9, z10⟩ := tte_Read.cz11 HB15.out
        go_wp2_with fail
        refine (o_insert HTB.out HM.out g HGO.out.1 HGO.out.2 (by have := HTB.out.hN; omega)).mono ?_
        rintro x0 w8 ⟨rfl, hM, hg⟩
        replace HB15 := Aside0.mk ((hg.block _ (blk_lt HB15.out) (fun e => HM.out.nb _ _ _ HB15.out (Option.some.inj e))).trans HB15.out)
        replace HB12 := Aside0.mk ((hg.block _ (blk_lt HB12.out) (fun e => HM.out.nb _ _ _ HB12.out (Option.some.inj e))).trans HB12.out)
        replace HB13 := Aside0.mk ((hg.block _ (blk_lt HB13.out) (fun e => HM.out.nb _ _ _ HB13.out (Option.some.inj e))).trans HB13.out)
        replace HO := Aside0.mk (Kd.R_mono (ok' := fun _ => True) (Kd.R_grown (Kd.R_bound HO.out) hg (fun k hk e => by obtain ⟨_, _, _, q, _, cs, hc⟩ := hk; exact HM.out.nb k cs q hc (Option.some.inj e))) (fun _ _ => trivial))
        replace HO2 := Aside0.mk (Kd.R_mono (ok' := fun _ => True) (Kd.R_grown (Kd.R_bound HO2.out) hg (fun k hk e => by obtain ⟨_, _, _, q, _, cs, hc⟩ := hk; exact HM.out.nb k cs q hc (Option.some.inj e))) (fun _ _ => trivial))
        replace HM2 := Aside0.mk (HM2.out.far hg (Ne.symm HMB2.out.1) (by
          obtain ⟨D, hM2, _⟩ := HM2.out.mem
          exact HM.out.nb _ _ _ hM2.row) (HM.out.nb _ _ _ HM2.out.row) HMB.out)
        replace HG := Aside0.mk (grown_loc HG.out hg HMB.out)
        replace HM := Aside0.mk hM
        clear hM hg z0 z1 z2 z3 z4 z5 z6 z7 z8 z9 z10
        obtain ⟨z0, z1, z2, z3, z4, z5, z6, z7, z8, z9, z10⟩ := tte_Read.cz11 HB15.out
        obtain ⟨q0, q1, q2⟩ := cz3q HB12.out
        go_wp2_with fail
        refine (rinsert_calls HTB.out.hs HTB.out.h1 HTB.out.hN g HGO.out.1 HGO.out.2 (Kd.R_reads' HO.out).2.2 (Kd.R_reads' HO.out).2.1 (by omega)).mono ?_
        rintro x0 w9 ⟨v2, rfl, hR, hg⟩
        have HLL := Aside0.mk (insW_len l (plcOf N (s : Int) g.v : Int) (g.tag : Int) (g.data : Int))
        have HDW2 := Aside0.mk (DW.ins (s := s) HDW.out g (plcOf N (s : Int) g.v))
        generalize insW l (plcOf N (s : Int) g.v : Int) (g.tag : Int) (g.data : Int) = l4 at hR HLL HDW2
        obtain ⟨A4, c4, rfl⟩ := Kd.R_slice hR
        have HO4 := Aside0.mk (Kd.R_lower hR HG.out.size)
        replace HB12 := Aside0.mk (blk_grown HB12.out hg)
        replace HB13 := Aside0.mk (blk_grown HB13.out hg)
        replace HG := Aside0.mk (grown_two HG.out hg)
        replace HM := Aside0.mk (HM.out.same hg)
        replace HM2 := Aside0.mk (HM2.out.same hg)
        replace HO2 := Aside0.mk (Kd.R_grown HO2.out hg (by simp))
        clear hR hg q0 q1 q2 z0 z1 z2 z3 z4 z5 z6 z7 z8 z9 z10 HO HB15
        go_wp2_with (first | ((with_reducible refine gate_store (t := 44) (p := 10) rfl ?_); refine wpList_store_row rfl 44 (.tmp 10) (.tmp 58) rfl h12 #[.int .i64 s, .int .i64 N, .slice A4 l4.length c4] rfl rfl 44 _ HB12.out (by kernel_rfl) rfl (by kernel_rfl) ?_; have SHB12 := Aside0.mk (setRow_heap _ h12 _ #[.int .i64 s, .int .i64 N, .slice A4 l4.length c4] _ _ HB12.out); have THB12 := Aside0.mk (grown_row w9 h12 #[.int .i64 s, .int .i64 N, .slice A4 l4.length c4])))
        replace HM := Aside0.mk (HM.out.kept THB12.out HB12.out (by decide) (by decide) HH12.out)
        replace HM2 := Aside0.mk (HM2.out.kept THB12.out HB12.out (by decide) (by decide) HH12.out)
        have HO := Aside0.mk (Kd.R_mono (ok' := fun _ => True) (Kd.R_grown (Kd.R_types HO4.out HB12.out (by decide)) THB12.out (fun k hk e => hk.2 (Option.some.inj e))) (fun _ _ => trivial))
        replace HO2 := Aside0.mk (Kd.R_mono (ok' := fun _ => True) (Kd.R_grown (Kd.R_types HO2.out HB12.out (by decide)) THB12.out (fun k hk e => hk.2 (Option.some.inj e))) (fun _ _ => trivial))
        replace HB13 := Aside0.mk ((THB12.out.block h13 (blk_lt HB13.out) (fun e => HN13.out.1 (Option.some.inj e).symm)).trans HB13.out)
        replace HG := Aside0.mk (grown_loc HG.out THB12.out HH12.out)
        replace HB12 := Aside0.mk SHB12.out
        generalize World.setRow w9 h12 #[.int .i64 s, .int .i64 N, .slice A4 l4.length c4] = w10 at HM HM2 HO HO2 HG HB12 HB13 ⊢
        clear SHB12 THB12 HO4
        go_wp2_with fail
        go_roundw
        case rel => exact ⟨k + 1, _, l4, A4, c4, by go_num, by omega, by omega, by have := HLL.out; omega, HDW2, HM, HO, HG, HB12, HM2, HO2, HB13⟩
        case measure => simp [intOf]; omega
      · refine box_step ?hg (N := 14) ?hd (cs := #[.int .i64 0, .int .i64 0, .int .u64 0, .int .u64 0, .bool false, .bool false, .bool false, .bool false, .bool false, .bool false, .bool false]) (t := 50) ?hr ?_; (case hd => rfl); (case hg => rfl); (case hr => first | (go_simp; done) | (go_simp; rfl))
        intro h15 hg15 wn hbox hb
        have HB15 := Aside0.mk hbox
        have HN15 := Aside0.mk (show W.heap.size ≤ h15 ∧ h12 ≠ h15 from ⟨by rw [hg15]; exact HG.out.size, fun e => by have := blk_lt hHeld.2; omega⟩)
        have hg := below_grown hb
        replace HG := Aside0.mk (grown_two HG.out hg)
        replace HM := Aside0.mk (HM.out.same hg)
        replace HO := Aside0.mk (Kd.R_grown HO.out hg (by simp))
        replace HM2 := Aside0.mk (HM2.out.same hg)
        replace HO2 := Aside0.mk (Kd.R_grown HO2.out hg (by simp))
        replace HB13 := Aside0.mk (blk_grown HB13.out hg)
        have hs : EntAt wn (y.add (k * 11)) e ∧ wn.heap[h12]? = some (.cells #[.int .i64 s, .int .i64 N, .slice A l.length c] 44 (0, 0)) := ⟨hHeld.1.grown hg, blk_grown hHeld.2 hg⟩
        clear hg hg15 hbox hb
        refine hK.out _ _ hs (fun hHeld => ?_)
        clear hK K
        refine norm_ (a' := ?_) ?_ ?_
        rotate_left
        · show Act.put _ (some 14) _ = _
          simp only [Act.put, List.setIfInBounds_toArray, List.set_cons_zero, List.set_cons_succ, i64_w, i32_w]
          rfl
        refine one_ (i := 7) (N := some 52) #[true, true, true, true, true, true, true, true, true, false] rfl rfl (one_of HT_.out (by kernel_rfl)) (by decide) (fun K hK => ?_)
        refine goes_ Try.func21 (by kernel_rfl) rfl #[.agg #[.int .i64 0, .int .i64 0, .int .u64 0, .int .i64 e.f0, .int .i64 e.f1, .int .u64 e.f2, .int .u64 e.f3, .bool e.f4.f0, .bool e.f4.f1, .bool e.f4.f2, .bool e.f4.f3, .bool e.f4.f4, .bool e.f4.f5, .bool e.f5, .bool false], .int .i64 s] (by rfl) rfl rfl (by (try simp only [List.map_toArray, List.map_cons, List.map_nil]); first | done | rfl) ?_
        refine (entry_calls e HWE.out s HTB.out.hs _).mono ?_
        rintro x0 wn ⟨rfl, hg⟩
        replace HG := Aside0.mk (grown_two HG.out hg)
        replace HM := Aside0.mk (HM.out.same hg)
        replace HO := Aside0.mk (Kd.R_grown HO.out hg (by simp))
        replace HM2 := Aside0.mk (HM2.out.same hg)
        replace HO2 := Aside0.mk (Kd.R_grown HO2.out hg (by simp))
        replace HB13 := Aside0.mk (blk_grown HB13.out hg)
        have hs : EntAt wn (y.add (k * 11)) e ∧ wn.heap[h12]? = some (.cells #[.int .i64 s, .int .i64 N, .slice A l.length c] 44 (0, 0)) := ⟨hHeld.1.grown hg, blk_grown hHeld.2 hg⟩
        replace HB15 := Aside0.mk (blk_grown HB15.out hg)
        clear hg
        refine ⟨_, rfl, ?_⟩
        refine hK.out _ _ hs (fun hHeld => ?_)
        clear hK K
        refine norm_ (a' := ?_) ?_ ?_
        rotate_left
        · show Act.put _ (some 52) _ = _
          simp only [Act.put, List.setIfInBounds_toArray, List.set_cons_zero, List.set_cons_succ, i64_w, i32_w]
          rfl
        refine one_ (i := 9) (N := none) #[true, true, true, true, true, true, true, true, true, true] rfl rfl (one_of HT_.out (by kernel_rfl)) (by decide) (fun K hK => ?_)
        rw [if_pos (by rfl)]
        refine wp_store_row 50 (.tmp 14) (.tmp 52) rfl h15 (geA (geE s e)) rfl rfl 50 #[.int .i64 0, .int .i64 0, .int .u64 0, .int .u64 0, .bool false, .bool false, .bool false, .bool false, .bool false, .bool false, .bool false] HB15.out (by kernel_rfl) rfl (by kernel_rfl) ?_
        have hb2 := setRow_heap wn h15 _ (geA (geE s e)) _ _ HB15.out
        have hgr := grown_row wn h15 (geA (geE s e))
        have ht := (hgr.block h12 (blk_lt hHeld.2) (fun e => HN15.out.2 (Option.some.inj e))).trans hHeld.2
        replace HM := Aside0.mk (HM.out.kept hgr HB15.out (by decide) (by decide) HN15.out.1)
        replace HG := Aside0.mk (grown_loc HG.out hgr HN15.out.1)
        replace HO := Aside0.mk (Kd.R_mono (ok' := fun _ => True) (Kd.R_grown (Kd.R_types HO.out HB15.out (by decide)) hgr (fun k hk e => hk.2 (Option.some.inj e))) (fun _ _ => trivial))
        replace HM2 := Aside0.mk (HM2.out.kept hgr HB15.out (by decide) (by decide) HN15.out.1)
        replace HO2 := Aside0.mk (Kd.R_mono (ok' := fun _ => True) (Kd.R_grown (Kd.R_types HO2.out HB15.out (by decide)) hgr (fun k hk e => hk.2 (Option.some.inj e))) (fun _ _ => trivial))
        replace HB13 := Aside0.mk (blk_keptR HB13.out hgr (fun k e => by cases e; exact ⟨_, HB15.out⟩) (by decide))
        have hs : EntAt (World.setRow wn h15 (geA (geE s e))) (y.add (k * 11)) e ∧ (World.setRow wn h15 (geA (geE s e))).heap[h12]? = some (.cells #[.int .i64 s, .int .i64 N, .slice A l.length c] 44 (0, 0)) := ⟨HEW.out.grown HG.out, ht⟩
        generalize World.setRow wn h15 (geA (geE s e)) = wb at hb2 ht hs HM HG HO HM2 HO2 HB13 ⊢
        replace HB15 := Aside0.mk hb2
        replace HB12 := Aside0.mk ht
        clear hgr hb2 ht
        refine hK.out _ _ hs (fun hHeld => ?_)
        clear hK K
        refine norm_ (a' := ?_) ?_ ?_
        rotate_left
        · show Act.put _ none _ = _
          rfl
        refine done_ (done_of HT_.out (by kernel_rfl)) ?_
        obtain ⟨g, hge⟩ : ∃ g, g = geE s e := ⟨_, rfl⟩
        rw [← hge] at HB15 ⊢
        have HGO := Aside0.mk (show g.ok ∧ g.s = s by rw [hge]; exact ⟨geE_ok s e HTB.out.hs, rfl⟩)
        clear hge
        obtain ⟨z0, z1, z2, z3, z4, z5, z6, z7, z8, z9, z10⟩ := tte_Read.cz11 HB15.out
        go_wp2_with fail
        refine (o_insert HTB.out HM.out g HGO.out.1 HGO.out.2 (by have := HTB.out.hN; omega)).mono ?_
        rintro x0 w8 ⟨rfl, hM, hg⟩
        replace HB15 := Aside0.mk ((hg.block _ (blk_lt HB15.out) (fun e => HM.out.nb _ _ _ HB15.out (Option.some.inj e))).trans HB15.out)
        replace HB12 := Aside0.mk ((hg.block _ (blk_lt HB12.out) (fun e => HM.out.nb _ _ _ HB12.out (Option.some.inj e))).trans HB12.out)
        replace HB13 := Aside0.mk ((hg.block _ (blk_lt HB13.out) (fun e => HM.out.nb _ _ _ HB13.out (Option.some.inj e))).trans HB13.out)
        replace HO := Aside0.mk (Kd.R_mono (ok' := fun _ => True) (Kd.R_grown (Kd.R_bound HO.out) hg (fun k hk e => by obtain ⟨_, _, _, q, _, cs, hc⟩ := hk; exact HM.out.nb k cs q hc (Option.some.inj e))) (fun _ _ => trivial))
        replace HO2 := Aside0.mk (Kd.R_mono (ok' := fun _ => True) (Kd.R_grown (Kd.R_bound HO2.out) hg (fun k hk e => by obtain ⟨_, _, _, q, _, cs, hc⟩ := hk; exact HM.out.nb k cs q hc (Option.some.inj e))) (fun _ _ => trivial))
        replace HM2 := Aside0.mk (HM2.out.far hg (Ne.symm HMB2.out.1) (by
          obtain ⟨D, hM2, _⟩ := HM2.out.mem
          exact HM.out.nb _ _ _ hM2.row) (HM.out.nb _ _ _ HM2.out.row) HMB.out)
        replace HG := Aside0.mk (grown_loc HG.out hg HMB.out)
        replace HM := Aside0.mk hM
        clear hM hg z0 z1 z2 z3 z4 z5 z6 z7 z8 z9 z10
        obtain ⟨z0, z1, z2, z3, z4, z5, z6, z7, z8, z9, z10⟩ := tte_Read.cz11 HB15.out
        obtain ⟨q0, q1, q2⟩ := cz3q HB12.out
        go_wp2_with fail
        refine (rinsert_calls HTB.out.hs HTB.out.h1 HTB.out.hN g HGO.out.1 HGO.out.2 (Kd.R_reads' HO.out).2.2 (Kd.R_reads' HO.out).2.1 (by omega)).mono ?_
        rintro x0 w9 ⟨v2, rfl, hR, hg⟩
        have HLL := Aside0.mk (insW_len l (plcOf N (s : Int) g.v : Int) (g.tag : Int) (g.data : Int))
        have HDW2 := Aside0.mk (DW.ins (s := s) HDW.out g (plcOf N (s : Int) g.v))
        generalize insW l (plcOf N (s : Int) g.v : Int) (g.tag : Int) (g.data : Int) = l4 at hR HLL HDW2
        obtain ⟨A4, c4, rfl⟩ := Kd.R_slice hR
        have HO4 := Aside0.mk (Kd.R_lower hR HG.out.size)
        replace HB12 := Aside0.mk (blk_grown HB12.out hg)
        replace HB13 := Aside0.mk (blk_grown HB13.out hg)
        replace HG := Aside0.mk (grown_two HG.out hg)
        replace HM := Aside0.mk (HM.out.same hg)
        replace HM2 := Aside0.mk (HM2.out.same hg)
        replace HO2 := Aside0.mk (Kd.R_grown HO2.out hg (by simp))
        clear hR hg q0 q1 q2 z0 z1 z2 z3 z4 z5 z6 z7 z8 z9 z10 HO HB15
        go_wp2_with (first | ((with_reducible refine gate_store (t := 44) (p := 10) rfl ?_); refine wpList_store_row rfl 44 (.tmp 10) (.tmp 58) rfl h12 #[.int .i64 s, .int .i64 N, .slice A4 l4.length c4] rfl rfl 44 _ HB12.out (by kernel_rfl) rfl (by kernel_rfl) ?_; have SHB12 := Aside0.mk (setRow_heap _ h12 _ #[.int .i64 s, .int .i64 N, .slice A4 l4.length c4] _ _ HB12.out); have THB12 := Aside0.mk (grown_row w9 h12 #[.int .i64 s, .int .i64 N, .slice A4 l4.length c4])))
        replace HM := Aside0.mk (HM.out.kept THB12.out HB12.out (by decide) (by decide) HH12.out)
        replace HM2 := Aside0.mk (HM2.out.kept THB12.out HB12.out (by decide) (by decide) HH12.out)
        have HO := Aside0.mk (Kd.R_mono (ok' := fun _ => True) (Kd.R_grown (Kd.R_types HO4.out HB12.out (by decide)) THB12.out (fun k hk e => hk.2 (Option.some.inj e))) (fun _ _ => trivial))
        replace HO2 := Aside0.mk (Kd.R_mono (ok' := fun _ => True) (Kd.R_grown (Kd.R_types HO2.out HB12.out (by decide)) THB12.out (fun k hk e => hk.2 (Option.some.inj e))) (fun _ _ => trivial))
        replace HB13 := Aside0.mk ((THB12.out.block h13 (blk_lt HB13.out) (fun e => HN13.out.1 (Option.some.inj e).symm)).trans HB13.out)
        replace HG := Aside0.mk (grown_loc HG.out THB12.out HH12.out)
        replace HB12 := Aside0.mk SHB12.out
        generalize World.setRow w9 h12 #[.int .i64 s, .int .i64 N, .slice A4 l4.length c4] = w10 at HM HM2 HO HO2 HG HB12 HB13 ⊢
        clear SHB12 THB12 HO4
        go_wp2_with fail
        go_roundw
        case rel => exact ⟨k + 1, _, l4, A4, c4, by go_num, by omega, by omega, by have := HLL.out; omega, HDW2, HM, HO, HG, HB12, HM2, HO2, HB13⟩
        case measure => simp [intOf]; omega
    · have HKL := Aside0.mk (show k = len ∨ k = 12 by omega)
      have HK12 := Aside0.mk (show k ≤ 12 ∧ l.length ≤ 3 * k from ⟨hkm, hll⟩)
      have hkk : ((k : Int) < (len : Int) ∧ ¬ (k : Int) < 12) ∨ ¬ (k : Int) < (len : Int) := by omega
      clear hk hkm
      rcases hkk with ⟨h1', h2'⟩ | h1'
      all_goals
        clear HKL hlk
        have HLE := Aside0.mk (show l.length ≤ 36 by have := HK12.out; omega)
        clear hll
        obtain ⟨n0, hn⟩ : ∃ n0, n0 = 2 * N + 3 * k := ⟨_, rfl⟩
        rw [← hn] at HM
        clear hn
        obtain ⟨q0, q1, q2⟩ := cz3q HB12.out
        obtain ⟨u0, u1, u2⟩ := cz3q HB13.out
        go_wp2_with fail
        refine (rinto_calls (lo := []) HTB.out HTB2.out HM.out.ok HDW.out (dw_nil N2) (Kd.R_reads' HO.out).2.2 (Kd.R_reads' HO.out).2.1 (by have := HLE.out; omega) HO2.out HG.out.size (by simp)).mono ?_
        rintro x0 w4 ⟨A3, l3, c3, rfl, hR, hdw, hll, hg⟩
        have hle := list_le N os
        have hmv := moves_len (NO := N2) HM.out.ok HTB2.out.h1
        have HOK2 := Aside0.mk (show OKO N2 s (insL N2 s (listO N os) (fun _ => none)) from insL_ok _ (fun g hg => mem_okO HM.out.ok hg) _ (oko_none N2 s))
        have hL3 : l3.length ≤ 12288 := by have := HTB.out.hN; simp only [List.length_nil] at hll; omega
        have HL3 := Aside0.mk hL3
        obtain ⟨xs, hxs⟩ : ∃ xs, xs = listO N os := ⟨_, rfl⟩
        obtain ⟨osn, hon⟩ : ∃ z, z = insL N2 s xs (fun _ => none) := ⟨_, rfl⟩
        obtain ⟨ls1, hls1⟩ : ∃ z, z = (listO N os).map geS := ⟨_, rfl⟩
        obtain ⟨ls2, hls2⟩ : ∃ z, z = (listO N2 osn).map geS := ⟨_, rfl⟩
        rw [← hxs] at hdw HOK2 ⊢
        rw [← hon] at hdw HOK2
        have HLB1 := Aside0.mk (show ls1.length ≤ 1000000 by rw [hls1, List.length_map]; have := HTB.out.hN; omega)
        have HLB2 := Aside0.mk (show ls2.length ≤ 1000000 by rw [hls2, List.length_map]; have := list_le N2 osn; have := HTB2.out.hN; omega)
        have HLN := Aside0.mk (show ¬ N2 < N → ls2.length = ls1.length from fun h => by
          rw [hls1, hls2, List.length_map, List.length_map, hon, hxs]
          exact hmv (HDV.out (by omega)))
        have HXS := Aside0.mk hxs.symm
        have HON := Aside0.mk hon.symm
        have HLS1 := Aside0.mk hls1.symm
        have HLS2 := Aside0.mk hls2.symm
        have HDW3 := Aside0.mk hdw
        have HO3 := Aside0.mk hR
        clear hle hmv hL3 hll hxs hon hls1 hls2 hdw hR HO2 q0 q1 q2 u0 u1 u2
        have hgc := grown_two hg (World.grownBy_alloc w4 (.cells #[.int .i64 s, .int .i64 N2, .slice A3 l3.length c3] 44) none)
        have HB15 := Aside0.mk (heap_alloc_new w4 (.cells #[.int .i64 s, .int .i64 N2, .slice A3 l3.length c3] 44))
        replace HO3 := Aside0.mk (Kd.R_grown HO3.out (World.grownBy_alloc w4 (.cells #[.int .i64 s, .int .i64 N2, .slice A3 l3.length c3] 44) none) (by simp))
        replace HM := Aside0.mk (HM.out.same hgc)
        replace HM2 := Aside0.mk (HM2.out.same hgc)
        replace HO := Aside0.mk (Kd.R_grown HO.out hgc (by simp))
        replace HB12 := Aside0.mk (blk_grown HB12.out hgc)
        replace HB13 := Aside0.mk (blk_grown HB13.out hgc)
        replace HG := Aside0.mk (grown_two HG.out hgc)
        clear hg hgc
        obtain ⟨y0, y1, y2⟩ := cz3q HB15.out
        go_upto_region 13 with ((with_reducible refine gate_store (t := 44) (p := 12) rfl ?_); refine wpList_store_row rfl 44 (.tmp 12) (.tmp 65) rfl h13 #[.int .i64 s, .int .i64 N2, .slice A3 l3.length c3] rfl rfl 44 _ HB13.out (by kernel_rfl) rfl (by kernel_rfl) ?_; have SHB13 := Aside0.mk (setRow_heap _ h13 _ #[.int .i64 s, .int .i64 N2, .slice A3 l3.length c3] _ _ HB13.out); have THB13 := Aside0.mk (grown_row (w4.alloc (.cells #[.int .i64 s, .int .i64 N2, .slice A3 l3.length c3] 44)) h13 #[.int .i64 s, .int .i64 N2, .slice A3 l3.length c3]))
        clear y0 y1 y2 HB15
        replace HM := Aside0.mk (HM.out.kept THB13.out HB13.out (by decide) (by decide) HH13.out)
        replace HM2 := Aside0.mk (HM2.out.kept THB13.out HB13.out (by decide) (by decide) HH13.out)
        replace HO := Aside0.mk (Kd.R_mono (ok' := fun _ => True) (Kd.R_grown (Kd.R_types HO.out HB13.out (by decide)) THB13.out (fun k hk e => hk.2 (Option.some.inj e))) (fun _ _ => trivial))
        replace HO3 := Aside0.mk (Kd.R_mono (ok' := fun _ => True) (Kd.R_grown (Kd.R_types HO3.out HB13.out (by decide)) THB13.out (fun k hk e => hk.2 (Option.some.inj e))) (fun _ _ => trivial))
        replace HB12 := Aside0.mk ((THB13.out.block h12 (blk_lt HB12.out) (fun e => HN13.out.1 (Option.some.inj e))).trans HB12.out)
        replace HG := Aside0.mk (grown_loc HG.out THB13.out HH13.out)
        replace HB13 := Aside0.mk SHB13.out
        generalize World.setRow (w4.alloc (.cells #[.int .i64 s, .int .i64 N2, .slice A3 l3.length c3] 44)) h13 #[.int .i64 s, .int .i64 N2, .slice A3 l3.length c3] = w5 at HM HM2 HO HO3 HG HB12 HB13 ⊢
        clear SHB13 THB13
        have hg := grown_drew w5 none
        replace HM := Aside0.mk (HM.out.same hg)
        replace HM2 := Aside0.mk (HM2.out.same hg)
        replace HO := Aside0.mk (Kd.R_grown HO.out hg (by simp))
        replace HO3 := Aside0.mk (Kd.R_grown HO3.out hg (by simp))
        replace HB12 := Aside0.mk (blk_grown HB12.out hg)
        replace HB13 := Aside0.mk (blk_grown HB13.out hg)
        replace HG := Aside0.mk (grown_two HG.out hg)
        clear hg
        refine start_ (n := 39) (S := fun w' => w'.heap[h12]? = some (.cells #[.int .i64 s, .int .i64 N, .slice A l.length c] 44 (0, 0)) ∧ w'.heap[h13]? = some (.cells #[.int .i64 s, .int .i64 N2, .slice A3 l3.length c3] 44 (0, 0))) (ds := []) #[false, false, false, false, false, false, false, false, false, false, false, false, false, false, false, false, false, false, false, false, false, false, false, false, false, false, false, false, false, false, false, false, false, false, false, false, false, false, false] (by kernel_rfl) rfl rfl ⟨HB12.out, HB13.out⟩ (fun hHeld => ?_)
        refine with_tab tmoves13_tab (fun HT_ => ?_)
        refine pure_ (i := 0) (N := some 66) (v := ?_) (a' := ?_) #[true, false, false, false, false, false, false, false, false, false, false, false, false, false, false, false, false, false, false, false, false, false, false, false, false, false, false, false, false, false, false, false, false, false, false, false, false, false, false] rfl rfl (any_of HT_.out (by kernel_rfl)) (fun _ _ _ h => h) (Or.inl ⟨by rfl, ?_⟩) ?_ ?_
        rotate_left
        · intro w'
          go_simp
          with_reducible rfl
        rotate_left
        · simp only [Act.put, List.setIfInBounds_toArray, List.set_cons_zero, List.set_cons_succ, i64_w, i32_w]
          rfl
        refine pure_ (i := 1) (N := some 67) (v := ?_) (a' := ?_) #[true, true, false, false, false, false, false, false, false, false, false, false, false, false, false, false, false, false, false, false, false, false, false, false, false, false, false, false, false, false, false, false, false, false, false, false, false, false, false] rfl rfl (any_of HT_.out (by kernel_rfl)) (fun _ _ _ h => h) (Or.inl ⟨by rfl, ?_⟩) ?_ ?_
        rotate_left
        · intro w'
          go_simp
          with_reducible rfl
        rotate_left
        · simp only [Act.put, List.setIfInBounds_toArray, List.set_cons_zero, List.set_cons_succ, i64_w, i32_w]
          rfl
        refine pure_ (i := 3) (N := some 69) (v := ?_) (a' := ?_) #[true, true, false, true, false, false, false, false, false, false, false, false, false, false, false, false, false, false, false, false, false, false, false, false, false, false, false, false, false, false, false, false, false, false, false, false, false, false, false] rfl rfl (any_of HT_.out (by kernel_rfl)) (fun _ _ _ h => h) (Or.inl ⟨by rfl, ?_⟩) ?_ ?_
        rotate_left
        · intro w'
          go_simp
          with_reducible rfl
        rotate_left
        · simp only [Act.put, List.setIfInBounds_toArray, List.set_cons_zero, List.set_cons_succ, i64_w, i32_w]
          rfl
        refine one_ (i := 2) (N := some 68) #[true, true, true, true, false, false, false, false, false, false, false, false, false, false, false, false, false, false, false, false, false, false, false, false, false, false, false, false, false, false, false, false, false, false, false, false, false, false, false] rfl rfl (one_of HT_.out (by kernel_rfl)) (by decide) (fun K hK => ?_)
        refine goes_ Try.func32 (by kernel_rfl) rfl #[.pointer (some ⟨pt, 0, none⟩), .pointer (some ⟨pt2, 0, none⟩)] (by rfl) rfl rfl (by (try simp only [List.map_toArray, List.map_cons, List.map_nil]); first | done | rfl) ?_
        refine (o_into HTB.out HTB2.out HM.out HM2.out HMB2.out.1 HMB2.out.2 (by have := HTB2.out.hN; omega)).mono ?_
        rintro x0 wn ⟨rfl, hT, hT2, hg⟩
        rw [HXS.out]
        replace HO := Aside0.mk (Kd.R_mono (ok' := fun _ => True) (Kd.R_grown (Kd.R_bound HO.out) hg (fun k hk e => by obtain ⟨_, _, _, q, _, cs, hc⟩ := hk; exact HM2.out.nb k cs q hc (Option.some.inj e))) (fun _ _ => trivial))
        replace HO3 := Aside0.mk (Kd.R_mono (ok' := fun _ => True) (Kd.R_grown (Kd.R_bound HO3.out) hg (fun k hk e => by obtain ⟨_, _, _, q, _, cs, hc⟩ := hk; exact HM2.out.nb k cs q hc (Option.some.inj e))) (fun _ _ => trivial))
        have hs : wn.heap[h12]? = some (.cells #[.int .i64 s, .int .i64 N, .slice A l.length c] 44 (0, 0)) ∧ wn.heap[h13]? = some (.cells #[.int .i64 s, .int .i64 N2, .slice A3 l3.length c3] 44 (0, 0)) := ⟨(hg.block h12 (blk_lt hHeld.1) (fun e => HM2.out.nb _ _ _ hHeld.1 (Option.some.inj e))).trans hHeld.1, (hg.block h13 (blk_lt hHeld.2) (fun e => HM2.out.nb _ _ _ hHeld.2 (Option.some.inj e))).trans hHeld.2⟩
        rw [HXS.out, HON.out] at hT2
        replace HM := Aside0.mk hT
        replace HM2 := Aside0.mk hT2
        replace HG := Aside0.mk (grown_loc HG.out hg HMB2.out.2)
        clear hT hT2 hg
        refine ⟨_, rfl, ?_⟩
        refine hK.out _ _ hs (fun hHeld => ?_)
        clear hK K
        refine norm_ (a' := ?_) ?_ ?_
        rotate_left
        · show Act.put _ (some 68) _ = _
          simp only [Act.put, List.setIfInBounds_toArray, List.set_cons_zero, List.set_cons_succ, i64_w, i32_w]
          rfl
        refine pure_ (i := 4) (N := some 70) (v := ?_) (a' := ?_) #[true, true, true, true, true, false, false, false, false, false, false, false, false, false, false, false, false, false, false, false, false, false, false, false, false, false, false, false, false, false, false, false, false, false, false, false, false, false, false] rfl rfl (any_of HT_.out (by kernel_rfl)) (fun _ _ _ h => h) (Or.inl ⟨by rfl, ?_⟩) ?_ ?_
        rotate_left
        · intro w'
          go_simp
          with_reducible rfl
        rotate_left
        · simp only [Act.put, List.setIfInBounds_toArray, List.set_cons_zero, List.set_cons_succ, i64_w, i32_w]
          rfl
        refine pure_ (i := 5) (N := some 71) (v := ?_) (a' := ?_) #[true, true, true, true, true, true, false, false, false, false, false, false, false, false, false, false, false, false, false, false, false, false, false, false, false, false, false, false, false, false, false, false, false, false, false, false, false, false, false] rfl rfl (any_of HT_.out (by kernel_rfl)) (fun _ _ _ h => h) (Or.inl ⟨by rfl, ?_⟩) ?_ ?_
        rotate_left
        · intro w'
          go_simp
          with_reducible rfl
        rotate_left
        · simp only [Act.put, List.setIfInBounds_toArray, List.set_cons_zero, List.set_cons_succ, i64_w, i32_w]
          rfl
        refine pure_ (i := 6) (N := some 72) (v := ?_) (a' := ?_) #[true, true, true, true, true, true, true, false, false, false, false, false, false, false, false, false, false, false, false, false, false, false, false, false, false, false, false, false, false, false, false, false, false, false, false, false, false, false, false] rfl rfl (any_of HT_.out (by kernel_rfl)) (fun _ _ _ h => h) (Or.inl ⟨by rfl, ?_⟩) ?_ ?_
        rotate_left
        · intro w'
          go_simp
          with_reducible rfl
        rotate_left
        · simp only [Act.put, List.setIfInBounds_toArray, List.set_cons_zero, List.set_cons_succ, i64_w, i32_w]
          rfl
        refine take_ (i := 8) (N := some 74) (v := .agg #[.int .i64 s, .int .i64 N2, .slice A3 l3.length c3]) (a' := ?_) #[true, true, true, true, true, true, true, false, true, false, false, false, false, false, false, false, false, false, false, false, false, false, false, false, false, false, false, false, false, false, false, false, false, false, false, false, false, false, false] rfl rfl (take_of HT_.out (by kernel_rfl)) (fun _ _ _ h => h) (Or.inl ⟨by rfl, ?_⟩) hHeld ?_ ?_
        · rintro w' ⟨s1, s2⟩
          obtain ⟨q0, q1, q2⟩ := cz3q s2
          go_simp
        rotate_left
        · simp only [Act.put, List.setIfInBounds_toArray, List.set_cons_zero, List.set_cons_succ, i64_w, i32_w]
          rfl
        refine one_ (i := 7) (N := some 73) #[true, true, true, true, true, true, true, true, true, false, false, false, false, false, false, false, false, false, false, false, false, false, false, false, false, false, false, false, false, false, false, false, false, false, false, false, false, false, false] rfl rfl (one_of HT_.out (by kernel_rfl)) (by decide) (fun K hK => ?_)
        refine goes_ Try.func34 (by kernel_rfl) rfl #[.pointer (some ⟨pt2, 0, none⟩)] (by rfl) rfl rfl (by (try simp only [List.map_toArray, List.map_cons, List.map_nil]); first | done | rfl) ?_
        refine (o_list HTB2.out HM2.out).mono ?_
        rintro x0 wn ⟨v, rfl, hR, hg⟩
        rw [HLS2.out] at hR
        obtain ⟨A5, c5, rfl⟩ := Kd.R_slice hR
        have HV5 := Aside0.mk (Kd.R_lower hR HG.out.size)
        replace HM := Aside0.mk (HM.out.same hg)
        replace HM2 := Aside0.mk (HM2.out.same hg)
        replace HO := Aside0.mk (Kd.R_grown HO.out hg (by simp))
        replace HO3 := Aside0.mk (Kd.R_grown HO3.out hg (by simp))
        replace HG := Aside0.mk (grown_two HG.out hg)
        have hs : wn.heap[h12]? = some (.cells #[.int .i64 s, .int .i64 N, .slice A l.length c] 44 (0, 0)) ∧ wn.heap[h13]? = some (.cells #[.int .i64 s, .int .i64 N2, .slice A3 l3.length c3] 44 (0, 0)) := ⟨blk_grown hHeld.1 hg, blk_grown hHeld.2 hg⟩
        clear hR hg
        refine ⟨_, rfl, ?_⟩
        refine hK.out _ _ hs (fun hHeld => ?_)
        clear hK K
        refine norm_ (a' := ?_) ?_ ?_
        rotate_left
        · show Act.put _ (some 73) _ = _
          simp only [Act.put, List.setIfInBounds_toArray, List.set_cons_zero, List.set_cons_succ, i64_w, i32_w]
          rfl
        refine one_ (i := 9) (N := some 75) #[true, true, true, true, true, true, true, true, true, true, false, false, false, false, false, false, false, false, false, false, false, false, false, false, false, false, false, false, false, false, false, false, false, false, false, false, false, false, false] rfl rfl (one_of HT_.out (by kernel_rfl)) (by decide) (fun K hK => ?_)
        refine goes_ Try.func35 (by kernel_rfl) rfl #[.agg #[.int .i64 s, .int .i64 N2, .slice A3 l3.length c3]] (by rfl) rfl rfl (by (try simp only [List.map_toArray, List.map_cons, List.map_nil]); first | done | rfl) ?_
        refine (rlist_calls HTB2.out HOK2.out HDW3.out (Kd.R_reads' HO3.out).2.2 (Kd.R_reads' HO3.out).2.1 (by have := HL3.out; omega)).mono ?_
        rintro x0 wn ⟨v, rfl, hR, hg⟩
        rw [HLS2.out] at hR
        obtain ⟨A6, c6, rfl⟩ := Kd.R_slice hR
        have HV6 := Aside0.mk (Kd.R_lower hR HG.out.size)
        replace HV5 := Aside0.mk (Kd.R_grown HV5.out hg (by simp))
        replace HM := Aside0.mk (HM.out.same hg)
        replace HM2 := Aside0.mk (HM2.out.same hg)
        replace HO := Aside0.mk (Kd.R_grown HO.out hg (by simp))
        replace HO3 := Aside0.mk (Kd.R_grown HO3.out hg (by simp))
        replace HG := Aside0.mk (grown_two HG.out hg)
        have hs : wn.heap[h12]? = some (.cells #[.int .i64 s, .int .i64 N, .slice A l.length c] 44 (0, 0)) ∧ wn.heap[h13]? = some (.cells #[.int .i64 s, .int .i64 N2, .slice A3 l3.length c3] 44 (0, 0)) := ⟨blk_grown hHeld.1 hg, blk_grown hHeld.2 hg⟩
        clear hR hg
        refine ⟨_, rfl, ?_⟩
        refine hK.out _ _ hs (fun hHeld => ?_)
        clear hK K
        refine norm_ (a' := ?_) ?_ ?_
        rotate_left
        · show Act.put _ (some 75) _ = _
          simp only [Act.put, List.setIfInBounds_toArray, List.set_cons_zero, List.set_cons_succ, i64_w, i32_w]
          rfl
        refine one_ (i := 10) (N := some 76) #[true, true, true, true, true, true, true, true, true, true, true, false, false, false, false, false, false, false, false, false, false, false, false, false, false, false, false, false, false, false, false, false, false, false, false, false, false, false, false] rfl rfl (one_of HT_.out (by kernel_rfl)) (by decide) (fun K hK => ?_)
        refine goes_ Try.func33 (by kernel_rfl) rfl #[.slice A5 ls2.length c5, .slice A6 ls2.length c6] (by rfl) rfl rfl (by (try simp only [List.map_toArray, List.map_cons, List.map_nil]); first | done | rfl) ?_
        refine (lookasideref06_Same.calls (ls2.length + 1) A5 c5 ls2 A6 c6 ls2 true _ (Kd.R_reads' HV5.out).2.2 (Kd.R_reads' HV5.out).2.1 (Kd.R_reads' HV6.out).2.2 (Kd.R_reads' HV6.out).2.1 (same_f ls2 HLB2.out)).mono ?_
        rintro x0 wn ⟨rfl, hd⟩
        have hg := drawn_grown hd
        clear HV5 HV6
        replace HM := Aside0.mk (HM.out.same hg)
        replace HM2 := Aside0.mk (HM2.out.same hg)
        replace HO := Aside0.mk (Kd.R_grown HO.out hg (by simp))
        replace HO3 := Aside0.mk (Kd.R_grown HO3.out hg (by simp))
        replace HG := Aside0.mk (grown_two HG.out hg)
        have hs : wn.heap[h12]? = some (.cells #[.int .i64 s, .int .i64 N, .slice A l.length c] 44 (0, 0)) ∧ wn.heap[h13]? = some (.cells #[.int .i64 s, .int .i64 N2, .slice A3 l3.length c3] 44 (0, 0)) := ⟨blk_grown hHeld.1 hg, blk_grown hHeld.2 hg⟩
        clear hd hg
        refine ⟨_, rfl, ?_⟩
        refine hK.out _ _ hs (fun hHeld => ?_)
        clear hK K
        refine norm_ (a' := ?_) ?_ ?_
        rotate_left
        · show Act.put _ (some 76) _ = _
          simp only [Act.put, List.setIfInBounds_toArray, List.set_cons_zero, List.set_cons_succ, i64_w, i32_w]
          rfl
        refine pure_ (i := 11) (N := some 77) (v := ?_) (a' := ?_) #[true, true, true, true, true, true, true, true, true, true, true, true, false, false, false, false, false, false, false, false, false, false, false, false, false, false, false, false, false, false, false, false, false, false, false, false, false, false, false] rfl rfl (any_of HT_.out (by kernel_rfl)) (fun _ _ _ h => h) (Or.inl ⟨by rfl, ?_⟩) ?_ ?_
        rotate_left
        · intro w'
          go_simp
          with_reducible rfl
        rotate_left
        · simp only [Act.put, List.setIfInBounds_toArray, List.set_cons_zero, List.set_cons_succ, i64_w, i32_w]
          rfl
        refine pure_ (i := 12) (N := some 78) (v := ?_) (a' := ?_) #[true, true, true, true, true, true, true, true, true, true, true, true, true, false, false, false, false, false, false, false, false, false, false, false, false, false, false, false, false, false, false, false, false, false, false, false, false, false, false] rfl rfl (any_of HT_.out (by kernel_rfl)) (fun _ _ _ h => h) (Or.inl ⟨by rfl, ?_⟩) ?_ ?_
        rotate_left
        · intro w'
          go_simp
          with_reducible rfl
        rotate_left
        · simp only [Act.put, List.setIfInBounds_toArray, List.set_cons_zero, List.set_cons_succ, i64_w, i32_w]
          rfl
        refine pure_ (i := 13) (N := some 79) (v := ?_) (a' := ?_) #[true, true, true, true, true, true, true, true, true, true, true, true, true, true, false, false, false, false, false, false, false, false, false, false, false, false, false, false, false, false, false, false, false, false, false, false, false, false, false] rfl rfl (any_of HT_.out (by kernel_rfl)) (fun _ _ _ h => h) (Or.inl ⟨by rfl, ?_⟩) ?_ ?_
        rotate_left
        · intro w'
          go_simp
          with_reducible rfl
        rotate_left
        · simp only [Act.put, List.setIfInBounds_toArray, List.set_cons_zero, List.set_cons_succ, i64_w, i32_w]
          rfl
        refine take_ (i := 15) (N := some 81) (v := .agg #[.int .i64 s, .int .i64 N, .slice A l.length c]) (a' := ?_) #[true, true, true, true, true, true, true, true, true, true, true, true, true, true, false, true, false, false, false, false, false, false, false, false, false, false, false, false, false, false, false, false, false, false, false, false, false, false, false] rfl rfl (take_of HT_.out (by kernel_rfl)) (fun _ _ _ h => h) (Or.inl ⟨by rfl, ?_⟩) hHeld ?_ ?_
        · rintro w' ⟨s1, s2⟩
          obtain ⟨q0, q1, q2⟩ := cz3q s1
          go_simp
        rotate_left
        · simp only [Act.put, List.setIfInBounds_toArray, List.set_cons_zero, List.set_cons_succ, i64_w, i32_w]
          rfl
        refine one_ (i := 14) (N := some 80) #[true, true, true, true, true, true, true, true, true, true, true, true, true, true, true, true, false, false, false, false, false, false, false, false, false, false, false, false, false, false, false, false, false, false, false, false, false, false, false] rfl rfl (one_of HT_.out (by kernel_rfl)) (by decide) (fun K hK => ?_)
        refine goes_ Try.func34 (by kernel_rfl) rfl #[.pointer (some ⟨pt, 0, none⟩)] (by rfl) rfl rfl (by (try simp only [List.map_toArray, List.map_cons, List.map_nil]); first | done | rfl) ?_
        refine (o_list HTB.out HM.out).mono ?_
        rintro x0 wn ⟨v, rfl, hR, hg⟩
        rw [HLS1.out] at hR
        obtain ⟨A7, c7, rfl⟩ := Kd.R_slice hR
        have HV7 := Aside0.mk (Kd.R_lower hR HG.out.size)
        replace HM := Aside0.mk (HM.out.same hg)
        replace HM2 := Aside0.mk (HM2.out.same hg)
        replace HO := Aside0.mk (Kd.R_grown HO.out hg (by simp))
        replace HO3 := Aside0.mk (Kd.R_grown HO3.out hg (by simp))
        replace HG := Aside0.mk (grown_two HG.out hg)
        have hs : wn.heap[h12]? = some (.cells #[.int .i64 s, .int .i64 N, .slice A l.length c] 44 (0, 0)) ∧ wn.heap[h13]? = some (.cells #[.int .i64 s, .int .i64 N2, .slice A3 l3.length c3] 44 (0, 0)) := ⟨blk_grown hHeld.1 hg, blk_grown hHeld.2 hg⟩
        clear hR hg
        refine ⟨_, rfl, ?_⟩
        refine hK.out _ _ hs (fun hHeld => ?_)
        clear hK K
        refine norm_ (a' := ?_) ?_ ?_
        rotate_left
        · show Act.put _ (some 80) _ = _
          simp only [Act.put, List.setIfInBounds_toArray, List.set_cons_zero, List.set_cons_succ, i64_w, i32_w]
          rfl
        refine one_ (i := 16) (N := some 82) #[true, true, true, true, true, true, true, true, true, true, true, true, true, true, true, true, true, false, false, false, false, false, false, false, false, false, false, false, false, false, false, false, false, false, false, false, false, false, false] rfl rfl (one_of HT_.out (by kernel_rfl)) (by decide) (fun K hK => ?_)
        refine goes_ Try.func35 (by kernel_rfl) rfl #[.agg #[.int .i64 s, .int .i64 N, .slice A l.length c]] (by rfl) rfl rfl (by (try simp only [List.map_toArray, List.map_cons, List.map_nil]); first | done | rfl) ?_
        refine (rlist_calls HTB.out HM.out.ok HDW.out (Kd.R_reads' HO.out).2.2 (Kd.R_reads' HO.out).2.1 (by have := HLE.out; omega)).mono ?_
        rintro x0 wn ⟨v, rfl, hR, hg⟩
        rw [HLS1.out] at hR
        obtain ⟨A8, c8, rfl⟩ := Kd.R_slice hR
        have HV8 := Aside0.mk (Kd.R_lower hR HG.out.size)
        replace HV7 := Aside0.mk (Kd.R_grown HV7.out hg (by simp))
        replace HM := Aside0.mk (HM.out.same hg)
        replace HM2 := Aside0.mk (HM2.out.same hg)
        replace HO := Aside0.mk (Kd.R_grown HO.out hg (by simp))
        replace HO3 := Aside0.mk (Kd.R_grown HO3.out hg (by simp))
        replace HG := Aside0.mk (grown_two HG.out hg)
        have hs : wn.heap[h12]? = some (.cells #[.int .i64 s, .int .i64 N, .slice A l.length c] 44 (0, 0)) ∧ wn.heap[h13]? = some (.cells #[.int .i64 s, .int .i64 N2, .slice A3 l3.length c3] 44 (0, 0)) := ⟨blk_grown hHeld.1 hg, blk_grown hHeld.2 hg⟩
        clear hR hg
        refine ⟨_, rfl, ?_⟩
        refine hK.out _ _ hs (fun hHeld => ?_)
        clear hK K
        refine norm_ (a' := ?_) ?_ ?_
        rotate_left
        · show Act.put _ (some 82) _ = _
          simp only [Act.put, List.setIfInBounds_toArray, List.set_cons_zero, List.set_cons_succ, i64_w, i32_w]
          rfl
        refine one_ (i := 17) (N := some 83) #[true, true, true, true, true, true, true, true, true, true, true, true, true, true, true, true, true, true, false, false, false, false, false, false, false, false, false, false, false, false, false, false, false, false, false, false, false, false, false] rfl rfl (one_of HT_.out (by kernel_rfl)) (by decide) (fun K hK => ?_)
        refine goes_ Try.func33 (by kernel_rfl) rfl #[.slice A7 ls1.length c7, .slice A8 ls1.length c8] (by rfl) rfl rfl (by (try simp only [List.map_toArray, List.map_cons, List.map_nil]); first | done | rfl) ?_
        refine (lookasideref06_Same.calls (ls1.length + 1) A7 c7 ls1 A8 c8 ls1 true _ (Kd.R_reads' HV7.out).2.2 (Kd.R_reads' HV7.out).2.1 (Kd.R_reads' HV8.out).2.2 (Kd.R_reads' HV8.out).2.1 (same_f ls1 HLB1.out)).mono ?_
        rintro x0 wn ⟨rfl, hd⟩
        have hg := drawn_grown hd
        clear HV7 HV8
        replace HM := Aside0.mk (HM.out.same hg)
        replace HM2 := Aside0.mk (HM2.out.same hg)
        replace HO := Aside0.mk (Kd.R_grown HO.out hg (by simp))
        replace HO3 := Aside0.mk (Kd.R_grown HO3.out hg (by simp))
        replace HG := Aside0.mk (grown_two HG.out hg)
        have hs : wn.heap[h12]? = some (.cells #[.int .i64 s, .int .i64 N, .slice A l.length c] 44 (0, 0)) ∧ wn.heap[h13]? = some (.cells #[.int .i64 s, .int .i64 N2, .slice A3 l3.length c3] 44 (0, 0)) := ⟨blk_grown hHeld.1 hg, blk_grown hHeld.2 hg⟩
        clear hd hg
        refine ⟨_, rfl, ?_⟩
        refine hK.out _ _ hs (fun hHeld => ?_)
        clear hK K
        refine norm_ (a' := ?_) ?_ ?_
        rotate_left
        · show Act.put _ (some 83) _ = _
          simp only [Act.put, List.setIfInBounds_toArray, List.set_cons_zero, List.set_cons_succ, i64_w, i32_w]
          rfl
        refine pure_ (i := 18) (N := some 84) (v := ?_) (a' := ?_) #[true, true, true, true, true, true, true, true, true, true, true, true, true, true, true, true, true, true, true, false, false, false, false, false, false, false, false, false, false, false, false, false, false, false, false, false, false, false, false] rfl rfl (any_of HT_.out (by kernel_rfl)) (fun _ _ _ h => h) (Or.inl ⟨by rfl, ?_⟩) ?_ ?_
        rotate_left
        · intro w'
          go_simp
          with_reducible rfl
        rotate_left
        · simp only [Act.put, List.setIfInBounds_toArray, List.set_cons_zero, List.set_cons_succ, i64_w, i32_w]
          rfl
        refine pure_ (i := 19) (N := some 85) (v := ?_) (a' := ?_) #[true, true, true, true, true, true, true, true, true, true, true, true, true, true, true, true, true, true, true, true, false, false, false, false, false, false, false, false, false, false, false, false, false, false, false, false, false, false, false] rfl rfl (any_of HT_.out (by kernel_rfl)) (fun _ _ _ h => h) (Or.inl ⟨by rfl, ?_⟩) ?_ ?_
        rotate_left
        · intro w'
          go_simp
          with_reducible rfl
        rotate_left
        · simp only [Act.put, List.setIfInBounds_toArray, List.set_cons_zero, List.set_cons_succ, i64_w, i32_w]
          rfl
        refine pure_ (i := 20) (N := some 86) (v := ?_) (a' := ?_) #[true, true, true, true, true, true, true, true, true, true, true, true, true, true, true, true, true, true, true, true, true, false, false, false, false, false, false, false, false, false, false, false, false, false, false, false, false, false, false] rfl rfl (any_of HT_.out (by kernel_rfl)) (fun _ _ _ h => h) (Or.inl ⟨by rfl, ?_⟩) ?_ ?_
        rotate_left
        · intro w'
          go_simp
          with_reducible rfl
        rotate_left
        · simp only [Act.put, List.setIfInBounds_toArray, List.set_cons_zero, List.set_cons_succ, i64_w, i32_w]
          rfl
        refine pure_ (i := 22) (N := some 88) (v := ?_) (a' := ?_) #[true, true, true, true, true, true, true, true, true, true, true, true, true, true, true, true, true, true, true, true, true, false, true, false, false, false, false, false, false, false, false, false, false, false, false, false, false, false, false] rfl rfl (any_of HT_.out (by kernel_rfl)) (fun _ _ _ h => h) (Or.inl ⟨by rfl, ?_⟩) ?_ ?_
        rotate_left
        · intro w'
          go_simp
          with_reducible rfl
        rotate_left
        · simp only [Act.put, List.setIfInBounds_toArray, List.set_cons_zero, List.set_cons_succ, i64_w, i32_w]
          rfl
        refine one_ (i := 21) (N := some 87) #[true, true, true, true, true, true, true, true, true, true, true, true, true, true, true, true, true, true, true, true, true, true, true, false, false, false, false, false, false, false, false, false, false, false, false, false, false, false, false] rfl rfl (one_of HT_.out (by kernel_rfl)) (by decide) (fun K hK => ?_)
        refine goes_ Try.func17 (by kernel_rfl) rfl #[.pointer (some ⟨pt2, 0, none⟩)] (by rfl) rfl rfl (by (try simp only [List.map_toArray, List.map_cons, List.map_nil]); first | done | rfl) ?_
        refine (tlen_calls HM2.out.row).mono ?_
        rintro x0 wn ⟨rfl, hg⟩
        replace HM := Aside0.mk (HM.out.same hg)
        replace HM2 := Aside0.mk (HM2.out.same hg)
        replace HO := Aside0.mk (Kd.R_grown HO.out hg (by simp))
        replace HO3 := Aside0.mk (Kd.R_grown HO3.out hg (by simp))
        replace HG := Aside0.mk (grown_two HG.out hg)
        have hs : wn.heap[h12]? = some (.cells #[.int .i64 s, .int .i64 N, .slice A l.length c] 44 (0, 0)) ∧ wn.heap[h13]? = some (.cells #[.int .i64 s, .int .i64 N2, .slice A3 l3.length c3] 44 (0, 0)) := ⟨blk_grown hHeld.1 hg, blk_grown hHeld.2 hg⟩
        clear hg
        refine ⟨_, rfl, ?_⟩
        refine hK.out _ _ hs (fun hHeld => ?_)
        clear hK K
        refine norm_ (a' := ?_) ?_ ?_
        rotate_left
        · show Act.put _ (some 87) _ = _
          simp only [Act.put, List.setIfInBounds_toArray, List.set_cons_zero, List.set_cons_succ, i64_w, i32_w]
          rfl
        refine one_ (i := 23) (N := some 89) #[true, true, true, true, true, true, true, true, true, true, true, true, true, true, true, true, true, true, true, true, true, true, true, true, false, false, false, false, false, false, false, false, false, false, false, false, false, false, false] rfl rfl (one_of HT_.out (by kernel_rfl)) (by decide) (fun K hK => ?_)
        refine goes_ Try.func17 (by kernel_rfl) rfl #[.pointer (some ⟨pt, 0, none⟩)] (by rfl) rfl rfl (by (try simp only [List.map_toArray, List.map_cons, List.map_nil]); first | done | rfl) ?_
        refine (tlen_calls HM.out.row).mono ?_
        rintro x0 wn ⟨rfl, hg⟩
        replace HM := Aside0.mk (HM.out.same hg)
        replace HM2 := Aside0.mk (HM2.out.same hg)
        replace HO := Aside0.mk (Kd.R_grown HO.out hg (by simp))
        replace HO3 := Aside0.mk (Kd.R_grown HO3.out hg (by simp))
        replace HG := Aside0.mk (grown_two HG.out hg)
        have hs : wn.heap[h12]? = some (.cells #[.int .i64 s, .int .i64 N, .slice A l.length c] 44 (0, 0)) ∧ wn.heap[h13]? = some (.cells #[.int .i64 s, .int .i64 N2, .slice A3 l3.length c3] 44 (0, 0)) := ⟨blk_grown hHeld.1 hg, blk_grown hHeld.2 hg⟩
        clear hg
        refine ⟨_, rfl, ?_⟩
        refine hK.out _ _ hs (fun hHeld => ?_)
        clear hK K
        refine norm_ (a' := ?_) ?_ ?_
        rotate_left
        · show Act.put _ (some 89) _ = _
          simp only [Act.put, List.setIfInBounds_toArray, List.set_cons_zero, List.set_cons_succ, i64_w, i32_w]
          rfl
        by_cases hlt : (N2 : Int) < (N : Int)
        · refine pure_ (i := 24) (N := some 90) (v := ?_) (a' := ?_) #[true, true, true, true, true, true, true, true, true, true, true, true, true, true, true, true, true, true, true, true, true, true, true, true, true, false, false, false, false, false, false, false, false, false, false, false, false, false, false] rfl rfl (any_of HT_.out (by kernel_rfl)) (fun _ _ _ h => h) (Or.inl ⟨by rfl, ?_⟩) ?_ ?_
          rotate_left
          · intro w'
            go_simp
            with_reducible rfl
          rotate_left
          · simp only [Act.put, List.setIfInBounds_toArray, List.set_cons_zero, List.set_cons_succ, i64_w, i32_w]
            rfl
          refine pure_ (i := 25) (N := some 91) (v := ?_) (a' := ?_) #[true, true, true, true, true, true, true, true, true, true, true, true, true, true, true, true, true, true, true, true, true, true, true, true, true, true, false, false, false, false, false, false, false, false, false, false, false, false, false] rfl rfl (any_of HT_.out (by kernel_rfl)) (fun _ _ _ h => h) (Or.inl ⟨by rfl, ?_⟩) ?_ ?_
          rotate_left
          · intro w'
            go_simp
            with_reducible rfl
          rotate_left
          · simp only [Act.put, List.setIfInBounds_toArray, List.set_cons_zero, List.set_cons_succ, i64_w, i32_w]
            rfl
          refine pure_ (i := 26) (N := some 92) (v := undef) (a' := ?_) #[true, true, true, true, true, true, true, true, true, true, true, true, true, true, true, true, true, true, true, true, true, true, true, true, true, true, true, false, false, false, false, false, false, false, false, false, false, false, false] rfl rfl (any_of HT_.out (by kernel_rfl)) (fun _ _ _ h => h) (Or.inr ⟨by rfl, rfl⟩) ?_ ?_
          rotate_left
          · simp only [Act.put, List.setIfInBounds_toArray, List.set_cons_zero, List.set_cons_succ, i64_w, i32_w]
            rfl
          refine pure_ (i := 27) (N := some 93) (v := undef) (a' := ?_) #[true, true, true, true, true, true, true, true, true, true, true, true, true, true, true, true, true, true, true, true, true, true, true, true, true, true, true, true, false, false, false, false, false, false, false, false, false, false, false] rfl rfl (any_of HT_.out (by kernel_rfl)) (fun _ _ _ h => h) (Or.inr ⟨by rfl, rfl⟩) ?_ ?_
          rotate_left
          · simp only [Act.put, List.setIfInBounds_toArray, List.set_cons_zero, List.set_cons_succ, i64_w, i32_w]
            rfl
          refine pure_ (i := 28) (N := some 94) (v := undef) (a' := ?_) #[true, true, true, true, true, true, true, true, true, true, true, true, true, true, true, true, true, true, true, true, true, true, true, true, true, true, true, true, true, false, false, false, false, false, false, false, false, false, false] rfl rfl (any_of HT_.out (by kernel_rfl)) (fun _ _ _ h => h) (Or.inr ⟨by rfl, rfl⟩) ?_ ?_
          rotate_left
          · simp only [Act.put, List.setIfInBounds_toArray, List.set_cons_zero, List.set_cons_succ, i64_w, i32_w]
            rfl
          refine pure_ (i := 29) (N := some 95) (v := undef) (a' := ?_) #[true, true, true, true, true, true, true, true, true, true, true, true, true, true, true, true, true, true, true, true, true, true, true, true, true, true, true, true, true, true, false, false, false, false, false, false, false, false, false] rfl rfl (any_of HT_.out (by kernel_rfl)) (fun _ _ _ h => h) (Or.inr ⟨by rfl, rfl⟩) ?_ ?_
          rotate_left
          · simp only [Act.put, List.setIfInBounds_toArray, List.set_cons_zero, List.set_cons_succ, i64_w, i32_w]
            rfl
          refine pure_ (i := 30) (N := some 96) (v := undef) (a' := ?_) #[true, true, true, true, true, true, true, true, true, true, true, true, true, true, true, true, true, true, true, true, true, true, true, true, true, true, true, true, true, true, true, false, false, false, false, false, false, false, false] rfl rfl (any_of HT_.out (by kernel_rfl)) (fun _ _ _ h => h) (Or.inr ⟨by rfl, rfl⟩) ?_ ?_
          rotate_left
          · simp only [Act.put, List.setIfInBounds_toArray, List.set_cons_zero, List.set_cons_succ, i64_w, i32_w]
            rfl
          refine pure_ (i := 31) (N := some 97) (v := undef) (a' := ?_) #[true, true, true, true, true, true, true, true, true, true, true, true, true, true, true, true, true, true, true, true, true, true, true, true, true, true, true, true, true, true, true, true, false, false, false, false, false, false, false] rfl rfl (any_of HT_.out (by kernel_rfl)) (fun _ _ _ h => h) (Or.inr ⟨by rfl, rfl⟩) ?_ ?_
          rotate_left
          · simp only [Act.put, List.setIfInBounds_toArray, List.set_cons_zero, List.set_cons_succ, i64_w, i32_w]
            rfl
          refine pure_ (i := 32) (N := some 98) (v := undef) (a' := ?_) #[true, true, true, true, true, true, true, true, true, true, true, true, true, true, true, true, true, true, true, true, true, true, true, true, true, true, true, true, true, true, true, true, true, false, false, false, false, false, false] rfl rfl (any_of HT_.out (by kernel_rfl)) (fun _ _ _ h => h) (Or.inr ⟨by rfl, rfl⟩) ?_ ?_
          rotate_left
          · simp only [Act.put, List.setIfInBounds_toArray, List.set_cons_zero, List.set_cons_succ, i64_w, i32_w]
            rfl
          refine pure_ (i := 33) (N := some 99) (v := ?_) (a' := ?_) #[true, true, true, true, true, true, true, true, true, true, true, true, true, true, true, true, true, true, true, true, true, true, true, true, true, true, true, true, true, true, true, true, true, true, false, false, false, false, false] rfl rfl (any_of HT_.out (by kernel_rfl)) (fun _ _ _ h => h) (Or.inl ⟨by rfl, ?_⟩) ?_ ?_
          rotate_left
          · intro w'
            go_simp
            with_reducible rfl
          rotate_left
          · simp only [Act.put, List.setIfInBounds_toArray, List.set_cons_zero, List.set_cons_succ, i64_w, i32_w]
            rfl
          refine pure_ (i := 34) (N := some 100) (v := ?_) (a' := ?_) #[true, true, true, true, true, true, true, true, true, true, true, true, true, true, true, true, true, true, true, true, true, true, true, true, true, true, true, true, true, true, true, true, true, true, true, false, false, false, false] rfl rfl (any_of HT_.out (by kernel_rfl)) (fun _ _ _ h => h) (Or.inl ⟨by rfl, ?_⟩) ?_ ?_
          rotate_left
          · intro w'
            go_simp
            with_reducible rfl
          rotate_left
          · simp only [Act.put, List.setIfInBounds_toArray, List.set_cons_zero, List.set_cons_succ, i64_w, i32_w]
            rfl
          refine pure_ (i := 35) (N := some 101) (v := ?_) (a' := ?_) #[true, true, true, true, true, true, true, true, true, true, true, true, true, true, true, true, true, true, true, true, true, true, true, true, true, true, true, true, true, true, true, true, true, true, true, true, false, false, false] rfl rfl (any_of HT_.out (by kernel_rfl)) (fun _ _ _ h => h) (Or.inl ⟨by rfl, ?_⟩) ?_ ?_
          rotate_left
          · intro w'
            go_simp
            with_reducible rfl
          rotate_left
          · simp only [Act.put, List.setIfInBounds_toArray, List.set_cons_zero, List.set_cons_succ, i64_w, i32_w]
            rfl
          refine one_ (i := 36) (N := some 102) #[true, true, true, true, true, true, true, true, true, true, true, true, true, true, true, true, true, true, true, true, true, true, true, true, true, true, true, true, true, true, true, true, true, true, true, true, true, false, false] rfl rfl (one_of HT_.out (by kernel_rfl)) (by decide) (fun K hK => ?_)
          refine goes_ Try.func26 (by kernel_rfl) rfl #[] (by rfl) rfl rfl (by (try simp only [List.map_toArray, List.map_cons, List.map_nil]); first | done | rfl) ?_
          refine (lives10 _).mono ?_
          rintro x0 wn ⟨rfl, hg⟩
          replace HM := Aside0.mk (HM.out.same hg)
          replace HM2 := Aside0.mk (HM2.out.same hg)
          replace HO := Aside0.mk (Kd.R_grown HO.out hg (by simp))
          replace HO3 := Aside0.mk (Kd.R_grown HO3.out hg (by simp))
          replace HG := Aside0.mk (grown_two HG.out hg)
          have hs : wn.heap[h12]? = some (.cells #[.int .i64 s, .int .i64 N, .slice A l.length c] 44 (0, 0)) ∧ wn.heap[h13]? = some (.cells #[.int .i64 s, .int .i64 N2, .slice A3 l3.length c3] 44 (0, 0)) := ⟨blk_grown hHeld.1 hg, blk_grown hHeld.2 hg⟩
          clear hg
          refine ⟨_, rfl, ?_⟩
          refine hK.out _ _ hs (fun hHeld => ?_)
          clear hK K
          refine norm_ (a' := ?_) ?_ ?_
          rotate_left
          · show Act.put _ (some 102) _ = _
            simp only [Act.put, List.setIfInBounds_toArray, List.set_cons_zero, List.set_cons_succ, i64_w, i32_w]
            rfl
          refine pure_ (i := 37) (N := some 103) (v := ?_) (a' := ?_) #[true, true, true, true, true, true, true, true, true, true, true, true, true, true, true, true, true, true, true, true, true, true, true, true, true, true, true, true, true, true, true, true, true, true, true, true, true, true, false] rfl rfl (any_of HT_.out (by kernel_rfl)) (fun _ _ _ h => h) (Or.inl ⟨by rfl, ?_⟩) ?_ ?_
          rotate_left
          · intro w'
            go_simp
            with_reducible rfl
          rotate_left
          · simp only [Act.put, List.setIfInBounds_toArray, List.set_cons_zero, List.set_cons_succ, i64_w, i32_w]
            rfl
          refine pure_ (i := 38) (N := some 8) (v := ?_) (a' := ?_) #[true, true, true, true, true, true, true, true, true, true, true, true, true, true, true, true, true, true, true, true, true, true, true, true, true, true, true, true, true, true, true, true, true, true, true, true, true, true, true] rfl rfl (any_of HT_.out (by kernel_rfl)) (fun _ _ _ h => h) (Or.inl ⟨by rfl, ?_⟩) ?_ ?_
          rotate_left
          · intro w'
            go_simp
            with_reducible rfl
          rotate_left
          · simp only [Act.put, List.setIfInBounds_toArray, List.set_cons_zero, List.set_cons_succ, i64_w, i32_w]
            rfl
          refine done_ (done_of HT_.out (by kernel_rfl)) ?_
          clear hHeld
          go_wp2
          go_ret
          exact ⟨rfl, below_of_grown HG.out⟩
        · refine pure_ (i := 24) (N := some 90) (v := ?_) (a' := ?_) #[true, true, true, true, true, true, true, true, true, true, true, true, true, true, true, true, true, true, true, true, true, true, true, true, true, false, false, false, false, false, false, false, false, false, false, false, false, false, false] rfl rfl (any_of HT_.out (by kernel_rfl)) (fun _ _ _ h => h) (Or.inl ⟨by rfl, ?_⟩) ?_ ?_
          rotate_left
          · intro w'
            go_simp
            with_reducible rfl
          rotate_left
          · simp only [Act.put, List.setIfInBounds_toArray, List.set_cons_zero, List.set_cons_succ, i64_w, i32_w]
            rfl
          refine pure_ (i := 25) (N := some 91) (v := ?_) (a' := ?_) #[true, true, true, true, true, true, true, true, true, true, true, true, true, true, true, true, true, true, true, true, true, true, true, true, true, true, false, false, false, false, false, false, false, false, false, false, false, false, false] rfl rfl (any_of HT_.out (by kernel_rfl)) (fun _ _ _ h => h) (Or.inl ⟨by rfl, ?_⟩) ?_ ?_
          rotate_left
          · intro w'
            go_simp
            with_reducible rfl
          rotate_left
          · simp only [Act.put, List.setIfInBounds_toArray, List.set_cons_zero, List.set_cons_succ, i64_w, i32_w]
            rfl
          refine pure_ (i := 26) (N := some 92) (v := ?_) (a' := ?_) #[true, true, true, true, true, true, true, true, true, true, true, true, true, true, true, true, true, true, true, true, true, true, true, true, true, true, true, false, false, false, false, false, false, false, false, false, false, false, false] rfl rfl (any_of HT_.out (by kernel_rfl)) (fun _ _ _ h => h) (Or.inl ⟨by rfl, ?_⟩) ?_ ?_
          rotate_left
          · intro w'
            go_simp
            with_reducible rfl
          rotate_left
          · simp only [Act.put, List.setIfInBounds_toArray, List.set_cons_zero, List.set_cons_succ, i64_w, i32_w]
            rfl
          refine pure_ (i := 29) (N := some 95) (v := ?_) (a' := ?_) #[true, true, true, true, true, true, true, true, true, true, true, true, true, true, true, true, true, true, true, true, true, true, true, true, true, true, true, false, false, true, false, false, false, false, false, false, false, false, false] rfl rfl (any_of HT_.out (by kernel_rfl)) (fun _ _ _ h => h) (Or.inl ⟨by rfl, ?_⟩) ?_ ?_
          rotate_left
          · intro w'
            go_simp
            with_reducible rfl
          rotate_left
          · simp only [Act.put, List.setIfInBounds_toArray, List.set_cons_zero, List.set_cons_succ, i64_w, i32_w]
            rfl
          refine one_ (i := 27) (N := some 93) #[true, true, true, true, true, true, true, true, true, true, true, true, true, true, true, true, true, true, true, true, true, true, true, true, true, true, true, true, false, true, false, false, false, false, false, false, false, false, false] rfl rfl (one_of HT_.out (by kernel_rfl)) (by decide) (fun K hK => ?_)
          refine goes_ Try.func34 (by kernel_rfl) rfl #[.pointer (some ⟨pt2, 0, none⟩)] (by rfl) rfl rfl (by (try simp only [List.map_toArray, List.map_cons, List.map_nil]); first | done | rfl) ?_
          refine (o_list HTB2.out HM2.out).mono ?_
          rintro x0 wn ⟨v, rfl, hR, hg⟩
          rw [HLS2.out] at hR
          obtain ⟨A5, c5, rfl⟩ := Kd.R_slice hR
          have HV5 := Aside0.mk (Kd.R_lower hR HG.out.size)
          replace HM := Aside0.mk (HM.out.same hg)
          replace HM2 := Aside0.mk (HM2.out.same hg)
          replace HO := Aside0.mk (Kd.R_grown HO.out hg (by simp))
          replace HO3 := Aside0.mk (Kd.R_grown HO3.out hg (by simp))
          replace HG := Aside0.mk (grown_two HG.out hg)
          have hs : wn.heap[h12]? = some (.cells #[.int .i64 s, .int .i64 N, .slice A l.length c] 44 (0, 0)) ∧ wn.heap[h13]? = some (.cells #[.int .i64 s, .int .i64 N2, .slice A3 l3.length c3] 44 (0, 0)) := ⟨blk_grown hHeld.1 hg, blk_grown hHeld.2 hg⟩
          rw [HLN.out (by omega)]
          clear hR hg
          refine ⟨_, rfl, ?_⟩
          refine hK.out _ _ hs (fun hHeld => ?_)
          clear hK K
          refine norm_ (a' := ?_) ?_ ?_
          rotate_left
          · show Act.put _ (some 93) _ = _
            simp only [Act.put, List.setIfInBounds_toArray, List.set_cons_zero, List.set_cons_succ, i64_w, i32_w]
            rfl
          refine pure_ (i := 28) (N := some 94) (v := ?_) (a' := ?_) #[true, true, true, true, true, true, true, true, true, true, true, true, true, true, true, true, true, true, true, true, true, true, true, true, true, true, true, true, true, true, false, false, false, false, false, false, false, false, false] rfl rfl (any_of HT_.out (by kernel_rfl)) (fun _ _ _ h => h) (Or.inl ⟨by rfl, ?_⟩) ?_ ?_
          rotate_left
          · intro w'
            go_simp
            with_reducible rfl
          rotate_left
          · simp only [Act.put, List.setIfInBounds_toArray, List.set_cons_zero, List.set_cons_succ, i64_w, i32_w]
            rfl
          refine one_ (i := 30) (N := some 96) #[true, true, true, true, true, true, true, true, true, true, true, true, true, true, true, true, true, true, true, true, true, true, true, true, true, true, true, true, true, true, true, false, false, false, false, false, false, false, false] rfl rfl (one_of HT_.out (by kernel_rfl)) (by decide) (fun K hK => ?_)
          refine goes_ Try.func34 (by kernel_rfl) rfl #[.pointer (some ⟨pt, 0, none⟩)] (by rfl) rfl rfl (by (try simp only [List.map_toArray, List.map_cons, List.map_nil]); first | done | rfl) ?_
          refine (o_list HTB.out HM.out).mono ?_
          rintro x0 wn ⟨v, rfl, hR, hg⟩
          rw [HLS1.out] at hR
          obtain ⟨A7, c7, rfl⟩ := Kd.R_slice hR
          have HV7 := Aside0.mk (Kd.R_lower hR HG.out.size)
          replace HM := Aside0.mk (HM.out.same hg)
          replace HM2 := Aside0.mk (HM2.out.same hg)
          replace HO := Aside0.mk (Kd.R_grown HO.out hg (by simp))
          replace HO3 := Aside0.mk (Kd.R_grown HO3.out hg (by simp))
          replace HG := Aside0.mk (grown_two HG.out hg)
          have hs : wn.heap[h12]? = some (.cells #[.int .i64 s, .int .i64 N, .slice A l.length c] 44 (0, 0)) ∧ wn.heap[h13]? = some (.cells #[.int .i64 s, .int .i64 N2, .slice A3 l3.length c3] 44 (0, 0)) := ⟨blk_grown hHeld.1 hg, blk_grown hHeld.2 hg⟩
          clear hR hg
          refine ⟨_, rfl, ?_⟩
          refine hK.out _ _ hs (fun hHeld => ?_)
          clear hK K
          refine norm_ (a' := ?_) ?_ ?_
          rotate_left
          · show Act.put _ (some 96) _ = _
            simp only [Act.put, List.setIfInBounds_toArray, List.set_cons_zero, List.set_cons_succ, i64_w, i32_w]
            rfl
          refine pure_ (i := 31) (N := some 97) (v := ?_) (a' := ?_) #[true, true, true, true, true, true, true, true, true, true, true, true, true, true, true, true, true, true, true, true, true, true, true, true, true, true, true, true, true, true, true, true, false, false, false, false, false, false, false] rfl rfl (any_of HT_.out (by kernel_rfl)) (fun _ _ _ h => h) (Or.inl ⟨by rfl, ?_⟩) ?_ ?_
          rotate_left
          · intro w'
            go_simp
            with_reducible rfl
          rotate_left
          · simp only [Act.put, List.setIfInBounds_toArray, List.set_cons_zero, List.set_cons_succ, i64_w, i32_w]
            rfl
          refine pure_ (i := 32) (N := some 98) (v := ?_) (a' := ?_) #[true, true, true, true, true, true, true, true, true, true, true, true, true, true, true, true, true, true, true, true, true, true, true, true, true, true, true, true, true, true, true, true, true, false, false, false, false, false, false] rfl rfl (any_of HT_.out (by kernel_rfl)) (fun _ _ _ h => h) (Or.inl ⟨by rfl, ?_⟩) ?_ ?_
          rotate_left
          · intro w'
            go_simp
            with_reducible rfl
          rotate_left
          · simp only [Act.put, List.setIfInBounds_toArray, List.set_cons_zero, List.set_cons_succ, i64_w, i32_w]
            rfl
          refine pure_ (i := 33) (N := some 99) (v := ?_) (a' := ?_) #[true, true, true, true, true, true, true, true, true, true, true, true, true, true, true, true, true, true, true, true, true, true, true, true, true, true, true, true, true, true, true, true, true, true, false, false, false, false, false] rfl rfl (any_of HT_.out (by kernel_rfl)) (fun _ _ _ h => h) (Or.inl ⟨by rfl, ?_⟩) ?_ ?_
          rotate_left
          · intro w'
            go_simp
            with_reducible rfl
          rotate_left
          · simp only [Act.put, List.setIfInBounds_toArray, List.set_cons_zero, List.set_cons_succ, i64_w, i32_w]
            rfl
          refine pure_ (i := 34) (N := some 100) (v := ?_) (a' := ?_) #[true, true, true, true, true, true, true, true, true, true, true, true, true, true, true, true, true, true, true, true, true, true, true, true, true, true, true, true, true, true, true, true, true, true, true, false, false, false, false] rfl rfl (any_of HT_.out (by kernel_rfl)) (fun _ _ _ h => h) (Or.inl ⟨by rfl, ?_⟩) ?_ ?_
          rotate_left
          · intro w'
            go_simp
            with_reducible rfl
          rotate_left
          · simp only [Act.put, List.setIfInBounds_toArray, List.set_cons_zero, List.set_cons_succ, i64_w, i32_w]
            rfl
          refine pure_ (i := 35) (N := some 101) (v := ?_) (a' := ?_) #[true, true, true, true, true, true, true, true, true, true, true, true, true, true, true, true, true, true, true, true, true, true, true, true, true, true, true, true, true, true, true, true, true, true, true, true, false, false, false] rfl rfl (any_of HT_.out (by kernel_rfl)) (fun _ _ _ h => h) (Or.inl ⟨by rfl, ?_⟩) ?_ ?_
          rotate_left
          · intro w'
            go_simp
            with_reducible rfl
          rotate_left
          · simp only [Act.put, List.setIfInBounds_toArray, List.set_cons_zero, List.set_cons_succ, i64_w, i32_w]
            rfl
          refine one_ (i := 36) (N := some 102) #[true, true, true, true, true, true, true, true, true, true, true, true, true, true, true, true, true, true, true, true, true, true, true, true, true, true, true, true, true, true, true, true, true, true, true, true, true, false, false] rfl rfl (one_of HT_.out (by kernel_rfl)) (by decide) (fun K hK => ?_)
          refine goes_ Try.func26 (by kernel_rfl) rfl #[] (by rfl) rfl rfl (by (try simp only [List.map_toArray, List.map_cons, List.map_nil]); first | done | rfl) ?_
          refine (lives10 _).mono ?_
          rintro x0 wn ⟨rfl, hg⟩
          replace HM := Aside0.mk (HM.out.same hg)
          replace HM2 := Aside0.mk (HM2.out.same hg)
          replace HO := Aside0.mk (Kd.R_grown HO.out hg (by simp))
          replace HO3 := Aside0.mk (Kd.R_grown HO3.out hg (by simp))
          replace HG := Aside0.mk (grown_two HG.out hg)
          have hs : wn.heap[h12]? = some (.cells #[.int .i64 s, .int .i64 N, .slice A l.length c] 44 (0, 0)) ∧ wn.heap[h13]? = some (.cells #[.int .i64 s, .int .i64 N2, .slice A3 l3.length c3] 44 (0, 0)) := ⟨blk_grown hHeld.1 hg, blk_grown hHeld.2 hg⟩
          clear hg
          refine ⟨_, rfl, ?_⟩
          refine hK.out _ _ hs (fun hHeld => ?_)
          clear hK K
          refine norm_ (a' := ?_) ?_ ?_
          rotate_left
          · show Act.put _ (some 102) _ = _
            simp only [Act.put, List.setIfInBounds_toArray, List.set_cons_zero, List.set_cons_succ, i64_w, i32_w]
            rfl
          refine pure_ (i := 37) (N := some 103) (v := ?_) (a' := ?_) #[true, true, true, true, true, true, true, true, true, true, true, true, true, true, true, true, true, true, true, true, true, true, true, true, true, true, true, true, true, true, true, true, true, true, true, true, true, true, false] rfl rfl (any_of HT_.out (by kernel_rfl)) (fun _ _ _ h => h) (Or.inl ⟨by rfl, ?_⟩) ?_ ?_
          rotate_left
          · intro w'
            go_simp
            with_reducible rfl
          rotate_left
          · simp only [Act.put, List.setIfInBounds_toArray, List.set_cons_zero, List.set_cons_succ, i64_w, i32_w]
            rfl
          refine pure_ (i := 38) (N := some 8) (v := ?_) (a' := ?_) #[true, true, true, true, true, true, true, true, true, true, true, true, true, true, true, true, true, true, true, true, true, true, true, true, true, true, true, true, true, true, true, true, true, true, true, true, true, true, true] rfl rfl (any_of HT_.out (by kernel_rfl)) (fun _ _ _ h => h) (Or.inl ⟨by rfl, ?_⟩) ?_ ?_
          rotate_left
          · intro w'
            go_simp
            with_reducible rfl
          rotate_left
          · simp only [Act.put, List.setIfInBounds_toArray, List.set_cons_zero, List.set_cons_succ, i64_w, i32_w]
            rfl
          refine done_ (done_of HT_.out (by kernel_rfl)) ?_
          clear hHeld
          go_wp2
          go_ret
          exact ⟨rfl, below_of_grown HG.out⟩
end
end Go.Proofs.Ytjnffegjpkbjmaa.Mem
