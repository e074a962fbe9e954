/- TsbClears: a context's entries are dropped, the others stay; Clear drops all. -/
import Derived.Test.YtjnffegjpkbjmaaTsCl
import Derived.Test.YtjnffegjpkbjmaaTsRi
namespace Go.Proofs.Ytjnffegjpkbjmaa.Mem
open Go.RowKit Go.Maps Go.Proofs.YtjnffegjpkbjmaaW.PrintWords Go.Proofs.YtjnffegjpkbjmaaW.PrintLast Go.Proofs.YtjnffegjpkbjmaaW.PrintMore Go.Proofs.Ytjnffegjpkbjmaa.QTsbPlays Go.Proofs.Ytjnffegjpkbjmaa.Pure
set_option linter.unusedSimpArgs false
set_option linter.unusedVariables false
section
set_option maxHeartbeats 2000000
set_option maxRecDepth 100000
noncomputable def tclears7_T : Bool × List (List Nat × List Nat) := rtab .any (opsOf Try.f9 7)
theorem tclears7_tab : rtab .any (opsOf Try.f9 7) = tclears7_T := rfl
theorem tsbClears_calls (size grade : Int) (a : Option Addr) (len cap : Nat) (ctx : Int) (W : World) (hs : (Lit.int .i64 size).wf = true) (hgr : (Lit.int .i64 grade).wf = true) (hl : Ents W a len ∧ len ≤ maxLen) (hc : (Lit.int .i64 ctx).wf = true) :
    Calls Try.prog 9 #[.int .i64 size, .int .i64 grade, .slice a len cap, .int .i64 ctx] W fun e W' => e = .returned (.bool true) ∧ Below W.heap.size W W' := by
  have hu := Try.underlying50
  have hu2 := Try.underlying44
  have HEN := Aside0.mk hl.1
  have hlm : len ≤ 9223372036854775807 := hl.2
  have HG := Aside0.mk (grown_refl W none)
  clear hl hc
  go_enter Try.func9, Try.ntmps9
  go_wp2_with fail
  refine (o_begin (below_of_grown HG.out) HG.out.size size grade).mono ?_
  rintro x0 w1 ⟨p, mb, pt, A, c, rfl, hR, hM, hmb, hg, hTB⟩
  have HM := Aside0.mk hM
  have HO := Aside0.mk hR
  have HTB := Aside0.mk hTB
  have HMB := Aside0.mk hmb
  replace HG := Aside0.mk hg
  clear hM hmb hg hTB hR
  generalize plcs (ar4 size) (ar4 grade) = N at HM HTB ⊢
  generalize ar4 size = s at HM HTB ⊢
  generalize (ar4 grade : Int) = gr at HM ⊢
  have hg := World.grownBy_alloc w1 (.cells #[.int .i64 s, .int .i64 N, .slice A 0 c] 44) none
  have HB12 := Aside0.mk (heap_alloc_new w1 (.cells #[.int .i64 s, .int .i64 N, .slice A 0 c] 44))
  have HH12 := Aside0.mk (show W.heap.size ≤ w1.heap.size from HG.out.size)
  replace HG := Aside0.mk (grown_two HG.out hg)
  replace HM := Aside0.mk (HM.out.same hg)
  replace HO := Aside0.mk (Kd.R_grown HO.out hg (by simp))
  clear hg
  go_wp2_with fail
  generalize w1.heap.size = h12 at HB12 HH12 ⊢
  generalize w1.alloc (.cells #[.int .i64 s, .int .i64 N, .slice A 0 c] 44) = w2 at HB12 HG HM HO ⊢
  go_loopw [11] (fun v13 wr => ∃ (k : Nat) (os : Nat → Option GE) (l : List WS) (A : Option Addr) (c : Nat), v13 = .int .i64 k ∧ k ≤ len ∧ k ≤ 10 ∧ l.length ≤ 3 * k ∧ Aside0 (TQ W.heap.size W p mb pt 1048576 65536 N s gr (2 * N + 3 * k) (os) wr) ∧ Aside0 (Kd.R k122 122 wr W.heap.size (fun _ => True) (.slice A l.length c) l) ∧ Aside0 (W.grownBy wr none) ∧ Aside0 (wr.heap[h12]? = some (.cells #[.int .i64 s, .int .i64 N, .slice A l.length c] 44 (0, 0)))) (fun v13 _ => 10 - (intOf v13).toNat)
  case atStart => exact ⟨0, fun _ => none, [], A, c, rfl, by omega, by omega, by simp, HM, HO, HG, HB12⟩
  case round =>
    clear HM HO HG HB12
    obtain ⟨k, os, l, A, c, rfl, hk, hkm, hll, HM, HO, HG, HB12⟩ := hrel
    by_cases hlk : k < len ∧ k < 10
    · have h1' : (k : Int) < (len : Int) := by omega
      have h2' : (k : Int) < 10 := by omega
      have h0' : (0 : Int) ≤ (k : Int) := by omega
      obtain ⟨y, e, rfl, HEW0⟩ := HEN.out.at k hlk.1
      have HEW := Aside0.mk HEW0
      have HWE := Aside0.mk HEW0.wf
      clear HEW0
      go_upto_region 7 with fail
      replace HB12 := Aside0.mk (blk_grown HB12.out (grown_drew wr none))
      replace HG := Aside0.mk (grown_two HG.out (grown_drew wr none))
      replace HM := Aside0.mk (HM.out.same (grown_drew wr none))
      replace HO := Aside0.mk (Kd.R_drew HO.out)
      refine start_ (n := 10) (S := fun w' => EntAt w' (y.add (k * 11)) e ∧ w'.heap[h12]? = some (.cells #[.int .i64 s, .int .i64 N, .slice A l.length c] 44 (0, 0))) (ds := []) #[false, false, false, false, false, false, false, false, false, false] (by kernel_rfl) rfl rfl ⟨HEW.out.grown HG.out, HB12.out⟩ (fun hHeld => ?_)
      refine with_tab tclears7_tab (fun HT_ => ?_)
      refine pure_ (i := 0) (N := some 37) (v := ?_) (a' := ?_) #[true, false, false, false, false, false, false, false, false, false] rfl rfl (any_of HT_.out (by kernel_rfl)) (fun _ _ _ h => h) (Or.inl ⟨by rfl, ?_⟩) ?_ ?_
      rotate_left
      · intro w'
        go_simp
        with_reducible rfl
      rotate_left
      · simp only [Act.put, List.setIfInBounds_toArray, List.set_cons_zero, List.set_cons_succ, i64_w, i32_w]
        rfl
      refine pure_ (i := 1) (N := some 38) (v := ?_) (a' := ?_) #[true, true, false, false, false, false, false, false, false, false] rfl rfl (any_of HT_.out (by kernel_rfl)) (fun _ _ _ h => h) (Or.inl ⟨by rfl, ?_⟩) ?_ ?_
      rotate_left
      · intro w'
        go_simp
        with_reducible rfl
      rotate_left
      · simp only [Act.put, List.setIfInBounds_toArray, List.set_cons_zero, List.set_cons_succ, i64_w, i32_w]
        rfl
      refine pure_ (i := 2) (N := some 39) (v := ?_) (a' := ?_) #[true, true, true, false, false, false, false, false, false, false] rfl rfl (any_of HT_.out (by kernel_rfl)) (fun _ _ _ h => h) (Or.inl ⟨by rfl, ?_⟩) ?_ ?_
      rotate_left
      · intro w'
        go_simp
        with_reducible rfl
      rotate_left
      · simp only [Act.put, List.setIfInBounds_toArray, List.set_cons_zero, List.set_cons_succ, i64_w, i32_w]
        rfl
      refine pure_ (i := 5) (N := some 42) (v := ?_) (a' := ?_) #[true, true, true, false, false, true, false, false, false, false] rfl rfl (any_of HT_.out (by kernel_rfl)) (fun _ _ _ h => h) (Or.inl ⟨by rfl, ?_⟩) ?_ ?_
      rotate_left
      · intro w'
        go_simp
        with_reducible rfl
      rotate_left
      · simp only [Act.put, List.setIfInBounds_toArray, List.set_cons_zero, List.set_cons_succ, i64_w, i32_w]
        rfl
      refine take_ (i := 3) (N := some 40) (v := .agg (entA e)) (a' := ?_) #[true, true, true, true, false, true, false, false, false, false] rfl rfl (take_of HT_.out (by kernel_rfl)) (fun _ _ _ h => h) (Or.inl ⟨by rfl, ?_⟩) hHeld ?_ ?_
      · rintro w' ⟨s1, s2⟩
        obtain ⟨_, c0, c1, c2, c3, c4, c5, c6, c7, c8, c9, c10⟩ := s1
        go_simp
      rotate_left
      · simp only [Act.put, List.setIfInBounds_toArray, List.set_cons_zero, List.set_cons_succ, i64_w, i32_w]
        rfl
      refine pure_ (i := 4) (N := some 41) (v := ?_) (a' := ?_) #[true, true, true, true, true, true, false, false, false, false] rfl rfl (any_of HT_.out (by kernel_rfl)) (fun _ _ _ h => h) (Or.inl ⟨by rfl, ?_⟩) ?_ ?_
      rotate_left
      · intro w'
        go_simp
        with_reducible rfl
      rotate_left
      · simp only [Act.put, List.setIfInBounds_toArray, List.set_cons_zero, List.set_cons_succ, i64_w, i32_w]
        rfl
      refine take_ (i := 6) (N := some 43) (v := .int .i64 s) (a' := ?_) #[true, true, true, true, true, true, true, false, false, false] rfl rfl (take_of HT_.out (by kernel_rfl)) (fun _ _ _ h => h) (Or.inl ⟨by rfl, ?_⟩) hHeld ?_ ?_
      · rintro w' ⟨s1, s2⟩
        obtain ⟨q0, q1, q2⟩ := cz3q s2
        go_simp
      rotate_left
      · simp only [Act.put, List.setIfInBounds_toArray, List.set_cons_zero, List.set_cons_succ, i64_w, i32_w]
        rfl
      refine two_ (i := 7) (j := 8) (Ni := some 44) (Nj := some 12) #[true, true, true, true, true, true, true, true, false, false] #[true, true, true, true, true, true, true, false, true, false] rfl rfl rfl rfl (two_of HT_.out (by kernel_rfl)) (by decide) (by decide) (fun K hK => ?_) (fun K hK => ?_)
      · refine goes_ Try.func21 (by kernel_rfl) rfl #[.agg #[.int .i64 0, .int .i64 0, .int .u64 0, .int .i64 e.f0, .int .i64 e.f1, .int .u64 e.f2, .int .u64 e.f3, .bool e.f4.f0, .bool e.f4.f1, .bool e.f4.f2, .bool e.f4.f3, .bool e.f4.f4, .bool e.f4.f5, .bool e.f5, .bool false], .int .i64 s] (by rfl) rfl rfl (by (try simp only [List.map_toArray, List.map_cons, List.map_nil]); first | done | rfl) ?_
        refine (entry_calls e HWE.out s HTB.out.hs _).mono ?_
        rintro x0 wn ⟨rfl, hg⟩
        replace HG := Aside0.mk (grown_two HG.out hg)
        replace HM := Aside0.mk (HM.out.same hg)
        replace HO := Aside0.mk (Kd.R_grown HO.out hg (by simp))
        have hs : EntAt wn (y.add (k * 11)) e ∧ wn.heap[h12]? = some (.cells #[.int .i64 s, .int .i64 N, .slice A l.length c] 44 (0, 0)) := ⟨hHeld.1.grown hg, blk_grown hHeld.2 hg⟩
        clear hg
        refine ⟨_, rfl, ?_⟩
        refine hK.out _ _ hs (fun hHeld => ?_)
        clear hK K
        refine norm_ (a' := ?_) ?_ ?_
        rotate_left
        · show Act.put _ (some 44) _ = _
          simp only [Act.put, List.setIfInBounds_toArray, List.set_cons_zero, List.set_cons_succ, i64_w, i32_w]
          rfl
        refine one_ (i := 8) (N := some 12) #[true, true, true, true, true, true, true, true, true, false] rfl rfl (one_of HT_.out (by kernel_rfl)) (by decide) (fun K hK => ?_)
        refine box_step ?hg (N := 12) ?hd (cs := #[.int .i64 0, .int .i64 0, .int .u64 0, .int .u64 0, .bool false, .bool false, .bool false, .bool false, .bool false, .bool false, .bool false]) (t := 50) ?hr ?_; (case hd => rfl); (case hg => rfl); (case hr => first | (go_simp; done) | (go_simp; rfl))
        intro h15 hg15 wn hbox hb
        have HB15 := Aside0.mk hbox
        have HN15 := Aside0.mk (show W.heap.size ≤ h15 ∧ h12 ≠ h15 from ⟨by rw [hg15]; exact HG.out.size, fun e => by have := blk_lt hHeld.2; omega⟩)
        have hg := below_grown hb
        replace HG := Aside0.mk (grown_two HG.out hg)
        replace HM := Aside0.mk (HM.out.same hg)
        replace HO := Aside0.mk (Kd.R_grown HO.out hg (by simp))
        have hs : EntAt wn (y.add (k * 11)) e ∧ wn.heap[h12]? = some (.cells #[.int .i64 s, .int .i64 N, .slice A l.length c] 44 (0, 0)) := ⟨hHeld.1.grown hg, blk_grown hHeld.2 hg⟩
        clear hg hg15 hbox hb
        refine hK.out _ _ hs (fun hHeld => ?_)
        clear hK K
        refine norm_ (a' := ?_) ?_ ?_
        rotate_left
        · show Act.put _ (some 12) _ = _
          simp only [Act.put, List.setIfInBounds_toArray, List.set_cons_zero, List.set_cons_succ, i64_w, i32_w]
          rfl
        refine one_ (i := 9) (N := none) #[true, true, true, true, true, true, true, true, true, true] rfl rfl (one_of HT_.out (by kernel_rfl)) (by decide) (fun K hK => ?_)
        rw [if_pos (by rfl)]
        refine wp_store_row 50 (.tmp 12) (.tmp 44) rfl h15 (geA (geE s e)) rfl rfl 50 #[.int .i64 0, .int .i64 0, .int .u64 0, .int .u64 0, .bool false, .bool false, .bool false, .bool false, .bool false, .bool false, .bool false] HB15.out (by kernel_rfl) rfl (by kernel_rfl) ?_
        have hb2 := setRow_heap wn h15 _ (geA (geE s e)) _ _ HB15.out
        have hgr := grown_row wn h15 (geA (geE s e))
        have ht := (hgr.block h12 (blk_lt hHeld.2) (fun e => HN15.out.2 (Option.some.inj e))).trans hHeld.2
        replace HM := Aside0.mk (HM.out.kept hgr HB15.out (by decide) (by decide) HN15.out.1)
        replace HG := Aside0.mk (grown_loc HG.out hgr HN15.out.1)
        replace HO := Aside0.mk (Kd.R_mono (ok' := fun _ => True) (Kd.R_grown (Kd.R_types HO.out HB15.out (by decide)) hgr (fun k hk e => hk.2 (Option.some.inj e))) (fun _ _ => trivial))
        have hs : EntAt (World.setRow wn h15 (geA (geE s e))) (y.add (k * 11)) e ∧ (World.setRow wn h15 (geA (geE s e))).heap[h12]? = some (.cells #[.int .i64 s, .int .i64 N, .slice A l.length c] 44 (0, 0)) := ⟨HEW.out.grown HG.out, ht⟩
        generalize World.setRow wn h15 (geA (geE s e)) = wb at hb2 ht hs HM HG HO ⊢
        replace HB15 := Aside0.mk hb2
        replace HB12 := Aside0.mk ht
        clear hgr hb2 ht
        refine hK.out _ _ hs (fun hHeld => ?_)
        clear hK K
        refine norm_ (a' := ?_) ?_ ?_
        rotate_left
        · show Act.put _ none _ = _
          rfl
        refine done_ (done_of HT_.out (by kernel_rfl)) ?_
        obtain ⟨g, hge⟩ : ∃ g, g = geE s e := ⟨_, rfl⟩
        rw [← hge] at HB15 ⊢
        have HGO := Aside0.mk (show g.ok ∧ g.s = s by rw [hge]; exact ⟨geE_ok s e HTB.out.hs, rfl⟩)
        clear hge
        obtain ⟨z0, z1, z2, z3, z4, z5, z6, z7, z8, z9, z10⟩ := tte_Read.cz11 HB15.out
        go_wp2_with fail
        refine (o_insert HTB.out HM.out g HGO.out.1 HGO.out.2 (by have := HTB.out.hN; omega)).mono ?_
        rintro x0 w8 ⟨rfl, hM, hg⟩
        replace HB15 := Aside0.mk ((hg.block _ (blk_lt HB15.out) (fun e => HM.out.nb _ _ _ HB15.out (Option.some.inj e))).trans HB15.out)
        replace HB12 := Aside0.mk ((hg.block _ (blk_lt HB12.out) (fun e => HM.out.nb _ _ _ HB12.out (Option.some.inj e))).trans HB12.out)
        replace HO := Aside0.mk (Kd.R_mono (ok' := fun _ => True) (Kd.R_grown (Kd.R_bound HO.out) hg (fun k hk e => by obtain ⟨_, _, _, q, _, cs, hc⟩ := hk; exact HM.out.nb k cs q hc (Option.some.inj e))) (fun _ _ => trivial))
        replace HG := Aside0.mk (grown_loc HG.out hg HMB.out)
        replace HM := Aside0.mk hM
        clear hM hg z0 z1 z2 z3 z4 z5 z6 z7 z8 z9 z10
        obtain ⟨z0, z1, z2, z3, z4, z5, z6, z7, z8, z9, z10⟩ := tte_Read.cz11 HB15.out
        obtain ⟨q0, q1, q2⟩ := cz3q HB12.out
        go_wp2_with fail
        refine (rinsert_calls HTB.out.hs HTB.out.h1 HTB.out.hN g HGO.out.1 HGO.out.2 (Kd.R_reads' HO.out).2.2 (Kd.R_reads' HO.out).2.1 (by omega)).mono ?_
        rintro x0 w9 ⟨v2, rfl, hR, hg⟩
        have HLL := Aside0.mk (insW_len l (plcOf N (s : Int) g.v : Int) (g.tag : Int) (g.data : Int))
        generalize insW l (plcOf N (s : Int) g.v : Int) (g.tag : Int) (g.data : Int) = l2 at hR HLL
        obtain ⟨A2, c2, rfl⟩ := Kd.R_slice hR
        have HO2 := Aside0.mk (Kd.R_lower hR HG.out.size)
        replace HB12 := Aside0.mk (blk_grown HB12.out hg)
        replace HG := Aside0.mk (grown_two HG.out hg)
        replace HM := Aside0.mk (HM.out.same hg)
        clear hR hg q0 q1 q2 z0 z1 z2 z3 z4 z5 z6 z7 z8 z9 z10 HO HB15
        go_wp2_with (first | ((with_reducible refine gate_store (t := 44) (p := 10) rfl ?_); refine wpList_store_row rfl 44 (.tmp 10) (.tmp 50) rfl h12 #[.int .i64 s, .int .i64 N, .slice A2 l2.length c2] rfl rfl 44 _ HB12.out (by kernel_rfl) rfl (by kernel_rfl) ?_; have SHB12 := Aside0.mk (setRow_heap _ h12 _ #[.int .i64 s, .int .i64 N, .slice A2 l2.length c2] _ _ HB12.out); have THB12 := Aside0.mk (grown_row w9 h12 #[.int .i64 s, .int .i64 N, .slice A2 l2.length c2])))
        replace HM := Aside0.mk (HM.out.kept THB12.out HB12.out (by decide) (by decide) HH12.out)
        have HO := Aside0.mk (Kd.R_mono (ok' := fun _ => True) (Kd.R_grown (Kd.R_types HO2.out HB12.out (by decide)) THB12.out (fun k hk e => hk.2 (Option.some.inj e))) (fun _ _ => trivial))
        replace HG := Aside0.mk (grown_loc HG.out THB12.out HH12.out)
        replace HB12 := Aside0.mk SHB12.out
        generalize World.setRow w9 h12 #[.int .i64 s, .int .i64 N, .slice A2 l2.length c2] = w10 at HM HO HG HB12 ⊢
        clear SHB12 THB12 HO2
        go_wp2_with fail
        go_roundw
        case rel => exact ⟨k + 1, _, l2, A2, c2, by go_num, by omega, by omega, by have := HLL.out; omega, HM, HO, HG, HB12⟩
        case measure => simp [intOf]; omega
      · refine box_step ?hg (N := 12) ?hd (cs := #[.int .i64 0, .int .i64 0, .int .u64 0, .int .u64 0, .bool false, .bool false, .bool false, .bool false, .bool false, .bool false, .bool false]) (t := 50) ?hr ?_; (case hd => rfl); (case hg => rfl); (case hr => first | (go_simp; done) | (go_simp; rfl))
        intro h15 hg15 wn hbox hb
        have HB15 := Aside0.mk hbox
        have HN15 := Aside0.mk (show W.heap.size ≤ h15 ∧ h12 ≠ h15 from ⟨by rw [hg15]; exact HG.out.size, fun e => by have := blk_lt hHeld.2; omega⟩)
        have hg := below_grown hb
        replace HG := Aside0.mk (grown_two HG.out hg)
        replace HM := Aside0.mk (HM.out.same hg)
        replace HO := Aside0.mk (Kd.R_grown HO.out hg (by simp))
        have hs : EntAt wn (y.add (k * 11)) e ∧ wn.heap[h12]? = some (.cells #[.int .i64 s, .int .i64 N, .slice A l.length c] 44 (0, 0)) := ⟨hHeld.1.grown hg, blk_grown hHeld.2 hg⟩
        clear hg hg15 hbox hb
        refine hK.out _ _ hs (fun hHeld => ?_)
        clear hK K
        refine norm_ (a' := ?_) ?_ ?_
        rotate_left
        · show Act.put _ (some 12) _ = _
          simp only [Act.put, List.setIfInBounds_toArray, List.set_cons_zero, List.set_cons_succ, i64_w, i32_w]
          rfl
        refine one_ (i := 7) (N := some 44) #[true, true, true, true, true, true, true, true, true, false] rfl rfl (one_of HT_.out (by kernel_rfl)) (by decide) (fun K hK => ?_)
        refine goes_ Try.func21 (by kernel_rfl) rfl #[.agg #[.int .i64 0, .int .i64 0, .int .u64 0, .int .i64 e.f0, .int .i64 e.f1, .int .u64 e.f2, .int .u64 e.f3, .bool e.f4.f0, .bool e.f4.f1, .bool e.f4.f2, .bool e.f4.f3, .bool e.f4.f4, .bool e.f4.f5, .bool e.f5, .bool false], .int .i64 s] (by rfl) rfl rfl (by (try simp only [List.map_toArray, List.map_cons, List.map_nil]); first | done | rfl) ?_
        refine (entry_calls e HWE.out s HTB.out.hs _).mono ?_
        rintro x0 wn ⟨rfl, hg⟩
        replace HG := Aside0.mk (grown_two HG.out hg)
        replace HM := Aside0.mk (HM.out.same hg)
        replace HO := Aside0.mk (Kd.R_grown HO.out hg (by simp))
        have hs : EntAt wn (y.add (k * 11)) e ∧ wn.heap[h12]? = some (.cells #[.int .i64 s, .int .i64 N, .slice A l.length c] 44 (0, 0)) := ⟨hHeld.1.grown hg, blk_grown hHeld.2 hg⟩
        replace HB15 := Aside0.mk (blk_grown HB15.out hg)
        clear hg
        refine ⟨_, rfl, ?_⟩
        refine hK.out _ _ hs (fun hHeld => ?_)
        clear hK K
        refine norm_ (a' := ?_) ?_ ?_
        rotate_left
        · show Act.put _ (some 44) _ = _
          simp only [Act.put, List.setIfInBounds_toArray, List.set_cons_zero, List.set_cons_succ, i64_w, i32_w]
          rfl
        refine one_ (i := 9) (N := none) #[true, true, true, true, true, true, true, true, true, true] rfl rfl (one_of HT_.out (by kernel_rfl)) (by decide) (fun K hK => ?_)
        rw [if_pos (by rfl)]
        refine wp_store_row 50 (.tmp 12) (.tmp 44) rfl h15 (geA (geE s e)) rfl rfl 50 #[.int .i64 0, .int .i64 0, .int .u64 0, .int .u64 0, .bool false, .bool false, .bool false, .bool false, .bool false, .bool false, .bool false] HB15.out (by kernel_rfl) rfl (by kernel_rfl) ?_
        have hb2 := setRow_heap wn h15 _ (geA (geE s e)) _ _ HB15.out
        have hgr := grown_row wn h15 (geA (geE s e))
        have ht := (hgr.block h12 (blk_lt hHeld.2) (fun e => HN15.out.2 (Option.some.inj e))).trans hHeld.2
        replace HM := Aside0.mk (HM.out.kept hgr HB15.out (by decide) (by decide) HN15.out.1)
        replace HG := Aside0.mk (grown_loc HG.out hgr HN15.out.1)
        replace HO := Aside0.mk (Kd.R_mono (ok' := fun _ => True) (Kd.R_grown (Kd.R_types HO.out HB15.out (by decide)) hgr (fun k hk e => hk.2 (Option.some.inj e))) (fun _ _ => trivial))
        have hs : EntAt (World.setRow wn h15 (geA (geE s e))) (y.add (k * 11)) e ∧ (World.setRow wn h15 (geA (geE s e))).heap[h12]? = some (.cells #[.int .i64 s, .int .i64 N, .slice A l.length c] 44 (0, 0)) := ⟨HEW.out.grown HG.out, ht⟩
        generalize World.setRow wn h15 (geA (geE s e)) = wb at hb2 ht hs HM HG HO ⊢
        replace HB15 := Aside0.mk hb2
        replace HB12 := Aside0.mk ht
        clear hgr hb2 ht
        refine hK.out _ _ hs (fun hHeld => ?_)
        clear hK K
        refine norm_ (a' := ?_) ?_ ?_
        rotate_left
        · show Act.put _ none _ = _
          rfl
        refine done_ (done_of HT_.out (by kernel_rfl)) ?_
        obtain ⟨g, hge⟩ : ∃ g, g = geE s e := ⟨_, rfl⟩
        rw [← hge] at HB15 ⊢
        have HGO := Aside0.mk (show g.ok ∧ g.s = s by rw [hge]; exact ⟨geE_ok s e HTB.out.hs, rfl⟩)
        clear hge
        obtain ⟨z0, z1, z2, z3, z4, z5, z6, z7, z8, z9, z10⟩ := tte_Read.cz11 HB15.out
        go_wp2_with fail
        refine (o_insert HTB.out HM.out g HGO.out.1 HGO.out.2 (by have := HTB.out.hN; omega)).mono ?_
        rintro x0 w8 ⟨rfl, hM, hg⟩
        replace HB15 := Aside0.mk ((hg.block _ (blk_lt HB15.out) (fun e => HM.out.nb _ _ _ HB15.out (Option.some.inj e))).trans HB15.out)
        replace HB12 := Aside0.mk ((hg.block _ (blk_lt HB12.out) (fun e => HM.out.nb _ _ _ HB12.out (Option.some.inj e))).trans HB12.out)
        replace HO := Aside0.mk (Kd.R_mono (ok' := fun _ => True) (Kd.R_grown (Kd.R_bound HO.out) hg (fun k hk e => by obtain ⟨_, _, _, q, _, cs, hc⟩ := hk; exact HM.out.nb k cs q hc (Option.some.inj e))) (fun _ _ => trivial))
        replace HG := Aside0.mk (grown_loc HG.out hg HMB.out)
        replace HM := Aside0.mk hM
        clear hM hg z0 z1 z2 z3 z4 z5 z6 z7 z8 z9 z10
        obtain ⟨z0, z1, z2, z3, z4, z5, z6, z7, z8, z9, z10⟩ := tte_Read.cz11 HB15.out
        obtain ⟨q0, q1, q2⟩ := cz3q HB12.out
        go_wp2_with fail
        refine (rinsert_calls HTB.out.hs HTB.out.h1 HTB.out.hN g HGO.out.1 HGO.out.2 (Kd.R_reads' HO.out).2.2 (Kd.R_reads' HO.out).2.1 (by omega)).mono ?_
        rintro x0 w9 ⟨v2, rfl, hR, hg⟩
        have HLL := Aside0.mk (insW_len l (plcOf N (s : Int) g.v : Int) (g.tag : Int) (g.data : Int))
        generalize insW l (plcOf N (s : Int) g.v : Int) (g.tag : Int) (g.data : Int) = l2 at hR HLL
        obtain ⟨A2, c2, rfl⟩ := Kd.R_slice hR
        have HO2 := Aside0.mk (Kd.R_lower hR HG.out.size)
        replace HB12 := Aside0.mk (blk_grown HB12.out hg)
        replace HG := Aside0.mk (grown_two HG.out hg)
        replace HM := Aside0.mk (HM.out.same hg)
        clear hR hg q0 q1 q2 z0 z1 z2 z3 z4 z5 z6 z7 z8 z9 z10 HO HB15
        go_wp2_with (first | ((with_reducible refine gate_store (t := 44) (p := 10) rfl ?_); refine wpList_store_row rfl 44 (.tmp 10) (.tmp 50) rfl h12 #[.int .i64 s, .int .i64 N, .slice A2 l2.length c2] rfl rfl 44 _ HB12.out (by kernel_rfl) rfl (by kernel_rfl) ?_; have SHB12 := Aside0.mk (setRow_heap _ h12 _ #[.int .i64 s, .int .i64 N, .slice A2 l2.length c2] _ _ HB12.out); have THB12 := Aside0.mk (grown_row w9 h12 #[.int .i64 s, .int .i64 N, .slice A2 l2.length c2])))
        replace HM := Aside0.mk (HM.out.kept THB12.out HB12.out (by decide) (by decide) HH12.out)
        have HO := Aside0.mk (Kd.R_mono (ok' := fun _ => True) (Kd.R_grown (Kd.R_types HO2.out HB12.out (by decide)) THB12.out (fun k hk e => hk.2 (Option.some.inj e))) (fun _ _ => trivial))
        replace HG := Aside0.mk (grown_loc HG.out THB12.out HH12.out)
        replace HB12 := Aside0.mk SHB12.out
        generalize World.setRow w9 h12 #[.int .i64 s, .int .i64 N, .slice A2 l2.length c2] = w10 at HM HO HG HB12 ⊢
        clear SHB12 THB12 HO2
        go_wp2_with fail
        go_roundw
        case rel => exact ⟨k + 1, _, l2, A2, c2, by go_num, by omega, by omega, by have := HLL.out; omega, HM, HO, HG, HB12⟩
        case measure => simp [intOf]; omega
    · have HKL := Aside0.mk (show k = len ∨ k = 10 by omega)
      have HK12 := Aside0.mk hkm
      have hkk : ((k : Int) < (len : Int) ∧ ¬ (k : Int) < 10) ∨ ¬ (k : Int) < (len : Int) := by omega
      clear HO HB12 hk hkm
      rcases hkk with ⟨h1', h2'⟩ | h1'
      all_goals
        clear HKL hlk
        have hN0 : N ≤ 4096 := HTB.out.hN
        obtain ⟨n0, hn⟩ : ∃ n0, n0 = 2 * N + 3 * k := ⟨_, rfl⟩
        rw [← hn] at HM
        have hn0 : n0 ≤ 9000 := by have := HK12.out; omega
        clear hn
        go_wp2_with fail
        refine (o_list HTB.out HM.out).mono ?_
        rintro x0 w3 ⟨v15, rfl, hR, hg⟩
        obtain ⟨A1, c1, rfl⟩ := Kd.R_slice hR
        rw [List.length_map] at hR ⊢
        have HL := Aside0.mk (Kd.R_lower hR HG.out.size)
        replace HG := Aside0.mk (grown_two HG.out hg)
        replace HM := Aside0.mk (HM.out.same hg)
        clear hR hg
        go_wp2_with fail
        refine (o_dropCtx HTB.out HM.out ctx (by omega)).mono ?_
        rintro x0 w4 ⟨hx0, hM, hg⟩
        have HXF := Aside0.mk (fun g (h : g ∈ listO N os) => mem_listO HM.out.ok h)
        replace HL := Aside0.mk (Kd.R_mono (ok' := fun _ => True) (Kd.R_grown (Kd.R_bound HL.out) hg (fun k hk e => by obtain ⟨_, _, _, q, _, cs, hc⟩ := hk; exact HM.out.nb k cs q hc (Option.some.inj e))) (fun _ _ => trivial))
        replace HG := Aside0.mk (grown_loc HG.out hg HMB.out)
        have hle := list_le N os
        have hdo := dropO ctx N os
        obtain ⟨os2, h2⟩ : ∃ z, z = (dfold ctx os (List.range N)).1 := ⟨_, rfl⟩
        obtain ⟨kn, h3⟩ : ∃ z, z = (dfold ctx os (List.range N)).2 := ⟨_, rfl⟩
        rw [← h2, ← h3] at hdo
        rw [← h2] at hM
        rw [← h3] at hx0
        subst hx0
        replace HM := Aside0.mk hM
        clear h2 h3 hM hg
        generalize listO N os = xs at HL HXF hdo hle ⊢
        obtain ⟨ys, hys⟩ : ∃ ys, ys = xs.filter (fun g => !dropsAt ctx (some g)) := ⟨_, rfl⟩
        rw [← hys] at hdo
        have hfl := filter_len (fun g => dropsAt ctx (some g)) xs
        rw [← hdo.2, ← hys] at hfl
        have HYE := Aside0.mk hdo.1
        have HKN := Aside0.mk hdo.2
        have hyl : ys.length ≤ 4096 := by omega
        have hkn : kn ≤ 4096 := by omega
        have HFL := Aside0.mk hfl
        have HYF := Aside0.mk (show ∀ g ∈ ys, g.ok ∧ dropsAt ctx (some g) = false from fun g hg => by
          rw [hys] at hg
          obtain ⟨h1, h2⟩ := List.mem_filter.1 hg
          exact ⟨(HXF.out g h1).1, by simpa using h2⟩)
        clear hys hdo hfl
        go_wp2_with fail
        refine (o_list HTB.out HM.out).mono ?_
        rintro x0 w5 ⟨v16, rfl, hR, hg⟩
        rw [HYE.out] at hR
        obtain ⟨A2, c2, rfl⟩ := Kd.R_slice hR
        rw [List.length_map] at hR ⊢
        have HY := Aside0.mk (Kd.R_lower hR HG.out.size)
        replace HG := Aside0.mk (grown_two HG.out hg)
        replace HM := Aside0.mk (HM.out.same hg)
        replace HL := Aside0.mk (Kd.R_grown HL.out hg (by simp))
        clear hR hg HYE
        go_wp2_with fail
        go_loopw [16, 17] (fun v16 v17 wr => ∃ (i c : Nat), v16 = .int .i64 c ∧ v17 = .int .i64 i ∧ i ≤ xs.length ∧ Aside0 (c = ((xs.take i).filter (fun g => dropsAt ctx (some g))).length) ∧ c ≤ i ∧ Aside0 (TQ W.heap.size W p mb pt 1048576 65536 N s gr ((n0 + 2 * N)) (os2) wr) ∧ Aside0 (Kd.R k50 50 wr W.heap.size (fun _ => True) (.slice A1 xs.length c1) (xs.map geS)) ∧ Aside0 (Kd.R k50 50 wr W.heap.size (fun _ => True) (.slice A2 ys.length c2) (ys.map geS)) ∧ Aside0 (W.grownBy wr none)) (fun _ v17 _ => xs.length - (intOf v17).toNat)
        case atStart => exact ⟨0, 0, rfl, rfl, by omega, ⟨by simp⟩, by omega, HM, HL, HY, HG⟩
        case round =>
          clear HM HL HY HG
          obtain ⟨i, c, rfl, rfl, hi, HCE, hci, HM, HL, HY, HG⟩ := hrel
          by_cases hix : i < xs.length
          · have hi1 : (i : Int) < (xs.length : Int) := by omega
            have hi0 : (0 : Int) ≤ (i : Int) := by omega
            obtain ⟨ad, hA, hgi⟩ := own_ge HL.out (fun g hg => (HXF.out g hg).1) i hix
            have HKI := Aside0.mk (HXF.out _ (List.getElem_mem hix))
            first | subst hA | cases hA
            generalize hg2 : xs[i] = gi at hgi HKI
            have HXI := Aside0.mk hg2
            clear hg2
            obtain ⟨c0, c1, c2, c3, c4, c5, c6, c7, c8, c9, c10⟩ := hgi
            have HC1 := Aside0.mk c1
            clear c0 c2 c3 c4 c5 c6 c7 c9 c10
            cases hgg : gi.g with
            | true =>
              rw [hgg] at c8
              have HGG := Aside0.mk hgg
              clear hgg
              have HDI := Aside0.mk (show dropsAt ctx (some gi) = false by show (!gi.g && ((gi.c : Int) == ctx)) = _; rw [HGG.out]; simp)
              go_wp2_with fail
              go_roundw
              case rel => exact ⟨i + 1, c, by go_num, by go_num, by omega, ⟨by rw [filter_take _ _ _ hix, HXI.out, ← HCE.out]; simp [HDI.out]⟩, by omega, HM, HL, HY, HG⟩
              case measure => simp [intOf]; omega
            | false =>
              rw [hgg] at c8
              have HGG := Aside0.mk hgg
              clear hgg
              have c1 := HC1.out
              cases hcc : ((gi.c : Int) == ctx) with
              | false =>
                have HDI := Aside0.mk (show dropsAt ctx (some gi) = false by show (!gi.g && ((gi.c : Int) == ctx)) = _; rw [HGG.out]; simp [hcc])
                go_wp2_with fail
                go_roundw
                case rel => exact ⟨i + 1, c, by go_num, by go_num, by omega, ⟨by rw [filter_take _ _ _ hix, HXI.out, ← HCE.out]; simp [HDI.out]⟩, by omega, HM, HL, HY, HG⟩
                case measure => simp [intOf]; omega
              | true =>
                have HDI := Aside0.mk (show dropsAt ctx (some gi) = true by show (!gi.g && ((gi.c : Int) == ctx)) = _; rw [HGG.out]; simp [hcc])
                go_wp2_with fail
                go_roundw
                case rel => exact ⟨i + 1, c + 1, by go_num, by go_num, by omega, ⟨by rw [filter_take _ _ _ hix, HXI.out, ← HCE.out]; simp [HDI.out]⟩, by omega, HM, HL, HY, HG⟩
                case measure => simp [intOf]; omega
          · obtain rfl : i = xs.length := by omega
            obtain rfl : c = kn := by rw [HCE.out, HKN.out, List.take_length]
            clear hi hix hci HCE HKN HL
            go_wp2_with fail
            go_loopw [18] (fun v18 wr => ∃ (i : Nat), v18 = .int .i64 i ∧ i ≤ ys.length ∧ Aside0 (TQ W.heap.size W p mb pt 1048576 65536 N s gr ((n0 + 2 * N)) (os2) wr) ∧ Aside0 (Kd.R k50 50 wr W.heap.size (fun _ => True) (.slice A2 ys.length c2) (ys.map geS)) ∧ Aside0 (W.grownBy wr none)) (fun v18 _ => ys.length - (intOf v18).toNat)
            case atStart => exact ⟨0, rfl, by omega, HM, HY, HG⟩
            case round =>
              clear HM HY HG
              obtain ⟨i, rfl, hi, HM, HY, HG⟩ := hrel
              by_cases hix : i < ys.length
              · have hi1 : (i : Int) < (ys.length : Int) := by omega
                have hi0 : (0 : Int) ≤ (i : Int) := by omega
                obtain ⟨ad, hA, hgi⟩ := own_ge HY.out (fun g hg => (HYF.out g hg).1) i hix
                have HKI := Aside0.mk (HYF.out _ (List.getElem_mem hix))
                first | subst hA | cases hA
                generalize hg2 : ys[i] = gi at hgi HKI
                have HXI := Aside0.mk hg2
                clear hg2
                obtain ⟨c0, c1, c2, c3, c4, c5, c6, c7, c8, c9, c10⟩ := hgi
                have HC1 := Aside0.mk c1
                clear c0 c2 c3 c4 c5 c6 c7 c9 c10
                cases hgg : gi.g with
                | true =>
                  rw [hgg] at c8
                  clear hgg
                  go_wp2_with fail
                  go_roundw
                  case rel => exact ⟨i + 1, by go_num, by omega, HM, HY, HG⟩
                  case measure => simp [intOf]; omega
                | false =>
                  have hcc : ((gi.c : Int) == ctx) = false := by
                    have : (!gi.g && ((gi.c : Int) == ctx)) = false := HKI.out.2
                    rw [hgg] at this
                    simpa using this
                  rw [hgg] at c8
                  clear hgg
                  have c1 := HC1.out
                  go_wp2_with fail
                  go_roundw
                  case rel => exact ⟨i + 1, by go_num, by omega, HM, HY, HG⟩
                  case measure => simp [intOf]; omega
              · obtain rfl : i = ys.length := by omega
                clear hi HY
                go_wp2_with fail
                refine (o_clear HTB.out HM.out (by omega)).mono ?_
                rintro x0 w7 ⟨rfl, hM, hg⟩
                replace HG := Aside0.mk (grown_loc HG.out hg HMB.out)
                replace HM := Aside0.mk hM
                clear hM hg
                have hll : IntKind.i64.wrap ((xs.length : Int) - (c : Int)) = (ys.length : Int) := by rw [IntWalk.i64_in _ (by omega)]; have := HFL.out; omega
                go_wp2_with fail
                refine (o_locked HTB.out HM.out).mono ?_
                rintro x0 w8 ⟨hx0, hg⟩
                obtain rfl : x0 = .returned (.int .i64 (N : Int)) := by rw [hx0, listO_none]; rfl
                replace HG := Aside0.mk (grown_two HG.out hg)
                replace HM := Aside0.mk (HM.out.same hg)
                clear hx0 hg
                go_wp2_with fail
                refine (tlen_calls HM.out.row).mono ?_
                rintro x0 w9 ⟨rfl, hg⟩
                replace HG := Aside0.mk (grown_two HG.out hg)
                replace HM := Aside0.mk (HM.out.same hg)
                clear hg
                go_wp2_with fail
                refine (o_list HTB.out HM.out).mono ?_
                rintro x0 w10 ⟨v20, rfl, hR, hg⟩
                rw [listO_none] at hR
                obtain ⟨A3, c3, rfl⟩ := Kd.R_slice hR
                replace HG := Aside0.mk (grown_two HG.out hg)
                clear hR hg
                go_wp2_with fail
                refine (lives10 _).mono ?_
                rintro x0 w11 ⟨rfl, hg⟩
                replace HG := Aside0.mk (grown_two HG.out hg)
                clear hg
                go_wp2_with fail
                go_ret
                exact ⟨rfl, below_of_grown HG.out⟩
end
end Go.Proofs.Ytjnffegjpkbjmaa.Mem
