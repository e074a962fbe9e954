/- TlbFinds: what is inserted is found; at whatever numbers. -/
import Derived.Test.YthclbckkfgmbaaaTl13
namespace Go.Proofs.Ythclbckkfgmbaaa.QTlbPlays
open Go.RowKit Go.Proofs.YthclbckkfgmbaaaW.PrintWords Go.Proofs.YthclbckkfgmbaaaW.PrintLast Go.Proofs.YthclbckkfgmbaaaW.PrintMore
set_option linter.unusedSimpArgs false
set_option linter.unusedVariables false
section
set_option maxHeartbeats 1000000
set_option maxRecDepth 100000
noncomputable def finds12_T : Bool × List (List Nat × List Nat) := rtab .any (opsOf Try.f4 12)
theorem finds12_tab : rtab .any (opsOf Try.f4 12) = finds12_T := rfl
theorem tlbFinds_calls (slots : Int) (a : Option Addr) (len cap : Nat) (pick off : Int) (W : World) (hs : (Lit.int .i64 slots).wf = true) (hl : Ents W a len ∧ len ≤ maxLen) (hp : (Lit.int .i64 pick).wf = true) (ho : (Lit.int .u64 off).wf = true) :
    Calls Try.prog 4 #[.int .i64 slots, .slice a len cap, .int .i64 pick, .int .u64 off] W fun x W' => x = .returned (.bool true) ∧ Below W.heap.size W W' := by
  have hu := Try.underlying26
  have hu2 := Try.underlying24
  have HEN := Aside0.mk hl.1
  have HOF := Aside0.mk ho
  have HLF := Aside0.mk lives_calls
  have hlm : len ≤ 9223372036854775807 := hl.2
  clear hl hp ho hs
  by_cases h10 : slots > 10
  · go_enter Try.func4, Try.ntmps4
    go_wp2_with (go_at_call 18; refine (tl_new_any (Below.refl W.heap.size W) (Nat.le_refl _) _).mono ?_; rintro x0 w1 ⟨N, rfl, -, hN1, hM, hg⟩; have HM := Aside0.mk hM; clear hM hg)
    go_loopw [10] (fun v10 wr => ∃ (k : Nat) (es : List (Option Ent)), v10 = .int .i64 k ∧ k ≤ len ∧ k ≤ 20 ∧ Aside0 (es.length = N) ∧ Aside0 (Inv es) ∧ Aside0 (NoLock es) ∧ Aside0 (Tl W.heap.size W (W.heap.size + 1) W.heap.size es wr)) (fun v10 _ => 20 - (intOf v10).toNat)
    case atStart => exact ⟨0, _, rfl, by omega, by omega, ⟨by simp⟩, ⟨inv_new N⟩, ⟨nolock_new N⟩, HM⟩
    case round =>
      clear HM
      obtain ⟨k, es, rfl, hk, hk20, HLN, HINV, HNL, HM⟩ := hrel
      by_cases h1 : k < len
      · have h1' : (k : Int) < (len : Int) := by omega
        by_cases h2 : k < 20
        · have h2' : (k : Int) < 20 := by omega
          have h0' : (0 : Int) ≤ (k : Int) := by omega
          obtain ⟨y, e, rfl, he⟩ := HEN.out.at k h1
          have HEA := Aside0.mk (he.grown (below_grown HM.out.below))
          clear he
          obtain ⟨hwe, c0, c1, c2, c3, c4, c5, c6, c7, c8, c9, c10⟩ := HEA.out
          have HWE := Aside0.mk hwe
          clear hwe HEA
          go_wp2_with fail
          refine (good_calls HWE.out _).mono ?_
          rintro x0 w3 ⟨rfl, hg⟩
          clear c0 c1 c2 c3 c4 c5 c6 c7 c8 c9 c10
          have HGW := Aside0.mk (lockE_W (goodE_W e) false)
          have HGM := Aside0.mk ((lockE_may (goodE e) false).trans (goodE_may e))
          have HS4 := Aside0.mk (heap_alloc_new w3 (.cells (entA (lockE (goodE e) false)) 26))
          have HG4 := Aside0.mk (grown_two hg (World.grownBy_alloc w3 (.cells (entA (lockE (goodE e) false)) 26) none))
          have HRN := Aside0.mk (show W.heap.size < w3.heap.size from Nat.lt_of_lt_of_le HM.out.rlt hg.size)
          clear hg
          go_wp2_with fail
          obtain ⟨i, hi, hins⟩ := finds_step HNL.out (by rw [HLN.out]; omega) HGM.out (wrap64 (pick + (k : Int) % 3))
          have hinv := ins_inv HINV.out HGW.out (wrap64 (pick + (k : Int) % 3))
          rw [hins] at hinv
          have hnl := nolock_step (g := lockE (goodE e) false) HNL.out rfl hi
          have hxi := set_at (es := goneOf es (lockE (goodE e) false)) (some (lockE (goodE e) false)) (by rw [gone_len]; exact hi) i
          rw [if_pos rfl] at hxi
          have hln : ((goneOf es (lockE (goodE e) false)).set i (some (lockE (goodE e) false))).length = N := by rw [List.length_set, gone_len]; exact HLN.out
          refine (tl_insert (HM.out.same HG4.out) HINV.out.ok _ HGW.out _ (wrap64_wf _) _ _ _ hins).mono ?_
          rintro x0 w5 ⟨rfl, hM, hg⟩
          have HS5 := Aside0.mk ((hg.block _ (blk_lt HS4.out) (fun e => by have := Option.some.inj e; have := HRN.out; omega)).trans HS4.out)
          clear hg hins HM HNL HINV HLN HS4 HG4 HRN
          generalize lockE (goodE e) false = g at HS5 HGW HGM hinv hnl hxi hln hM
          generalize (goneOf es g).set i (some g) = es2 at hinv hnl hxi hln hM
          have HM := Aside0.mk (hM.same (grown_drew w5 none))
          have HINV := Aside0.mk hinv
          have HNL := Aside0.mk hnl
          have HXI := Aside0.mk hxi
          have HLN := Aside0.mk hln
          clear hM hinv hnl hxi hln
          have HOK := Aside0.mk (may_okS HGM.out)
          have hho := hits_off HGW.out HGM.out (off.toNat % bytesOf g.f0) (Nat.mod_lt _ (by have := bytes_pos HOK.out.1; omega))
          have HC6 := Aside0.mk (fun W' => offset_any off HOF.out g.f0 HOK.out.1 W')
          generalize off.toNat % bytesOf g.f0 = o at hho HC6
          generalize ((g.f2.toNat + o : Nat) : Int) = v at hho
          have hws := hho.1
          have HHIT := Aside0.mk hho.2
          have HF := Aside0.mk (HINV.out.find HXI.out HHIT.out.2)
          clear hho
          have HG := Aside0.mk (grown_refl w5.drew none)
          have HS12 := Aside0.mk (show w5.drew.heap[w3.heap.size]? = some (.cells (entA g) 26 (0, 0)) from HS5.out)
          go_wp2_with fail
          generalize w3.heap.size = h11 at HS12 ⊢
          clear HS5
          refine start_ (n := 17) (S := fun w' => w'.heap[h11]? = some (.cells (entA g) 26 (0, 0))) (ds := []) #[false, false, false, false, false, false, false, false, false, false, false, false, false, false, false, false, false] (by kernel_rfl) rfl rfl HS12.out (fun hHeld => ?_)
          refine with_tab finds12_tab (fun HT_ => ?_)
          refine pure_ (i := 0) (N := some 52) (v := ?_) (a' := ?_) #[true, false, false, false, false, false, false, false, false, false, false, false, false, false, false, false, false] rfl rfl (any_of HT_.out (by kernel_rfl)) (fun _ _ _ h => h) (Or.inl ⟨by rfl, ?_⟩) ?_ ?_
          rotate_left
          · intro w'
            go_simp
            with_reducible rfl
          rotate_left
          · simp only [Act.put, List.setIfInBounds_toArray, List.set_cons_zero, List.set_cons_succ, i64_w, i32_w]
            rfl
          refine pure_ (i := 1) (N := some 53) (v := ?_) (a' := ?_) #[true, true, false, false, false, false, false, false, false, false, false, false, false, false, false, false, false] rfl rfl (any_of HT_.out (by kernel_rfl)) (fun _ _ _ h => h) (Or.inl ⟨by rfl, ?_⟩) ?_ ?_
          rotate_left
          · intro w'
            go_simp
            with_reducible rfl
          rotate_left
          · simp only [Act.put, List.setIfInBounds_toArray, List.set_cons_zero, List.set_cons_succ, i64_w, i32_w]
            rfl
          refine pure_ (i := 3) (N := some 55) (v := ?_) (a' := ?_) #[true, true, false, true, false, false, false, false, false, false, false, false, false, false, false, false, false] rfl rfl (any_of HT_.out (by kernel_rfl)) (fun _ _ _ h => h) (Or.inl ⟨by rfl, ?_⟩) ?_ ?_
          rotate_left
          · intro w'
            go_simp
            with_reducible rfl
          rotate_left
          · simp only [Act.put, List.setIfInBounds_toArray, List.set_cons_zero, List.set_cons_succ, i64_w, i32_w]
            rfl
          refine pure_ (i := 4) (N := some 56) (v := ?_) (a' := ?_) #[true, true, false, true, true, false, false, false, false, false, false, false, false, false, false, false, false] rfl rfl (any_of HT_.out (by kernel_rfl)) (fun _ _ _ h => h) (Or.inl ⟨by rfl, ?_⟩) ?_ ?_
          rotate_left
          · intro w'
            go_simp
            with_reducible rfl
          rotate_left
          · simp only [Act.put, List.setIfInBounds_toArray, List.set_cons_zero, List.set_cons_succ, i64_w, i32_w]
            rfl
          refine pure_ (i := 8) (N := some 60) (v := ?_) (a' := ?_) #[true, true, false, true, true, false, false, false, true, false, false, false, false, false, false, false, false] rfl rfl (any_of HT_.out (by kernel_rfl)) (fun _ _ _ h => h) (Or.inl ⟨by rfl, ?_⟩) ?_ ?_
          rotate_left
          · intro w'
            go_simp
            with_reducible rfl
          rotate_left
          · simp only [Act.put, List.setIfInBounds_toArray, List.set_cons_zero, List.set_cons_succ, i64_w, i32_w]
            rfl
          refine take_ (i := 2) (N := some 54) (v := .int .u64 g.f2) (a' := ?_) #[true, true, true, true, true, false, false, false, true, false, false, false, false, false, false, false, false] rfl rfl (take_of HT_.out (by kernel_rfl)) (fun _ _ _ h => h) (Or.inl ⟨by rfl, ?_⟩) hHeld ?_ ?_
          · rintro w' s1
            obtain ⟨q0, q1, q2, q3, q4, q5, q6, q7, q8, q9, q10⟩ := cz11 s1
            go_simp
          rotate_left
          · simp only [Act.put, List.setIfInBounds_toArray, List.set_cons_zero, List.set_cons_succ, i64_w, i32_w]
            rfl
          refine take_ (i := 5) (N := some 57) (v := .int .i64 g.f0) (a' := ?_) #[true, true, true, true, true, true, false, false, true, false, false, false, false, false, false, false, false] rfl rfl (take_of HT_.out (by kernel_rfl)) (fun _ _ _ h => h) (Or.inl ⟨by rfl, ?_⟩) hHeld ?_ ?_
          · rintro w' s1
            obtain ⟨q0, q1, q2, q3, q4, q5, q6, q7, q8, q9, q10⟩ := cz11 s1
            go_simp
          rotate_left
          · simp only [Act.put, List.setIfInBounds_toArray, List.set_cons_zero, List.set_cons_succ, i64_w, i32_w]
            rfl
          refine take_ (i := 9) (N := some 61) (v := .int .i64 g.f1) (a' := ?_) #[true, true, true, true, true, true, false, false, true, true, false, false, false, false, false, false, false] rfl rfl (take_of HT_.out (by kernel_rfl)) (fun _ _ _ h => h) (Or.inl ⟨by rfl, ?_⟩) hHeld ?_ ?_
          · rintro w' s1
            obtain ⟨q0, q1, q2, q3, q4, q5, q6, q7, q8, q9, q10⟩ := cz11 s1
            go_simp
          rotate_left
          · simp only [Act.put, List.setIfInBounds_toArray, List.set_cons_zero, List.set_cons_succ, i64_w, i32_w]
            rfl
          refine two_ (i := 6) (j := 14) (Ni := some 58) (Nj := some 14) #[true, true, true, true, true, true, true, false, true, true, false, false, false, false, false, false, false] #[true, true, true, true, true, true, false, false, true, true, false, false, false, false, true, false, false] rfl rfl rfl rfl (two_of HT_.out (by kernel_rfl)) (by decide) (by decide) (fun K hK => ?_) (fun K hK => ?_)
          · refine goes_ Try.func21 (by kernel_rfl) rfl #[.int .u64 off, .int .i64 g.f0] (by rfl) rfl rfl (by (try simp only [List.map_toArray, List.map_cons, List.map_nil]); first | done | rfl) ?_
            refine (HC6.out _).mono ?_
            rintro x0 wn ⟨rfl, hg⟩
            replace HG := Aside0.mk (grown_two HG.out hg)
            have hs := blk_grown hHeld hg
            clear hg
            refine ⟨_, rfl, ?_⟩
            refine hK.out _ _ hs (fun hHeld => ?_)
            clear hK K
            refine norm_ (a' := ?_) ?_ ?_
            rotate_left
            · show Act.put _ (some 58) _ = _
              simp only [Act.put, List.setIfInBounds_toArray, List.set_cons_zero, List.set_cons_succ, i64_w, i32_w]
              rfl
            refine pure_ (i := 7) (N := some 59) (v := .int .u64 v) (a' := ?_) #[true, true, true, true, true, true, true, true, true, true, false, false, false, false, false, false, false] rfl rfl (any_of HT_.out (by kernel_rfl)) (fun _ _ _ h => h) (Or.inl ⟨by rfl, ?_⟩) ?_ ?_
            · intro w'
              go_simp
            rotate_left
            · simp only [Act.put, List.setIfInBounds_toArray, List.set_cons_zero, List.set_cons_succ, i64_w, i32_w]
              rfl
            refine two_ (i := 10) (j := 14) (Ni := some 62) (Nj := some 14) #[true, true, true, true, true, true, true, true, true, true, true, false, false, false, false, false, false] #[true, true, true, true, true, true, true, true, true, true, false, false, false, false, true, false, false] rfl rfl rfl rfl (two_of HT_.out (by kernel_rfl)) (by decide) (by decide) (fun K hK => ?_) (fun K hK => ?_)
            · refine goes_ Try.func20 (by kernel_rfl) rfl #[.pointer (some ⟨W.heap.size + 1, 0, none⟩), .int .u64 v, .int .i64 g.f1] (by rfl) rfl rfl (by (try simp only [List.map_toArray, List.map_cons, List.map_nil]); first | done | rfl) ?_
              refine (tl_find_some (HM.out.same HG.out) HINV.out.ok _ _ HHIT.out.1 i g HF.out HXI.out).mono ?_
              rintro x0 wn ⟨rfl, hg⟩
              replace HG := Aside0.mk (grown_two HG.out hg)
              have hs := blk_grown hHeld hg
              clear hg
              refine ⟨_, rfl, ?_⟩
              refine hK.out _ _ hs (fun hHeld => ?_)
              clear hK K
              refine norm_ (a' := ?_) ?_ ?_
              rotate_left
              · show Act.put _ (some 62) _ = _
                simp only [Act.put, List.setIfInBounds_toArray, List.set_cons_zero, List.set_cons_succ, i64_w, i32_w]
                rfl
              refine pure_ (i := 11) (N := some 51) (v := ?_) (a' := ?_) #[true, true, true, true, true, true, true, true, true, true, true, true, false, false, false, false, false] rfl rfl (any_of HT_.out (by kernel_rfl)) (fun _ _ _ h => h) (Or.inl ⟨by rfl, ?_⟩) ?_ ?_
              rotate_left
              · intro w'
                go_simp
                with_reducible rfl
              rotate_left
              · simp only [Act.put, List.setIfInBounds_toArray, List.set_cons_zero, List.set_cons_succ, i64_w, i32_w]
                rfl
              refine pure_ (i := 12) (N := some 63) (v := ?_) (a' := ?_) #[true, true, true, true, true, true, true, true, true, true, true, true, true, false, false, false, false] rfl rfl (any_of HT_.out (by kernel_rfl)) (fun _ _ _ h => h) (Or.inl ⟨by rfl, ?_⟩) ?_ ?_
              rotate_left
              · intro w'
                go_simp
                with_reducible rfl
              rotate_left
              · simp only [Act.put, List.setIfInBounds_toArray, List.set_cons_zero, List.set_cons_succ, i64_w, i32_w]
                rfl
              refine pure_ (i := 13) (N := some 64) (v := ?_) (a' := ?_) #[true, true, true, true, true, true, true, true, true, true, true, true, true, true, false, false, false] rfl rfl (any_of HT_.out (by kernel_rfl)) (fun _ _ _ h => h) (Or.inl ⟨by rfl, ?_⟩) ?_ ?_
              rotate_left
              · intro w'
                go_simp
                with_reducible rfl
              rotate_left
              · simp only [Act.put, List.setIfInBounds_toArray, List.set_cons_zero, List.set_cons_succ, i64_w, i32_w]
                rfl
              refine one_ (i := 14) (N := some 14) #[true, true, true, true, true, true, true, true, true, true, true, true, true, true, true, false, false] rfl rfl (one_of HT_.out (by kernel_rfl)) (by decide) (fun K hK => ?_)
              refine box_step ?hg (N := 14) ?hd (cs := #[.int .i64 0, .int .i64 0, .int .u64 0, .int .u64 0, .bool false, .bool false, .bool false, .bool false, .bool false, .bool false, .bool false]) (t := 26) ?hr ?_; (case hd => rfl); (case hg => rfl); (case hr => first | (go_simp; done) | (go_simp; rfl))
              intro h14 hg14 wn hbox hb
              have HB14 := Aside0.mk hbox
              have HN14 := Aside0.mk (show w5.drew.heap.size ≤ h14 ∧ h11 ≠ h14 from ⟨by rw [hg14]; exact HG.out.size, fun e => by have := blk_lt hHeld; omega⟩)
              have hg := below_grown hb
              replace HG := Aside0.mk (grown_two HG.out hg)
              have hs := blk_grown hHeld hg
              clear hg hg14 hbox hb
              refine hK.out _ _ hs (fun hHeld => ?_)
              clear hK K
              refine norm_ (a' := ?_) ?_ ?_
              rotate_left
              · show Act.put _ (some 14) _ = _
                simp only [Act.put, List.setIfInBounds_toArray, List.set_cons_zero, List.set_cons_succ, i64_w, i32_w]
                rfl
              refine one_ (i := 15) (N := none) #[true, true, true, true, true, true, true, true, true, true, true, true, true, true, true, true, false] rfl rfl (one_of HT_.out (by kernel_rfl)) (by decide) (fun K hK => ?_)
              rw [if_pos (by rfl)]
              refine wp_store_row 26 (.tmp 14) (.tmp 63) rfl h14 (entA g) rfl rfl 26 #[.int .i64 0, .int .i64 0, .int .u64 0, .int .u64 0, .bool false, .bool false, .bool false, .bool false, .bool false, .bool false, .bool false] HB14.out (by kernel_rfl) rfl (by kernel_rfl) ?_
              have hb2 := setRow_heap wn h14 _ (entA g) _ _ HB14.out
              have hg2 := grown_own HG.out (grown_row wn h14 (entA g)) (fun j e => by cases e; exact HN14.out.1)
              have hs := (setRow_other wn h14 h11 (entA g) HN14.out.2).trans hHeld
              generalize World.setRow wn h14 (entA g) = wb at hb2 hg2 hs ⊢
              have HB15 := Aside0.mk hb2
              have HG15 := Aside0.mk hg2
              clear hb2 hg2 HB14 HN14 HG
              refine hK.out _ _ hs (fun hHeld => ?_)
              clear hK K
              refine norm_ (a' := ?_) ?_ ?_
              rotate_left
              · show Act.put _ none _ = _
                rfl
              refine pure_ (i := 16) (N := some 15) (v := ?_) (a' := ?_) #[true, true, true, true, true, true, true, true, true, true, true, true, true, true, true, true, true] rfl rfl (any_of HT_.out (by kernel_rfl)) (fun _ _ _ h => h) (Or.inl ⟨by rfl, ?_⟩) ?_ ?_
              rotate_left
              · intro w'
                go_simp
                with_reducible rfl
              rotate_left
              · simp only [Act.put, List.setIfInBounds_toArray, List.set_cons_zero, List.set_cons_succ, i64_w, i32_w]
                rfl
              refine done_ (done_of HT_.out (by kernel_rfl)) ?_
              have HZ5 := Aside0.mk hHeld
              clear hws
              obtain ⟨q0, q1, q2, q3, q4, q5, q6, q7, q8, q9, q10⟩ := cz11 HB15.out
              obtain ⟨z0, z1, z2, z3, z4, z5, z6, z7, z8, z9, z10⟩ := cz11 hHeld
              have hle := list_le es2
              go_wp2_with (first | (go_at_call 22; refine (tl_list (HM.out.same HG15.out)).mono ?_; rintro x0 w6 ⟨⟨v0, rfl, hO⟩, hg⟩; obtain ⟨Al, cl, rfl, _, _⟩ := Kd.R_reads hO; have HM6 := Aside0.mk (HM.out.same (grown_two HG15.out hg)); clear hO hg) | (go_at_call 23; refine (tl_slots HM6.out _ rfl).mono ?_; rintro x0 w7 ⟨rfl, hM, hg⟩; have HM7 := Aside0.mk hM; clear hM hg))
              go_roundw
              case rel => exact ⟨k + 1, es2, by go_num, by omega, by omega, HLN, HINV, HNL, HM7⟩
              case measure => simp [intOf]; omega
            · refine box_step ?hg (N := 14) ?hd (cs := #[.int .i64 0, .int .i64 0, .int .u64 0, .int .u64 0, .bool false, .bool false, .bool false, .bool false, .bool false, .bool false, .bool false]) (t := 26) ?hr ?_; (case hd => rfl); (case hg => rfl); (case hr => first | (go_simp; done) | (go_simp; rfl))
              intro h14 hg14 wn hbox hb
              have HB14 := Aside0.mk hbox
              have HN14 := Aside0.mk (show w5.drew.heap.size ≤ h14 ∧ h11 ≠ h14 from ⟨by rw [hg14]; exact HG.out.size, fun e => by have := blk_lt hHeld; omega⟩)
              have hg := below_grown hb
              replace HG := Aside0.mk (grown_two HG.out hg)
              have hs := blk_grown hHeld hg
              clear hg hg14 hbox hb
              refine hK.out _ _ hs (fun hHeld => ?_)
              clear hK K
              refine norm_ (a' := ?_) ?_ ?_
              rotate_left
              · show Act.put _ (some 14) _ = _
                simp only [Act.put, List.setIfInBounds_toArray, List.set_cons_zero, List.set_cons_succ, i64_w, i32_w]
                rfl
              refine one_ (i := 10) (N := some 62) #[true, true, true, true, true, true, true, true, true, true, true, false, false, false, true, false, false] rfl rfl (one_of HT_.out (by kernel_rfl)) (by decide) (fun K hK => ?_)
              refine goes_ Try.func20 (by kernel_rfl) rfl #[.pointer (some ⟨W.heap.size + 1, 0, none⟩), .int .u64 v, .int .i64 g.f1] (by rfl) rfl rfl (by (try simp only [List.map_toArray, List.map_cons, List.map_nil]); first | done | rfl) ?_
              refine (tl_find_some (HM.out.same HG.out) HINV.out.ok _ _ HHIT.out.1 i g HF.out HXI.out).mono ?_
              rintro x0 wn ⟨rfl, hg⟩
              replace HG := Aside0.mk (grown_two HG.out hg)
              have hs := blk_grown hHeld hg
              replace HB14 := Aside0.mk (blk_grown HB14.out hg)
              clear hg
              refine ⟨_, rfl, ?_⟩
              refine hK.out _ _ hs (fun hHeld => ?_)
              clear hK K
              refine norm_ (a' := ?_) ?_ ?_
              rotate_left
              · show Act.put _ (some 62) _ = _
                simp only [Act.put, List.setIfInBounds_toArray, List.set_cons_zero, List.set_cons_succ, i64_w, i32_w]
                rfl
              refine pure_ (i := 11) (N := some 51) (v := ?_) (a' := ?_) #[true, true, true, true, true, true, true, true, true, true, true, true, false, false, true, false, false] rfl rfl (any_of HT_.out (by kernel_rfl)) (fun _ _ _ h => h) (Or.inl ⟨by rfl, ?_⟩) ?_ ?_
              rotate_left
              · intro w'
                go_simp
                with_reducible rfl
              rotate_left
              · simp only [Act.put, List.setIfInBounds_toArray, List.set_cons_zero, List.set_cons_succ, i64_w, i32_w]
                rfl
              refine pure_ (i := 12) (N := some 63) (v := ?_) (a' := ?_) #[true, true, true, true, true, true, true, true, true, true, true, true, true, false, true, false, false] rfl rfl (any_of HT_.out (by kernel_rfl)) (fun _ _ _ h => h) (Or.inl ⟨by rfl, ?_⟩) ?_ ?_
              rotate_left
              · intro w'
                go_simp
                with_reducible rfl
              rotate_left
              · simp only [Act.put, List.setIfInBounds_toArray, List.set_cons_zero, List.set_cons_succ, i64_w, i32_w]
                rfl
              refine pure_ (i := 13) (N := some 64) (v := ?_) (a' := ?_) #[true, true, true, true, true, true, true, true, true, true, true, true, true, true, true, false, false] rfl rfl (any_of HT_.out (by kernel_rfl)) (fun _ _ _ h => h) (Or.inl ⟨by rfl, ?_⟩) ?_ ?_
              rotate_left
              · intro w'
                go_simp
                with_reducible rfl
              rotate_left
              · simp only [Act.put, List.setIfInBounds_toArray, List.set_cons_zero, List.set_cons_succ, i64_w, i32_w]
                rfl
              refine one_ (i := 15) (N := none) #[true, true, true, true, true, true, true, true, true, true, true, true, true, true, true, true, false] rfl rfl (one_of HT_.out (by kernel_rfl)) (by decide) (fun K hK => ?_)
              rw [if_pos (by rfl)]
              refine wp_store_row 26 (.tmp 14) (.tmp 63) rfl h14 (entA g) rfl rfl 26 #[.int .i64 0, .int .i64 0, .int .u64 0, .int .u64 0, .bool false, .bool false, .bool false, .bool false, .bool false, .bool false, .bool false] HB14.out (by kernel_rfl) rfl (by kernel_rfl) ?_
              have hb2 := setRow_heap wn h14 _ (entA g) _ _ HB14.out
              have hg2 := grown_own HG.out (grown_row wn h14 (entA g)) (fun j e => by cases e; exact HN14.out.1)
              have hs := (setRow_other wn h14 h11 (entA g) HN14.out.2).trans hHeld
              generalize World.setRow wn h14 (entA g) = wb at hb2 hg2 hs ⊢
              have HB15 := Aside0.mk hb2
              have HG15 := Aside0.mk hg2
              clear hb2 hg2 HB14 HN14 HG
              refine hK.out _ _ hs (fun hHeld => ?_)
              clear hK K
              refine norm_ (a' := ?_) ?_ ?_
              rotate_left
              · show Act.put _ none _ = _
                rfl
              refine pure_ (i := 16) (N := some 15) (v := ?_) (a' := ?_) #[true, true, true, true, true, true, true, true, true, true, true, true, true, true, true, true, true] rfl rfl (any_of HT_.out (by kernel_rfl)) (fun _ _ _ h => h) (Or.inl ⟨by rfl, ?_⟩) ?_ ?_
              rotate_left
              · intro w'
                go_simp
                with_reducible rfl
              rotate_left
              · simp only [Act.put, List.setIfInBounds_toArray, List.set_cons_zero, List.set_cons_succ, i64_w, i32_w]
                rfl
              refine done_ (done_of HT_.out (by kernel_rfl)) ?_
              have HZ5 := Aside0.mk hHeld
              clear hws
              obtain ⟨q0, q1, q2, q3, q4, q5, q6, q7, q8, q9, q10⟩ := cz11 HB15.out
              obtain ⟨z0, z1, z2, z3, z4, z5, z6, z7, z8, z9, z10⟩ := cz11 hHeld
              have hle := list_le es2
              go_wp2_with (first | (go_at_call 22; refine (tl_list (HM.out.same HG15.out)).mono ?_; rintro x0 w6 ⟨⟨v0, rfl, hO⟩, hg⟩; obtain ⟨Al, cl, rfl, _, _⟩ := Kd.R_reads hO; have HM6 := Aside0.mk (HM.out.same (grown_two HG15.out hg)); clear hO hg) | (go_at_call 23; refine (tl_slots HM6.out _ rfl).mono ?_; rintro x0 w7 ⟨rfl, hM, hg⟩; have HM7 := Aside0.mk hM; clear hM hg))
              go_roundw
              case rel => exact ⟨k + 1, es2, by go_num, by omega, by omega, HLN, HINV, HNL, HM7⟩
              case measure => simp [intOf]; omega
          · refine box_step ?hg (N := 14) ?hd (cs := #[.int .i64 0, .int .i64 0, .int .u64 0, .int .u64 0, .bool false, .bool false, .bool false, .bool false, .bool false, .bool false, .bool false]) (t := 26) ?hr ?_; (case hd => rfl); (case hg => rfl); (case hr => first | (go_simp; done) | (go_simp; rfl))
            intro h14 hg14 wn hbox hb
            have HB14 := Aside0.mk hbox
            have HN14 := Aside0.mk (show w5.drew.heap.size ≤ h14 ∧ h11 ≠ h14 from ⟨by rw [hg14]; exact HG.out.size, fun e => by have := blk_lt hHeld; omega⟩)
            have hg := below_grown hb
            replace HG := Aside0.mk (grown_two HG.out hg)
            have hs := blk_grown hHeld hg
            clear hg hg14 hbox hb
            refine hK.out _ _ hs (fun hHeld => ?_)
            clear hK K
            refine norm_ (a' := ?_) ?_ ?_
            rotate_left
            · show Act.put _ (some 14) _ = _
              simp only [Act.put, List.setIfInBounds_toArray, List.set_cons_zero, List.set_cons_succ, i64_w, i32_w]
              rfl
            refine one_ (i := 6) (N := some 58) #[true, true, true, true, true, true, true, false, true, true, false, false, false, false, true, false, false] rfl rfl (one_of HT_.out (by kernel_rfl)) (by decide) (fun K hK => ?_)
            refine goes_ Try.func21 (by kernel_rfl) rfl #[.int .u64 off, .int .i64 g.f0] (by rfl) rfl rfl (by (try simp only [List.map_toArray, List.map_cons, List.map_nil]); first | done | rfl) ?_
            refine (HC6.out _).mono ?_
            rintro x0 wn ⟨rfl, hg⟩
            replace HG := Aside0.mk (grown_two HG.out hg)
            have hs := blk_grown hHeld hg
            replace HB14 := Aside0.mk (blk_grown HB14.out hg)
            clear hg
            refine ⟨_, rfl, ?_⟩
            refine hK.out _ _ hs (fun hHeld => ?_)
            clear hK K
            refine norm_ (a' := ?_) ?_ ?_
            rotate_left
            · show Act.put _ (some 58) _ = _
              simp only [Act.put, List.setIfInBounds_toArray, List.set_cons_zero, List.set_cons_succ, i64_w, i32_w]
              rfl
            refine pure_ (i := 7) (N := some 59) (v := .int .u64 v) (a' := ?_) #[true, true, true, true, true, true, true, true, true, true, false, false, false, false, true, false, false] rfl rfl (any_of HT_.out (by kernel_rfl)) (fun _ _ _ h => h) (Or.inl ⟨by rfl, ?_⟩) ?_ ?_
            · intro w'
              go_simp
            rotate_left
            · simp only [Act.put, List.setIfInBounds_toArray, List.set_cons_zero, List.set_cons_succ, i64_w, i32_w]
              rfl
            refine one_ (i := 10) (N := some 62) #[true, true, true, true, true, true, true, true, true, true, true, false, false, false, true, false, false] rfl rfl (one_of HT_.out (by kernel_rfl)) (by decide) (fun K hK => ?_)
            refine goes_ Try.func20 (by kernel_rfl) rfl #[.pointer (some ⟨W.heap.size + 1, 0, none⟩), .int .u64 v, .int .i64 g.f1] (by rfl) rfl rfl (by (try simp only [List.map_toArray, List.map_cons, List.map_nil]); first | done | rfl) ?_
            refine (tl_find_some (HM.out.same HG.out) HINV.out.ok _ _ HHIT.out.1 i g HF.out HXI.out).mono ?_
            rintro x0 wn ⟨rfl, hg⟩
            replace HG := Aside0.mk (grown_two HG.out hg)
            have hs := blk_grown hHeld hg
            replace HB14 := Aside0.mk (blk_grown HB14.out hg)
            clear hg
            refine ⟨_, rfl, ?_⟩
            refine hK.out _ _ hs (fun hHeld => ?_)
            clear hK K
            refine norm_ (a' := ?_) ?_ ?_
            rotate_left
            · show Act.put _ (some 62) _ = _
              simp only [Act.put, List.setIfInBounds_toArray, List.set_cons_zero, List.set_cons_succ, i64_w, i32_w]
              rfl
            refine pure_ (i := 11) (N := some 51) (v := ?_) (a' := ?_) #[true, true, true, true, true, true, true, true, true, true, true, true, false, false, true, false, false] rfl rfl (any_of HT_.out (by kernel_rfl)) (fun _ _ _ h => h) (Or.inl ⟨by rfl, ?_⟩) ?_ ?_
            rotate_left
            · intro w'
              go_simp
              with_reducible rfl
            rotate_left
            · simp only [Act.put, List.setIfInBounds_toArray, List.set_cons_zero, List.set_cons_succ, i64_w, i32_w]
              rfl
            refine pure_ (i := 12) (N := some 63) (v := ?_) (a' := ?_) #[true, true, true, true, true, true, true, true, true, true, true, true, true, false, true, false, false] rfl rfl (any_of HT_.out (by kernel_rfl)) (fun _ _ _ h => h) (Or.inl ⟨by rfl, ?_⟩) ?_ ?_
            rotate_left
            · intro w'
              go_simp
              with_reducible rfl
            rotate_left
            · simp only [Act.put, List.setIfInBounds_toArray, List.set_cons_zero, List.set_cons_succ, i64_w, i32_w]
              rfl
            refine pure_ (i := 13) (N := some 64) (v := ?_) (a' := ?_) #[true, true, true, true, true, true, true, true, true, true, true, true, true, true, true, false, false] rfl rfl (any_of HT_.out (by kernel_rfl)) (fun _ _ _ h => h) (Or.inl ⟨by rfl, ?_⟩) ?_ ?_
            rotate_left
            · intro w'
              go_simp
              with_reducible rfl
            rotate_left
            · simp only [Act.put, List.setIfInBounds_toArray, List.set_cons_zero, List.set_cons_succ, i64_w, i32_w]
              rfl
            refine one_ (i := 15) (N := none) #[true, true, true, true, true, true, true, true, true, true, true, true, true, true, true, true, false] rfl rfl (one_of HT_.out (by kernel_rfl)) (by decide) (fun K hK => ?_)
            rw [if_pos (by rfl)]
            refine wp_store_row 26 (.tmp 14) (.tmp 63) rfl h14 (entA g) rfl rfl 26 #[.int .i64 0, .int .i64 0, .int .u64 0, .int .u64 0, .bool false, .bool false, .bool false, .bool false, .bool false, .bool false, .bool false] HB14.out (by kernel_rfl) rfl (by kernel_rfl) ?_
            have hb2 := setRow_heap wn h14 _ (entA g) _ _ HB14.out
            have hg2 := grown_own HG.out (grown_row wn h14 (entA g)) (fun j e => by cases e; exact HN14.out.1)
            have hs := (setRow_other wn h14 h11 (entA g) HN14.out.2).trans hHeld
            generalize World.setRow wn h14 (entA g) = wb at hb2 hg2 hs ⊢
            have HB15 := Aside0.mk hb2
            have HG15 := Aside0.mk hg2
            clear hb2 hg2 HB14 HN14 HG
            refine hK.out _ _ hs (fun hHeld => ?_)
            clear hK K
            refine norm_ (a' := ?_) ?_ ?_
            rotate_left
            · show Act.put _ none _ = _
              rfl
            refine pure_ (i := 16) (N := some 15) (v := ?_) (a' := ?_) #[true, true, true, true, true, true, true, true, true, true, true, true, true, true, true, true, true] rfl rfl (any_of HT_.out (by kernel_rfl)) (fun _ _ _ h => h) (Or.inl ⟨by rfl, ?_⟩) ?_ ?_
            rotate_left
            · intro w'
              go_simp
              with_reducible rfl
            rotate_left
            · simp only [Act.put, List.setIfInBounds_toArray, List.set_cons_zero, List.set_cons_succ, i64_w, i32_w]
              rfl
            refine done_ (done_of HT_.out (by kernel_rfl)) ?_
            have HZ5 := Aside0.mk hHeld
            clear hws
            obtain ⟨q0, q1, q2, q3, q4, q5, q6, q7, q8, q9, q10⟩ := cz11 HB15.out
            obtain ⟨z0, z1, z2, z3, z4, z5, z6, z7, z8, z9, z10⟩ := cz11 hHeld
            have hle := list_le es2
            go_wp2_with (first | (go_at_call 22; refine (tl_list (HM.out.same HG15.out)).mono ?_; rintro x0 w6 ⟨⟨v0, rfl, hO⟩, hg⟩; obtain ⟨Al, cl, rfl, _, _⟩ := Kd.R_reads hO; have HM6 := Aside0.mk (HM.out.same (grown_two HG15.out hg)); clear hO hg) | (go_at_call 23; refine (tl_slots HM6.out _ rfl).mono ?_; rintro x0 w7 ⟨rfl, hM, hg⟩; have HM7 := Aside0.mk hM; clear hM hg))
            go_roundw
            case rel => exact ⟨k + 1, es2, by go_num, by omega, by omega, HLN, HINV, HNL, HM7⟩
            case measure => simp [intOf]; omega
        · obtain rfl : k = 20 := by omega
          have h1'' : (20 : Int) < (len : Int) := by omega
          go_wp2_with (go_at_call 17; refine (HLF.out _).mono ?_; rintro x0 wl ⟨rfl, hg⟩; have HE := Aside0.mk (HM.out.same hg).below; clear hg)
          go_ret
          exact ⟨rfl, HE.out⟩
      · obtain rfl : k = len := by omega
        go_wp2_with (go_at_call 17; refine (HLF.out _).mono ?_; rintro x0 wl ⟨rfl, hg⟩; have HE := Aside0.mk (HM.out.same hg).below; clear hg)
        go_ret
        exact ⟨rfl, HE.out⟩
  · go_enter Try.func4, Try.ntmps4
    go_wp2_with (go_at_call 18; refine (tl_new_any (Below.refl W.heap.size W) (Nat.le_refl _) _).mono ?_; rintro x0 w1 ⟨N, rfl, -, hN1, hM, hg⟩; have HM := Aside0.mk hM; clear hM hg)
    go_loopw [10] (fun v10 wr => ∃ (k : Nat) (es : List (Option Ent)), v10 = .int .i64 k ∧ k ≤ len ∧ k ≤ 20 ∧ Aside0 (es.length = N) ∧ Aside0 (Inv es) ∧ Aside0 (NoLock es) ∧ Aside0 (Tl W.heap.size W (W.heap.size + 1) W.heap.size es wr)) (fun v10 _ => 20 - (intOf v10).toNat)
    case atStart => exact ⟨0, _, rfl, by omega, by omega, ⟨by simp⟩, ⟨inv_new N⟩, ⟨nolock_new N⟩, HM⟩
    case round =>
      clear HM
      obtain ⟨k, es, rfl, hk, hk20, HLN, HINV, HNL, HM⟩ := hrel
      by_cases h1 : k < len
      · have h1' : (k : Int) < (len : Int) := by omega
        by_cases h2 : k < 20
        · have h2' : (k : Int) < 20 := by omega
          have h0' : (0 : Int) ≤ (k : Int) := by omega
          obtain ⟨y, e, rfl, he⟩ := HEN.out.at k h1
          have HEA := Aside0.mk (he.grown (below_grown HM.out.below))
          clear he
          obtain ⟨hwe, c0, c1, c2, c3, c4, c5, c6, c7, c8, c9, c10⟩ := HEA.out
          have HWE := Aside0.mk hwe
          clear hwe HEA
          go_wp2_with fail
          refine (good_calls HWE.out _).mono ?_
          rintro x0 w3 ⟨rfl, hg⟩
          clear c0 c1 c2 c3 c4 c5 c6 c7 c8 c9 c10
          have HGW := Aside0.mk (lockE_W (goodE_W e) false)
          have HGM := Aside0.mk ((lockE_may (goodE e) false).trans (goodE_may e))
          have HS4 := Aside0.mk (heap_alloc_new w3 (.cells (entA (lockE (goodE e) false)) 26))
          have HG4 := Aside0.mk (grown_two hg (World.grownBy_alloc w3 (.cells (entA (lockE (goodE e) false)) 26) none))
          have HRN := Aside0.mk (show W.heap.size < w3.heap.size from Nat.lt_of_lt_of_le HM.out.rlt hg.size)
          clear hg
          go_wp2_with fail
          obtain ⟨i, hi, hins⟩ := finds_step HNL.out (by rw [HLN.out]; omega) HGM.out (wrap64 (pick + (k : Int) % 3))
          have hinv := ins_inv HINV.out HGW.out (wrap64 (pick + (k : Int) % 3))
          rw [hins] at hinv
          have hnl := nolock_step (g := lockE (goodE e) false) HNL.out rfl hi
          have hxi := set_at (es := goneOf es (lockE (goodE e) false)) (some (lockE (goodE e) false)) (by rw [gone_len]; exact hi) i
          rw [if_pos rfl] at hxi
          have hln : ((goneOf es (lockE (goodE e) false)).set i (some (lockE (goodE e) false))).length = N := by rw [List.length_set, gone_len]; exact HLN.out
          refine (tl_insert (HM.out.same HG4.out) HINV.out.ok _ HGW.out _ (wrap64_wf _) _ _ _ hins).mono ?_
          rintro x0 w5 ⟨rfl, hM, hg⟩
          have HS5 := Aside0.mk ((hg.block _ (blk_lt HS4.out) (fun e => by have := Option.some.inj e; have := HRN.out; omega)).trans HS4.out)
          clear hg hins HM HNL HINV HLN HS4 HG4 HRN
          generalize lockE (goodE e) false = g at HS5 HGW HGM hinv hnl hxi hln hM
          generalize (goneOf es g).set i (some g) = es2 at hinv hnl hxi hln hM
          have HM := Aside0.mk (hM.same (grown_drew w5 none))
          have HINV := Aside0.mk hinv
          have HNL := Aside0.mk hnl
          have HXI := Aside0.mk hxi
          have HLN := Aside0.mk hln
          clear hM hinv hnl hxi hln
          have HOK := Aside0.mk (may_okS HGM.out)
          have hho := hits_off HGW.out HGM.out (off.toNat % bytesOf g.f0) (Nat.mod_lt _ (by have := bytes_pos HOK.out.1; omega))
          have HC6 := Aside0.mk (fun W' => offset_any off HOF.out g.f0 HOK.out.1 W')
          generalize off.toNat % bytesOf g.f0 = o at hho HC6
          generalize ((g.f2.toNat + o : Nat) : Int) = v at hho
          have hws := hho.1
          have HHIT := Aside0.mk hho.2
          have HF := Aside0.mk (HINV.out.find HXI.out HHIT.out.2)
          clear hho
          have HG := Aside0.mk (grown_refl w5.drew none)
          have HS12 := Aside0.mk (show w5.drew.heap[w3.heap.size]? = some (.cells (entA g) 26 (0, 0)) from HS5.out)
          go_wp2_with fail
          generalize w3.heap.size = h11 at HS12 ⊢
          clear HS5
          refine start_ (n := 17) (S := fun w' => w'.heap[h11]? = some (.cells (entA g) 26 (0, 0))) (ds := []) #[false, false, false, false, false, false, false, false, false, false, false, false, false, false, false, false, false] (by kernel_rfl) rfl rfl HS12.out (fun hHeld => ?_)
          refine with_tab finds12_tab (fun HT_ => ?_)
          refine pure_ (i := 0) (N := some 52) (v := ?_) (a' := ?_) #[true, false, false, false, false, false, false, false, false, false, false, false, false, false, false, false, false] rfl rfl (any_of HT_.out (by kernel_rfl)) (fun _ _ _ h => h) (Or.inl ⟨by rfl, ?_⟩) ?_ ?_
          rotate_left
          · intro w'
            go_simp
            with_reducible rfl
          rotate_left
          · simp only [Act.put, List.setIfInBounds_toArray, List.set_cons_zero, List.set_cons_succ, i64_w, i32_w]
            rfl
          refine pure_ (i := 1) (N := some 53) (v := ?_) (a' := ?_) #[true, true, false, false, false, false, false, false, false, false, false, false, false, false, false, false, false] rfl rfl (any_of HT_.out (by kernel_rfl)) (fun _ _ _ h => h) (Or.inl ⟨by rfl, ?_⟩) ?_ ?_
          rotate_left
          · intro w'
            go_simp
            with_reducible rfl
          rotate_left
          · simp only [Act.put, List.setIfInBounds_toArray, List.set_cons_zero, List.set_cons_succ, i64_w, i32_w]
            rfl
          refine pure_ (i := 3) (N := some 55) (v := ?_) (a' := ?_) #[true, true, false, true, false, false, false, false, false, false, false, false, false, false, false, false, false] rfl rfl (any_of HT_.out (by kernel_rfl)) (fun _ _ _ h => h) (Or.inl ⟨by rfl, ?_⟩) ?_ ?_
          rotate_left
          · intro w'
            go_simp
            with_reducible rfl
          rotate_left
          · simp only [Act.put, List.setIfInBounds_toArray, List.set_cons_zero, List.set_cons_succ, i64_w, i32_w]
            rfl
          refine pure_ (i := 4) (N := some 56) (v := ?_) (a' := ?_) #[true, true, false, true, true, false, false, false, false, false, false, false, false, false, false, false, false] rfl rfl (any_of HT_.out (by kernel_rfl)) (fun _ _ _ h => h) (Or.inl ⟨by rfl, ?_⟩) ?_ ?_
          rotate_left
          · intro w'
            go_simp
            with_reducible rfl
          rotate_left
          · simp only [Act.put, List.setIfInBounds_toArray, List.set_cons_zero, List.set_cons_succ, i64_w, i32_w]
            rfl
          refine pure_ (i := 8) (N := some 60) (v := ?_) (a' := ?_) #[true, true, false, true, true, false, false, false, true, false, false, false, false, false, false, false, false] rfl rfl (any_of HT_.out (by kernel_rfl)) (fun _ _ _ h => h) (Or.inl ⟨by rfl, ?_⟩) ?_ ?_
          rotate_left
          · intro w'
            go_simp
            with_reducible rfl
          rotate_left
          · simp only [Act.put, List.setIfInBounds_toArray, List.set_cons_zero, List.set_cons_succ, i64_w, i32_w]
            rfl
          refine take_ (i := 2) (N := some 54) (v := .int .u64 g.f2) (a' := ?_) #[true, true, true, true, true, false, false, false, true, false, false, false, false, false, false, false, false] rfl rfl (take_of HT_.out (by kernel_rfl)) (fun _ _ _ h => h) (Or.inl ⟨by rfl, ?_⟩) hHeld ?_ ?_
          · rintro w' s1
            obtain ⟨q0, q1, q2, q3, q4, q5, q6, q7, q8, q9, q10⟩ := cz11 s1
            go_simp
          rotate_left
          · simp only [Act.put, List.setIfInBounds_toArray, List.set_cons_zero, List.set_cons_succ, i64_w, i32_w]
            rfl
          refine take_ (i := 5) (N := some 57) (v := .int .i64 g.f0) (a' := ?_) #[true, true, true, true, true, true, false, false, true, false, false, false, false, false, false, false, false] rfl rfl (take_of HT_.out (by kernel_rfl)) (fun _ _ _ h => h) (Or.inl ⟨by rfl, ?_⟩) hHeld ?_ ?_
          · rintro w' s1
            obtain ⟨q0, q1, q2, q3, q4, q5, q6, q7, q8, q9, q10⟩ := cz11 s1
            go_simp
          rotate_left
          · simp only [Act.put, List.setIfInBounds_toArray, List.set_cons_zero, List.set_cons_succ, i64_w, i32_w]
            rfl
          refine take_ (i := 9) (N := some 61) (v := .int .i64 g.f1) (a' := ?_) #[true, true, true, true, true, true, false, false, true, true, false, false, false, false, false, false, false] rfl rfl (take_of HT_.out (by kernel_rfl)) (fun _ _ _ h => h) (Or.inl ⟨by rfl, ?_⟩) hHeld ?_ ?_
          · rintro w' s1
            obtain ⟨q0, q1, q2, q3, q4, q5, q6, q7, q8, q9, q10⟩ := cz11 s1
            go_simp
          rotate_left
          · simp only [Act.put, List.setIfInBounds_toArray, List.set_cons_zero, List.set_cons_succ, i64_w, i32_w]
            rfl
          refine two_ (i := 6) (j := 14) (Ni := some 58) (Nj := some 14) #[true, true, true, true, true, true, true, false, true, true, false, false, false, false, false, false, false] #[true, true, true, true, true, true, false, false, true, true, false, false, false, false, true, false, false] rfl rfl rfl rfl (two_of HT_.out (by kernel_rfl)) (by decide) (by decide) (fun K hK => ?_) (fun K hK => ?_)
          · refine goes_ Try.func21 (by kernel_rfl) rfl #[.int .u64 off, .int .i64 g.f0] (by rfl) rfl rfl (by (try simp only [List.map_toArray, List.map_cons, List.map_nil]); first | done | rfl) ?_
            refine (HC6.out _).mono ?_
            rintro x0 wn ⟨rfl, hg⟩
            replace HG := Aside0.mk (grown_two HG.out hg)
            have hs := blk_grown hHeld hg
            clear hg
            refine ⟨_, rfl, ?_⟩
            refine hK.out _ _ hs (fun hHeld => ?_)
            clear hK K
            refine norm_ (a' := ?_) ?_ ?_
            rotate_left
            · show Act.put _ (some 58) _ = _
              simp only [Act.put, List.setIfInBounds_toArray, List.set_cons_zero, List.set_cons_succ, i64_w, i32_w]
              rfl
            refine pure_ (i := 7) (N := some 59) (v := .int .u64 v) (a' := ?_) #[true, true, true, true, true, true, true, true, true, true, false, false, false, false, false, false, false] rfl rfl (any_of HT_.out (by kernel_rfl)) (fun _ _ _ h => h) (Or.inl ⟨by rfl, ?_⟩) ?_ ?_
            · intro w'
              go_simp
            rotate_left
            · simp only [Act.put, List.setIfInBounds_toArray, List.set_cons_zero, List.set_cons_succ, i64_w, i32_w]
              rfl
            refine two_ (i := 10) (j := 14) (Ni := some 62) (Nj := some 14) #[true, true, true, true, true, true, true, true, true, true, true, false, false, false, false, false, false] #[true, true, true, true, true, true, true, true, true, true, false, false, false, false, true, false, false] rfl rfl rfl rfl (two_of HT_.out (by kernel_rfl)) (by decide) (by decide) (fun K hK => ?_) (fun K hK => ?_)
            · refine goes_ Try.func20 (by kernel_rfl) rfl #[.pointer (some ⟨W.heap.size + 1, 0, none⟩), .int .u64 v, .int .i64 g.f1] (by rfl) rfl rfl (by (try simp only [List.map_toArray, List.map_cons, List.map_nil]); first | done | rfl) ?_
              refine (tl_find_some (HM.out.same HG.out) HINV.out.ok _ _ HHIT.out.1 i g HF.out HXI.out).mono ?_
              rintro x0 wn ⟨rfl, hg⟩
              replace HG := Aside0.mk (grown_two HG.out hg)
              have hs := blk_grown hHeld hg
              clear hg
              refine ⟨_, rfl, ?_⟩
              refine hK.out _ _ hs (fun hHeld => ?_)
              clear hK K
              refine norm_ (a' := ?_) ?_ ?_
              rotate_left
              · show Act.put _ (some 62) _ = _
                simp only [Act.put, List.setIfInBounds_toArray, List.set_cons_zero, List.set_cons_succ, i64_w, i32_w]
                rfl
              refine pure_ (i := 11) (N := some 51) (v := ?_) (a' := ?_) #[true, true, true, true, true, true, true, true, true, true, true, true, false, false, false, false, false] rfl rfl (any_of HT_.out (by kernel_rfl)) (fun _ _ _ h => h) (Or.inl ⟨by rfl, ?_⟩) ?_ ?_
              rotate_left
              · intro w'
                go_simp
                with_reducible rfl
              rotate_left
              · simp only [Act.put, List.setIfInBounds_toArray, List.set_cons_zero, List.set_cons_succ, i64_w, i32_w]
                rfl
              refine pure_ (i := 12) (N := some 63) (v := ?_) (a' := ?_) #[true, true, true, true, true, true, true, true, true, true, true, true, true, false, false, false, false] rfl rfl (any_of HT_.out (by kernel_rfl)) (fun _ _ _ h => h) (Or.inl ⟨by rfl, ?_⟩) ?_ ?_
              rotate_left
              · intro w'
                go_simp
                with_reducible rfl
              rotate_left
              · simp only [Act.put, List.setIfInBounds_toArray, List.set_cons_zero, List.set_cons_succ, i64_w, i32_w]
                rfl
              refine pure_ (i := 13) (N := some 64) (v := ?_) (a' := ?_) #[true, true, true, true, true, true, true, true, true, true, true, true, true, true, false, false, false] rfl rfl (any_of HT_.out (by kernel_rfl)) (fun _ _ _ h => h) (Or.inl ⟨by rfl, ?_⟩) ?_ ?_
              rotate_left
              · intro w'
                go_simp
                with_reducible rfl
              rotate_left
              · simp only [Act.put, List.setIfInBounds_toArray, List.set_cons_zero, List.set_cons_succ, i64_w, i32_w]
                rfl
              refine one_ (i := 14) (N := some 14) #[true, true, true, true, true, true, true, true, true, true, true, true, true, true, true, false, false] rfl rfl (one_of HT_.out (by kernel_rfl)) (by decide) (fun K hK => ?_)
              refine box_step ?hg (N := 14) ?hd (cs := #[.int .i64 0, .int .i64 0, .int .u64 0, .int .u64 0, .bool false, .bool false, .bool false, .bool false, .bool false, .bool false, .bool false]) (t := 26) ?hr ?_; (case hd => rfl); (case hg => rfl); (case hr => first | (go_simp; done) | (go_simp; rfl))
              intro h14 hg14 wn hbox hb
              have HB14 := Aside0.mk hbox
              have HN14 := Aside0.mk (show w5.drew.heap.size ≤ h14 ∧ h11 ≠ h14 from ⟨by rw [hg14]; exact HG.out.size, fun e => by have := blk_lt hHeld; omega⟩)
              have hg := below_grown hb
              replace HG := Aside0.mk (grown_two HG.out hg)
              have hs := blk_grown hHeld hg
              clear hg hg14 hbox hb
              refine hK.out _ _ hs (fun hHeld => ?_)
              clear hK K
              refine norm_ (a' := ?_) ?_ ?_
              rotate_left
              · show Act.put _ (some 14) _ = _
                simp only [Act.put, List.setIfInBounds_toArray, List.set_cons_zero, List.set_cons_succ, i64_w, i32_w]
                rfl
              refine one_ (i := 15) (N := none) #[true, true, true, true, true, true, true, true, true, true, true, true, true, true, true, true, false] rfl rfl (one_of HT_.out (by kernel_rfl)) (by decide) (fun K hK => ?_)
              rw [if_pos (by rfl)]
              refine wp_store_row 26 (.tmp 14) (.tmp 63) rfl h14 (entA g) rfl rfl 26 #[.int .i64 0, .int .i64 0, .int .u64 0, .int .u64 0, .bool false, .bool false, .bool false, .bool false, .bool false, .bool false, .bool false] HB14.out (by kernel_rfl) rfl (by kernel_rfl) ?_
              have hb2 := setRow_heap wn h14 _ (entA g) _ _ HB14.out
              have hg2 := grown_own HG.out (grown_row wn h14 (entA g)) (fun j e => by cases e; exact HN14.out.1)
              have hs := (setRow_other wn h14 h11 (entA g) HN14.out.2).trans hHeld
              generalize World.setRow wn h14 (entA g) = wb at hb2 hg2 hs ⊢
              have HB15 := Aside0.mk hb2
              have HG15 := Aside0.mk hg2
              clear hb2 hg2 HB14 HN14 HG
              refine hK.out _ _ hs (fun hHeld => ?_)
              clear hK K
              refine norm_ (a' := ?_) ?_ ?_
              rotate_left
              · show Act.put _ none _ = _
                rfl
              refine pure_ (i := 16) (N := some 15) (v := ?_) (a' := ?_) #[true, true, true, true, true, true, true, true, true, true, true, true, true, true, true, true, true] rfl rfl (any_of HT_.out (by kernel_rfl)) (fun _ _ _ h => h) (Or.inl ⟨by rfl, ?_⟩) ?_ ?_
              rotate_left
              · intro w'
                go_simp
                with_reducible rfl
              rotate_left
              · simp only [Act.put, List.setIfInBounds_toArray, List.set_cons_zero, List.set_cons_succ, i64_w, i32_w]
                rfl
              refine done_ (done_of HT_.out (by kernel_rfl)) ?_
              have HZ5 := Aside0.mk hHeld
              clear hws
              obtain ⟨q0, q1, q2, q3, q4, q5, q6, q7, q8, q9, q10⟩ := cz11 HB15.out
              obtain ⟨z0, z1, z2, z3, z4, z5, z6, z7, z8, z9, z10⟩ := cz11 hHeld
              have hle := list_le es2
              go_wp2_with (first | (go_at_call 22; refine (tl_list (HM.out.same HG15.out)).mono ?_; rintro x0 w6 ⟨⟨v0, rfl, hO⟩, hg⟩; obtain ⟨Al, cl, rfl, _, _⟩ := Kd.R_reads hO; have HM6 := Aside0.mk (HM.out.same (grown_two HG15.out hg)); clear hO hg) | (go_at_call 23; refine (tl_slots HM6.out _ rfl).mono ?_; rintro x0 w7 ⟨rfl, hM, hg⟩; have HM7 := Aside0.mk hM; clear hM hg))
              go_roundw
              case rel => exact ⟨k + 1, es2, by go_num, by omega, by omega, HLN, HINV, HNL, HM7⟩
              case measure => simp [intOf]; omega
            · refine box_step ?hg (N := 14) ?hd (cs := #[.int .i64 0, .int .i64 0, .int .u64 0, .int .u64 0, .bool false, .bool false, .bool false, .bool false, .bool false, .bool false, .bool false]) (t := 26) ?hr ?_; (case hd => rfl); (case hg => rfl); (case hr => first | (go_simp; done) | (go_simp; rfl))
              intro h14 hg14 wn hbox hb
              have HB14 := Aside0.mk hbox
              have HN14 := Aside0.mk (show w5.drew.heap.size ≤ h14 ∧ h11 ≠ h14 from ⟨by rw [hg14]; exact HG.out.size, fun e => by have := blk_lt hHeld; omega⟩)
              have hg := below_grown hb
              replace HG := Aside0.mk (grown_two HG.out hg)
              have hs := blk_grown hHeld hg
              clear hg hg14 hbox hb
              refine hK.out _ _ hs (fun hHeld => ?_)
              clear hK K
              refine norm_ (a' := ?_) ?_ ?_
              rotate_left
              · show Act.put _ (some 14) _ = _
                simp only [Act.put, List.setIfInBounds_toArray, List.set_cons_zero, List.set_cons_succ, i64_w, i32_w]
                rfl
              refine one_ (i := 10) (N := some 62) #[true, true, true, true, true, true, true, true, true, true, true, false, false, false, true, false, false] rfl rfl (one_of HT_.out (by kernel_rfl)) (by decide) (fun K hK => ?_)
              refine goes_ Try.func20 (by kernel_rfl) rfl #[.pointer (some ⟨W.heap.size + 1, 0, none⟩), .int .u64 v, .int .i64 g.f1] (by rfl) rfl rfl (by (try simp only [List.map_toArray, List.map_cons, List.map_nil]); first | done | rfl) ?_
              refine (tl_find_some (HM.out.same HG.out) HINV.out.ok _ _ HHIT.out.1 i g HF.out HXI.out).mono ?_
              rintro x0 wn ⟨rfl, hg⟩
              replace HG := Aside0.mk (grown_two HG.out hg)
              have hs := blk_grown hHeld hg
              replace HB14 := Aside0.mk (blk_grown HB14.out hg)
              clear hg
              refine ⟨_, rfl, ?_⟩
              refine hK.out _ _ hs (fun hHeld => ?_)
              clear hK K
              refine norm_ (a' := ?_) ?_ ?_
              rotate_left
              · show Act.put _ (some 62) _ = _
                simp only [Act.put, List.setIfInBounds_toArray, List.set_cons_zero, List.set_cons_succ, i64_w, i32_w]
                rfl
              refine pure_ (i := 11) (N := some 51) (v := ?_) (a' := ?_) #[true, true, true, true, true, true, true, true, true, true, true, true, false, false, true, false, false] rfl rfl (any_of HT_.out (by kernel_rfl)) (fun _ _ _ h => h) (Or.inl ⟨by rfl, ?_⟩) ?_ ?_
              rotate_left
              · intro w'
                go_simp
                with_reducible rfl
              rotate_left
              · simp only [Act.put, List.setIfInBounds_toArray, List.set_cons_zero, List.set_cons_succ, i64_w, i32_w]
                rfl
              refine pure_ (i := 12) (N := some 63) (v := ?_) (a' := ?_) #[true, true, true, true, true, true, true, true, true, true, true, true, true, false, true, false, false] rfl rfl (any_of HT_.out (by kernel_rfl)) (fun _ _ _ h => h) (Or.inl ⟨by rfl, ?_⟩) ?_ ?_
              rotate_left
              · intro w'
                go_simp
                with_reducible rfl
              rotate_left
              · simp only [Act.put, List.setIfInBounds_toArray, List.set_cons_zero, List.set_cons_succ, i64_w, i32_w]
                rfl
              refine pure_ (i := 13) (N := some 64) (v := ?_) (a' := ?_) #[true, true, true, true, true, true, true, true, true, true, true, true, true, true, true, false, false] rfl rfl (any_of HT_.out (by kernel_rfl)) (fun _ _ _ h => h) (Or.inl ⟨by rfl, ?_⟩) ?_ ?_
              rotate_left
              · intro w'
                go_simp
                with_reducible rfl
              rotate_left
              · simp only [Act.put, List.setIfInBounds_toArray, List.set_cons_zero, List.set_cons_succ, i64_w, i32_w]
                rfl
              refine one_ (i := 15) (N := none) #[true, true, true, true, true, true, true, true, true, true, true, true, true, true, true, true, false] rfl rfl (one_of HT_.out (by kernel_rfl)) (by decide) (fun K hK => ?_)
              rw [if_pos (by rfl)]
              refine wp_store_row 26 (.tmp 14) (.tmp 63) rfl h14 (entA g) rfl rfl 26 #[.int .i64 0, .int .i64 0, .int .u64 0, .int .u64 0, .bool false, .bool false, .bool false, .bool false, .bool false, .bool false, .bool false] HB14.out (by kernel_rfl) rfl (by kernel_rfl) ?_
              have hb2 := setRow_heap wn h14 _ (entA g) _ _ HB14.out
              have hg2 := grown_own HG.out (grown_row wn h14 (entA g)) (fun j e => by cases e; exact HN14.out.1)
              have hs := (setRow_other wn h14 h11 (entA g) HN14.out.2).trans hHeld
              generalize World.setRow wn h14 (entA g) = wb at hb2 hg2 hs ⊢
              have HB15 := Aside0.mk hb2
              have HG15 := Aside0.mk hg2
              clear hb2 hg2 HB14 HN14 HG
              refine hK.out _ _ hs (fun hHeld => ?_)
              clear hK K
              refine norm_ (a' := ?_) ?_ ?_
              rotate_left
              · show Act.put _ none _ = _
                rfl
              refine pure_ (i := 16) (N := some 15) (v := ?_) (a' := ?_) #[true, true, true, true, true, true, true, true, true, true, true, true, true, true, true, true, true] rfl rfl (any_of HT_.out (by kernel_rfl)) (fun _ _ _ h => h) (Or.inl ⟨by rfl, ?_⟩) ?_ ?_
              rotate_left
              · intro w'
                go_simp
                with_reducible rfl
              rotate_left
              · simp only [Act.put, List.setIfInBounds_toArray, List.set_cons_zero, List.set_cons_succ, i64_w, i32_w]
                rfl
              refine done_ (done_of HT_.out (by kernel_rfl)) ?_
              have HZ5 := Aside0.mk hHeld
              clear hws
              obtain ⟨q0, q1, q2, q3, q4, q5, q6, q7, q8, q9, q10⟩ := cz11 HB15.out
              obtain ⟨z0, z1, z2, z3, z4, z5, z6, z7, z8, z9, z10⟩ := cz11 hHeld
              have hle := list_le es2
              go_wp2_with (first | (go_at_call 22; refine (tl_list (HM.out.same HG15.out)).mono ?_; rintro x0 w6 ⟨⟨v0, rfl, hO⟩, hg⟩; obtain ⟨Al, cl, rfl, _, _⟩ := Kd.R_reads hO; have HM6 := Aside0.mk (HM.out.same (grown_two HG15.out hg)); clear hO hg) | (go_at_call 23; refine (tl_slots HM6.out _ rfl).mono ?_; rintro x0 w7 ⟨rfl, hM, hg⟩; have HM7 := Aside0.mk hM; clear hM hg))
              go_roundw
              case rel => exact ⟨k + 1, es2, by go_num, by omega, by omega, HLN, HINV, HNL, HM7⟩
              case measure => simp [intOf]; omega
          · refine box_step ?hg (N := 14) ?hd (cs := #[.int .i64 0, .int .i64 0, .int .u64 0, .int .u64 0, .bool false, .bool false, .bool false, .bool false, .bool false, .bool false, .bool false]) (t := 26) ?hr ?_; (case hd => rfl); (case hg => rfl); (case hr => first | (go_simp; done) | (go_simp; rfl))
            intro h14 hg14 wn hbox hb
            have HB14 := Aside0.mk hbox
            have HN14 := Aside0.mk (show w5.drew.heap.size ≤ h14 ∧ h11 ≠ h14 from ⟨by rw [hg14]; exact HG.out.size, fun e => by have := blk_lt hHeld; omega⟩)
            have hg := below_grown hb
            replace HG := Aside0.mk (grown_two HG.out hg)
            have hs := blk_grown hHeld hg
            clear hg hg14 hbox hb
            refine hK.out _ _ hs (fun hHeld => ?_)
            clear hK K
            refine norm_ (a' := ?_) ?_ ?_
            rotate_left
            · show Act.put _ (some 14) _ = _
              simp only [Act.put, List.setIfInBounds_toArray, List.set_cons_zero, List.set_cons_succ, i64_w, i32_w]
              rfl
            refine one_ (i := 6) (N := some 58) #[true, true, true, true, true, true, true, false, true, true, false, false, false, false, true, false, false] rfl rfl (one_of HT_.out (by kernel_rfl)) (by decide) (fun K hK => ?_)
            refine goes_ Try.func21 (by kernel_rfl) rfl #[.int .u64 off, .int .i64 g.f0] (by rfl) rfl rfl (by (try simp only [List.map_toArray, List.map_cons, List.map_nil]); first | done | rfl) ?_
            refine (HC6.out _).mono ?_
            rintro x0 wn ⟨rfl, hg⟩
            replace HG := Aside0.mk (grown_two HG.out hg)
            have hs := blk_grown hHeld hg
            replace HB14 := Aside0.mk (blk_grown HB14.out hg)
            clear hg
            refine ⟨_, rfl, ?_⟩
            refine hK.out _ _ hs (fun hHeld => ?_)
            clear hK K
            refine norm_ (a' := ?_) ?_ ?_
            rotate_left
            · show Act.put _ (some 58) _ = _
              simp only [Act.put, List.setIfInBounds_toArray, List.set_cons_zero, List.set_cons_succ, i64_w, i32_w]
              rfl
            refine pure_ (i := 7) (N := some 59) (v := .int .u64 v) (a' := ?_) #[true, true, true, true, true, true, true, true, true, true, false, false, false, false, true, false, false] rfl rfl (any_of HT_.out (by kernel_rfl)) (fun _ _ _ h => h) (Or.inl ⟨by rfl, ?_⟩) ?_ ?_
            · intro w'
              go_simp
            rotate_left
            · simp only [Act.put, List.setIfInBounds_toArray, List.set_cons_zero, List.set_cons_succ, i64_w, i32_w]
              rfl
            refine one_ (i := 10) (N := some 62) #[true, true, true, true, true, true, true, true, true, true, true, false, false, false, true, false, false] rfl rfl (one_of HT_.out (by kernel_rfl)) (by decide) (fun K hK => ?_)
            refine goes_ Try.func20 (by kernel_rfl) rfl #[.pointer (some ⟨W.heap.size + 1, 0, none⟩), .int .u64 v, .int .i64 g.f1] (by rfl) rfl rfl (by (try simp only [List.map_toArray, List.map_cons, List.map_nil]); first | done | rfl) ?_
            refine (tl_find_some (HM.out.same HG.out) HINV.out.ok _ _ HHIT.out.1 i g HF.out HXI.out).mono ?_
            rintro x0 wn ⟨rfl, hg⟩
            replace HG := Aside0.mk (grown_two HG.out hg)
            have hs := blk_grown hHeld hg
            replace HB14 := Aside0.mk (blk_grown HB14.out hg)
            clear hg
            refine ⟨_, rfl, ?_⟩
            refine hK.out _ _ hs (fun hHeld => ?_)
            clear hK K
            refine norm_ (a' := ?_) ?_ ?_
            rotate_left
            · show Act.put _ (some 62) _ = _
              simp only [Act.put, List.setIfInBounds_toArray, List.set_cons_zero, List.set_cons_succ, i64_w, i32_w]
              rfl
            refine pure_ (i := 11) (N := some 51) (v := ?_) (a' := ?_) #[true, true, true, true, true, true, true, true, true, true, true, true, false, false, true, false, false] rfl rfl (any_of HT_.out (by kernel_rfl)) (fun _ _ _ h => h) (Or.inl ⟨by rfl, ?_⟩) ?_ ?_
            rotate_left
            · intro w'
              go_simp
              with_reducible rfl
            rotate_left
            · simp only [Act.put, List.setIfInBounds_toArray, List.set_cons_zero, List.set_cons_succ, i64_w, i32_w]
              rfl
            refine pure_ (i := 12) (N := some 63) (v := ?_) (a' := ?_) #[true, true, true, true, true, true, true, true, true, true, true, true, true, false, true, false, false] rfl rfl (any_of HT_.out (by kernel_rfl)) (fun _ _ _ h => h) (Or.inl ⟨by rfl, ?_⟩) ?_ ?_
            rotate_left
            · intro w'
              go_simp
              with_reducible rfl
            rotate_left
            · simp only [Act.put, List.setIfInBounds_toArray, List.set_cons_zero, List.set_cons_succ, i64_w, i32_w]
              rfl
            refine pure_ (i := 13) (N := some 64) (v := ?_) (a' := ?_) #[true, true, true, true, true, true, true, true, true, true, true, true, true, true, true, false, false] rfl rfl (any_of HT_.out (by kernel_rfl)) (fun _ _ _ h => h) (Or.inl ⟨by rfl, ?_⟩) ?_ ?_
            rotate_left
            · intro w'
              go_simp
              with_reducible rfl
            rotate_left
            · simp only [Act.put, List.setIfInBounds_toArray, List.set_cons_zero, List.set_cons_succ, i64_w, i32_w]
              rfl
            refine one_ (i := 15) (N := none) #[true, true, true, true, true, true, true, true, true, true, true, true, true, true, true, true, false] rfl rfl (one_of HT_.out (by kernel_rfl)) (by decide) (fun K hK => ?_)
            rw [if_pos (by rfl)]
            refine wp_store_row 26 (.tmp 14) (.tmp 63) rfl h14 (entA g) rfl rfl 26 #[.int .i64 0, .int .i64 0, .int .u64 0, .int .u64 0, .bool false, .bool false, .bool false, .bool false, .bool false, .bool false, .bool false] HB14.out (by kernel_rfl) rfl (by kernel_rfl) ?_
            have hb2 := setRow_heap wn h14 _ (entA g) _ _ HB14.out
            have hg2 := grown_own HG.out (grown_row wn h14 (entA g)) (fun j e => by cases e; exact HN14.out.1)
            have hs := (setRow_other wn h14 h11 (entA g) HN14.out.2).trans hHeld
            generalize World.setRow wn h14 (entA g) = wb at hb2 hg2 hs ⊢
            have HB15 := Aside0.mk hb2
            have HG15 := Aside0.mk hg2
            clear hb2 hg2 HB14 HN14 HG
            refine hK.out _ _ hs (fun hHeld => ?_)
            clear hK K
            refine norm_ (a' := ?_) ?_ ?_
            rotate_left
            · show Act.put _ none _ = _
              rfl
            refine pure_ (i := 16) (N := some 15) (v := ?_) (a' := ?_) #[true, true, true, true, true, true, true, true, true, true, true, true, true, true, true, true, true] rfl rfl (any_of HT_.out (by kernel_rfl)) (fun _ _ _ h => h) (Or.inl ⟨by rfl, ?_⟩) ?_ ?_
            rotate_left
            · intro w'
              go_simp
              with_reducible rfl
            rotate_left
            · simp only [Act.put, List.setIfInBounds_toArray, List.set_cons_zero, List.set_cons_succ, i64_w, i32_w]
              rfl
            refine done_ (done_of HT_.out (by kernel_rfl)) ?_
            have HZ5 := Aside0.mk hHeld
            clear hws
            obtain ⟨q0, q1, q2, q3, q4, q5, q6, q7, q8, q9, q10⟩ := cz11 HB15.out
            obtain ⟨z0, z1, z2, z3, z4, z5, z6, z7, z8, z9, z10⟩ := cz11 hHeld
            have hle := list_le es2
            go_wp2_with (first | (go_at_call 22; refine (tl_list (HM.out.same HG15.out)).mono ?_; rintro x0 w6 ⟨⟨v0, rfl, hO⟩, hg⟩; obtain ⟨Al, cl, rfl, _, _⟩ := Kd.R_reads hO; have HM6 := Aside0.mk (HM.out.same (grown_two HG15.out hg)); clear hO hg) | (go_at_call 23; refine (tl_slots HM6.out _ rfl).mono ?_; rintro x0 w7 ⟨rfl, hM, hg⟩; have HM7 := Aside0.mk hM; clear hM hg))
            go_roundw
            case rel => exact ⟨k + 1, es2, by go_num, by omega, by omega, HLN, HINV, HNL, HM7⟩
            case measure => simp [intOf]; omega
        · obtain rfl : k = 20 := by omega
          have h1'' : (20 : Int) < (len : Int) := by omega
          go_wp2_with (go_at_call 17; refine (HLF.out _).mono ?_; rintro x0 wl ⟨rfl, hg⟩; have HE := Aside0.mk (HM.out.same hg).below; clear hg)
          go_ret
          exact ⟨rfl, HE.out⟩
      · obtain rfl : k = len := by omega
        go_wp2_with (go_at_call 17; refine (HLF.out _).mono ?_; rintro x0 wl ⟨rfl, hg⟩; have HE := Aside0.mk (HM.out.same hg).below; clear hg)
        go_ret
        exact ⟨rfl, HE.out⟩
end
end Go.Proofs.Ythclbckkfgmbaaa.QTlbPlays
