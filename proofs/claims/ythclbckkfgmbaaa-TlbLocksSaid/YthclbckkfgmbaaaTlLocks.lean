/- TlbLocks: an entry with a lock stays; at whatever numbers. -/
import Derived.Test.YthclbckkfgmbaaaTl13
namespace Go.Proofs.Ythclbckkfgmbaaa.QTlbPlays
open Go.RowKit Go.Proofs.YthclbckkfgmbaaaW.PrintWords Go.Proofs.YthclbckkfgmbaaaW.PrintLast Go.Proofs.YthclbckkfgmbaaaW.PrintMore
set_option linter.unusedSimpArgs false
set_option linter.unusedVariables false
section
set_option maxHeartbeats 1000000
set_option maxRecDepth 100000
theorem tlbLocks_calls (slots : Int) (e0 : Ent) (a : Option Addr) (len cap : Nat) (pick : Int) (W : World) (hs : (Lit.int .i64 slots).wf = true) (he0 : EntW e0) (hl : Ents W a len ∧ len ≤ maxLen) (hp : (Lit.int .i64 pick).wf = true) :
    Calls Try.prog 5 #[.int .i64 slots, .agg (entA e0), .slice a len cap, .int .i64 pick] W fun x W' => x = .returned (.bool true) ∧ Below W.heap.size W W' := by
  have hu := Try.underlying26
  have hu2 := Try.underlying24
  have HEN := Aside0.mk hl.1
  have HPK := Aside0.mk hp
  have HWE0 := Aside0.mk he0
  have HB0 := Aside0.mk (heap_alloc_new W (.cells (entA e0) 26))
  have HLF := Aside0.mk lives_calls
  have hlm : len ≤ 9223372036854775807 := hl.2
  clear hl hp he0 hs
  by_cases h10 : slots > 10
  · go_enter Try.func5, Try.ntmps5
    go_wp2_with fail
    refine (tl_new_ex (below_alloc (Below.refl W.heap.size W) (.cells (entA e0) 26)) (by simp) _).mono ?_
    rintro x0 w1 ⟨p, r, N, rfl, -, hN1, hr0, hM, hg⟩
    have HM := Aside0.mk hM
    have HB5 := Aside0.mk (blk_grown HB0.out hg)
    clear hM hg hr0
    obtain ⟨q0, q1, q2, q3, q4, q5, q6, q7, q8, q9, q10⟩ := cz11 HB5.out
    go_wp2_with fail
    refine (good_calls HWE0.out _).mono ?_
    rintro x0 w2 ⟨rfl, hg⟩
    clear q0 q1 q2 q3 q4 q5 q6 q7 q8 q9 q10
    have HGW := Aside0.mk (lockE_W (goodE_W e0) true)
    have HGM := Aside0.mk ((lockE_may (goodE e0) true).trans (goodE_may e0))
    have HGL := Aside0.mk (show lockB (lockE (goodE e0) true) = true from rfl)
    have HS4 := Aside0.mk (heap_alloc_new w2 (.cells (entA (lockE (goodE e0) true)) 26))
    have HG4 := Aside0.mk (grown_two hg (World.grownBy_alloc w2 (.cells (entA (lockE (goodE e0) true)) 26) none))
    have HRN := Aside0.mk (show r < w2.heap.size from Nat.lt_of_lt_of_le HM.out.rlt hg.size)
    clear hg
    go_wp2_with fail
    obtain ⟨i, hi, hins⟩ := finds_step (nolock_new N) (by simpa using hN1) HGM.out pick
    have hinv := ins_inv (inv_new N) HGW.out pick
    rw [hins] at hinv
    have hxi := set_at (es := goneOf (List.replicate N none) (lockE (goodE e0) true)) (some (lockE (goodE e0) true)) (by rw [gone_len]; exact hi) i
    rw [if_pos rfl] at hxi
    refine (tl_insert (HM.out.same HG4.out) (inv_new N).ok _ HGW.out _ HPK.out _ _ _ hins).mono ?_
    rintro x0 w5 ⟨rfl, hM, hg⟩
    have HS5 := Aside0.mk ((hg.block _ (blk_lt HS4.out) (fun e => by have := Option.some.inj e; have := HRN.out; omega)).trans HS4.out)
    have HRN5 := Aside0.mk (show w2.heap.size ≠ r by have := HRN.out; omega)
    clear hg hins HM HS4 HG4 HRN
    generalize lockE (goodE e0) true = g at HS5 HGW HGM HGL hinv hxi hM
    generalize (goneOf (List.replicate N none) g).set i (some g) = es1 at hinv hxi hM
    have HM := Aside0.mk hM
    have HINV := Aside0.mk hinv
    have HXI := Aside0.mk hxi
    clear hM hinv hxi
    go_wp2_with fail
    generalize w2.heap.size = h10 at HS5 HRN5 ⊢
    go_loopw [13] (fun v13 wr => ∃ (k : Nat) (es : List (Option Ent)), v13 = .int .i64 k ∧ k ≤ len ∧ k ≤ 20 ∧ Aside0 (Inv es) ∧ Aside0 (es.getD i none = some g) ∧ Aside0 (Tl W.heap.size W p r es wr) ∧ Aside0 (wr.heap[h10]? = some (.cells (entA g) 26 (0, 0)))) (fun v13 _ => 20 - (intOf v13).toNat)
    case atStart => exact ⟨0, es1, rfl, by omega, by omega, HINV, HXI, HM, HS5⟩
    case round =>
      clear HM HINV HXI HS5
      obtain ⟨k, es, rfl, hk, hk20, HINV, HXI, HM, HS5⟩ := hrel
      by_cases h1 : k < len
      · have h1' : (k : Int) < (len : Int) := by omega
        by_cases h2 : k < 20
        · have h2' : (k : Int) < 20 := by omega
          have h0' : (0 : Int) ≤ (k : Int) := by omega
          obtain ⟨y, e, rfl, he⟩ := HEN.out.at k h1
          have HEA := Aside0.mk (he.grown (below_grown HM.out.below))
          clear he
          obtain ⟨hwe, c0, c1, c2, c3, c4, c5, c6, c7, c8, c9, c10⟩ := HEA.out
          have HWE := Aside0.mk hwe
          clear hwe HEA
          go_wp2_with fail
          refine (good_calls HWE.out _).mono ?_
          rintro x0 w3 ⟨rfl, hg⟩
          have HG3 := Aside0.mk hg
          clear c0 c1 c2 c3 c4 c5 c6 c7 c8 c9 c10 hg
          obtain ⟨i2, er2, es2, hins⟩ : ∃ a b c, insOf es (goodE e) pick = (a, b, c) := ⟨_, _, _, rfl⟩
          have hinv := ins_inv HINV.out (goodE_W e) pick
          have hxi := locks_step HXI.out HGL.out (goodE e) pick
          rw [hins] at hinv hxi
          have HINV2 := Aside0.mk hinv
          have HXI2 := Aside0.mk hxi
          go_wp2_with fail
          refine (tl_insert (HM.out.same HG3.out) HINV.out.ok _ (goodE_W e) _ HPK.out _ _ _ hins).mono ?_
          rintro x0 w6 ⟨rfl, hM, hg⟩
          have HM6 := Aside0.mk hM
          have HS6 := Aside0.mk ((hg.block _ (blk_lt (blk_grown HS5.out HG3.out)) (fun e => HRN5.out (Option.some.inj e))).trans (blk_grown HS5.out HG3.out))
          clear hg hM hinv hxi hins HINV HXI HM HS5 HG3
          go_wp2_with fail
          refine (tl_at_some HM6.out i g HXI2.out).mono ?_
          rintro x0 w7 ⟨rfl, hg⟩
          have HG7 := Aside0.mk (grown_two hg (World.grownBy_alloc w7 (.cells (entA g) 26) none))
          have HS7 := Aside0.mk (blk_grown HS6.out HG7.out)
          have HB14 := Aside0.mk (heap_alloc_new w7 (.cells (entA g) 26))
          have HM7 := Aside0.mk (HM6.out.same HG7.out)
          clear hg HM6 HS6 HG7
          obtain ⟨q0, q1, q2, q3, q4, q5, q6, q7, q8, q9, q10⟩ := cz11 HS7.out
          obtain ⟨z0, z1, z2, z3, z4, z5, z6, z7, z8, z9, z10⟩ := cz11 HB14.out
          go_wp2_with fail
          go_roundw
          case rel => exact ⟨k + 1, es2, by go_num, by omega, by omega, HINV2, HXI2, HM7, HS7⟩
          case measure => simp [intOf]; omega
        · obtain rfl : k = 20 := by omega
          have h1'' : (20 : Int) < (len : Int) := by omega
          have HINV2 := Aside0.mk (HINV.out.sub (clear_sub es openB))
          have HXI2 := Aside0.mk (clear_keeps (q := openB) HXI.out (by unfold openB; have := HGL.out; unfold lockB at this; rw [this]; rfl))
          have HLK := Aside0.mk (all_locked (es := es))
          have HSF := Aside0.mk (hits_self (may_okS HGM.out))
          have HF := Aside0.mk (HINV2.out.find HXI2.out HSF.out)
          have HD1 := Aside0.mk (show ((plL (clearQ es openB) (fun e => hitsB e g.f2 g.f1)).length : Int) = 1 by rw [HINV2.out.one HXI2.out HSF.out]; rfl)
          go_wp2_with fail
          refine (tl_dall HM.out).mono ?_
          rintro x0 w6 ⟨rfl, hM, hg⟩
          have HS6 := Aside0.mk ((hg.block _ (blk_lt HS5.out) (fun e => HRN5.out (Option.some.inj e))).trans HS5.out)
          generalize clearQ es openB = es2 at HINV2 HXI2 HLK HF HD1 hM
          have HM6 := Aside0.mk hM
          clear hM hg HM HS5 HINV HXI
          obtain ⟨q0, q1, q2, q3, q4, q5, q6, q7, q8, q9, q10⟩ := cz11 HS6.out
          go_wp2_with fail
          refine (tl_find_some HM6.out HINV2.out.ok g.f2 g.f1 HGW.out.v i g HF.out HXI2.out).mono ?_
          rintro x0 w7 ⟨rfl, hg⟩
          have HG7 := Aside0.mk (grown_two hg (World.grownBy_alloc w7 (.cells (entA g) 26) none))
          have HS7 := Aside0.mk (blk_grown HS6.out HG7.out)
          have HB14 := Aside0.mk (heap_alloc_new w7 (.cells (entA g) 26))
          have HM7 := Aside0.mk (HM6.out.same HG7.out)
          clear hg HM6 HS6 HG7 q0 q1 q2 q3 q4 q5 q6 q7 q8 q9 q10
          obtain ⟨q0, q1, q2, q3, q4, q5, q6, q7, q8, q9, q10⟩ := cz11 HS7.out
          obtain ⟨z0, z1, z2, z3, z4, z5, z6, z7, z8, z9, z10⟩ := cz11 HB14.out
          go_wp2_with fail
          refine (tl_locked HM7.out _ rfl).mono ?_
          rintro x0 w8 ⟨rfl, hM, hg⟩
          have HM8 := Aside0.mk hM
          have HS8 := Aside0.mk (blk_grown HS7.out hg)
          clear hM hg HM7 HS7 HB14 q0 q1 q2 q3 q4 q5 q6 q7 q8 q9 q10 z0 z1 z2 z3 z4 z5 z6 z7 z8 z9 z10
          rw [HLK.out]
          go_wp2_with fail
          refine (tl_list HM8.out).mono ?_
          rintro x0 w9 ⟨⟨v0, rfl, hO⟩, hg⟩
          obtain ⟨Al, cl, rfl, _, _⟩ := Kd.R_reads hO
          have HM9 := Aside0.mk (HM8.out.same hg)
          have HS9 := Aside0.mk (blk_grown HS8.out hg)
          clear hO hg HM8 HS8
          obtain ⟨q0, q1, q2, q3, q4, q5, q6, q7, q8, q9, q10⟩ := cz11 HS9.out
          go_wp2_with fail
          refine (tl_dpage HM9.out HINV2.out.ok g.f2 g.f1 HGW.out.v).mono ?_
          rintro x0 w10 ⟨rfl, hM, hg⟩
          rw [HD1.out]
          have HMe := Aside0.mk hM
          clear hM hg HM9 HS9 q0 q1 q2 q3 q4 q5 q6 q7 q8 q9 q10
          go_wp2_with fail
          refine (HLF.out _).mono ?_
          rintro x0 wl ⟨rfl, hg⟩
          have HE := Aside0.mk (HMe.out.same hg).below
          clear hg
          go_wp2
          go_ret
          exact ⟨rfl, HE.out⟩
      · obtain rfl : k = len := by omega
        have HINV2 := Aside0.mk (HINV.out.sub (clear_sub es openB))
        have HXI2 := Aside0.mk (clear_keeps (q := openB) HXI.out (by unfold openB; have := HGL.out; unfold lockB at this; rw [this]; rfl))
        have HLK := Aside0.mk (all_locked (es := es))
        have HSF := Aside0.mk (hits_self (may_okS HGM.out))
        have HF := Aside0.mk (HINV2.out.find HXI2.out HSF.out)
        have HD1 := Aside0.mk (show ((plL (clearQ es openB) (fun e => hitsB e g.f2 g.f1)).length : Int) = 1 by rw [HINV2.out.one HXI2.out HSF.out]; rfl)
        go_wp2_with fail
        refine (tl_dall HM.out).mono ?_
        rintro x0 w6 ⟨rfl, hM, hg⟩
        have HS6 := Aside0.mk ((hg.block _ (blk_lt HS5.out) (fun e => HRN5.out (Option.some.inj e))).trans HS5.out)
        generalize clearQ es openB = es2 at HINV2 HXI2 HLK HF HD1 hM
        have HM6 := Aside0.mk hM
        clear hM hg HM HS5 HINV HXI
        obtain ⟨q0, q1, q2, q3, q4, q5, q6, q7, q8, q9, q10⟩ := cz11 HS6.out
        go_wp2_with fail
        refine (tl_find_some HM6.out HINV2.out.ok g.f2 g.f1 HGW.out.v i g HF.out HXI2.out).mono ?_
        rintro x0 w7 ⟨rfl, hg⟩
        have HG7 := Aside0.mk (grown_two hg (World.grownBy_alloc w7 (.cells (entA g) 26) none))
        have HS7 := Aside0.mk (blk_grown HS6.out HG7.out)
        have HB14 := Aside0.mk (heap_alloc_new w7 (.cells (entA g) 26))
        have HM7 := Aside0.mk (HM6.out.same HG7.out)
        clear hg HM6 HS6 HG7 q0 q1 q2 q3 q4 q5 q6 q7 q8 q9 q10
        obtain ⟨q0, q1, q2, q3, q4, q5, q6, q7, q8, q9, q10⟩ := cz11 HS7.out
        obtain ⟨z0, z1, z2, z3, z4, z5, z6, z7, z8, z9, z10⟩ := cz11 HB14.out
        go_wp2_with fail
        refine (tl_locked HM7.out _ rfl).mono ?_
        rintro x0 w8 ⟨rfl, hM, hg⟩
        have HM8 := Aside0.mk hM
        have HS8 := Aside0.mk (blk_grown HS7.out hg)
        clear hM hg HM7 HS7 HB14 q0 q1 q2 q3 q4 q5 q6 q7 q8 q9 q10 z0 z1 z2 z3 z4 z5 z6 z7 z8 z9 z10
        rw [HLK.out]
        go_wp2_with fail
        refine (tl_list HM8.out).mono ?_
        rintro x0 w9 ⟨⟨v0, rfl, hO⟩, hg⟩
        obtain ⟨Al, cl, rfl, _, _⟩ := Kd.R_reads hO
        have HM9 := Aside0.mk (HM8.out.same hg)
        have HS9 := Aside0.mk (blk_grown HS8.out hg)
        clear hO hg HM8 HS8
        obtain ⟨q0, q1, q2, q3, q4, q5, q6, q7, q8, q9, q10⟩ := cz11 HS9.out
        go_wp2_with fail
        refine (tl_dpage HM9.out HINV2.out.ok g.f2 g.f1 HGW.out.v).mono ?_
        rintro x0 w10 ⟨rfl, hM, hg⟩
        rw [HD1.out]
        have HMe := Aside0.mk hM
        clear hM hg HM9 HS9 q0 q1 q2 q3 q4 q5 q6 q7 q8 q9 q10
        go_wp2_with fail
        refine (HLF.out _).mono ?_
        rintro x0 wl ⟨rfl, hg⟩
        have HE := Aside0.mk (HMe.out.same hg).below
        clear hg
        go_wp2
        go_ret
        exact ⟨rfl, HE.out⟩
  · go_enter Try.func5, Try.ntmps5
    go_wp2_with fail
    refine (tl_new_ex (below_alloc (Below.refl W.heap.size W) (.cells (entA e0) 26)) (by simp) _).mono ?_
    rintro x0 w1 ⟨p, r, N, rfl, -, hN1, hr0, hM, hg⟩
    have HM := Aside0.mk hM
    have HB5 := Aside0.mk (blk_grown HB0.out hg)
    clear hM hg hr0
    obtain ⟨q0, q1, q2, q3, q4, q5, q6, q7, q8, q9, q10⟩ := cz11 HB5.out
    go_wp2_with fail
    refine (good_calls HWE0.out _).mono ?_
    rintro x0 w2 ⟨rfl, hg⟩
    clear q0 q1 q2 q3 q4 q5 q6 q7 q8 q9 q10
    have HGW := Aside0.mk (lockE_W (goodE_W e0) true)
    have HGM := Aside0.mk ((lockE_may (goodE e0) true).trans (goodE_may e0))
    have HGL := Aside0.mk (show lockB (lockE (goodE e0) true) = true from rfl)
    have HS4 := Aside0.mk (heap_alloc_new w2 (.cells (entA (lockE (goodE e0) true)) 26))
    have HG4 := Aside0.mk (grown_two hg (World.grownBy_alloc w2 (.cells (entA (lockE (goodE e0) true)) 26) none))
    have HRN := Aside0.mk (show r < w2.heap.size from Nat.lt_of_lt_of_le HM.out.rlt hg.size)
    clear hg
    go_wp2_with fail
    obtain ⟨i, hi, hins⟩ := finds_step (nolock_new N) (by simpa using hN1) HGM.out pick
    have hinv := ins_inv (inv_new N) HGW.out pick
    rw [hins] at hinv
    have hxi := set_at (es := goneOf (List.replicate N none) (lockE (goodE e0) true)) (some (lockE (goodE e0) true)) (by rw [gone_len]; exact hi) i
    rw [if_pos rfl] at hxi
    refine (tl_insert (HM.out.same HG4.out) (inv_new N).ok _ HGW.out _ HPK.out _ _ _ hins).mono ?_
    rintro x0 w5 ⟨rfl, hM, hg⟩
    have HS5 := Aside0.mk ((hg.block _ (blk_lt HS4.out) (fun e => by have := Option.some.inj e; have := HRN.out; omega)).trans HS4.out)
    have HRN5 := Aside0.mk (show w2.heap.size ≠ r by have := HRN.out; omega)
    clear hg hins HM HS4 HG4 HRN
    generalize lockE (goodE e0) true = g at HS5 HGW HGM HGL hinv hxi hM
    generalize (goneOf (List.replicate N none) g).set i (some g) = es1 at hinv hxi hM
    have HM := Aside0.mk hM
    have HINV := Aside0.mk hinv
    have HXI := Aside0.mk hxi
    clear hM hinv hxi
    go_wp2_with fail
    generalize w2.heap.size = h10 at HS5 HRN5 ⊢
    go_loopw [13] (fun v13 wr => ∃ (k : Nat) (es : List (Option Ent)), v13 = .int .i64 k ∧ k ≤ len ∧ k ≤ 20 ∧ Aside0 (Inv es) ∧ Aside0 (es.getD i none = some g) ∧ Aside0 (Tl W.heap.size W p r es wr) ∧ Aside0 (wr.heap[h10]? = some (.cells (entA g) 26 (0, 0)))) (fun v13 _ => 20 - (intOf v13).toNat)
    case atStart => exact ⟨0, es1, rfl, by omega, by omega, HINV, HXI, HM, HS5⟩
    case round =>
      clear HM HINV HXI HS5
      obtain ⟨k, es, rfl, hk, hk20, HINV, HXI, HM, HS5⟩ := hrel
      by_cases h1 : k < len
      · have h1' : (k : Int) < (len : Int) := by omega
        by_cases h2 : k < 20
        · have h2' : (k : Int) < 20 := by omega
          have h0' : (0 : Int) ≤ (k : Int) := by omega
          obtain ⟨y, e, rfl, he⟩ := HEN.out.at k h1
          have HEA := Aside0.mk (he.grown (below_grown HM.out.below))
          clear he
          obtain ⟨hwe, c0, c1, c2, c3, c4, c5, c6, c7, c8, c9, c10⟩ := HEA.out
          have HWE := Aside0.mk hwe
          clear hwe HEA
          go_wp2_with fail
          refine (good_calls HWE.out _).mono ?_
          rintro x0 w3 ⟨rfl, hg⟩
          have HG3 := Aside0.mk hg
          clear c0 c1 c2 c3 c4 c5 c6 c7 c8 c9 c10 hg
          obtain ⟨i2, er2, es2, hins⟩ : ∃ a b c, insOf es (goodE e) pick = (a, b, c) := ⟨_, _, _, rfl⟩
          have hinv := ins_inv HINV.out (goodE_W e) pick
          have hxi := locks_step HXI.out HGL.out (goodE e) pick
          rw [hins] at hinv hxi
          have HINV2 := Aside0.mk hinv
          have HXI2 := Aside0.mk hxi
          go_wp2_with fail
          refine (tl_insert (HM.out.same HG3.out) HINV.out.ok _ (goodE_W e) _ HPK.out _ _ _ hins).mono ?_
          rintro x0 w6 ⟨rfl, hM, hg⟩
          have HM6 := Aside0.mk hM
          have HS6 := Aside0.mk ((hg.block _ (blk_lt (blk_grown HS5.out HG3.out)) (fun e => HRN5.out (Option.some.inj e))).trans (blk_grown HS5.out HG3.out))
          clear hg hM hinv hxi hins HINV HXI HM HS5 HG3
          go_wp2_with fail
          refine (tl_at_some HM6.out i g HXI2.out).mono ?_
          rintro x0 w7 ⟨rfl, hg⟩
          have HG7 := Aside0.mk (grown_two hg (World.grownBy_alloc w7 (.cells (entA g) 26) none))
          have HS7 := Aside0.mk (blk_grown HS6.out HG7.out)
          have HB14 := Aside0.mk (heap_alloc_new w7 (.cells (entA g) 26))
          have HM7 := Aside0.mk (HM6.out.same HG7.out)
          clear hg HM6 HS6 HG7
          obtain ⟨q0, q1, q2, q3, q4, q5, q6, q7, q8, q9, q10⟩ := cz11 HS7.out
          obtain ⟨z0, z1, z2, z3, z4, z5, z6, z7, z8, z9, z10⟩ := cz11 HB14.out
          go_wp2_with fail
          go_roundw
          case rel => exact ⟨k + 1, es2, by go_num, by omega, by omega, HINV2, HXI2, HM7, HS7⟩
          case measure => simp [intOf]; omega
        · obtain rfl : k = 20 := by omega
          have h1'' : (20 : Int) < (len : Int) := by omega
          have HINV2 := Aside0.mk (HINV.out.sub (clear_sub es openB))
          have HXI2 := Aside0.mk (clear_keeps (q := openB) HXI.out (by unfold openB; have := HGL.out; unfold lockB at this; rw [this]; rfl))
          have HLK := Aside0.mk (all_locked (es := es))
          have HSF := Aside0.mk (hits_self (may_okS HGM.out))
          have HF := Aside0.mk (HINV2.out.find HXI2.out HSF.out)
          have HD1 := Aside0.mk (show ((plL (clearQ es openB) (fun e => hitsB e g.f2 g.f1)).length : Int) = 1 by rw [HINV2.out.one HXI2.out HSF.out]; rfl)
          go_wp2_with fail
          refine (tl_dall HM.out).mono ?_
          rintro x0 w6 ⟨rfl, hM, hg⟩
          have HS6 := Aside0.mk ((hg.block _ (blk_lt HS5.out) (fun e => HRN5.out (Option.some.inj e))).trans HS5.out)
          generalize clearQ es openB = es2 at HINV2 HXI2 HLK HF HD1 hM
          have HM6 := Aside0.mk hM
          clear hM hg HM HS5 HINV HXI
          obtain ⟨q0, q1, q2, q3, q4, q5, q6, q7, q8, q9, q10⟩ := cz11 HS6.out
          go_wp2_with fail
          refine (tl_find_some HM6.out HINV2.out.ok g.f2 g.f1 HGW.out.v i g HF.out HXI2.out).mono ?_
          rintro x0 w7 ⟨rfl, hg⟩
          have HG7 := Aside0.mk (grown_two hg (World.grownBy_alloc w7 (.cells (entA g) 26) none))
          have HS7 := Aside0.mk (blk_grown HS6.out HG7.out)
          have HB14 := Aside0.mk (heap_alloc_new w7 (.cells (entA g) 26))
          have HM7 := Aside0.mk (HM6.out.same HG7.out)
          clear hg HM6 HS6 HG7 q0 q1 q2 q3 q4 q5 q6 q7 q8 q9 q10
          obtain ⟨q0, q1, q2, q3, q4, q5, q6, q7, q8, q9, q10⟩ := cz11 HS7.out
          obtain ⟨z0, z1, z2, z3, z4, z5, z6, z7, z8, z9, z10⟩ := cz11 HB14.out
          go_wp2_with fail
          refine (tl_locked HM7.out _ rfl).mono ?_
          rintro x0 w8 ⟨rfl, hM, hg⟩
          have HM8 := Aside0.mk hM
          have HS8 := Aside0.mk (blk_grown HS7.out hg)
          clear hM hg HM7 HS7 HB14 q0 q1 q2 q3 q4 q5 q6 q7 q8 q9 q10 z0 z1 z2 z3 z4 z5 z6 z7 z8 z9 z10
          rw [HLK.out]
          go_wp2_with fail
          refine (tl_list HM8.out).mono ?_
          rintro x0 w9 ⟨⟨v0, rfl, hO⟩, hg⟩
          obtain ⟨Al, cl, rfl, _, _⟩ := Kd.R_reads hO
          have HM9 := Aside0.mk (HM8.out.same hg)
          have HS9 := Aside0.mk (blk_grown HS8.out hg)
          clear hO hg HM8 HS8
          obtain ⟨q0, q1, q2, q3, q4, q5, q6, q7, q8, q9, q10⟩ := cz11 HS9.out
          go_wp2_with fail
          refine (tl_dpage HM9.out HINV2.out.ok g.f2 g.f1 HGW.out.v).mono ?_
          rintro x0 w10 ⟨rfl, hM, hg⟩
          rw [HD1.out]
          have HMe := Aside0.mk hM
          clear hM hg HM9 HS9 q0 q1 q2 q3 q4 q5 q6 q7 q8 q9 q10
          go_wp2_with fail
          refine (HLF.out _).mono ?_
          rintro x0 wl ⟨rfl, hg⟩
          have HE := Aside0.mk (HMe.out.same hg).below
          clear hg
          go_wp2
          go_ret
          exact ⟨rfl, HE.out⟩
      · obtain rfl : k = len := by omega
        have HINV2 := Aside0.mk (HINV.out.sub (clear_sub es openB))
        have HXI2 := Aside0.mk (clear_keeps (q := openB) HXI.out (by unfold openB; have := HGL.out; unfold lockB at this; rw [this]; rfl))
        have HLK := Aside0.mk (all_locked (es := es))
        have HSF := Aside0.mk (hits_self (may_okS HGM.out))
        have HF := Aside0.mk (HINV2.out.find HXI2.out HSF.out)
        have HD1 := Aside0.mk (show ((plL (clearQ es openB) (fun e => hitsB e g.f2 g.f1)).length : Int) = 1 by rw [HINV2.out.one HXI2.out HSF.out]; rfl)
        go_wp2_with fail
        refine (tl_dall HM.out).mono ?_
        rintro x0 w6 ⟨rfl, hM, hg⟩
        have HS6 := Aside0.mk ((hg.block _ (blk_lt HS5.out) (fun e => HRN5.out (Option.some.inj e))).trans HS5.out)
        generalize clearQ es openB = es2 at HINV2 HXI2 HLK HF HD1 hM
        have HM6 := Aside0.mk hM
        clear hM hg HM HS5 HINV HXI
        obtain ⟨q0, q1, q2, q3, q4, q5, q6, q7, q8, q9, q10⟩ := cz11 HS6.out
        go_wp2_with fail
        refine (tl_find_some HM6.out HINV2.out.ok g.f2 g.f1 HGW.out.v i g HF.out HXI2.out).mono ?_
        rintro x0 w7 ⟨rfl, hg⟩
        have HG7 := Aside0.mk (grown_two hg (World.grownBy_alloc w7 (.cells (entA g) 26) none))
        have HS7 := Aside0.mk (blk_grown HS6.out HG7.out)
        have HB14 := Aside0.mk (heap_alloc_new w7 (.cells (entA g) 26))
        have HM7 := Aside0.mk (HM6.out.same HG7.out)
        clear hg HM6 HS6 HG7 q0 q1 q2 q3 q4 q5 q6 q7 q8 q9 q10
        obtain ⟨q0, q1, q2, q3, q4, q5, q6, q7, q8, q9, q10⟩ := cz11 HS7.out
        obtain ⟨z0, z1, z2, z3, z4, z5, z6, z7, z8, z9, z10⟩ := cz11 HB14.out
        go_wp2_with fail
        refine (tl_locked HM7.out _ rfl).mono ?_
        rintro x0 w8 ⟨rfl, hM, hg⟩
        have HM8 := Aside0.mk hM
        have HS8 := Aside0.mk (blk_grown HS7.out hg)
        clear hM hg HM7 HS7 HB14 q0 q1 q2 q3 q4 q5 q6 q7 q8 q9 q10 z0 z1 z2 z3 z4 z5 z6 z7 z8 z9 z10
        rw [HLK.out]
        go_wp2_with fail
        refine (tl_list HM8.out).mono ?_
        rintro x0 w9 ⟨⟨v0, rfl, hO⟩, hg⟩
        obtain ⟨Al, cl, rfl, _, _⟩ := Kd.R_reads hO
        have HM9 := Aside0.mk (HM8.out.same hg)
        have HS9 := Aside0.mk (blk_grown HS8.out hg)
        clear hO hg HM8 HS8
        obtain ⟨q0, q1, q2, q3, q4, q5, q6, q7, q8, q9, q10⟩ := cz11 HS9.out
        go_wp2_with fail
        refine (tl_dpage HM9.out HINV2.out.ok g.f2 g.f1 HGW.out.v).mono ?_
        rintro x0 w10 ⟨rfl, hM, hg⟩
        rw [HD1.out]
        have HMe := Aside0.mk hM
        clear hM hg HM9 HS9 q0 q1 q2 q3 q4 q5 q6 q7 q8 q9 q10
        go_wp2_with fail
        refine (HLF.out _).mono ?_
        rintro x0 wl ⟨rfl, hg⟩
        have HE := Aside0.mk (HMe.out.same hg).below
        clear hg
        go_wp2
        go_ret
        exact ⟨rfl, HE.out⟩
end
end Go.Proofs.Ythclbckkfgmbaaa.QTlbPlays
