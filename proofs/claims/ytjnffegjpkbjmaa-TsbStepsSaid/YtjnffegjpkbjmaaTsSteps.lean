/- TsbSteps: while an entry is put step by step, the one that stood there is found at first, then none, then the new one. -/
import Derived.Test.YtjnffegjpkbjmaaTsEn
namespace Go.Proofs.Ytjnffegjpkbjmaa.Mem
open Go.RowKit Go.Maps Go.Proofs.YtjnffegjpkbjmaaW.PrintWords Go.Proofs.YtjnffegjpkbjmaaW.PrintLast Go.Proofs.YtjnffegjpkbjmaaW.PrintMore Go.Proofs.Ytjnffegjpkbjmaa.QTsbSteps Go.Proofs.Ytjnffegjpkbjmaa.Pure
set_option linter.unusedSimpArgs false
set_option linter.unusedVariables false
section
set_option maxHeartbeats 2000000
set_option maxRecDepth 100000
theorem tsbSteps_calls (size grade : Int) (a b : Ent) (W : World) (hs : (Lit.int .i64 size).wf = true) (hgr : (Lit.int .i64 grade).wf = true) (ha : EntW a) (hb : EntW b) :
    Calls Try.prog 5 #[.int .i64 size, .int .i64 grade, .agg (entA a), .agg (entA b)] W fun e W' => e = .returned (.bool true) ∧ Below W.heap.size W W' := by
  have hu := Try.underlying50
  have hu2 := Try.underlying44
  have hg := grown_two (World.grownBy_alloc W (.cells (entA a) 50) none) (World.grownBy_alloc (W.alloc (.cells (entA a) 50)) (.cells (entA b) 50) none)
  have HG := Aside0.mk hg
  have HB6 := Aside0.mk (blk_grown (heap_alloc_new W (.cells (entA a) 50)) (World.grownBy_alloc (W.alloc (.cells (entA a) 50)) (.cells (entA b) 50) none))
  have HB7 := Aside0.mk (heap_alloc_new (W.alloc (.cells (entA a) 50)) (.cells (entA b) 50))
  rw [World.size_alloc] at HB7
  have HWA := Aside0.mk ha
  have HWB := Aside0.mk hb
  clear ha hb hg
  go_enter Try.func5, Try.ntmps5
  go_wp2_with fail
  refine (begin_calls (below_of_grown HG.out) HG.out.size size grade).mono ?_
  rintro x0 w1 ⟨p, mb, pt, A, c, rfl, _, ⟨D, hM, hD, _⟩, hT, hpt, hp, hmb, hg⟩
  have HM := Aside0.mk hM
  have HD := Aside0.mk hD
  have HT := Aside0.mk hT
  have HPM := Aside0.mk (Nat.le_trans HG.out.size hmb)
  replace HB6 := Aside0.mk (blk_grown HB6.out hg)
  replace HB7 := Aside0.mk (blk_grown HB7.out hg)
  replace HG := Aside0.mk (grown_two HG.out hg)
  have HTB := Aside0.mk (tb_begin _ _ (ar4_lt size) (ar4_lt grade))
  clear hM hD hT hpt hp hmb hg
  generalize plcs (ar4 size) (ar4 grade) = N at HM HD HT HTB ⊢
  generalize ar4 size = s at HM HD HT HTB ⊢
  generalize ar4 grade = gr at HT ⊢
  have hg := World.grownBy_alloc w1 (.cells #[.int .i64 s, .int .i64 N, .slice A 0 c] 44) none
  have HB10 := Aside0.mk (heap_alloc_new w1 (.cells #[.int .i64 s, .int .i64 N, .slice A 0 c] 44))
  replace HB6 := Aside0.mk (blk_grown HB6.out hg)
  replace HB7 := Aside0.mk (blk_grown HB7.out hg)
  replace HT := Aside0.mk (blk_grown HT.out hg)
  replace HG := Aside0.mk (grown_two HG.out hg)
  replace HM := Aside0.mk (HM.out.same hg)
  clear hg
  obtain ⟨z0, z1, z2, z3, z4, z5, z6, z7, z8, z9, z10⟩ := tte_Read.cz11 HB6.out
  obtain ⟨q0, q1, q2⟩ := cz3q HB10.out
  go_wp2_with fail
  clear z0 z1 z2 z3 z4 z5 z6 z7 z8 z9 z10 q0 q1 q2 HB6
  generalize w1.heap.size = h10 at HB10  ⊢
  refine (entry_calls a HWA.out s HTB.out.hs _).mono ?_
  rintro x0 w2 ⟨rfl, hg⟩
  have HX := Aside0.mk (geE_ok s a HTB.out.hs)
  have HXS := Aside0.mk (show (geE s a).s = s from rfl)
  generalize geE s a = x at HX HXS ⊢
  replace HB7 := Aside0.mk (blk_grown HB7.out hg)
  replace HB10 := Aside0.mk (blk_grown HB10.out hg)
  replace HT := Aside0.mk (blk_grown HT.out hg)
  replace HG := Aside0.mk (grown_two HG.out hg)
  replace HM := Aside0.mk (HM.out.same hg)
  clear hg
  clear HWA
  have hg := World.grownBy_alloc w2 (.cells (geA x) 50) none
  have HB11 := Aside0.mk (heap_alloc_new w2 (.cells (geA x) 50))
  replace HB7 := Aside0.mk (blk_grown HB7.out hg)
  replace HB10 := Aside0.mk (blk_grown HB10.out hg)
  replace HT := Aside0.mk (blk_grown HT.out hg)
  replace HG := Aside0.mk (grown_two HG.out hg)
  replace HM := Aside0.mk (HM.out.same hg)
  clear hg
  obtain ⟨z0, z1, z2, z3, z4, z5, z6, z7, z8, z9, z10⟩ := tte_Read.cz11 HB7.out
  obtain ⟨q0, q1, q2⟩ := cz3q HB10.out
  go_wp2_with fail
  clear z0 z1 z2 z3 z4 z5 z6 z7 z8 z9 z10 q0 q1 q2 HB7 HB10
  generalize w2.heap.size = h11 at HB11  ⊢
  refine (entry_calls b HWB.out s HTB.out.hs _).mono ?_
  rintro x0 w3 ⟨rfl, hg⟩
  have HY := Aside0.mk (geE_ok s b HTB.out.hs)
  have HYS := Aside0.mk (show (geE s b).s = s from rfl)
  generalize geE s b = y0 at HY HYS ⊢
  replace HB11 := Aside0.mk (blk_grown HB11.out hg)
  replace HT := Aside0.mk (blk_grown HT.out hg)
  replace HG := Aside0.mk (grown_two HG.out hg)
  replace HM := Aside0.mk (HM.out.same hg)
  clear hg
  clear HWB
  have HNE := Aside0.mk (blk_lt HB11.out)
  obtain ⟨z0, z1, z2, z3, z4, z5, z6, z7, z8, z9, z10⟩ := tte_Read.cz11 (blk_grown HB11.out (World.grownBy_alloc w3 (.cells (geA y0) 50) none))
  obtain ⟨u0, u1, u2, u3, u4, u5, u6, u7, u8, u9, u10⟩ := tte_Read.cz11 (heap_alloc_new w3 (.cells (geA y0) 50))
  go_upto_region 7 with fail
  clear z0 z1 z2 z3 z4 z5 z6 z7 z8 z9 z10 u0 u1 u2 u3 u4 u5 u6 u7 u8 u9 u10
  have HYN := Aside0.mk (GE_withV HX.out HY.out (HXS.out.trans HYS.out.symm))
  have HYNS := Aside0.mk (show (GE.mk y0.s y0.c x.v y0.p y0.w y0.pr y0.x y0.l y0.g y0.q).s = s from HYS.out)
  have HYV := Aside0.mk (show (GE.mk y0.s y0.c x.v y0.p y0.w y0.pr y0.x y0.l y0.g y0.q).v = x.v from rfl)
  have hc : #[.int .i64 y0.s, .int .i64 y0.c, .int .u64 x.v, .int .u64 y0.p, .bool y0.w, .bool y0.pr, .bool y0.x, .bool y0.l, .bool y0.g, .bool y0.q, .bool true] = geA (GE.mk y0.s y0.c x.v y0.p y0.w y0.pr y0.x y0.l y0.g y0.q) := rfl
  generalize GE.mk y0.s y0.c x.v y0.p y0.w y0.pr y0.x y0.l y0.g y0.q = y at HYN HYNS HYV hc
  rw [hc]
  clear hc HY HYS
  have hg := World.grownBy_alloc w3 (.cells (geA y) 50) none
  have HB12 := Aside0.mk (heap_alloc_new w3 (.cells (geA y) 50))
  replace HB11 := Aside0.mk (blk_grown HB11.out hg)
  replace HT := Aside0.mk (blk_grown HT.out hg)
  replace HG := Aside0.mk (grown_two HG.out hg)
  replace HM := Aside0.mk (HM.out.same hg)
  clear hg
  generalize w3.alloc (.cells (geA y) 50) = w4 at HB11 HB12 HT HG HM ⊢
  generalize w3.heap.size = h12 at HB12 HNE ⊢
  obtain ⟨z0, z1, z2, z3, z4, z5, z6, z7, z8, z9, z10⟩ := tte_Read.cz11 HB11.out
  obtain ⟨u0, u1, u2, u3, u4, u5, u6, u7, u8, u9, u10⟩ := tte_Read.cz11 HB12.out
  go_wp2_with fail
  clear z0 z1 z2 z3 z4 z5 z6 z7 z8 z9 z10 u0 u1 u2 u3 u4 u5 u6 u7 u8 u9 u10
  refine (q_insert HTB.out HM.out HD.out HT.out x HX.out HXS.out (by have := HTB.out.hN; omega)).mono ?_
  rintro x0 w5 ⟨rfl, ⟨D1, hM, hD, _⟩, hg⟩
  have HIX := Aside0.mk (show plcOf N (s : Int) x.v = plcOf N (s : Int) x.v from rfl)
  have HIY := Aside0.mk (show plcOf N (s : Int) y.v = plcOf N (s : Int) x.v by rw [HYV.out])
  replace HB11 := Aside0.mk ((hg.block _ (blk_lt HB11.out) (fun e => HM.out.nb _ _ _ HB11.out (Option.some.inj e))).trans HB11.out)
  replace HB12 := Aside0.mk ((hg.block _ (blk_lt HB12.out) (fun e => HM.out.nb _ _ _ HB12.out (Option.some.inj e))).trans HB12.out)
  replace HT := Aside0.mk ((hg.block _ (blk_lt HT.out) (fun e => HM.out.nb _ _ _ HT.out (Option.some.inj e))).trans HT.out)
  replace HG := Aside0.mk (grown_loc HG.out hg HPM.out)
  replace HM := Aside0.mk hM
  replace HD := Aside0.mk hD
  clear hM hD hg
  generalize hi : plcOf N (s : Int) x.v = i at HD HIY
  replace HIX := Aside0.mk hi
  clear hi
  obtain ⟨z0, z1, z2, z3, z4, z5, z6, z7, z8, z9, z10⟩ := tte_Read.cz11 HB11.out
  obtain ⟨u0, u1, u2, u3, u4, u5, u6, u7, u8, u9, u10⟩ := tte_Read.cz11 HB12.out
  go_wp2_with fail
  refine (q_find_own HTB.out HM.out HD.out HT.out x HX.out HXS.out (by rw [HIX.out, setW_at])).mono ?_
  rintro x0 w6 ⟨rfl, hg⟩
  clear z0 z1 z2 z3 z4 z5 z6 z7 z8 z9 z10 u0 u1 u2 u3 u4 u5 u6 u7 u8 u9 u10
  replace HB11 := Aside0.mk (blk_grown HB11.out hg)
  replace HB12 := Aside0.mk (blk_grown HB12.out hg)
  replace HT := Aside0.mk (blk_grown HT.out hg)
  replace HG := Aside0.mk (grown_two HG.out hg)
  replace HM := Aside0.mk (HM.out.same hg)
  clear hg
  have HN1 := Aside0.mk (And.intro (blk_lt HB11.out) (blk_lt HB12.out))
  have hg := World.grownBy_alloc w6 (.cells (geA x) 50) none
  have HB13 := Aside0.mk (heap_alloc_new w6 (.cells (geA x) 50))
  replace HB11 := Aside0.mk (blk_grown HB11.out hg)
  replace HB12 := Aside0.mk (blk_grown HB12.out hg)
  replace HT := Aside0.mk (blk_grown HT.out hg)
  replace HG := Aside0.mk (grown_two HG.out hg)
  replace HM := Aside0.mk (HM.out.same hg)
  clear hg
  obtain ⟨z0, z1, z2, z3, z4, z5, z6, z7, z8, z9, z10⟩ := tte_Read.cz11 HB11.out
  obtain ⟨u0, u1, u2, u3, u4, u5, u6, u7, u8, u9, u10⟩ := tte_Read.cz11 HB12.out
  go_wp2_with fail
  generalize w6.heap.size = h13 at HB13 HN1 ⊢
  refine (q_lock HTB.out HM.out HD.out HT.out y.v HYN.out.hv (by have := HTB.out.hN; omega)).mono ?_
  rintro x0 w7 ⟨rfl, ⟨D2, hM, hD, _⟩, hg⟩
  rw [HIY.out, setW_at, setW_two] at hD
  clear z0 z1 z2 z3 z4 z5 z6 z7 z8 z9 z10 u0 u1 u2 u3 u4 u5 u6 u7 u8 u9 u10
  replace HB11 := Aside0.mk ((hg.block _ (blk_lt HB11.out) (fun e => HM.out.nb _ _ _ HB11.out (Option.some.inj e))).trans HB11.out)
  replace HB12 := Aside0.mk ((hg.block _ (blk_lt HB12.out) (fun e => HM.out.nb _ _ _ HB12.out (Option.some.inj e))).trans HB12.out)
  replace HB13 := Aside0.mk ((hg.block _ (blk_lt HB13.out) (fun e => HM.out.nb _ _ _ HB13.out (Option.some.inj e))).trans HB13.out)
  replace HT := Aside0.mk ((hg.block _ (blk_lt HT.out) (fun e => HM.out.nb _ _ _ HT.out (Option.some.inj e))).trans HT.out)
  replace HG := Aside0.mk (grown_loc HG.out hg HPM.out)
  replace HM := Aside0.mk hM
  replace HD := Aside0.mk hD
  clear hM hD hg
  obtain ⟨z0, z1, z2, z3, z4, z5, z6, z7, z8, z9, z10⟩ := tte_Read.cz11 HB11.out
  obtain ⟨u0, u1, u2, u3, u4, u5, u6, u7, u8, u9, u10⟩ := tte_Read.cz11 HB12.out
  go_wp2_with fail
  refine (q_find_no HTB.out HM.out HD.out HT.out x.v HX.out.hv x.c (by rw [HIX.out, setW_at])).mono ?_
  rintro x0 w8 ⟨rfl, hg⟩
  clear z0 z1 z2 z3 z4 z5 z6 z7 z8 z9 z10 u0 u1 u2 u3 u4 u5 u6 u7 u8 u9 u10
  replace HB11 := Aside0.mk (blk_grown HB11.out hg)
  replace HB12 := Aside0.mk (blk_grown HB12.out hg)
  replace HB13 := Aside0.mk (blk_grown HB13.out hg)
  replace HT := Aside0.mk (blk_grown HT.out hg)
  replace HG := Aside0.mk (grown_two HG.out hg)
  replace HM := Aside0.mk (HM.out.same hg)
  clear hg
  have hg := World.grownBy_alloc w8 (.cells #[.int .i64 0, .int .i64 0, .int .u64 0, .int .u64 0, .bool false, .bool false, .bool false, .bool false, .bool false, .bool false, .bool false] 50) none
  have HB15 := Aside0.mk (heap_alloc_new w8 (.cells #[.int .i64 0, .int .i64 0, .int .u64 0, .int .u64 0, .bool false, .bool false, .bool false, .bool false, .bool false, .bool false, .bool false] 50))
  replace HB11 := Aside0.mk (blk_grown HB11.out hg)
  replace HB12 := Aside0.mk (blk_grown HB12.out hg)
  replace HB13 := Aside0.mk (blk_grown HB13.out hg)
  replace HT := Aside0.mk (blk_grown HT.out hg)
  replace HG := Aside0.mk (grown_two HG.out hg)
  replace HM := Aside0.mk (HM.out.same hg)
  clear hg
  obtain ⟨z0, z1, z2, z3, z4, z5, z6, z7, z8, z9, z10⟩ := tte_Read.cz11 HB11.out
  obtain ⟨u0, u1, u2, u3, u4, u5, u6, u7, u8, u9, u10⟩ := tte_Read.cz11 HB12.out
  go_wp2_with fail
  clear HB15
  refine (q_data HTB.out HM.out HD.out HT.out y HYN.out HYNS.out (by have := HTB.out.hN; omega)).mono ?_
  rintro x0 w9 ⟨rfl, ⟨D3, hM, hD, _⟩, hg⟩
  rw [HIY.out, setW_at, setW_two] at hD
  clear z0 z1 z2 z3 z4 z5 z6 z7 z8 z9 z10 u0 u1 u2 u3 u4 u5 u6 u7 u8 u9 u10
  replace HB11 := Aside0.mk ((hg.block _ (blk_lt HB11.out) (fun e => HM.out.nb _ _ _ HB11.out (Option.some.inj e))).trans HB11.out)
  replace HB12 := Aside0.mk ((hg.block _ (blk_lt HB12.out) (fun e => HM.out.nb _ _ _ HB12.out (Option.some.inj e))).trans HB12.out)
  replace HB13 := Aside0.mk ((hg.block _ (blk_lt HB13.out) (fun e => HM.out.nb _ _ _ HB13.out (Option.some.inj e))).trans HB13.out)
  replace HT := Aside0.mk ((hg.block _ (blk_lt HT.out) (fun e => HM.out.nb _ _ _ HT.out (Option.some.inj e))).trans HT.out)
  replace HG := Aside0.mk (grown_loc HG.out hg HPM.out)
  replace HM := Aside0.mk hM
  replace HD := Aside0.mk hD
  clear hM hD hg
  obtain ⟨z0, z1, z2, z3, z4, z5, z6, z7, z8, z9, z10⟩ := tte_Read.cz11 HB11.out
  obtain ⟨u0, u1, u2, u3, u4, u5, u6, u7, u8, u9, u10⟩ := tte_Read.cz11 HB12.out
  go_wp2_with fail
  refine (q_find_no HTB.out HM.out HD.out HT.out y.v HYN.out.hv y.c (by rw [HIY.out, setW_at])).mono ?_
  rintro x0 w10 ⟨rfl, hg⟩
  clear z0 z1 z2 z3 z4 z5 z6 z7 z8 z9 z10 u0 u1 u2 u3 u4 u5 u6 u7 u8 u9 u10
  replace HB11 := Aside0.mk (blk_grown HB11.out hg)
  replace HB12 := Aside0.mk (blk_grown HB12.out hg)
  replace HB13 := Aside0.mk (blk_grown HB13.out hg)
  replace HT := Aside0.mk (blk_grown HT.out hg)
  replace HG := Aside0.mk (grown_two HG.out hg)
  replace HM := Aside0.mk (HM.out.same hg)
  clear hg
  have hg := World.grownBy_alloc w10 (.cells #[.int .i64 0, .int .i64 0, .int .u64 0, .int .u64 0, .bool false, .bool false, .bool false, .bool false, .bool false, .bool false, .bool false] 50) none
  have HB18 := Aside0.mk (heap_alloc_new w10 (.cells #[.int .i64 0, .int .i64 0, .int .u64 0, .int .u64 0, .bool false, .bool false, .bool false, .bool false, .bool false, .bool false, .bool false] 50))
  replace HB11 := Aside0.mk (blk_grown HB11.out hg)
  replace HB12 := Aside0.mk (blk_grown HB12.out hg)
  replace HB13 := Aside0.mk (blk_grown HB13.out hg)
  replace HT := Aside0.mk (blk_grown HT.out hg)
  replace HG := Aside0.mk (grown_two HG.out hg)
  replace HM := Aside0.mk (HM.out.same hg)
  clear hg
  obtain ⟨z0, z1, z2, z3, z4, z5, z6, z7, z8, z9, z10⟩ := tte_Read.cz11 HB11.out
  obtain ⟨u0, u1, u2, u3, u4, u5, u6, u7, u8, u9, u10⟩ := tte_Read.cz11 HB12.out
  go_wp2_with fail
  clear HB18
  refine (q_tag HTB.out HM.out HD.out HT.out y HYN.out HYNS.out (by have := HTB.out.hN; omega)).mono ?_
  rintro x0 w11 ⟨rfl, ⟨D4, hM, hD, _⟩, hg⟩
  rw [HIY.out, setW_at, setW_two] at hD
  clear z0 z1 z2 z3 z4 z5 z6 z7 z8 z9 z10 u0 u1 u2 u3 u4 u5 u6 u7 u8 u9 u10
  replace HB11 := Aside0.mk ((hg.block _ (blk_lt HB11.out) (fun e => HM.out.nb _ _ _ HB11.out (Option.some.inj e))).trans HB11.out)
  replace HB12 := Aside0.mk ((hg.block _ (blk_lt HB12.out) (fun e => HM.out.nb _ _ _ HB12.out (Option.some.inj e))).trans HB12.out)
  replace HB13 := Aside0.mk ((hg.block _ (blk_lt HB13.out) (fun e => HM.out.nb _ _ _ HB13.out (Option.some.inj e))).trans HB13.out)
  replace HT := Aside0.mk ((hg.block _ (blk_lt HT.out) (fun e => HM.out.nb _ _ _ HT.out (Option.some.inj e))).trans HT.out)
  replace HG := Aside0.mk (grown_loc HG.out hg HPM.out)
  replace HM := Aside0.mk hM
  replace HD := Aside0.mk hD
  clear hM hD hg
  obtain ⟨z0, z1, z2, z3, z4, z5, z6, z7, z8, z9, z10⟩ := tte_Read.cz11 HB11.out
  obtain ⟨u0, u1, u2, u3, u4, u5, u6, u7, u8, u9, u10⟩ := tte_Read.cz11 HB12.out
  go_wp2_with fail
  refine (q_find_own HTB.out HM.out HD.out HT.out y HYN.out HYNS.out (by rw [HIY.out, setW_at])).mono ?_
  rintro x0 w12 ⟨rfl, hg⟩
  clear z0 z1 z2 z3 z4 z5 z6 z7 z8 z9 z10 u0 u1 u2 u3 u4 u5 u6 u7 u8 u9 u10
  replace HB11 := Aside0.mk (blk_grown HB11.out hg)
  replace HB12 := Aside0.mk (blk_grown HB12.out hg)
  replace HB13 := Aside0.mk (blk_grown HB13.out hg)
  replace HT := Aside0.mk (blk_grown HT.out hg)
  replace HG := Aside0.mk (grown_two HG.out hg)
  replace HM := Aside0.mk (HM.out.same hg)
  clear hg
  have hg := World.grownBy_alloc w12 (.cells (geA y) 50) none
  have HB21 := Aside0.mk (heap_alloc_new w12 (.cells (geA y) 50))
  replace HB11 := Aside0.mk (blk_grown HB11.out hg)
  replace HB12 := Aside0.mk (blk_grown HB12.out hg)
  replace HB13 := Aside0.mk (blk_grown HB13.out hg)
  replace HT := Aside0.mk (blk_grown HT.out hg)
  replace HG := Aside0.mk (grown_two HG.out hg)
  replace HM := Aside0.mk (HM.out.same hg)
  clear hg
  obtain ⟨z0, z1, z2, z3, z4, z5, z6, z7, z8, z9, z10⟩ := tte_Read.cz11 HB11.out
  obtain ⟨u0, u1, u2, u3, u4, u5, u6, u7, u8, u9, u10⟩ := tte_Read.cz11 HB12.out
  obtain ⟨v0, v1, v2, v3, v4, v5, v6, v7, v8, v9, v10⟩ := tte_Read.cz11 HB13.out
  obtain ⟨r0, r1, r2, r3, r4, r5, r6, r7, r8, r9, r10⟩ := tte_Read.cz11 HB21.out

  go_wp2_with (go_at_call 26; refine (lives10 _).mono ?_; rintro e w13 ⟨rfl, hg⟩; replace HG := Aside0.mk (grown_two HG.out hg); clear hg)
  go_ret
  exact ⟨rfl, below_of_grown HG.out⟩
end
end Go.Proofs.Ytjnffegjpkbjmaa.Mem
