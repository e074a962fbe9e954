/- CpuLooks: what was inserted is looked up at each address of its page, by its unit alone; at whatever numbers. -/
import Derived.Test.YthclbckkfgmbaaaCp1
import Derived.Test.YthclbckkfgmbaaaCpOpen
namespace Go.Proofs.Ythclbckkfgmbaaa.QTlbPlays
open Go.RowKit Go.Proofs.YthclbckkfgmbaaaW.PrintWords Go.Proofs.YthclbckkfgmbaaaW.PrintLast Go.Proofs.YthclbckkfgmbaaaW.PrintMore
set_option linter.unusedSimpArgs false
set_option linter.unusedVariables false
section
set_option maxHeartbeats 1000000
set_option maxRecDepth 100000
theorem cpuLooks_calls (e : Ent) (x : Acc) (ctx : Int) (W : World) (he : EntW e) (hx : AccW x) (hc : (Lit.int .i64 ctx).wf = true) :
    Calls Try.prog 10 #[.agg (entA e), .agg #[.int .i64 x.f0, .bool x.f1, .int .u64 x.f2], .int .i64 ctx] W fun x W' => x = .returned (.bool true) ∧ Below W.heap.size W W' := by
  have hu := Try.underlying26
  have hu2 := Try.underlying24
  have hu3 := Try.underlying61
  have hg0 := grown_two (World.grownBy_alloc W (.cells (entA e) 26) none) (World.grownBy_alloc (W.alloc (.cells (entA e) 26)) (.cells #[.int .i64 x.f0, .bool x.f1, .int .u64 x.f2] 61) none)
  have HB3 := Aside0.mk (blk_grown (heap_alloc_new W (.cells (entA e) 26)) (World.grownBy_alloc (W.alloc (.cells (entA e) 26)) (.cells #[.int .i64 x.f0, .bool x.f1, .int .u64 x.f2] 61) none))
  have HB4 := Aside0.mk (show ((W.alloc (.cells (entA e) 26)).alloc (.cells #[.int .i64 x.f0, .bool x.f1, .int .u64 x.f2] 61)).heap[W.heap.size + 1]? = some (.cells #[.int .i64 x.f0, .bool x.f1, .int .u64 x.f2] 61 (0, 0)) by have := heap_alloc_new (W.alloc (.cells (entA e) 26)) (.cells #[.int .i64 x.f0, .bool x.f1, .int .u64 x.f2] 61); rw [World.size_alloc] at this; exact this)
  have HBL := Aside0.mk (below_of_grown hg0)
  have HWE := Aside0.mk he
  have HLF := Aside0.mk lives17
  have HS4 := Aside0.mk (show slotsOf 4 = 4 by decide)
  have HXG := Aside0.mk (rFGood x.f0 hx.k x.f1 x.f2 20)
  have hxv := u64_nat hx.v
  clear he hc hg0
  go_enter Try.func10, Try.ntmps10
  go_wp2_with fail
  refine (cpu_new HBL.out (by simp; omega) 4).mono ?_
  rintro x0 w1 ⟨q, g, p0, r0, p1, r1, N, rfl, hN, hN1, hM, hg⟩
  obtain rfl : N = 4 := hN.trans HS4.out
  have HM := Aside0.mk hM
  replace HB3 := Aside0.mk (blk_grown HB3.out hg)
  replace HB4 := Aside0.mk (blk_grown HB4.out hg)
  clear hN hN1 hM hg hx
  generalize W.heap.size = h3 at HB3 HB4 ⊢
  obtain ⟨q0, q1, q2, q3, q4, q5, q6, q7, q8, q9, q10⟩ := cz11 HB3.out
  go_wp2_with fail
  refine (good_calls HWE.out _).mono ?_
  rintro x0 w2 ⟨rfl, hg0⟩
  have HGW := Aside0.mk (goodE_W e)
  have HGM := Aside0.mk (goodE_may e)
  generalize goodE e = gg at HGW HGM ⊢
  have hg := grown_two hg0 (World.grownBy_alloc w2 (.cells (entA gg) 26) none)
  have HB8 := Aside0.mk (heap_alloc_new w2 (.cells (entA gg) 26))
  replace HM := Aside0.mk (HM.out.same hg)
  replace HB4 := Aside0.mk (blk_grown HB4.out hg)
  clear hg hg0 q0 q1 q2 q3 q4 q5 q6 q7 q8 q9 q10 HB3
  obtain ⟨y0, y1, y2⟩ := cz3 HB4.out
  go_wp2_with fail
  refine (lookasideref09_Good.calls 20 x.f0 x.f1 x.f2 false _ _ _ _ HXG.out).mono ?_
  rintro x0 w3 ⟨rfl, hb⟩
  have hg := below_grown hb
  have HNE := Aside0.mk (show w2.heap.size < w3.heap.size from Nat.lt_of_lt_of_le (blk_lt HB8.out) hg.size)
  replace HM := Aside0.mk (HM.out.same hg)
  replace HB8 := Aside0.mk (blk_grown HB8.out hg)
  clear hg hb y0 y1 y2
  obtain ⟨kn, hkn⟩ : ∃ kn : Nat, kn = kindOf x.f0 := ⟨_, rfl⟩
  have hkl : kn < 4 := by rw [hkn]; exact kindOf_lt _
  obtain ⟨pr, hpr⟩ : ∃ b, b = x.f1 := ⟨_, rfl⟩
  obtain ⟨va, hvaq⟩ : ∃ n : Nat, ((n : Int) = x.f2) := ⟨_, hxv.1⟩
  rw [← hkn, ← hpr, ← hvaq]
  clear hkn hpr hvaq hxv
  obtain ⟨o, ho⟩ : ∃ o : Nat, o = va % 8192 := ⟨_, rfl⟩
  have hip := in_page HGW.out HGM.out o (by omega)
  have hws : IntKind.u64.wrap (gg.f2 + (va : Int) % 8192) = ((gg.f2.toNat + o : Nat) : Int) := by rw [← hip.1, ho]; rfl
  have HIP := Aside0.mk hip.2
  have HOB := Aside0.mk (show o < 8192 by omega)
  have HVV := Aside0.mk (show ((gg.f2.toNat + o : Nat) : Int) = gg.f2 + (o : Int) by have := (u64_nat HGW.out.v).1; omega)
  clear hip ho
  generalize ((gg.f2.toNat + o : Nat) : Int) = v at hws HIP HVV
  have HJ := Aside0.mk (rJudge gg.f4.f0 gg.f4.f1 gg.f4.f2 gg.f4.f3 gg.f4.f4 gg.f4.f5 (kn : Int) pr v 20 (by decide))
  have hl1 := look_one (N := 4) (by decide) HGW.out HGM.out HIP.out gg.f1 (kn : Int) pr
  have hl3 := look_one (N := 4) (by decide) HGW.out HGM.out HIP.out ctx (kn : Int) pr
  have hj2 := judge_two gg.f4.f0 gg.f4.f1 gg.f4.f2 gg.f4.f5 (kn : Int) pr
  rw [show (gg.f4.f4 || gg.f1 == gg.f1) = true by simp, if_pos rfl] at hl1
  generalize judgeOf gg.f4.f0 gg.f4.f1 gg.f4.f2 gg.f4.f5 (kn : Int) pr = m at HJ hl1 hl3 hj2
  obtain ⟨pa, n, hpn⟩ : ∃ pa n, lookB (oneL 4 gg) gg.f1 (kn : Int) pr v = (pa, n) := ⟨_, _, rfl⟩
  obtain ⟨pa3, n3, hpn3⟩ : ∃ pa n, lookB (oneL 4 gg) ctx (kn : Int) pr v = (pa, n) := ⟨_, _, rfl⟩
  have HL1 := Aside0.mk hpn
  have HL3 := Aside0.mk hpn3
  rw [hpn] at hl1
  rw [hpn3] at hl3
  have HPN := Aside0.mk (show (m = 0 → pa = IntKind.u64.wrap (gg.f3 + (o : Int)) ∧ n = 0) ∧ (¬ m = 0 → pa = 0 ∧ n = m) from ⟨fun h => by rw [if_pos h] at hl1; cases hl1; exact ⟨rfl, rfl⟩, fun h => by rw [if_neg h] at hl1; cases hl1; exact ⟨rfl, rfl⟩⟩)
  have HN3 := Aside0.mk (show (n3 == 2) = !(gg.f4.f4 || gg.f1 == ctx) from by
    cases hb : (gg.f4.f4 || gg.f1 == ctx) with
    | true =>
      rw [hb, if_pos rfl] at hl3
      by_cases hm : m = 0
      · rw [if_pos hm] at hl3; cases hl3; rfl
      · rw [if_neg hm] at hl3; cases hl3; exact beq_eq_false_iff_ne.2 hj2
    | false =>
      rw [hb, if_neg (by decide)] at hl3
      cases hl3
      rfl)
  have hat : IntKind.u64.wrap (IntKind.u64.wrap (gg.f3 + v) - gg.f2) = IntKind.u64.wrap (gg.f3 + (o : Int)) := by
    rw [HVV.out]
    simp only [IntKind.wrap_u64]
    omega
  have HAT := Aside0.mk hat
  clear hl1 hl3 hj2 hpn hpn3 hat
  obtain ⟨z0, z1, z2, z3, z4, z5, z6, z7, z8, z9, z10⟩ := cz11 (blk_grown HB8.out (World.grownBy_alloc w3 (.cells #[.int .i64 (kn : Int), .bool pr, .int .u64 (va : Int)] 61) none))
  obtain ⟨y0, y1, y2⟩ := cz3 (heap_alloc_new w3 (.cells #[.int .i64 (kn : Int), .bool pr, .int .u64 (va : Int)] 61))
  go_upto_region 7 with fail
  clear z0 z1 z2 z3 z4 z5 z6 z7 z8 z9 z10 y0 y1 y2 hws
  obtain ⟨kk, hkk⟩ : ∃ kk : Int, kk = (kn : Int) := ⟨_, rfl⟩
  rw [← hkk] at HJ HL1 HL3
  rw [← hkk]
  have hg := World.grownBy_alloc w3 (.cells #[.int .i64 kk, .bool pr, .int .u64 v] 61) none
  have HB9 := Aside0.mk (heap_alloc_new w3 (.cells #[.int .i64 kk, .bool pr, .int .u64 v] 61))
  replace HM := Aside0.mk (HM.out.same hg)
  replace HB8 := Aside0.mk (blk_grown HB8.out hg)
  clear hg
  generalize w3.alloc (.cells #[.int .i64 kk, .bool pr, .int .u64 v] 61) = w4 at HB9 HM HB8 ⊢
  generalize w2.heap.size = h8 at HB8 HNE ⊢
  generalize w3.heap.size = h9 at HB9 HNE ⊢
  obtain ⟨z0, z1, z2, z3, z4, z5, z6, z7, z8, z9, z10⟩ := cz11 HB8.out
  obtain ⟨y0, y1, y2⟩ := cz3 HB9.out
  by_cases hk2 : kk = 2
  · have HU := Aside0.mk (show cpu_Unit.f kk = some 0 by rw [hk2]; rfl)
    clear hk2 hkk hkl
    go_wp2_with fail
    refine (cpu_Unit.calls kk 0 _ HU.out).mono ?_
    rintro x0 wu ⟨rfl, hb⟩
    have hg := drawn_grown hb
    clear hb
    replace HM := Aside0.mk (HM.out.same hg)
    replace HB8 := Aside0.mk (blk_grown HB8.out hg)
    replace HB9 := Aside0.mk (blk_grown HB9.out hg)
    clear hg z0 z1 z2 z3 z4 z5 z6 z7 z8 z9 z10 y0 y1 y2
    obtain ⟨z0, z1, z2, z3, z4, z5, z6, z7, z8, z9, z10⟩ := cz11 HB8.out
    obtain ⟨y0, y1, y2⟩ := cz3 HB9.out
    go_wp2_with fail
    refine (cpu_insert0 HM.out (inv_new 4).ok gg HGW.out 0 (by decide) 0 0 (oneL 4 gg) (one_ins (by decide) HGM.out 0)).mono ?_
    rintro x0 wi ⟨rfl, hM, hg⟩
    replace HB8 := Aside0.mk ((hg.block h8 (blk_lt HB8.out) (fun e => (HM.out.a.nb _ _ HB8.out).2 (Option.some.inj e))).trans HB8.out)
    replace HB9 := Aside0.mk ((hg.block h9 (blk_lt HB9.out) (fun e => HM.out.a.nt h9 _ _ (by decide) HB9.out (Option.some.inj e))).trans HB9.out)
    replace HM := Aside0.mk hM
    clear hM
    clear hg z0 z1 z2 z3 z4 z5 z6 z7 z8 z9 z10 y0 y1 y2
    obtain ⟨z0, z1, z2, z3, z4, z5, z6, z7, z8, z9, z10⟩ := cz11 HB8.out
    obtain ⟨y0, y1, y2⟩ := cz3 HB9.out
    go_wp2_with fail
    refine (cpu_look0 HM.out (one_inv (by decide) HGW.out HGM.out).ok gg.f1 kk pr v HIP.out.wf HU.out pa n HL1.out).mono ?_
    rintro x0 wl ⟨rfl, hg⟩
    replace HM := Aside0.mk (HM.out.same hg)
    replace HB8 := Aside0.mk (blk_grown HB8.out hg)
    replace HB9 := Aside0.mk (blk_grown HB9.out hg)
    clear hg z0 z1 z2 z3 z4 z5 z6 z7 z8 z9 z10 y0 y1 y2
    obtain ⟨z0, z1, z2, z3, z4, z5, z6, z7, z8, z9, z10⟩ := cz11 HB8.out
    obtain ⟨y0, y1, y2⟩ := cz3 HB9.out
    go_wp2_with fail
    refine (lookasideref09_Judge.calls 20 gg.f4.f0 gg.f4.f1 gg.f4.f2 gg.f4.f3 gg.f4.f4 gg.f4.f5 kk pr v m _ HJ.out).mono ?_
    rintro x0 wj ⟨rfl, hb⟩
    have hg := below_grown hb
    clear hb
    replace HM := Aside0.mk (HM.out.same hg)
    replace HB8 := Aside0.mk (blk_grown HB8.out hg)
    replace HB9 := Aside0.mk (blk_grown HB9.out hg)
    clear hg z0 z1 z2 z3 z4 z5 z6 z7 z8 z9 z10 y0 y1 y2
    obtain ⟨z0, z1, z2, z3, z4, z5, z6, z7, z8, z9, z10⟩ := cz11 HB8.out
    obtain ⟨y0, y1, y2⟩ := cz3 HB9.out
    by_cases hm0 : m = 0
    all_goals
      first | (have hpn := HPN.out.1 hm0; subst hm0; obtain ⟨rfl, rfl⟩ := hpn; have hat := HAT.out) | (have hmb : (m == 0) = false := beq_eq_false_iff_ne.2 hm0; obtain ⟨rfl, rfl⟩ := HPN.out.2 hm0)
      clear z0 z1 z2 z3 z4 z5 z6 z7 z8 z9 z10
      obtain ⟨z0, z1, z2, z3, z4, z5, z6, z7, z8, z9, z10⟩ := cz11 (blk_grown HB8.out (World.grownBy_alloc wj (.cells #[.int .i64 0, .bool pr, .int .u64 v] 61) none))
      have zj := cz11 HB8.out
      obtain ⟨t0, t1, t2, t3, t4, t5, t6, t7, t8, t9, t10⟩ := zj
      go_wp2_with fail
      try clear hat
      clear t0 t1 t2 t3 t4 t5 t6 t7 t8 t9 t10
      refine (cpu_look1 (HM.out.same (World.grownBy_alloc wj _ none)) (inv_new 4).ok gg.f1 0 pr v HIP.out.wf rfl 0 2 (look_none 4 HIP.out.hole gg.f1 0 pr)).mono ?_
      rintro x0 wo ⟨rfl, hgl⟩
      have hg := grown_two (World.grownBy_alloc wj _ none) hgl
      clear hgl
      replace HM := Aside0.mk (HM.out.same hg)
      replace HB8 := Aside0.mk (blk_grown HB8.out hg)
      replace HB9 := Aside0.mk (blk_grown HB9.out hg)
      clear hg z0 z1 z2 z3 z4 z5 z6 z7 z8 z9 z10 y0 y1 y2
      obtain ⟨z0, z1, z2, z3, z4, z5, z6, z7, z8, z9, z10⟩ := cz11 HB8.out
      obtain ⟨y0, y1, y2⟩ := cz3 HB9.out
      go_wp2_with fail
      refine (cpu_look0 HM.out (one_inv (by decide) HGW.out HGM.out).ok ctx kk pr v HIP.out.wf HU.out pa3 n3 HL3.out).mono ?_
      rintro x0 wk ⟨rfl, hg⟩
      replace HM := Aside0.mk (HM.out.same hg)
      replace HB8 := Aside0.mk (blk_grown HB8.out hg)
      replace HB9 := Aside0.mk (blk_grown HB9.out hg)
      clear hg z0 z1 z2 z3 z4 z5 z6 z7 z8 z9 z10 y0 y1 y2
      obtain ⟨z0, z1, z2, z3, z4, z5, z6, z7, z8, z9, z10⟩ := cz11 HB8.out
      obtain ⟨y0, y1, y2⟩ := cz3 HB9.out
      have hn3 := HN3.out
      cases hgl : gg.f4.f4 with
      | true =>
        rw [hgl] at hn3
        have hn3' : (n3 == 2) = false := hn3
        clear hn3
        go_wp2_with fail
        refine (HLF.out _).mono ?_
        rintro x0 wv ⟨rfl, hg⟩
        have HE := Aside0.mk (HM.out.same hg).a.below
        clear hg
        go_wp2
        go_ret
        exact ⟨rfl, HE.out⟩
      | false =>
        rw [hgl] at hn3
        by_cases hcx : ctx = gg.f1
        · have hn3' : (n3 == 2) = false := by rw [hn3, hcx]; simp
          have hcb : (ctx != gg.f1) = false := by simp [hcx]
          clear hn3 hcx
          go_wp2_with fail
          refine (HLF.out _).mono ?_
          rintro x0 wv ⟨rfl, hg⟩
          have HE := Aside0.mk (HM.out.same hg).a.below
          clear hg
          go_wp2
          go_ret
          exact ⟨rfl, HE.out⟩
        · have hn3' : (n3 == 2) = true := by rw [hn3]; simp; exact fun h => hcx h.symm
          have hcb : (ctx != gg.f1) = true := by simp [hcx]
          clear hn3 hcx
          go_wp2_with fail
          refine (HLF.out _).mono ?_
          rintro x0 wv ⟨rfl, hg⟩
          have HE := Aside0.mk (HM.out.same hg).a.below
          clear hg
          go_wp2
          go_ret
          exact ⟨rfl, HE.out⟩
  · have HU := Aside0.mk (show cpu_Unit.f kk = some 1 by unfold cpu_Unit.f; rw [if_neg hk2])
    clear hk2 hkk hkl
    go_wp2_with fail
    refine (cpu_Unit.calls kk 1 _ HU.out).mono ?_
    rintro x0 wu ⟨rfl, hb⟩
    have hg := drawn_grown hb
    clear hb
    replace HM := Aside0.mk (HM.out.same hg)
    replace HB8 := Aside0.mk (blk_grown HB8.out hg)
    replace HB9 := Aside0.mk (blk_grown HB9.out hg)
    clear hg z0 z1 z2 z3 z4 z5 z6 z7 z8 z9 z10 y0 y1 y2
    obtain ⟨z0, z1, z2, z3, z4, z5, z6, z7, z8, z9, z10⟩ := cz11 HB8.out
    obtain ⟨y0, y1, y2⟩ := cz3 HB9.out
    go_wp2_with fail
    refine (cpu_insert1 HM.out (inv_new 4).ok gg HGW.out 0 (by decide) 0 0 (oneL 4 gg) (one_ins (by decide) HGM.out 0)).mono ?_
    rintro x0 wi ⟨rfl, hM, hg⟩
    replace HB8 := Aside0.mk ((hg.block h8 (blk_lt HB8.out) (fun e => (HM.out.b.nb _ _ HB8.out).2 (Option.some.inj e))).trans HB8.out)
    replace HB9 := Aside0.mk ((hg.block h9 (blk_lt HB9.out) (fun e => HM.out.b.nt h9 _ _ (by decide) HB9.out (Option.some.inj e))).trans HB9.out)
    replace HM := Aside0.mk hM
    clear hM
    clear hg z0 z1 z2 z3 z4 z5 z6 z7 z8 z9 z10 y0 y1 y2
    obtain ⟨z0, z1, z2, z3, z4, z5, z6, z7, z8, z9, z10⟩ := cz11 HB8.out
    obtain ⟨y0, y1, y2⟩ := cz3 HB9.out
    go_wp2_with fail
    refine (cpu_look1 HM.out (one_inv (by decide) HGW.out HGM.out).ok gg.f1 kk pr v HIP.out.wf HU.out pa n HL1.out).mono ?_
    rintro x0 wl ⟨rfl, hg⟩
    replace HM := Aside0.mk (HM.out.same hg)
    replace HB8 := Aside0.mk (blk_grown HB8.out hg)
    replace HB9 := Aside0.mk (blk_grown HB9.out hg)
    clear hg z0 z1 z2 z3 z4 z5 z6 z7 z8 z9 z10 y0 y1 y2
    obtain ⟨z0, z1, z2, z3, z4, z5, z6, z7, z8, z9, z10⟩ := cz11 HB8.out
    obtain ⟨y0, y1, y2⟩ := cz3 HB9.out
    go_wp2_with fail
    refine (lookasideref09_Judge.calls 20 gg.f4.f0 gg.f4.f1 gg.f4.f2 gg.f4.f3 gg.f4.f4 gg.f4.f5 kk pr v m _ HJ.out).mono ?_
    rintro x0 wj ⟨rfl, hb⟩
    have hg := below_grown hb
    clear hb
    replace HM := Aside0.mk (HM.out.same hg)
    replace HB8 := Aside0.mk (blk_grown HB8.out hg)
    replace HB9 := Aside0.mk (blk_grown HB9.out hg)
    clear hg z0 z1 z2 z3 z4 z5 z6 z7 z8 z9 z10 y0 y1 y2
    obtain ⟨z0, z1, z2, z3, z4, z5, z6, z7, z8, z9, z10⟩ := cz11 HB8.out
    obtain ⟨y0, y1, y2⟩ := cz3 HB9.out
    by_cases hm0 : m = 0
    all_goals
      first | (have hpn := HPN.out.1 hm0; subst hm0; obtain ⟨rfl, rfl⟩ := hpn; have hat := HAT.out) | (have hmb : (m == 0) = false := beq_eq_false_iff_ne.2 hm0; obtain ⟨rfl, rfl⟩ := HPN.out.2 hm0)
      clear z0 z1 z2 z3 z4 z5 z6 z7 z8 z9 z10
      obtain ⟨z0, z1, z2, z3, z4, z5, z6, z7, z8, z9, z10⟩ := cz11 (blk_grown HB8.out (World.grownBy_alloc wj (.cells #[.int .i64 2, .bool pr, .int .u64 v] 61) none))
      have zj := cz11 HB8.out
      obtain ⟨t0, t1, t2, t3, t4, t5, t6, t7, t8, t9, t10⟩ := zj
      go_wp2_with fail
      try clear hat
      clear t0 t1 t2 t3 t4 t5 t6 t7 t8 t9 t10
      refine (cpu_look0 (HM.out.same (World.grownBy_alloc wj _ none)) (inv_new 4).ok gg.f1 2 pr v HIP.out.wf rfl 0 2 (look_none 4 HIP.out.hole gg.f1 2 pr)).mono ?_
      rintro x0 wo ⟨rfl, hgl⟩
      have hg := grown_two (World.grownBy_alloc wj _ none) hgl
      clear hgl
      replace HM := Aside0.mk (HM.out.same hg)
      replace HB8 := Aside0.mk (blk_grown HB8.out hg)
      replace HB9 := Aside0.mk (blk_grown HB9.out hg)
      clear hg z0 z1 z2 z3 z4 z5 z6 z7 z8 z9 z10 y0 y1 y2
      obtain ⟨z0, z1, z2, z3, z4, z5, z6, z7, z8, z9, z10⟩ := cz11 HB8.out
      obtain ⟨y0, y1, y2⟩ := cz3 HB9.out
      go_wp2_with fail
      refine (cpu_look1 HM.out (one_inv (by decide) HGW.out HGM.out).ok ctx kk pr v HIP.out.wf HU.out pa3 n3 HL3.out).mono ?_
      rintro x0 wk ⟨rfl, hg⟩
      replace HM := Aside0.mk (HM.out.same hg)
      replace HB8 := Aside0.mk (blk_grown HB8.out hg)
      replace HB9 := Aside0.mk (blk_grown HB9.out hg)
      clear hg z0 z1 z2 z3 z4 z5 z6 z7 z8 z9 z10 y0 y1 y2
      obtain ⟨z0, z1, z2, z3, z4, z5, z6, z7, z8, z9, z10⟩ := cz11 HB8.out
      obtain ⟨y0, y1, y2⟩ := cz3 HB9.out
      have hn3 := HN3.out
      cases hgl : gg.f4.f4 with
      | true =>
        rw [hgl] at hn3
        have hn3' : (n3 == 2) = false := hn3
        clear hn3
        go_wp2_with fail
        refine (HLF.out _).mono ?_
        rintro x0 wv ⟨rfl, hg⟩
        have HE := Aside0.mk (HM.out.same hg).a.below
        clear hg
        go_wp2
        go_ret
        exact ⟨rfl, HE.out⟩
      | false =>
        rw [hgl] at hn3
        by_cases hcx : ctx = gg.f1
        · have hn3' : (n3 == 2) = false := by rw [hn3, hcx]; simp
          have hcb : (ctx != gg.f1) = false := by simp [hcx]
          clear hn3 hcx
          go_wp2_with fail
          refine (HLF.out _).mono ?_
          rintro x0 wv ⟨rfl, hg⟩
          have HE := Aside0.mk (HM.out.same hg).a.below
          clear hg
          go_wp2
          go_ret
          exact ⟨rfl, HE.out⟩
        · have hn3' : (n3 == 2) = true := by rw [hn3]; simp; exact fun h => hcx h.symm
          have hcb : (ctx != gg.f1) = true := by simp [hcx]
          clear hn3 hcx
          go_wp2_with fail
          refine (HLF.out _).mono ?_
          rintro x0 wv ⟨rfl, hg⟩
          have HE := Aside0.mk (HM.out.same hg).a.below
          clear hg
          go_wp2
          go_ret
          exact ⟨rfl, HE.out⟩
end
end Go.Proofs.Ythclbckkfgmbaaa.QTlbPlays
