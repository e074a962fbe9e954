/- CpuUnits: what is inserted in one unit's TLB is not in the other one's; at whatever numbers. -/
import Derived.Test.YthclbckkfgmbaaaCp1
import Derived.Deep.DeepCutAuto
import Derived.Test.YthclbckkfgmbaaaQTlbPlaysx1
namespace Go.Proofs.Ythclbckkfgmbaaa.QTlbPlays
open Go.RowKit Go.Proofs.YthclbckkfgmbaaaW.PrintWords Go.Proofs.YthclbckkfgmbaaaW.PrintLast Go.Proofs.YthclbckkfgmbaaaW.PrintMore
set_option linter.unusedSimpArgs false
set_option linter.unusedVariables false
attribute [local go_sem high] eqA26
section
set_option maxHeartbeats 1000000
set_option maxRecDepth 100000
theorem cpuUnits_calls (e : Ent) (unit pick : Int) (W : World) (he : EntW e) (hu0 : (Lit.int .i64 unit).wf = true) (hp : (Lit.int .i64 pick).wf = true) :
    Calls Try.prog 11 #[.agg (entA e), .int .i64 unit, .int .i64 pick] W fun x W' => x = .returned (.bool true) ∧ Below W.heap.size W W' := by
  have hu := Try.underlying26
  have hu2 := Try.underlying24
  have hg0 := World.grownBy_alloc W (.cells (entA e) 26) none
  have HB3 := Aside0.mk (heap_alloc_new W (.cells (entA e) 26))
  have HBL := Aside0.mk (below_of_grown hg0)
  have HWE := Aside0.mk he
  have HPK := Aside0.mk hp
  have HLF := Aside0.mk lives17
  have hub := m_i64 hu0
  have hub1 := hub.1
  have hub2 := hub.2
  have HS3 := Aside0.mk (show slotsOf 3 = 3 by decide)
  clear he hp hg0 hu0 hub
  go_enter Try.func11, Try.ntmps11
  go_wp2_with fail
  refine (cpu_new HBL.out (by simp) 3).mono ?_
  rintro x0 w1 ⟨q, g, p0, r0, p1, r1, N, rfl, hN, hN1, hM, hg⟩
  obtain rfl : N = 3 := hN.trans HS3.out
  have HM := Aside0.mk hM
  replace HB3 := Aside0.mk (blk_grown HB3.out hg)
  clear hN hN1 hM hg
  generalize W.heap.size = h3 at HB3 ⊢
  go_upto_if 20 with (fail)
  go_cut [1] (fun s1 wx => ∃ z : Int, s1 = .int .i64 z ∧ 0 ≤ z ∧ z < 9223372036854775808 ∧ w1 = wx)
  case first =>
    by_cases hneg : unit < 0
    all_goals (go_wp2_with fail; go_meet; exact ⟨_, rfl, by omega, by omega, rfl⟩)
  case rest =>
    obtain ⟨z, rfl, hz0, hz1, rfl⟩ := hcut
    obtain ⟨q0, q1, q2, q3, q4, q5, q6, q7, q8, q9, q10⟩ := cz11 HB3.out
    rcases (show z % 2 = 0 ∨ z % 2 = 1 by omega) with hz | hz
    ·
      go_wp2_with fail
      refine (good_calls HWE.out _).mono ?_
      rintro x0 w2 ⟨rfl, hg⟩
      replace HM := Aside0.mk (HM.out.same hg)
      clear hg q0 q1 q2 q3 q4 q5 q6 q7 q8 q9 q10
      have HGW := Aside0.mk (goodE_W e)
      have HGM := Aside0.mk (goodE_may e)
      generalize goodE e = gg at HGW HGM ⊢
      have HB8 := Aside0.mk (heap_alloc_new w2 (.cells (entA gg) 26))
      have hg := World.grownBy_alloc w2 (.cells (entA gg) 26) none
      replace HM := Aside0.mk (HM.out.same hg)
      clear hg
      obtain ⟨z0, z1, z2, z3, z4, z5, z6, z7, z8, z9, z10⟩ := cz11 HB8.out
      have HHS := Aside0.mk (hits_self (may_okS HGM.out))
      have HF1 := Aside0.mk (one_find (N := 3) (by decide) HGW.out HGM.out gg.f2 gg.f1)
      have HF2 := Aside0.mk (none_find 3 gg.f2 gg.f1)
      go_wp2_with fail
      refine (cpu_insert0 HM.out (inv_new 3).ok gg HGW.out pick HPK.out 0 0 (oneL 3 gg) (one_ins (by decide) HGM.out pick)).mono ?_
      rintro x0 w3 ⟨rfl, hM, hg⟩
      have HB9 := Aside0.mk ((hg.block _ (blk_lt HB8.out) (fun e => (HM.out.a.nb _ _ HB8.out).2 (Option.some.inj e))).trans HB8.out)
      replace HM := Aside0.mk hM
      clear hM hg z0 z1 z2 z3 z4 z5 z6 z7 z8 z9 z10 HB8
      generalize w2.heap.size = h8 at HB9 ⊢
      obtain ⟨z0, z1, z2, z3, z4, z5, z6, z7, z8, z9, z10⟩ := cz11 HB9.out
      go_wp2_with fail
      refine (cpu_finde0 HM.out (one_inv (by decide) HGW.out HGM.out).ok gg.f2 gg.f1 HGW.out.v gg (by rw [HF1.out.1, HHS.out, if_pos rfl]) true (by rw [HF1.out.2, HHS.out])).mono ?_
      rintro x0 w4 ⟨rfl, hg0⟩
      have hg := grown_two hg0 (World.grownBy_alloc w4 (.cells (entA gg) 26) none)
      have HB11 := Aside0.mk (heap_alloc_new w4 (.cells (entA gg) 26))
      replace HM := Aside0.mk (HM.out.same hg)
      replace HB9 := Aside0.mk (blk_grown HB9.out hg)
      clear hg hg0 z0 z1 z2 z3 z4 z5 z6 z7 z8 z9 z10
      obtain ⟨z0, z1, z2, z3, z4, z5, z6, z7, z8, z9, z10⟩ := cz11 HB9.out
      go_wp2_with fail
      refine (cpu_finde1 HM.out (inv_new 3).ok gg.f2 gg.f1 HGW.out.v zE HF2.out.1 false HF2.out.2).mono ?_
      rintro x0 w5 ⟨rfl, hg0⟩
      have hg := grown_two hg0 (World.grownBy_alloc w5 (.cells (entA zE) 26) none)
      replace HM := Aside0.mk (HM.out.same hg)
      replace HB9 := Aside0.mk (blk_grown HB9.out hg)
      replace HB11 := Aside0.mk (blk_grown HB11.out hg)
      clear hg hg0 z0 z1 z2 z3 z4 z5 z6 z7 z8 z9 z10
      obtain ⟨z0, z1, z2, z3, z4, z5, z6, z7, z8, z9, z10⟩ := cz11 HB9.out
      go_wp2_with fail
      have HFG := Aside0.mk (cpu_forget_page HM.out (one_inv (by decide) HGW.out HGM.out).ok (inv_new 3).ok gg.f2 gg.f1 HGW.out.v)
      have hn0 : plL (oneL 3 gg) (fun e => hitsB e gg.f2 gg.f1) = [0] := (one_inv (by decide) HGW.out HGM.out).one (i := 0) (by rw [one_at (by decide)]; rfl) HHS.out
      have hn1 : plL (List.replicate 3 (none : Option Ent)) (fun e => hitsB e gg.f2 gg.f1) = [] := plL_none (fun j b hx => by rw [rep_none] at hx; cases hx)
      rw [hn0, hn1] at HFG
      clear hn0 hn1
      refine HFG.out.mono ?_
      rintro x0 w6 ⟨rfl, hM, hg⟩
      replace HB9 := Aside0.mk ((hg.block h8 (blk_lt HB9.out) (HM.out.a.nb _ _ HB9.out).2 (HM.out.b.nb _ _ HB9.out).2).trans HB9.out)
      replace HB11 := Aside0.mk ((hg.block w4.heap.size (blk_lt HB11.out) (HM.out.a.nb _ _ HB11.out).2 (HM.out.b.nb _ _ HB11.out).2).trans HB11.out)
      replace HM := Aside0.mk hM
      clear hM hg z0 z1 z2 z3 z4 z5 z6 z7 z8 z9 z10 HFG
      generalize w4.heap.size = h11 at HB11 ⊢
      obtain ⟨z0, z1, z2, z3, z4, z5, z6, z7, z8, z9, z10⟩ := cz11 HB9.out
      obtain ⟨y0, y1, y2, y3, y4, y5, y6, y7, y8, y9, y10⟩ := cz11 HB11.out
      have HLE := Aside0.mk (show listOf (clearQ (oneL 3 gg) (fun e => hitsB e gg.f2 gg.f1)) = [] from by
        refine List.eq_nil_iff_forall_not_mem.2 (fun a ha => ?_)
        obtain ⟨i, hx⟩ := mem_listOf ha
        obtain ⟨hx1, hx2⟩ := clear_some hx
        rw [one_at (by decide)] at hx1
        split at hx1
        · cases hx1; rw [HHS.out] at hx2; cases hx2
        · cases hx1)
      go_wp2_with fail
      refine (cpu_entries0 HM.out).mono ?_
      rintro x0 w7 ⟨⟨v0, rfl, hR⟩, hg⟩
      rw [HLE.out] at hR
      obtain ⟨Al, cl, rfl, _, _⟩ := Kd.R_reads hR
      replace HM := Aside0.mk (HM.out.same hg)
      clear hR hg z0 z1 z2 z3 z4 z5 z6 z7 z8 z9 z10 y0 y1 y2 y3 y4 y5 y6 y7 y8 y9 y10
      go_wp2_with fail
      refine (HLF.out _).mono ?_
      rintro x0 wl ⟨rfl, hg⟩
      have HE := Aside0.mk (HM.out.same hg).a.below
      clear hg
      go_wp2
      go_ret
      exact ⟨rfl, HE.out⟩
    ·
      go_wp2_with fail
      refine (good_calls HWE.out _).mono ?_
      rintro x0 w2 ⟨rfl, hg⟩
      replace HM := Aside0.mk (HM.out.same hg)
      clear hg q0 q1 q2 q3 q4 q5 q6 q7 q8 q9 q10
      have HGW := Aside0.mk (goodE_W e)
      have HGM := Aside0.mk (goodE_may e)
      generalize goodE e = gg at HGW HGM ⊢
      have HB8 := Aside0.mk (heap_alloc_new w2 (.cells (entA gg) 26))
      have hg := World.grownBy_alloc w2 (.cells (entA gg) 26) none
      replace HM := Aside0.mk (HM.out.same hg)
      clear hg
      obtain ⟨z0, z1, z2, z3, z4, z5, z6, z7, z8, z9, z10⟩ := cz11 HB8.out
      have HHS := Aside0.mk (hits_self (may_okS HGM.out))
      have HF1 := Aside0.mk (one_find (N := 3) (by decide) HGW.out HGM.out gg.f2 gg.f1)
      have HF2 := Aside0.mk (none_find 3 gg.f2 gg.f1)
      go_wp2_with fail
      refine (cpu_insert1 HM.out (inv_new 3).ok gg HGW.out pick HPK.out 0 0 (oneL 3 gg) (one_ins (by decide) HGM.out pick)).mono ?_
      rintro x0 w3 ⟨rfl, hM, hg⟩
      have HB9 := Aside0.mk ((hg.block _ (blk_lt HB8.out) (fun e => (HM.out.b.nb _ _ HB8.out).2 (Option.some.inj e))).trans HB8.out)
      replace HM := Aside0.mk hM
      clear hM hg z0 z1 z2 z3 z4 z5 z6 z7 z8 z9 z10 HB8
      generalize w2.heap.size = h8 at HB9 ⊢
      obtain ⟨z0, z1, z2, z3, z4, z5, z6, z7, z8, z9, z10⟩ := cz11 HB9.out
      go_wp2_with fail
      refine (cpu_finde1 HM.out (one_inv (by decide) HGW.out HGM.out).ok gg.f2 gg.f1 HGW.out.v gg (by rw [HF1.out.1, HHS.out, if_pos rfl]) true (by rw [HF1.out.2, HHS.out])).mono ?_
      rintro x0 w4 ⟨rfl, hg0⟩
      have hg := grown_two hg0 (World.grownBy_alloc w4 (.cells (entA gg) 26) none)
      have HB11 := Aside0.mk (heap_alloc_new w4 (.cells (entA gg) 26))
      replace HM := Aside0.mk (HM.out.same hg)
      replace HB9 := Aside0.mk (blk_grown HB9.out hg)
      clear hg hg0 z0 z1 z2 z3 z4 z5 z6 z7 z8 z9 z10
      obtain ⟨z0, z1, z2, z3, z4, z5, z6, z7, z8, z9, z10⟩ := cz11 HB9.out
      go_wp2_with fail
      refine (cpu_finde0 HM.out (inv_new 3).ok gg.f2 gg.f1 HGW.out.v zE HF2.out.1 false HF2.out.2).mono ?_
      rintro x0 w5 ⟨rfl, hg0⟩
      have hg := grown_two hg0 (World.grownBy_alloc w5 (.cells (entA zE) 26) none)
      replace HM := Aside0.mk (HM.out.same hg)
      replace HB9 := Aside0.mk (blk_grown HB9.out hg)
      replace HB11 := Aside0.mk (blk_grown HB11.out hg)
      clear hg hg0 z0 z1 z2 z3 z4 z5 z6 z7 z8 z9 z10
      obtain ⟨z0, z1, z2, z3, z4, z5, z6, z7, z8, z9, z10⟩ := cz11 HB9.out
      go_wp2_with fail
      have HFG := Aside0.mk (cpu_forget_page HM.out (inv_new 3).ok (one_inv (by decide) HGW.out HGM.out).ok gg.f2 gg.f1 HGW.out.v)
      have hn0 : plL (oneL 3 gg) (fun e => hitsB e gg.f2 gg.f1) = [0] := (one_inv (by decide) HGW.out HGM.out).one (i := 0) (by rw [one_at (by decide)]; rfl) HHS.out
      have hn1 : plL (List.replicate 3 (none : Option Ent)) (fun e => hitsB e gg.f2 gg.f1) = [] := plL_none (fun j b hx => by rw [rep_none] at hx; cases hx)
      rw [hn0, hn1] at HFG
      clear hn0 hn1
      refine HFG.out.mono ?_
      rintro x0 w6 ⟨rfl, hM, hg⟩
      replace HB9 := Aside0.mk ((hg.block h8 (blk_lt HB9.out) (HM.out.a.nb _ _ HB9.out).2 (HM.out.b.nb _ _ HB9.out).2).trans HB9.out)
      replace HB11 := Aside0.mk ((hg.block w4.heap.size (blk_lt HB11.out) (HM.out.a.nb _ _ HB11.out).2 (HM.out.b.nb _ _ HB11.out).2).trans HB11.out)
      replace HM := Aside0.mk hM
      clear hM hg z0 z1 z2 z3 z4 z5 z6 z7 z8 z9 z10 HFG
      generalize w4.heap.size = h11 at HB11 ⊢
      obtain ⟨z0, z1, z2, z3, z4, z5, z6, z7, z8, z9, z10⟩ := cz11 HB9.out
      obtain ⟨y0, y1, y2, y3, y4, y5, y6, y7, y8, y9, y10⟩ := cz11 HB11.out
      have HLE := Aside0.mk (show listOf (clearQ (oneL 3 gg) (fun e => hitsB e gg.f2 gg.f1)) = [] from by
        refine List.eq_nil_iff_forall_not_mem.2 (fun a ha => ?_)
        obtain ⟨i, hx⟩ := mem_listOf ha
        obtain ⟨hx1, hx2⟩ := clear_some hx
        rw [one_at (by decide)] at hx1
        split at hx1
        · cases hx1; rw [HHS.out] at hx2; cases hx2
        · cases hx1)
      go_wp2_with fail
      refine (cpu_entries1 HM.out).mono ?_
      rintro x0 w7 ⟨⟨v0, rfl, hR⟩, hg⟩
      rw [HLE.out] at hR
      obtain ⟨Al, cl, rfl, _, _⟩ := Kd.R_reads hR
      replace HM := Aside0.mk (HM.out.same hg)
      clear hR hg z0 z1 z2 z3 z4 z5 z6 z7 z8 z9 z10 y0 y1 y2 y3 y4 y5 y6 y7 y8 y9 y10
      go_wp2_with fail
      refine (HLF.out _).mono ?_
      rintro x0 wl ⟨rfl, hg⟩
      have HE := Aside0.mk (HM.out.same hg).a.below
      clear hg
      go_wp2
      go_ret
      exact ⟨rfl, HE.out⟩
end
end Go.Proofs.Ythclbckkfgmbaaa.QTlbPlays
