/- TlbClears: a place that is cleared is empty, and the next entry stands at the first empty place; at whatever numbers. -/
import Derived.Test.YthclbckkfgmbaaaTl17
namespace Go.Proofs.Ythclbckkfgmbaaa.QTlbPlays
open Go.RowKit Go.Proofs.YthclbckkfgmbaaaW.PrintWords Go.Proofs.YthclbckkfgmbaaaW.PrintLast Go.Proofs.YthclbckkfgmbaaaW.PrintMore
set_option linter.unusedSimpArgs false
set_option linter.unusedVariables false
section
set_option maxHeartbeats 1000000
set_option maxRecDepth 100000
theorem atOf_clear (es : List (Option Ent)) (a : Int) : atOf (clearAt es a) a = none := by
  unfold clearAt
  cases h : (atOf es a).isSome with
  | false =>
    rw [if_neg (by decide)]
    cases h2 : atOf es a with
    | none => rfl
    | some e => rw [h2] at h; cases h
  | true =>
    obtain ⟨i, rfl, hi⟩ := atOf_at h
    rw [if_pos rfl, Int.toNat_natCast]
    unfold atOf
    rw [List.length_set, if_pos ⟨by omega, by omega⟩, Int.toNat_natCast, set_at _ hi, if_pos rfl]
def noneTo (es : List (Option Ent)) (k : Nat) : Option Nat := (List.range k).find? (fun j => (es.getD j none).isNone)
theorem find_one (q : Nat → Bool) (k : Nat) : [k].find? q = if q k = true then some k else none := by
  cases h : q k <;> simp [h]
theorem noneTo_full {es : List (Option Ent)} {k : Nat} {b : Ent} (h : es.getD k none = some b) : noneTo es (k + 1) = noneTo es k := by
  unfold noneTo
  rw [List.range_succ, List.find?_append, find_one]
  simp only [h]
  simp
theorem noneTo_had {es : List (Option Ent)} {k i : Nat} (h : noneTo es k = some i) : noneTo es (k + 1) = some i := by
  unfold noneTo at h ⊢
  rw [List.range_succ, List.find?_append, h]
  rfl
theorem noneTo_new {es : List (Option Ent)} {k : Nat} (h : noneTo es k = none) (hx : es.getD k none = none) : noneTo es (k + 1) = some k := by
  unfold noneTo at h ⊢
  rw [List.range_succ, List.find?_append, h, find_one]
  simp only [hx]
  simp
theorem noneTo_all (es : List (Option Ent)) : noneTo es es.length = noneAt es := by
  cases h : noneTo es es.length with
  | none =>
    unfold noneTo at h
    rw [List.find?_range_eq_none] at h
    exact (none_none (fun j hj hx => by have := h j hj; rw [hx] at this; cases this)).symm
  | some i =>
    unfold noneTo at h
    obtain ⟨h1, h2, h3⟩ := List.find?_range_eq_some.1 h
    refine (none_some (by simpa using h2) (by simpa using h1) (fun j hj hx => ?_)).symm
    have := h3 j hj
    rw [hx] at this
    cases this
theorem clears_ins {es : List (Option Ent)} (h : Inv es) {g : Ent} (hm : mayB g = true) (hp : ∀ j b, es.getD j none = some b → partsB b g = true) {i : Nat} (hn : noneAt es = some i) (pick : Int) : insOf es g pick = ((i : Int), 0, es.set i (some g)) := by
  have hq : ∀ j b, es.getD j none = some b → againstQ g b = false := fun j b hx => by
    unfold againstQ
    rw [parts_comm (may_okS hm) (may_okS (ok_at h.ok hx).2), hp j b hx]
    rfl
  have hg : goneOf es g = es := ext_getD (gone_len es g) (fun j hj => by
    cases hx : es.getD j none with
    | none => unfold goneOf; rw [clearQ_at, hx]
    | some b => exact clear_keeps hx (hq j b hx))
  have ha : (plL es (againstQ g)).any (lockAt es) = false := any_lock fun j b hx hqb => by rw [hq j b hx] at hqb; cases hqb
  unfold insOf
  rw [if_neg (by simp [hm]), if_neg (by simp [ha]), hg]
  unfold placeN
  rw [hn]
theorem atOf_none {es : List (Option Ent)} {i : Nat} (hx : es.getD i none = none) : atOf es (i : Int) = none := by
  unfold atOf
  split
  · rwa [Int.toNat_natCast]
  · rfl
theorem tl_at_none {B w0 p r es W} (h : Tl B w0 p r es W) (i : Int) (hx : atOf es i = none) :
    Calls Try.prog 24 #[.pointer (some ⟨p, 0, none⟩), .int .i64 i] W fun x W' => x = .returned (.tuple #[.agg #[.int .i64 0, .int .i64 0, .int .u64 0, .int .u64 0, .bool false, .bool false, .bool false, .bool false, .bool false, .bool false, .bool false], .bool false]) ∧ W.grownBy W' none :=
  (tl_at h i _ hx).mono fun x W' h => ⟨h.1, h.2.2⟩
theorem slots6 : slotsOf 6 = 6 := by decide
theorem tlbClears_calls (a : Option Addr) (len cap : Nat) (ii : Int) (e0 : Ent) (W : World) (hl : Deeds W a len ∧ len ≤ maxLen) (hi : (Lit.int .i64 ii).wf = true) (he0 : EntW e0) :
    Calls Try.prog 6 #[.slice a len cap, .int .i64 ii, .agg (entA e0)] W fun x W' => x = .returned (.bool true) ∧ Below W.heap.size W W' := by
  have hu := Try.underlying26
  have hu2 := Try.underlying24
  have hu3 := Try.underlying54
  have HDS := Aside0.mk hl.1
  have HWE0 := Aside0.mk he0
  have HB0 := Aside0.mk (heap_alloc_new W (.cells (entA e0) 26))
  have HLF := Aside0.mk lives_calls
  have hlm : len ≤ 9223372036854775807 := hl.2
  clear hl he0 hi
  go_enter Try.func6, Try.ntmps6
  go_wp2_with fail
  refine (tl_new_ex (below_alloc (Below.refl W.heap.size W) (.cells (entA e0) 26)) (by simp) _).mono ?_
  rintro x0 w1 ⟨p, r, N, rfl, hN, hN1, hr0, hM, hg⟩
  rw [slots6] at hN
  subst hN
  have HM := Aside0.mk hM
  have HB5 := Aside0.mk (blk_grown HB0.out hg)
  have HNE := Aside0.mk (show W.heap.size ≠ r by simp at hr0; omega)
  clear hM hg hr0 hN1
  go_wp2_with fail
  refine (lookasideref06_New.calls _ _ _ (refL_new _)).mono ?_
  rintro x0 w2 ⟨v0, rfl, hR, hb⟩
  have hg := below_grown hb
  have hV := Kd.V_mono (ok' := fun k => k ≠ r) (Kd.R_V (base' := 0) (Kd.R_bound hR)) (fun k hk e => by subst e; have := HM.out.rlt; have := hk.2.1; omega)
  obtain ⟨A, c, rfl⟩ := Kd.V_slice hV
  have HV := Aside0.mk hV
  replace HM := Aside0.mk (HM.out.same hg)
  replace HB5 := Aside0.mk (blk_grown HB5.out hg)
  clear hR hb hg hV
  rw [slots6] at HV
  go_wp2_with fail
  go_loopw [8, 9] (fun v8 v9 wr => ∃ (k : Nat) (es : List (Option Ent)) (A : Option Addr) (c : Nat), v9 = .int .i64 k ∧ v8 = .slice A (refL es).length c ∧ k ≤ len ∧ k ≤ 20 ∧ Aside0 (es.length = 6) ∧ Aside0 (Inv es) ∧ Aside0 (Tl W.heap.size W p r es wr) ∧ Aside0 (Kd.V k26 26 wr 0 (fun k => k ≠ r) (.slice A (refL es).length c) (refL es)) ∧ Aside0 (wr.heap[W.heap.size]? = some (.cells (entA e0) 26 (0, 0)))) (fun _ v9 _ => 20 - (intOf v9).toNat)
  case atStart => exact ⟨0, _, A, c, rfl, by rw [slots6], by omega, by omega, ⟨by simp⟩, ⟨inv_new 6⟩, HM, HV, HB5⟩
  case round =>
    clear HM HV HB5
    obtain ⟨k, es, A, c, rfl, rfl, hk, hk20, HLN, HINV, HM, HV, HB5⟩ := hrel
    by_cases h1 : k < len
    · have h1' : (k : Int) < (len : Int) := by omega
      by_cases h2 : k < 20
      · have h2' : (k : Int) < 20 := by omega
        have h0' : (0 : Int) ≤ (k : Int) := by omega
        obtain ⟨y, kd, n, cx, va, e, raw, rfl, hd⟩ := HDS.out.at k h1
        have HDA := Aside0.mk (hd.grown (below_grown HM.out.below))
        clear hd
        obtain ⟨hn, hva, he, c0, c1, c2, c3, c4, c5, c6, c7, c8, c9, c10, c11, c12, c13, c14, c15⟩ := HDA.out
        have HW3 := Aside0.mk (And.intro hn (And.intro hva he))
        clear hn hva he HDA
        go_wp2_with fail
        refine (does_any HM.out HINV.out A c HV.out kd n cx va e raw HW3.out.1 HW3.out.2.1 HW3.out.2.2).mono ?_
        rintro x0 wd ⟨v', es2, rfl, hinv, hlen, hM, hV, hg⟩
        obtain ⟨A9, cc9, rfl⟩ := Kd.V_slice hV
        have HINV2 := Aside0.mk hinv
        have HLN2 := Aside0.mk (hlen.trans HLN.out)
        have HM2 := Aside0.mk hM
        have HV2 := Aside0.mk hV
        clear c0 c1 c2 c3 c4 c5 c6 c7 c8 c9 c10 c11 c12 c13 c14 c15 hinv hlen hM hV
        have HB52 := Aside0.mk ((hg.block _ (blk_lt HB5.out) (fun e => HNE.out (Option.some.inj e))).trans HB5.out)
        clear hg
        go_wp2_with fail
        go_roundw
        case rel => exact ⟨k + 1, es2, A9, cc9, by go_num, rfl, by omega, by omega, HLN2, HINV2, HM2, HV2, HB52⟩
        case measure => simp [intOf]; omega
      · obtain rfl : k = 20 := by omega
        have h1'' : (20 : Int) < (len : Int) := by omega
        clear HV
        have HCL := Aside0.mk (atOf_clear es ii)
        have HINV1 := Aside0.mk (clearAt_inv HINV.out ii)
        have HLN1 := Aside0.mk ((clearAt_len es ii).trans HLN.out)
        obtain ⟨bb, hbb⟩ : ∃ x, (atOf es ii).isSome = x := ⟨_, rfl⟩
        have HAT := Aside0.mk (tl_at HM.out ii _ rfl)
        rw [hbb] at HAT
        generalize (atOf es ii).getD zE = f0 at HAT
        have HBB := Aside0.mk hbb
        clear hbb
        go_wp2_with fail
        refine HAT.out.mono ?_
        rintro x0 w3 ⟨rfl, hM, hg0⟩
        have hg := grown_two hg0 (World.grownBy_alloc w3 (.cells (entA f0) 26) none)
        replace HM := Aside0.mk (HM.out.same hg)
        replace HB5 := Aside0.mk (blk_grown HB5.out hg)
        clear hM hg hg0 HAT
        go_wp2_with fail
        refine (tl_clear HM.out ii bb HBB.out).mono ?_
        rintro x0 w4 ⟨rfl, hM, hg⟩
        replace HB5 := Aside0.mk ((hg.block _ (blk_lt HB5.out) (fun e => HNE.out (Option.some.inj e))).trans HB5.out)
        replace HM := Aside0.mk hM
        clear hM hg
        generalize clearAt es ii = es1 at HCL HINV1 HLN1 HM
        clear HINV HLN
        go_wp2_with fail
        refine (tl_at_none HM.out ii HCL.out).mono ?_
        rintro x0 w5 ⟨rfl, hg0⟩
        have hg := grown_two hg0 (World.grownBy_alloc w5 (.cells #[.int .i64 0, .int .i64 0, .int .u64 0, .int .u64 0, .bool false, .bool false, .bool false, .bool false, .bool false, .bool false, .bool false] 26) none)
        replace HM := Aside0.mk (HM.out.same hg)
        replace HB5 := Aside0.mk (blk_grown HB5.out hg)
        clear hg hg0
        obtain ⟨q0, q1, q2, q3, q4, q5, q6, q7, q8, q9, q10⟩ := cz11 HB5.out
        have hbn : (bb != bb) = false := by cases bb <;> rfl
        cases bb
        all_goals
          go_wp2_with fail
          refine (good_calls HWE0.out _).mono ?_
          rintro x0 w6 ⟨rfl, hg0⟩
          have hg := grown_two hg0 (World.grownBy_alloc w6 (.cells (entA (lockE (goodE e0) false)) 26) none)
          have HHR := Aside0.mk (show w6.heap.size ≠ r from fun e => by have h1 := HM.out.rlt; have h3 := hg0.size; omega)
          replace HM := Aside0.mk (HM.out.same hg)
          have HS := Aside0.mk (heap_alloc_new w6 (.cells (entA (lockE (goodE e0) false)) 26))
          obtain ⟨g, hgd⟩ : ∃ g, g = lockE (goodE e0) false := ⟨_, rfl⟩
          have HGW := Aside0.mk (show EntW g by rw [hgd]; exact lockE_W (goodE_W e0) false)
          have HGM := Aside0.mk (show mayB g = true by rw [hgd]; exact (lockE_may (goodE e0) false).trans (goodE_may e0))
          have HS2 := Aside0.mk (HS.out.trans (show some (Obj.cells (entA (lockE (goodE e0) false)) 26 (0, 0)) = some (Obj.cells (entA g) 26 (0, 0)) by rw [hgd]))
          clear hg hg0 HB5 HS hgd q0 q1 q2 q3 q4 q5 q6 q7 q8 q9 q10
          go_wp2_with fail
          generalize w6.heap.size = h17 at HS2 HHR ⊢
          go_loopw [18, 19] (fun v18 v19 wr => ∃ k : Nat, v19 = .int .i64 k ∧ k ≤ 6 ∧ v18 = .int .i64 (optV (noneTo es1 k)) ∧ Aside0 (∀ j, j < k → ∀ b, es1.getD j none = some b → partsB b g = true) ∧ Aside0 (Tl W.heap.size W p r es1 wr) ∧ Aside0 (wr.heap[h17]? = some (.cells (entA g) 26 (0, 0)))) (fun _ v19 _ => 6 - (intOf v19).toNat)
          case atStart => exact ⟨0, rfl, by omega, rfl, ⟨fun j hj => by omega⟩, HM, HS2⟩
          case round =>
            clear HM HS2
            obtain ⟨k, rfl, hk, rfl, HPA, HM, HS2⟩ := hrel
            by_cases h6 : k < 6
            · have h6' : (k : Int) < 6 := by omega
              cases hx : es1.getD k none with
              | none =>
                have HPA2 := Aside0.mk (show ∀ j, j < k + 1 → ∀ b, es1.getD j none = some b → partsB b g = true from fun j hj b hb => by
                  by_cases c : j = k
                  · subst c; rw [hx] at hb; cases hb
                  · exact HPA.out j (by omega) b hb)
                have HA1 := Aside0.mk (atOf_none hx)
                cases hno : noneTo es1 k with
                | none =>
                  have HNX := Aside0.mk (noneTo_new hno hx)
                  clear hno hx
                  simp only [optV]
                  go_wp2_with fail
                  refine (tl_at_none HM.out k HA1.out).mono ?_
                  rintro x0 w7 ⟨rfl, hg0⟩
                  have hg := grown_two hg0 (World.grownBy_alloc w7 (.cells #[.int .i64 0, .int .i64 0, .int .u64 0, .int .u64 0, .bool false, .bool false, .bool false, .bool false, .bool false, .bool false, .bool false] 26) none)
                  have HM3 := Aside0.mk (HM.out.same hg)
                  have HS3 := Aside0.mk (blk_grown HS2.out hg)
                  clear hg hg0 HM HS2
                  go_wp2_with fail
                  go_roundw
                  case rel => exact ⟨k + 1, by go_num, by omega, by rw [HNX.out], HPA2, HM3, HS3⟩
                  case measure => simp [intOf]; omega
                | some i =>
                  have HNX := Aside0.mk (noneTo_had hno)
                  have hi0 : (0 : Int) ≤ (i : Int) := by omega
                  clear hno hx
                  simp only [optV]
                  go_wp2_with fail
                  refine (tl_at_none HM.out k HA1.out).mono ?_
                  rintro x0 w7 ⟨rfl, hg0⟩
                  have hg := grown_two hg0 (World.grownBy_alloc w7 (.cells #[.int .i64 0, .int .i64 0, .int .u64 0, .int .u64 0, .bool false, .bool false, .bool false, .bool false, .bool false, .bool false, .bool false] 26) none)
                  have HM3 := Aside0.mk (HM.out.same hg)
                  have HS3 := Aside0.mk (blk_grown HS2.out hg)
                  clear hg hg0 HM HS2
                  go_wp2_with fail
                  go_roundw
                  case rel => exact ⟨k + 1, by go_num, by omega, by rw [HNX.out], HPA2, HM3, HS3⟩
                  case measure => simp [intOf]; omega
              | some b =>
                have HX := Aside0.mk hx
                have HNX := Aside0.mk (noneTo_full hx)
                clear hx
                go_wp2_with fail
                refine (tl_at_some HM.out k b HX.out).mono ?_
                rintro x0 w7 ⟨rfl, hg0⟩
                have hg := grown_two hg0 (World.grownBy_alloc w7 (.cells (entA b) 26) none)
                have HM3 := Aside0.mk (HM.out.same hg)
                have HS3 := Aside0.mk (blk_grown HS2.out hg)
                have HB20 := Aside0.mk (heap_alloc_new w7 (.cells (entA b) 26))
                obtain ⟨q0, q1, q2, q3, q4, q5, q6, q7, q8, q9, q10⟩ := cz11 HS3.out
                obtain ⟨z0, z1, z2, z3, z4, z5, z6, z7, z8, z9, z10⟩ := cz11 HB20.out
                clear hg hg0 HM HS2
                go_wp2_with fail
                refine (parts_calls (ok_at HINV1.out.ok HX.out).1 HGW.out _).mono ?_
                rintro x0 w8 ⟨rfl, hg⟩
                have HM4 := Aside0.mk (HM3.out.same hg)
                have HS4 := Aside0.mk (blk_grown HS3.out hg)
                clear hg q0 q1 q2 q3 q4 q5 q6 q7 q8 q9 q10 z0 z1 z2 z3 z4 z5 z6 z7 z8 z9 z10
                cases hp : partsB b g with
                | true =>
                  have HPA2 := Aside0.mk (show ∀ j, j < k + 1 → ∀ b, es1.getD j none = some b → partsB b g = true from fun j hj b' hb => by
                    by_cases c : j = k
                    · subst c; rw [HX.out] at hb; cases hb; exact hp
                    · exact HPA.out j (by omega) b' hb)
                  clear hp
                  go_wp2_with fail
                  go_roundw
                  case rel => exact ⟨k + 1, by go_num, by omega, by rw [HNX.out], HPA2, HM4, HS4⟩
                  case measure => simp [intOf]; omega
                | false =>
                  clear hp
                  go_wp2_with fail
                  refine (HLF.out _).mono ?_
                  rintro x0 wl ⟨rfl, hg⟩
                  have HE := Aside0.mk (HM4.out.same hg).below
                  clear hg
                  go_wp2
                  go_ret
                  exact ⟨rfl, HE.out⟩
            · obtain rfl : k = 6 := by omega
              have hno' : noneTo es1 6 = noneAt es1 := by rw [← noneTo_all, HLN1.out]
              rw [hno']
              clear hno'
              obtain ⟨q0, q1, q2, q3, q4, q5, q6, q7, q8, q9, q10⟩ := cz11 HS2.out
              cases hno : noneAt es1 with
              | some i =>
                have HINS := Aside0.mk (clears_ins HINV1.out HGM.out (fun j b hx => HPA.out j (by have := lt_of_getD hx; have := HLN1.out; omega) b hx) hno 3)
                have hi0 : (0 : Int) ≤ (i : Int) := by omega
                clear hno
                simp only [optV]
                go_wp2_with fail
                refine (tl_insert HM.out HINV1.out.ok _ HGW.out 3 (by decide) _ _ _ HINS.out).mono ?_
                rintro x0 w7 ⟨rfl, hM, hg⟩
                have HM3 := Aside0.mk hM
                clear hM hg HM
                go_wp2_with fail
                refine (HLF.out _).mono ?_
                rintro x0 wl ⟨rfl, hg⟩
                have HE := Aside0.mk (HM3.out.same hg).below
                clear hg
                go_wp2
                go_ret
                exact ⟨rfl, HE.out⟩
              | none =>
                obtain ⟨i2, er2, es2, hins⟩ : ∃ a b c, insOf es1 g 3 = (a, b, c) := ⟨_, _, _, rfl⟩
                have HINS := Aside0.mk hins
                clear hno hins
                simp only [optV]
                go_wp2_with fail
                refine (tl_insert HM.out HINV1.out.ok _ HGW.out 3 (by decide) _ _ _ HINS.out).mono ?_
                rintro x0 w7 ⟨rfl, hM, hg⟩
                have HM3 := Aside0.mk hM
                clear hM hg HM
                go_wp2_with fail
                refine (HLF.out _).mono ?_
                rintro x0 wl ⟨rfl, hg⟩
                have HE := Aside0.mk (HM3.out.same hg).below
                clear hg
                go_wp2
                go_ret
                exact ⟨rfl, HE.out⟩
    · obtain rfl : k = len := by omega
      clear HV
      have HCL := Aside0.mk (atOf_clear es ii)
      have HINV1 := Aside0.mk (clearAt_inv HINV.out ii)
      have HLN1 := Aside0.mk ((clearAt_len es ii).trans HLN.out)
      obtain ⟨bb, hbb⟩ : ∃ x, (atOf es ii).isSome = x := ⟨_, rfl⟩
      have HAT := Aside0.mk (tl_at HM.out ii _ rfl)
      rw [hbb] at HAT
      generalize (atOf es ii).getD zE = f0 at HAT
      have HBB := Aside0.mk hbb
      clear hbb
      go_wp2_with fail
      refine HAT.out.mono ?_
      rintro x0 w3 ⟨rfl, hM, hg0⟩
      have hg := grown_two hg0 (World.grownBy_alloc w3 (.cells (entA f0) 26) none)
      replace HM := Aside0.mk (HM.out.same hg)
      replace HB5 := Aside0.mk (blk_grown HB5.out hg)
      clear hM hg hg0 HAT
      go_wp2_with fail
      refine (tl_clear HM.out ii bb HBB.out).mono ?_
      rintro x0 w4 ⟨rfl, hM, hg⟩
      replace HB5 := Aside0.mk ((hg.block _ (blk_lt HB5.out) (fun e => HNE.out (Option.some.inj e))).trans HB5.out)
      replace HM := Aside0.mk hM
      clear hM hg
      generalize clearAt es ii = es1 at HCL HINV1 HLN1 HM
      clear HINV HLN
      go_wp2_with fail
      refine (tl_at_none HM.out ii HCL.out).mono ?_
      rintro x0 w5 ⟨rfl, hg0⟩
      have hg := grown_two hg0 (World.grownBy_alloc w5 (.cells #[.int .i64 0, .int .i64 0, .int .u64 0, .int .u64 0, .bool false, .bool false, .bool false, .bool false, .bool false, .bool false, .bool false] 26) none)
      replace HM := Aside0.mk (HM.out.same hg)
      replace HB5 := Aside0.mk (blk_grown HB5.out hg)
      clear hg hg0
      obtain ⟨q0, q1, q2, q3, q4, q5, q6, q7, q8, q9, q10⟩ := cz11 HB5.out
      have hbn : (bb != bb) = false := by cases bb <;> rfl
      cases bb
      all_goals
        go_wp2_with fail
        refine (good_calls HWE0.out _).mono ?_
        rintro x0 w6 ⟨rfl, hg0⟩
        have hg := grown_two hg0 (World.grownBy_alloc w6 (.cells (entA (lockE (goodE e0) false)) 26) none)
        have HHR := Aside0.mk (show w6.heap.size ≠ r from fun e => by have h1 := HM.out.rlt; have h3 := hg0.size; omega)
        replace HM := Aside0.mk (HM.out.same hg)
        have HS := Aside0.mk (heap_alloc_new w6 (.cells (entA (lockE (goodE e0) false)) 26))
        obtain ⟨g, hgd⟩ : ∃ g, g = lockE (goodE e0) false := ⟨_, rfl⟩
        have HGW := Aside0.mk (show EntW g by rw [hgd]; exact lockE_W (goodE_W e0) false)
        have HGM := Aside0.mk (show mayB g = true by rw [hgd]; exact (lockE_may (goodE e0) false).trans (goodE_may e0))
        have HS2 := Aside0.mk (HS.out.trans (show some (Obj.cells (entA (lockE (goodE e0) false)) 26 (0, 0)) = some (Obj.cells (entA g) 26 (0, 0)) by rw [hgd]))
        clear hg hg0 HB5 HS hgd q0 q1 q2 q3 q4 q5 q6 q7 q8 q9 q10
        go_wp2_with fail
        generalize w6.heap.size = h17 at HS2 HHR ⊢
        go_loopw [18, 19] (fun v18 v19 wr => ∃ k : Nat, v19 = .int .i64 k ∧ k ≤ 6 ∧ v18 = .int .i64 (optV (noneTo es1 k)) ∧ Aside0 (∀ j, j < k → ∀ b, es1.getD j none = some b → partsB b g = true) ∧ Aside0 (Tl W.heap.size W p r es1 wr) ∧ Aside0 (wr.heap[h17]? = some (.cells (entA g) 26 (0, 0)))) (fun _ v19 _ => 6 - (intOf v19).toNat)
        case atStart => exact ⟨0, rfl, by omega, rfl, ⟨fun j hj => by omega⟩, HM, HS2⟩
        case round =>
          clear HM HS2
          obtain ⟨k, rfl, hk, rfl, HPA, HM, HS2⟩ := hrel
          by_cases h6 : k < 6
          · have h6' : (k : Int) < 6 := by omega
            cases hx : es1.getD k none with
            | none =>
              have HPA2 := Aside0.mk (show ∀ j, j < k + 1 → ∀ b, es1.getD j none = some b → partsB b g = true from fun j hj b hb => by
                by_cases c : j = k
                · subst c; rw [hx] at hb; cases hb
                · exact HPA.out j (by omega) b hb)
              have HA1 := Aside0.mk (atOf_none hx)
              cases hno : noneTo es1 k with
              | none =>
                have HNX := Aside0.mk (noneTo_new hno hx)
                clear hno hx
                simp only [optV]
                go_wp2_with fail
                refine (tl_at_none HM.out k HA1.out).mono ?_
                rintro x0 w7 ⟨rfl, hg0⟩
                have hg := grown_two hg0 (World.grownBy_alloc w7 (.cells #[.int .i64 0, .int .i64 0, .int .u64 0, .int .u64 0, .bool false, .bool false, .bool false, .bool false, .bool false, .bool false, .bool false] 26) none)
                have HM3 := Aside0.mk (HM.out.same hg)
                have HS3 := Aside0.mk (blk_grown HS2.out hg)
                clear hg hg0 HM HS2
                go_wp2_with fail
                go_roundw
                case rel => exact ⟨k + 1, by go_num, by omega, by rw [HNX.out], HPA2, HM3, HS3⟩
                case measure => simp [intOf]; omega
              | some i =>
                have HNX := Aside0.mk (noneTo_had hno)
                have hi0 : (0 : Int) ≤ (i : Int) := by omega
                clear hno hx
                simp only [optV]
                go_wp2_with fail
                refine (tl_at_none HM.out k HA1.out).mono ?_
                rintro x0 w7 ⟨rfl, hg0⟩
                have hg := grown_two hg0 (World.grownBy_alloc w7 (.cells #[.int .i64 0, .int .i64 0, .int .u64 0, .int .u64 0, .bool false, .bool false, .bool false, .bool false, .bool false, .bool false, .bool false] 26) none)
                have HM3 := Aside0.mk (HM.out.same hg)
                have HS3 := Aside0.mk (blk_grown HS2.out hg)
                clear hg hg0 HM HS2
                go_wp2_with fail
                go_roundw
                case rel => exact ⟨k + 1, by go_num, by omega, by rw [HNX.out], HPA2, HM3, HS3⟩
                case measure => simp [intOf]; omega
            | some b =>
              have HX := Aside0.mk hx
              have HNX := Aside0.mk (noneTo_full hx)
              clear hx
              go_wp2_with fail
              refine (tl_at_some HM.out k b HX.out).mono ?_
              rintro x0 w7 ⟨rfl, hg0⟩
              have hg := grown_two hg0 (World.grownBy_alloc w7 (.cells (entA b) 26) none)
              have HM3 := Aside0.mk (HM.out.same hg)
              have HS3 := Aside0.mk (blk_grown HS2.out hg)
              have HB20 := Aside0.mk (heap_alloc_new w7 (.cells (entA b) 26))
              obtain ⟨q0, q1, q2, q3, q4, q5, q6, q7, q8, q9, q10⟩ := cz11 HS3.out
              obtain ⟨z0, z1, z2, z3, z4, z5, z6, z7, z8, z9, z10⟩ := cz11 HB20.out
              clear hg hg0 HM HS2
              go_wp2_with fail
              refine (parts_calls (ok_at HINV1.out.ok HX.out).1 HGW.out _).mono ?_
              rintro x0 w8 ⟨rfl, hg⟩
              have HM4 := Aside0.mk (HM3.out.same hg)
              have HS4 := Aside0.mk (blk_grown HS3.out hg)
              clear hg q0 q1 q2 q3 q4 q5 q6 q7 q8 q9 q10 z0 z1 z2 z3 z4 z5 z6 z7 z8 z9 z10
              cases hp : partsB b g with
              | true =>
                have HPA2 := Aside0.mk (show ∀ j, j < k + 1 → ∀ b, es1.getD j none = some b → partsB b g = true from fun j hj b' hb => by
                  by_cases c : j = k
                  · subst c; rw [HX.out] at hb; cases hb; exact hp
                  · exact HPA.out j (by omega) b' hb)
                clear hp
                go_wp2_with fail
                go_roundw
                case rel => exact ⟨k + 1, by go_num, by omega, by rw [HNX.out], HPA2, HM4, HS4⟩
                case measure => simp [intOf]; omega
              | false =>
                clear hp
                go_wp2_with fail
                refine (HLF.out _).mono ?_
                rintro x0 wl ⟨rfl, hg⟩
                have HE := Aside0.mk (HM4.out.same hg).below
                clear hg
                go_wp2
                go_ret
                exact ⟨rfl, HE.out⟩
          · obtain rfl : k = 6 := by omega
            have hno' : noneTo es1 6 = noneAt es1 := by rw [← noneTo_all, HLN1.out]
            rw [hno']
            clear hno'
            obtain ⟨q0, q1, q2, q3, q4, q5, q6, q7, q8, q9, q10⟩ := cz11 HS2.out
            cases hno : noneAt es1 with
            | some i =>
              have HINS := Aside0.mk (clears_ins HINV1.out HGM.out (fun j b hx => HPA.out j (by have := lt_of_getD hx; have := HLN1.out; omega) b hx) hno 3)
              have hi0 : (0 : Int) ≤ (i : Int) := by omega
              clear hno
              simp only [optV]
              go_wp2_with fail
              refine (tl_insert HM.out HINV1.out.ok _ HGW.out 3 (by decide) _ _ _ HINS.out).mono ?_
              rintro x0 w7 ⟨rfl, hM, hg⟩
              have HM3 := Aside0.mk hM
              clear hM hg HM
              go_wp2_with fail
              refine (HLF.out _).mono ?_
              rintro x0 wl ⟨rfl, hg⟩
              have HE := Aside0.mk (HM3.out.same hg).below
              clear hg
              go_wp2
              go_ret
              exact ⟨rfl, HE.out⟩
            | none =>
              obtain ⟨i2, er2, es2, hins⟩ : ∃ a b c, insOf es1 g 3 = (a, b, c) := ⟨_, _, _, rfl⟩
              have HINS := Aside0.mk hins
              clear hno hins
              simp only [optV]
              go_wp2_with fail
              refine (tl_insert HM.out HINV1.out.ok _ HGW.out 3 (by decide) _ _ _ HINS.out).mono ?_
              rintro x0 w7 ⟨rfl, hM, hg⟩
              have HM3 := Aside0.mk hM
              clear hM hg HM
              go_wp2_with fail
              refine (HLF.out _).mono ?_
              rintro x0 wl ⟨rfl, hg⟩
              have HE := Aside0.mk (HM3.out.same hg).below
              clear hg
              go_wp2
              go_ret
              exact ⟨rfl, HE.out⟩
end
end Go.Proofs.Ythclbckkfgmbaaa.QTlbPlays
