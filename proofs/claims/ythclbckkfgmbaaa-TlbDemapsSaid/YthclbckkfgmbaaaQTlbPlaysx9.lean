-- Printed by a program of this session (wip/print/myprint.py) out of the translation; Lean checks it.
import Derived.Test.YthclbckkfgmbaaaQTlbPlaysx0
import Derived.Test.YthclbckkfgmbaaaQTlbPlaysx5
import Derived.Test.YthclbckkfgmbaaaQTlbPlaysx6
namespace Go.Proofs.Ythclbckkfgmbaaa.QTlbPlays
open Go.RowKit Go.Proofs.YthclbckkfgmbaaaW.PrintWords Go.Proofs.YthclbckkfgmbaaaW.PrintLast Go.Proofs.YthclbckkfgmbaaaW.PrintMore
attribute [local go_sem] max2_int min2_int max_two min_two max_three min_three max_four min_four   -- for this text's walks alone
set_option linter.unusedVariables false
set_option linter.unusedSimpArgs false

/-! ### lookasideref06_Demap: function 67 -/
mutual
def lookasideref06_Demap.l0 : Nat → List (S26) → Int → Int → Int → List (S26) → Int → Int → Option ((List (S26)) × Int)
  | 0, _, _, _, _, _, _, _ => none
  | k + 1, x0, x1, x2, x3, x10, x11, x12 => if x12 < (x0.length : Int) then (if 0 ≤ x12 then ((lookasideref03_Hits.f ((rd_T26 x0 x12).f0) ((rd_T26 x0 x12).f1) ((rd_T26 x0 x12).f2) ((rd_T26 x0 x12).f3) ((rd_T26 x0 x12).f4.f0) ((rd_T26 x0 x12).f4.f1) ((rd_T26 x0 x12).f4.f2) ((rd_T26 x0 x12).f4.f3) ((rd_T26 x0 x12).f4.f4) ((rd_T26 x0 x12).f4.f5) ((rd_T26 x0 x12).f5) x2 x3).bind fun t222 => (if x1 = 1 then (if (rd_T26 x0 x12).f5 = true then (if ((rd_T26 x0 x12).f4.f4 = true) then (lookasideref06_Demap.j1 k x0 x1 x2 x3 x10 x11 x12 false) else (lookasideref06_Demap.j1 k x0 x1 x2 x3 x10 x11 x12 (((rd_T26 x0 x12).f1) == x3))) else (lookasideref06_Demap.j1 k x0 x1 x2 x3 x10 x11 x12 false)) else (lookasideref06_Demap.j1 k x0 x1 x2 x3 x10 x11 x12 t222))) else (none)) else (some (x10, x11))
def lookasideref06_Demap.j1 : Nat → List (S26) → Int → Int → Int → List (S26) → Int → Int → Bool → Option ((List (S26)) × Int)
  | 0, _, _, _, _, _, _, _, _ => none
  | k + 1, x0, x1, x2, x3, x10, x11, x12, x13 => if x1 = 2 then (if 0 ≤ x12 then (if x12 < (x0.length : Int) then (if (rd_T26 x0 x12).f5 = true then (if ((rd_T26 x0 x12).f4.f3 = true) then (lookasideref06_Demap.l0 k x0 x1 x2 x3 x10 x11 (wrap64 (x12 + 1))) else ((lookasideref06_with.f x10 x12 0 0 0 0 false false false false false false false).bind fun t228 => (lookasideref06_Demap.l0 k x0 x1 x2 x3 t228 (wrap64 (x11 + 1)) (wrap64 (x12 + 1))))) else (lookasideref06_Demap.l0 k x0 x1 x2 x3 x10 x11 (wrap64 (x12 + 1)))) else (none)) else (none)) else (if x13 = true then ((lookasideref06_with.f x10 x12 0 0 0 0 false false false false false false false).bind fun t231 => (lookasideref06_Demap.l0 k x0 x1 x2 x3 t231 (wrap64 (x11 + 1)) (wrap64 (x12 + 1)))) else (lookasideref06_Demap.l0 k x0 x1 x2 x3 x10 x11 (wrap64 (x12 + 1))))
end
def lookasideref06_Demap.f (k : Nat) (l0 : List (S26)) (a1 : Int) (a2 : Int) (a3 : Int) : Option ((List (S26)) × Int) := lookasideref06_Demap.l0 k l0 a1 a2 a3 l0 0 0
theorem lookasideref06_Demap.mono_l : ∀ k, (∀ y0 y1 y2 y3 y4 y5 y6, LeO (lookasideref06_Demap.l0 k y0 y1 y2 y3 y4 y5 y6) (lookasideref06_Demap.l0 (k + 1) y0 y1 y2 y3 y4 y5 y6)) ∧ (∀ y0 y1 y2 y3 y4 y5 y6 y7, LeO (lookasideref06_Demap.j1 k y0 y1 y2 y3 y4 y5 y6 y7) (lookasideref06_Demap.j1 (k + 1) y0 y1 y2 y3 y4 y5 y6 y7))
  | 0 => ⟨fun _ _ _ _ _ _ _ r h => by simp [lookasideref06_Demap.l0] at h, fun _ _ _ _ _ _ _ _ r h => by simp [lookasideref06_Demap.j1] at h⟩
  | k + 1 => by
    obtain ⟨ih0, ih1⟩ := lookasideref06_Demap.mono_l k
    refine ⟨?_, ?_⟩
    · intro y0 y1 y2 y3 y4 y5 y6
      unfold lookasideref06_Demap.l0
      repeat' first
      | (with_reducible exact ih0 _ _ _ _ _ _ _)
      | (with_reducible exact ih1 _ _ _ _ _ _ _ _)
      | (with_reducible exact LeO.refl _)
      | (with_reducible exact LeO.none _)
      | (with_reducible refine LeO.ite ?_ ?_)
      | (with_reducible refine LeO.bind ?_ (fun _ => ?_))
      | exact ih0 _ _ _ _ _ _ _
      | exact ih1 _ _ _ _ _ _ _ _
      | exact LeO.none _
      | refine LeO.ite ?_ ?_
      | refine LeO.bind ?_ (fun _ => ?_)
    · intro y0 y1 y2 y3 y4 y5 y6 y7
      unfold lookasideref06_Demap.j1
      repeat' first
      | (with_reducible exact ih0 _ _ _ _ _ _ _)
      | (with_reducible exact ih1 _ _ _ _ _ _ _ _)
      | (with_reducible exact LeO.refl _)
      | (with_reducible exact LeO.none _)
      | (with_reducible refine LeO.ite ?_ ?_)
      | (with_reducible refine LeO.bind ?_ (fun _ => ?_))
      | exact ih0 _ _ _ _ _ _ _
      | exact ih1 _ _ _ _ _ _ _ _
      | exact LeO.none _
      | refine LeO.ite ?_ ?_
      | refine LeO.bind ?_ (fun _ => ?_)
theorem lookasideref06_Demap.mono : ∀ a0 a1 a2 a3 k, LeO (lookasideref06_Demap.f k a0 a1 a2 a3) (lookasideref06_Demap.f (k + 1) a0 a1 a2 a3) := by
  intro a0 a1 a2 a3 k
  obtain ⟨ih0, ih1⟩ := lookasideref06_Demap.mono_l k
  unfold lookasideref06_Demap.f
  repeat' first
      | (with_reducible exact ih0 _ _ _ _ _ _ _)
      | (with_reducible exact ih1 _ _ _ _ _ _ _ _)
      | (with_reducible exact LeO.refl _)
      | (with_reducible exact LeO.none _)
      | (with_reducible refine LeO.ite ?_ ?_)
      | (with_reducible refine LeO.bind ?_ (fun _ => ?_))
      | exact ih0 _ _ _ _ _ _ _
      | exact ih1 _ _ _ _ _ _ _ _
      | exact LeO.none _
      | refine LeO.ite ?_ ?_
      | refine LeO.bind ?_ (fun _ => ?_)
set_option maxHeartbeats 8000000 in
set_option maxRecDepth 100000 in
theorem lookasideref06_Demap.calls (k : Nat) (P0_ : Nat → Prop) (A0 : Option Addr) (c0 : Nat) (l0 : List (S26)) (a1 : Int) (a2 : Int) (a3 : Int) (r1 : List (S26)) (r2 : Int) (w : World) (hs0 : Kd.V k26 26 w w.heap.size (fun k_ => P0_ k_) (.slice A0 l0.length c0) l0) (h : lookasideref06_Demap.f k l0 a1 a2 a3 = some (r1, r2)) :
    Calls Try.prog 67 #[.slice A0 l0.length c0, .int .i64 a1, .int .u64 a2, .int .i64 a3] w fun e w' => ∃ v0_ : Value, e = .returned (.tuple #[v0_, .int .i64 r2]) ∧ Kd.V k26 26 w' w.heap.size (fun k_ => (P0_ k_ ∨ w.heap.size ≤ k_)) v0_ r1 ∧ Below w.heap.size w w' := by
  have hu26 := Try.underlying26
  have HO0 := Aside0.mk (show Kd.V k26 26 w w.heap.size (fun k_ => (P0_ k_ ∨ w.heap.size ≤ k_)) (.slice A0 l0.length c0) l0 from Kd.V_mono hs0 (fun k_ hk => .inl hk))
  have HB := Aside0.mk (Below.refl w.heap.size w)
  have H : (lookasideref06_Demap.l0 k l0 a1 a2 a3 l0 0 0) = some (r1, r2) := h
  clear h
  have H' := Aside0.mk H
  clear H
  go_enter Try.func67, Try.ntmps67
  go_wp2
  go_loopg [10, 11, 12] k (fun kq v10 v11 v12 w' => ∃ (x10_1 : List (S26)) (x11_1 : Int) (x12_1 : Int), v11 = .int .i64 x11_1 ∧ v12 = .int .i64 x12_1 ∧ Aside0 (lookasideref06_Demap.l0 kq l0 a1 a2 a3 x10_1 x11_1 x12_1 = some (r1, r2)) ∧ Aside0 (kq ≤ k) ∧ Aside0 (Kd.V k26 26 w' w.heap.size (fun k_ => (P0_ k_ ∨ w.heap.size ≤ k_)) (.slice A0 l0.length c0) l0) ∧ Aside0 (Kd.V k26 26 w' w.heap.size (fun k_ => (P0_ k_ ∨ w.heap.size ≤ k_)) v10 x10_1) ∧ Aside0 (Below w.heap.size w w'))
  case atStart => exact ⟨(l0), (0), (0), (by first | rfl | (simp; done) | (simp [*]; done)), (by first | rfl | (simp; done) | (simp [*]; done)), H', ⟨Nat.le_refl _⟩, ⟨by (with_reducible repeat (first | apply Kd.V_alloc | apply Kd.V_drewN | apply Kd.V_drew)); exact HO0.out⟩, ⟨by (with_reducible repeat (first | apply Kd.V_alloc | apply Kd.V_drewN | apply Kd.V_drew)); exact HO0.out⟩, ⟨by repeat (first | (with_reducible first | exact HB.out | apply below_alloc | apply pw_below_drewN | apply below_drew1) | exact HB.out)⟩⟩
  case round =>
    clear H'
    try clear p2
    obtain ⟨x10_1, x11_1, x12_1, rfl, rfl, HA, HK1, HO_0, HO_10, HB⟩ := hrel
    cases gk with
    | zero => exact absurd HA.out (by simp [lookasideref06_Demap.l0])
    | succ k1 =>
      have H := HA.out
      clear HA
      simp only [lookasideref06_Demap.l0] at H
      by_cases c5 : x12_1 < (l0.length : Int)
      · rw [if_pos c5] at H
        have c5b0 : decide (x12_1 < (l0.length : Int)) = true := decide_eq_true c5
        clear c5
        by_cases c6 : 0 ≤ x12_1
        · rw [if_pos c6] at H
          have c6b0 : decide (0 ≤ x12_1) = true := decide_eq_true c6
          clear c6
          replace H := Option.bind_eq_some_iff.mp H
          obtain ⟨t222, A70, H⟩ := H
          replace H : (if a1 = 1 then (if (rd_T26 l0 x12_1).f5 = true then (if ((rd_T26 l0 x12_1).f4.f4 = true) then (lookasideref06_Demap.j1 k1 l0 a1 a2 a3 x10_1 x11_1 x12_1 false) else (lookasideref06_Demap.j1 k1 l0 a1 a2 a3 x10_1 x11_1 x12_1 (((rd_T26 l0 x12_1).f1) == a3))) else (lookasideref06_Demap.j1 k1 l0 a1 a2 a3 x10_1 x11_1 x12_1 false)) else (lookasideref06_Demap.j1 k1 l0 a1 a2 a3 x10_1 x11_1 x12_1 t222)) = some (r1, r2) := H
          have A7 := Aside0.mk A70
          clear A70
          have HC8 := Aside0.mk H
          clear H
          have p221 : 0 ≤ (x12_1 : Int) := of_decide_eq_true (by first | (with_reducible assumption) | assumption)
          have q221 : x12_1 < (l0.length : Int) := of_decide_eq_true (by first | (with_reducible assumption) | assumption)
          obtain ⟨ad221, e221, hx221_0, hx221_1, hx221_2, hx221_3, hx221_4, hx221_5, hx221_6, hx221_7, hx221_8, hx221_9, hx221_10⟩ := at_T26 (Kd.V_reads' HO_0.out).2.2 x12_1 p221 q221
          cases e221
          replace p221 := eq_true p221
          replace q221 := eq_true q221
          go_upto_if 29 with (first | ((with_reducible refine gate_callee (f := 16) rfl ?_); refine goesL_ (some 27) rfl rfl Try.func16 (by kernel_rfl) rfl #[.agg #[.int .i64 ((rd_T26 l0 x12_1).f0), .int .i64 ((rd_T26 l0 x12_1).f1), .int .u64 ((rd_T26 l0 x12_1).f2), .int .u64 ((rd_T26 l0 x12_1).f3), .bool ((rd_T26 l0 x12_1).f4.f0), .bool ((rd_T26 l0 x12_1).f4.f1), .bool ((rd_T26 l0 x12_1).f4.f2), .bool ((rd_T26 l0 x12_1).f4.f3), .bool ((rd_T26 l0 x12_1).f4.f4), .bool ((rd_T26 l0 x12_1).f4.f5), .bool ((rd_T26 l0 x12_1).f5)], .int .u64 a2, .int .i64 a3] rfl (by (try simp only [List.map_toArray, List.map_cons, List.map_nil]); first | done | rfl | (simp only [List.length_drop, List.length_take]; rfl)) ?_; (with_reducible refine (lookasideref03_Hits.calls ((rd_T26 l0 x12_1).f0) ((rd_T26 l0 x12_1).f1) ((rd_T26 l0 x12_1).f2) ((rd_T26 l0 x12_1).f3) ((rd_T26 l0 x12_1).f4.f0) ((rd_T26 l0 x12_1).f4.f1) ((rd_T26 l0 x12_1).f4.f2) ((rd_T26 l0 x12_1).f4.f3) ((rd_T26 l0 x12_1).f4.f4) ((rd_T26 l0 x12_1).f4.f5) ((rd_T26 l0 x12_1).f5) a2 a3 t222 _ A7.out).mono ?_); rintro e w9 ⟨rfl, hb⟩; refine ⟨_, rfl, ?_⟩; have n0_ := Aside0.mk (Kd.V_below (by (with_reducible repeat (first | apply Kd.V_alloc | apply Kd.V_drewN | apply Kd.V_drew)); exact HO_0.out) hb); have n1_ := Aside0.mk (Kd.V_below (by (with_reducible repeat (first | apply Kd.V_alloc | apply Kd.V_drewN | apply Kd.V_drew)); exact HO_10.out) hb); have n2_ := Aside0.mk (below_step (by repeat (first | (with_reducible first | exact HB.out | apply below_alloc | apply pw_below_drewN | apply below_drew1) | exact HB.out)) hb); clear HO_0; clear HO_10; clear HB; have HO_0 := n0_; have HO_10 := n1_; have HB := n2_; clear n0_ n1_ n2_; (try clear hb); (try clear hb2); (try clear hk); (try clear hi)))
          (try simp only [Act.put, List.setIfInBounds_toArray, List.set_cons_zero, List.set_cons_succ])
          go_cut [13] (fun v13 wc => ∃ (kq : Nat) (x13_7 : Bool), v13 = .bool x13_7 ∧ Aside0 (lookasideref06_Demap.j1 kq l0 a1 a2 a3 x10_1 x11_1 x12_1 x13_7 = some (r1, r2)) ∧ Aside0 (kq ≤ k1) ∧ Aside0 (Kd.V k26 26 wc w.heap.size (fun k_ => (P0_ k_ ∨ w.heap.size ≤ k_)) (.slice (some ad221) l0.length c0) l0) ∧ Aside0 (Kd.V k26 26 wc w.heap.size (fun k_ => (P0_ k_ ∨ w.heap.size ≤ k_)) u10 x10_1) ∧ Aside0 (Below w.heap.size w wc))
          case first =>
            have H := HC8.out
            clear HC8
            by_cases c10 : a1 = 1
            · rw [if_pos c10] at H
              have c10b0 : (a1 == 1) = true := beq_iff_eq.mpr c10
              have c10b1 : (a1 != 1) = false := bne_eq_false_iff_eq.mpr c10
              clear c10
              (first | rw [c10b0] | (simp only [i64_w, i32_w]; rw [c10b0]) | skip)
              obtain ⟨bq11, hbq11⟩ : ∃ b_ : Bool, b_ = ((rd_T26 l0 x12_1).f5) := ⟨_, rfl⟩
              replace H : (if bq11 = true then (if ((rd_T26 l0 x12_1).f4.f4 = true) then (lookasideref06_Demap.j1 k1 l0 a1 a2 a3 x10_1 x11_1 x12_1 false) else (lookasideref06_Demap.j1 k1 l0 a1 a2 a3 x10_1 x11_1 x12_1 (((rd_T26 l0 x12_1).f1) == a3))) else (lookasideref06_Demap.j1 k1 l0 a1 a2 a3 x10_1 x11_1 x12_1 false)) = some (r1, r2) := by rw [← hbq11] at H; exact H
              have Nbq11 := Aside0.mk hbq11
              clear hbq11
              by_cases c12 : bq11 = true
              · subst c12
                have H1 : (if ((rd_T26 l0 x12_1).f4.f4 = true) then (lookasideref06_Demap.j1 k1 l0 a1 a2 a3 x10_1 x11_1 x12_1 false) else (lookasideref06_Demap.j1 k1 l0 a1 a2 a3 x10_1 x11_1 x12_1 (((rd_T26 l0 x12_1).f1) == a3))) = some (r1, r2) := by rw [if_pos rfl] at H; exact H
                clear H
                have H := H1
                clear H1
                obtain ⟨bq13, hbq13⟩ : ∃ b_ : Bool, b_ = ((rd_T26 l0 x12_1).f4.f4) := ⟨_, rfl⟩
                replace H : (if (bq13 = true) then (lookasideref06_Demap.j1 k1 l0 a1 a2 a3 x10_1 x11_1 x12_1 false) else (lookasideref06_Demap.j1 k1 l0 a1 a2 a3 x10_1 x11_1 x12_1 (((rd_T26 l0 x12_1).f1) == a3))) = some (r1, r2) := by rw [← hbq13] at H; exact H
                have Nbq13 := Aside0.mk hbq13
                clear hbq13
                by_cases c14 : (bq13 = true)
                · subst c14
                  have H1 : (lookasideref06_Demap.j1 k1 l0 a1 a2 a3 x10_1 x11_1 x12_1 false) = some (r1, r2) := by rw [if_pos rfl] at H; exact H
                  clear H
                  have H := H1
                  clear H1
                  have H' := Aside0.mk H
                  clear H
                  have p223 : 0 ≤ (x12_1 : Int) := of_decide_eq_true (by first | (with_reducible assumption) | assumption)
                  have q223 : x12_1 < (l0.length : Int) := of_decide_eq_true (by first | (with_reducible assumption) | assumption)
                  obtain ⟨ad223, e223, hx223_0, hx223_1, hx223_2, hx223_3, hx223_4, hx223_5, hx223_6, hx223_7, hx223_8, hx223_9, hx223_10⟩ := at_T26 (Kd.V_reads' HO_0.out).2.2 x12_1 p223 q223
                  (try rw [← Nbq11.out] at hx223_4)
                  (try rw [← Nbq13.out] at hx223_4)
                  (try rw [← Nbq11.out] at hx223_5)
                  (try rw [← Nbq13.out] at hx223_5)
                  (try rw [← Nbq11.out] at hx223_6)
                  (try rw [← Nbq13.out] at hx223_6)
                  (try rw [← Nbq11.out] at hx223_7)
                  (try rw [← Nbq13.out] at hx223_7)
                  (try rw [← Nbq11.out] at hx223_8)
                  (try rw [← Nbq13.out] at hx223_8)
                  (try rw [← Nbq11.out] at hx223_9)
                  (try rw [← Nbq13.out] at hx223_9)
                  (try rw [← Nbq11.out] at hx223_10)
                  (try rw [← Nbq13.out] at hx223_10)
                  obtain rfl : ad221 = ad223 := (by injection e223)
                  replace p223 := eq_true p223
                  replace q223 := eq_true q223
                  have p224 : 0 ≤ (x12_1 : Int) := of_decide_eq_true (by first | (with_reducible assumption) | assumption)
                  have q224 : x12_1 < (l0.length : Int) := of_decide_eq_true (by first | (with_reducible assumption) | assumption)
                  obtain ⟨ad224, e224, hx224_0, hx224_1, hx224_2, hx224_3, hx224_4, hx224_5, hx224_6, hx224_7, hx224_8, hx224_9, hx224_10⟩ := at_T26 (Kd.V_reads' HO_0.out).2.2 x12_1 p224 q224
                  (try rw [← Nbq11.out] at hx224_4)
                  (try rw [← Nbq13.out] at hx224_4)
                  (try rw [← Nbq11.out] at hx224_5)
                  (try rw [← Nbq13.out] at hx224_5)
                  (try rw [← Nbq11.out] at hx224_6)
                  (try rw [← Nbq13.out] at hx224_6)
                  (try rw [← Nbq11.out] at hx224_7)
                  (try rw [← Nbq13.out] at hx224_7)
                  (try rw [← Nbq11.out] at hx224_8)
                  (try rw [← Nbq13.out] at hx224_8)
                  (try rw [← Nbq11.out] at hx224_9)
                  (try rw [← Nbq13.out] at hx224_9)
                  (try rw [← Nbq11.out] at hx224_10)
                  (try rw [← Nbq13.out] at hx224_10)
                  obtain rfl : ad221 = ad224 := (by injection e224)
                  replace p224 := eq_true p224
                  replace q224 := eq_true q224
                  go_wp2
                  go_meet
                  case rel => exact ⟨_, (false), (by first | rfl | (simp; done) | (simp [*]; done)), H', ⟨by have := HK1.out; first | omega | exact Nat.le_refl _⟩, ⟨by (with_reducible repeat (first | apply Kd.V_alloc | apply Kd.V_drewN | apply Kd.V_drew)); exact HO_0.out⟩, ⟨by (with_reducible repeat (first | apply Kd.V_alloc | apply Kd.V_drewN | apply Kd.V_drew)); exact HO_10.out⟩, ⟨by repeat (first | (with_reducible first | exact HB.out | apply below_alloc | apply pw_below_drewN | apply below_drew1) | exact HB.out)⟩⟩
                · replace c14 := Bool.eq_false_iff.mpr c14
                  subst c14
                  have H1 : (lookasideref06_Demap.j1 k1 l0 a1 a2 a3 x10_1 x11_1 x12_1 (((rd_T26 l0 x12_1).f1) == a3)) = some (r1, r2) := by rw [if_neg (show ¬ (false = true) by decide)] at H; exact H
                  clear H
                  have H := H1
                  clear H1
                  have H' := Aside0.mk H
                  clear H
                  have p223 : 0 ≤ (x12_1 : Int) := of_decide_eq_true (by first | (with_reducible assumption) | assumption)
                  have q223 : x12_1 < (l0.length : Int) := of_decide_eq_true (by first | (with_reducible assumption) | assumption)
                  obtain ⟨ad223, e223, hx223_0, hx223_1, hx223_2, hx223_3, hx223_4, hx223_5, hx223_6, hx223_7, hx223_8, hx223_9, hx223_10⟩ := at_T26 (Kd.V_reads' HO_0.out).2.2 x12_1 p223 q223
                  (try rw [← Nbq11.out] at hx223_4)
                  (try rw [← Nbq13.out] at hx223_4)
                  (try rw [← Nbq11.out] at hx223_5)
                  (try rw [← Nbq13.out] at hx223_5)
                  (try rw [← Nbq11.out] at hx223_6)
                  (try rw [← Nbq13.out] at hx223_6)
                  (try rw [← Nbq11.out] at hx223_7)
                  (try rw [← Nbq13.out] at hx223_7)
                  (try rw [← Nbq11.out] at hx223_8)
                  (try rw [← Nbq13.out] at hx223_8)
                  (try rw [← Nbq11.out] at hx223_9)
                  (try rw [← Nbq13.out] at hx223_9)
                  (try rw [← Nbq11.out] at hx223_10)
                  (try rw [← Nbq13.out] at hx223_10)
                  obtain rfl : ad221 = ad223 := (by injection e223)
                  replace p223 := eq_true p223
                  replace q223 := eq_true q223
                  have p224 : 0 ≤ (x12_1 : Int) := of_decide_eq_true (by first | (with_reducible assumption) | assumption)
                  have q224 : x12_1 < (l0.length : Int) := of_decide_eq_true (by first | (with_reducible assumption) | assumption)
                  obtain ⟨ad224, e224, hx224_0, hx224_1, hx224_2, hx224_3, hx224_4, hx224_5, hx224_6, hx224_7, hx224_8, hx224_9, hx224_10⟩ := at_T26 (Kd.V_reads' HO_0.out).2.2 x12_1 p224 q224
                  (try rw [← Nbq11.out] at hx224_4)
                  (try rw [← Nbq13.out] at hx224_4)
                  (try rw [← Nbq11.out] at hx224_5)
                  (try rw [← Nbq13.out] at hx224_5)
                  (try rw [← Nbq11.out] at hx224_6)
                  (try rw [← Nbq13.out] at hx224_6)
                  (try rw [← Nbq11.out] at hx224_7)
                  (try rw [← Nbq13.out] at hx224_7)
                  (try rw [← Nbq11.out] at hx224_8)
                  (try rw [← Nbq13.out] at hx224_8)
                  (try rw [← Nbq11.out] at hx224_9)
                  (try rw [← Nbq13.out] at hx224_9)
                  (try rw [← Nbq11.out] at hx224_10)
                  (try rw [← Nbq13.out] at hx224_10)
                  obtain rfl : ad221 = ad224 := (by injection e224)
                  replace p224 := eq_true p224
                  replace q224 := eq_true q224
                  have p225 : 0 ≤ (x12_1 : Int) := of_decide_eq_true (by first | (with_reducible assumption) | assumption)
                  have q225 : x12_1 < (l0.length : Int) := of_decide_eq_true (by first | (with_reducible assumption) | assumption)
                  obtain ⟨ad225, e225, hx225_0, hx225_1, hx225_2, hx225_3, hx225_4, hx225_5, hx225_6, hx225_7, hx225_8, hx225_9, hx225_10⟩ := at_T26 (Kd.V_reads' HO_0.out).2.2 x12_1 p225 q225
                  (try rw [← Nbq11.out] at hx225_4)
                  (try rw [← Nbq13.out] at hx225_4)
                  (try rw [← Nbq11.out] at hx225_5)
                  (try rw [← Nbq13.out] at hx225_5)
                  (try rw [← Nbq11.out] at hx225_6)
                  (try rw [← Nbq13.out] at hx225_6)
                  (try rw [← Nbq11.out] at hx225_7)
                  (try rw [← Nbq13.out] at hx225_7)
                  (try rw [← Nbq11.out] at hx225_8)
                  (try rw [← Nbq13.out] at hx225_8)
                  (try rw [← Nbq11.out] at hx225_9)
                  (try rw [← Nbq13.out] at hx225_9)
                  (try rw [← Nbq11.out] at hx225_10)
                  (try rw [← Nbq13.out] at hx225_10)
                  obtain rfl : ad221 = ad225 := (by injection e225)
                  replace p225 := eq_true p225
                  replace q225 := eq_true q225
                  go_wp2
                  go_meet
                  case rel => exact ⟨_, ((((rd_T26 l0 x12_1).f1) == a3)), (by first | rfl | (simp; done) | (simp [*]; done)), H', ⟨by have := HK1.out; first | omega | exact Nat.le_refl _⟩, ⟨by (with_reducible repeat (first | apply Kd.V_alloc | apply Kd.V_drewN | apply Kd.V_drew)); exact HO_0.out⟩, ⟨by (with_reducible repeat (first | apply Kd.V_alloc | apply Kd.V_drewN | apply Kd.V_drew)); exact HO_10.out⟩, ⟨by repeat (first | (with_reducible first | exact HB.out | apply below_alloc | apply pw_below_drewN | apply below_drew1) | exact HB.out)⟩⟩
              · replace c12 := Bool.eq_false_iff.mpr c12
                subst c12
                have H1 : (lookasideref06_Demap.j1 k1 l0 a1 a2 a3 x10_1 x11_1 x12_1 false) = some (r1, r2) := by rw [if_neg (show ¬ (false = true) by decide)] at H; exact H
                clear H
                have H := H1
                clear H1
                have H' := Aside0.mk H
                clear H
                have p223 : 0 ≤ (x12_1 : Int) := of_decide_eq_true (by first | (with_reducible assumption) | assumption)
                have q223 : x12_1 < (l0.length : Int) := of_decide_eq_true (by first | (with_reducible assumption) | assumption)
                obtain ⟨ad223, e223, hx223_0, hx223_1, hx223_2, hx223_3, hx223_4, hx223_5, hx223_6, hx223_7, hx223_8, hx223_9, hx223_10⟩ := at_T26 (Kd.V_reads' HO_0.out).2.2 x12_1 p223 q223
                (try rw [← Nbq11.out] at hx223_4)
                (try rw [← Nbq11.out] at hx223_5)
                (try rw [← Nbq11.out] at hx223_6)
                (try rw [← Nbq11.out] at hx223_7)
                (try rw [← Nbq11.out] at hx223_8)
                (try rw [← Nbq11.out] at hx223_9)
                (try rw [← Nbq11.out] at hx223_10)
                obtain rfl : ad221 = ad223 := (by injection e223)
                replace p223 := eq_true p223
                replace q223 := eq_true q223
                go_wp2
                go_meet
                case rel => exact ⟨_, (false), (by first | rfl | (simp; done) | (simp [*]; done)), H', ⟨by have := HK1.out; first | omega | exact Nat.le_refl _⟩, ⟨by (with_reducible repeat (first | apply Kd.V_alloc | apply Kd.V_drewN | apply Kd.V_drew)); exact HO_0.out⟩, ⟨by (with_reducible repeat (first | apply Kd.V_alloc | apply Kd.V_drewN | apply Kd.V_drew)); exact HO_10.out⟩, ⟨by repeat (first | (with_reducible first | exact HB.out | apply below_alloc | apply pw_below_drewN | apply below_drew1) | exact HB.out)⟩⟩
            · rw [if_neg c10] at H
              have c10b0 : (a1 == 1) = false := beq_eq_false_iff_ne.mpr c10
              have c10b1 : (a1 != 1) = true := bne_iff_ne.mpr c10
              (first | rw [c10b0] | (simp only [i64_w, i32_w]; rw [c10b0]) | skip)
              have H' := Aside0.mk H
              clear H
              go_wp2
              go_meet
              case rel => exact ⟨_, (t222), (by first | rfl | (simp; done) | (simp [*]; done)), H', ⟨by have := HK1.out; first | omega | exact Nat.le_refl _⟩, ⟨by (with_reducible repeat (first | apply Kd.V_alloc | apply Kd.V_drewN | apply Kd.V_drew)); exact HO_0.out⟩, ⟨by (with_reducible repeat (first | apply Kd.V_alloc | apply Kd.V_drewN | apply Kd.V_drew)); exact HO_10.out⟩, ⟨by repeat (first | (with_reducible first | exact HB.out | apply below_alloc | apply pw_below_drewN | apply below_drew1) | exact HB.out)⟩⟩
          case rest =>
            clear HC8
            try clear c1
            try clear q1
            try clear p2
            try clear q2
            try clear hx2
            try clear c5
            try clear c5b0
            try clear c6
            try clear c6b0
            try clear c10
            try clear c10b0
            try clear c10b1
            try clear q11
            try clear c12
            try clear q13
            try clear c14
            try clear hx221_0
            try clear hx221_1
            try clear hx221_10
            try clear hx221_2
            try clear hx221_3
            try clear hx221_4
            try clear hx221_5
            try clear hx221_6
            try clear hx221_7
            try clear hx221_8
            try clear hx221_9
            try clear hx223_0
            try clear hx223_1
            try clear hx223_10
            try clear hx223_2
            try clear hx223_3
            try clear hx223_4
            try clear hx223_5
            try clear hx223_6
            try clear hx223_7
            try clear hx223_8
            try clear hx223_9
            try clear hx224_0
            try clear hx224_1
            try clear hx224_10
            try clear hx224_2
            try clear hx224_3
            try clear hx224_4
            try clear hx224_5
            try clear hx224_6
            try clear hx224_7
            try clear hx224_8
            try clear hx224_9
            try clear hx225_0
            try clear hx225_1
            try clear hx225_10
            try clear hx225_2
            try clear hx225_3
            try clear hx225_4
            try clear hx225_5
            try clear hx225_6
            try clear hx225_7
            try clear hx225_8
            try clear hx225_9
            try clear p2
            try clear p221
            try clear p223
            try clear p224
            try clear p225
            try clear q221
            try clear q223
            try clear q224
            try clear q225
            obtain ⟨kq, x13_7, rfl, HA, HJ7, HO_0, HO_10, HB⟩ := hcut
            cases kq with
            | zero => exact absurd HA.out (by simp [lookasideref06_Demap.j1])
            | succ kj7 =>
              have H := HA.out
              clear HA
              simp only [lookasideref06_Demap.j1] at H
              by_cases c15 : a1 = 2
              · rw [if_pos c15] at H
                have c15b0 : (a1 == 2) = true := beq_iff_eq.mpr c15
                have c15b1 : (a1 != 2) = false := bne_eq_false_iff_eq.mpr c15
                clear c15
                by_cases c16 : 0 ≤ x12_1
                · rw [if_pos c16] at H
                  have c16b0 : decide (0 ≤ x12_1) = true := decide_eq_true c16
                  clear c16
                  by_cases c17 : x12_1 < (l0.length : Int)
                  · rw [if_pos c17] at H
                    have c17b0 : decide (x12_1 < (l0.length : Int)) = true := decide_eq_true c17
                    clear c17
                    obtain ⟨bq18, hbq18⟩ : ∃ b_ : Bool, b_ = ((rd_T26 l0 x12_1).f5) := ⟨_, rfl⟩
                    replace H : (if bq18 = true then (if ((rd_T26 l0 x12_1).f4.f3 = true) then (lookasideref06_Demap.l0 kj7 l0 a1 a2 a3 x10_1 x11_1 (wrap64 (x12_1 + 1))) else ((lookasideref06_with.f x10_1 x12_1 0 0 0 0 false false false false false false false).bind fun t228 => (lookasideref06_Demap.l0 kj7 l0 a1 a2 a3 t228 (wrap64 (x11_1 + 1)) (wrap64 (x12_1 + 1))))) else (lookasideref06_Demap.l0 kj7 l0 a1 a2 a3 x10_1 x11_1 (wrap64 (x12_1 + 1)))) = some (r1, r2) := by rw [← hbq18] at H; exact H
                    have Nbq18 := Aside0.mk hbq18
                    clear hbq18
                    by_cases c19 : bq18 = true
                    · subst c19
                      have H1 : (if ((rd_T26 l0 x12_1).f4.f3 = true) then (lookasideref06_Demap.l0 kj7 l0 a1 a2 a3 x10_1 x11_1 (wrap64 (x12_1 + 1))) else ((lookasideref06_with.f x10_1 x12_1 0 0 0 0 false false false false false false false).bind fun t228 => (lookasideref06_Demap.l0 kj7 l0 a1 a2 a3 t228 (wrap64 (x11_1 + 1)) (wrap64 (x12_1 + 1))))) = some (r1, r2) := by rw [if_pos rfl] at H; exact H
                      clear H
                      have H := H1
                      clear H1
                      obtain ⟨bq20, hbq20⟩ : ∃ b_ : Bool, b_ = ((rd_T26 l0 x12_1).f4.f3) := ⟨_, rfl⟩
                      replace H : (if (bq20 = true) then (lookasideref06_Demap.l0 kj7 l0 a1 a2 a3 x10_1 x11_1 (wrap64 (x12_1 + 1))) else ((lookasideref06_with.f x10_1 x12_1 0 0 0 0 false false false false false false false).bind fun t228 => (lookasideref06_Demap.l0 kj7 l0 a1 a2 a3 t228 (wrap64 (x11_1 + 1)) (wrap64 (x12_1 + 1))))) = some (r1, r2) := by rw [← hbq20] at H; exact H
                      have Nbq20 := Aside0.mk hbq20
                      clear hbq20
                      by_cases c21 : (bq20 = true)
                      · subst c21
                        have H1 : (lookasideref06_Demap.l0 kj7 l0 a1 a2 a3 x10_1 x11_1 (wrap64 (x12_1 + 1))) = some (r1, r2) := by rw [if_pos rfl] at H; exact H
                        clear H
                        have H := H1
                        clear H1
                        have H' := Aside0.mk H
                        clear H
                        have p226 : 0 ≤ (x12_1 : Int) := of_decide_eq_true (by first | (with_reducible assumption) | assumption)
                        have q226 : x12_1 < (l0.length : Int) := of_decide_eq_true (by first | (with_reducible assumption) | assumption)
                        obtain ⟨ad226, e226, hx226_0, hx226_1, hx226_2, hx226_3, hx226_4, hx226_5, hx226_6, hx226_7, hx226_8, hx226_9, hx226_10⟩ := at_T26 (Kd.V_reads' HO_0.out).2.2 x12_1 p226 q226
                        (try rw [← Nbq18.out] at hx226_4)
                        (try rw [← Nbq20.out] at hx226_4)
                        (try rw [← Nbq18.out] at hx226_5)
                        (try rw [← Nbq20.out] at hx226_5)
                        (try rw [← Nbq18.out] at hx226_6)
                        (try rw [← Nbq20.out] at hx226_6)
                        (try rw [← Nbq18.out] at hx226_7)
                        (try rw [← Nbq20.out] at hx226_7)
                        (try rw [← Nbq18.out] at hx226_8)
                        (try rw [← Nbq20.out] at hx226_8)
                        (try rw [← Nbq18.out] at hx226_9)
                        (try rw [← Nbq20.out] at hx226_9)
                        (try rw [← Nbq18.out] at hx226_10)
                        (try rw [← Nbq20.out] at hx226_10)
                        obtain rfl : ad221 = ad226 := (by injection e226)
                        replace p226 := eq_true p226
                        replace q226 := eq_true q226
                        have p227 : 0 ≤ (x12_1 : Int) := of_decide_eq_true (by first | (with_reducible assumption) | assumption)
                        have q227 : x12_1 < (l0.length : Int) := of_decide_eq_true (by first | (with_reducible assumption) | assumption)
                        obtain ⟨ad227, e227, hx227_0, hx227_1, hx227_2, hx227_3, hx227_4, hx227_5, hx227_6, hx227_7, hx227_8, hx227_9, hx227_10⟩ := at_T26 (Kd.V_reads' HO_0.out).2.2 x12_1 p227 q227
                        (try rw [← Nbq18.out] at hx227_4)
                        (try rw [← Nbq20.out] at hx227_4)
                        (try rw [← Nbq18.out] at hx227_5)
                        (try rw [← Nbq20.out] at hx227_5)
                        (try rw [← Nbq18.out] at hx227_6)
                        (try rw [← Nbq20.out] at hx227_6)
                        (try rw [← Nbq18.out] at hx227_7)
                        (try rw [← Nbq20.out] at hx227_7)
                        (try rw [← Nbq18.out] at hx227_8)
                        (try rw [← Nbq20.out] at hx227_8)
                        (try rw [← Nbq18.out] at hx227_9)
                        (try rw [← Nbq20.out] at hx227_9)
                        (try rw [← Nbq18.out] at hx227_10)
                        (try rw [← Nbq20.out] at hx227_10)
                        obtain rfl : ad221 = ad227 := (by injection e227)
                        replace p227 := eq_true p227
                        replace q227 := eq_true q227
                        go_wp2
                        go_roundg kj7
                        case measure => have := HK1.out; have := HJ7.out; omega
                        case rel => exact ⟨(x10_1), (x11_1), (wrap64 (x12_1 + 1)), (by first | rfl | (simp; done) | (simp [*]; done)), (by first | rfl | (simp; done) | (simp [*]; done)), H', ⟨by have := HK1.out; have := HJ7.out; omega⟩, ⟨by (with_reducible repeat (first | apply Kd.V_alloc | apply Kd.V_drewN | apply Kd.V_drew)); exact HO_0.out⟩, ⟨by (with_reducible repeat (first | apply Kd.V_alloc | apply Kd.V_drewN | apply Kd.V_drew)); exact HO_10.out⟩, ⟨by repeat (first | (with_reducible first | exact HB.out | apply below_alloc | apply pw_below_drewN | apply below_drew1) | exact HB.out)⟩⟩
                      · replace c21 := Bool.eq_false_iff.mpr c21
                        subst c21
                        have H1 : ((lookasideref06_with.f x10_1 x12_1 0 0 0 0 false false false false false false false).bind fun t228 => (lookasideref06_Demap.l0 kj7 l0 a1 a2 a3 t228 (wrap64 (x11_1 + 1)) (wrap64 (x12_1 + 1)))) = some (r1, r2) := by rw [if_neg (show ¬ (false = true) by decide)] at H; exact H
                        clear H
                        have H := H1
                        clear H1
                        replace H := Option.bind_eq_some_iff.mp H
                        obtain ⟨t228, A220, H⟩ := H
                        replace H : (lookasideref06_Demap.l0 kj7 l0 a1 a2 a3 t228 (wrap64 (x11_1 + 1)) (wrap64 (x12_1 + 1))) = some (r1, r2) := H
                        have A22 := Aside0.mk A220
                        clear A220
                        have H' := Aside0.mk H
                        clear H
                        have p226 : 0 ≤ (x12_1 : Int) := of_decide_eq_true (by first | (with_reducible assumption) | assumption)
                        have q226 : x12_1 < (l0.length : Int) := of_decide_eq_true (by first | (with_reducible assumption) | assumption)
                        obtain ⟨ad226, e226, hx226_0, hx226_1, hx226_2, hx226_3, hx226_4, hx226_5, hx226_6, hx226_7, hx226_8, hx226_9, hx226_10⟩ := at_T26 (Kd.V_reads' HO_0.out).2.2 x12_1 p226 q226
                        (try rw [← Nbq18.out] at hx226_4)
                        (try rw [← Nbq20.out] at hx226_4)
                        (try rw [← Nbq18.out] at hx226_5)
                        (try rw [← Nbq20.out] at hx226_5)
                        (try rw [← Nbq18.out] at hx226_6)
                        (try rw [← Nbq20.out] at hx226_6)
                        (try rw [← Nbq18.out] at hx226_7)
                        (try rw [← Nbq20.out] at hx226_7)
                        (try rw [← Nbq18.out] at hx226_8)
                        (try rw [← Nbq20.out] at hx226_8)
                        (try rw [← Nbq18.out] at hx226_9)
                        (try rw [← Nbq20.out] at hx226_9)
                        (try rw [← Nbq18.out] at hx226_10)
                        (try rw [← Nbq20.out] at hx226_10)
                        obtain rfl : ad221 = ad226 := (by injection e226)
                        replace p226 := eq_true p226
                        replace q226 := eq_true q226
                        have p227 : 0 ≤ (x12_1 : Int) := of_decide_eq_true (by first | (with_reducible assumption) | assumption)
                        have q227 : x12_1 < (l0.length : Int) := of_decide_eq_true (by first | (with_reducible assumption) | assumption)
                        obtain ⟨ad227, e227, hx227_0, hx227_1, hx227_2, hx227_3, hx227_4, hx227_5, hx227_6, hx227_7, hx227_8, hx227_9, hx227_10⟩ := at_T26 (Kd.V_reads' HO_0.out).2.2 x12_1 p227 q227
                        (try rw [← Nbq18.out] at hx227_4)
                        (try rw [← Nbq20.out] at hx227_4)
                        (try rw [← Nbq18.out] at hx227_5)
                        (try rw [← Nbq20.out] at hx227_5)
                        (try rw [← Nbq18.out] at hx227_6)
                        (try rw [← Nbq20.out] at hx227_6)
                        (try rw [← Nbq18.out] at hx227_7)
                        (try rw [← Nbq20.out] at hx227_7)
                        (try rw [← Nbq18.out] at hx227_8)
                        (try rw [← Nbq20.out] at hx227_8)
                        (try rw [← Nbq18.out] at hx227_9)
                        (try rw [← Nbq20.out] at hx227_9)
                        (try rw [← Nbq18.out] at hx227_10)
                        (try rw [← Nbq20.out] at hx227_10)
                        obtain rfl : ad221 = ad227 := (by injection e227)
                        replace p227 := eq_true p227
                        replace q227 := eq_true q227
                        obtain ⟨Ao23, co23, eo23⟩ := Kd.V_slice HO_10.out
                        subst eo23
                        go_wp2_with (first | ((with_reducible refine gate_callee (f := 93) rfl ?_); refine goesL_ (some 73) rfl rfl Try.func93 (by kernel_rfl) rfl #[.slice Ao23 x10_1.length co23, .int .i64 x12_1, .agg #[.int .i64 0, .int .i64 0, .int .u64 0, .int .u64 0, .bool false, .bool false, .bool false, .bool false, .bool false, .bool false, .bool false]] rfl (by (try simp only [List.map_toArray, List.map_cons, List.map_nil]); first | done | rfl | (simp only [List.length_drop, List.length_take]; rfl)) ?_; (with_reducible refine (lookasideref06_with.calls _ _ x10_1 x12_1 0 0 0 0 false false false false false false false t228 _ ?side1 ?side2 A22.out).mono ?_); (case side1 => repeat (first | exact (Kd.V_reads' HO_10.out).2.2 | (with_reducible refine Kd.C_alloc ?_ _) | (with_reducible refine Kd.C_drewN ?_ _) | (with_reducible refine Kd.C_drew ?_))); (case side2 => exact (Kd.V_reads' HO_10.out).2.1); rintro e w24 ⟨v229, rfl, ho0, hb⟩; refine ⟨_, rfl, ?_⟩; have n0_ := Aside0.mk (Kd.V_elder' (by (with_reducible repeat (first | apply Kd.V_alloc | apply Kd.V_drewN | apply Kd.V_drew)); exact HO_0.out) (Kd.R_base ho0) hb); have n1_ := Aside0.mk (Kd.V_elder' (by (with_reducible repeat (first | apply Kd.V_alloc | apply Kd.V_drewN | apply Kd.V_drew)); exact HO_10.out) (Kd.R_base ho0) hb); have n2_ := Aside0.mk (Kd.R_lower (Kd.R_newM (M := fun k_ => (w.heap.size ≤ k_)) ho0 (below_size (by repeat (first | (with_reducible first | exact HB.out | apply below_alloc | apply pw_below_drewN | apply below_drew1) | exact HB.out))) (fun k_ h_ => h_)) (below_size (by repeat (first | (with_reducible first | exact HB.out | apply below_alloc | apply pw_below_drewN | apply below_drew1) | exact HB.out)))); have n3_ := Aside0.mk (below_step (by repeat (first | (with_reducible first | exact HB.out | apply below_alloc | apply pw_below_drewN | apply below_drew1) | exact HB.out)) hb); clear HO_0; clear HO_10; clear HB; have HO_0 := n0_; have HO_10 := n1_; have HO230 := n2_; have HB := n3_; clear n0_ n1_ n2_ n3_; (try clear hb); (try clear hb2); (try clear hk); (try clear hi); (try clear ho0)))
                        go_roundg kj7
                        case measure => have := HK1.out; have := HJ7.out; omega
                        case rel => exact ⟨(t228), (wrap64 (x11_1 + 1)), (wrap64 (x12_1 + 1)), (by first | rfl | (simp; done) | (simp [*]; done)), (by first | rfl | (simp; done) | (simp [*]; done)), H', ⟨by have := HK1.out; have := HJ7.out; omega⟩, ⟨by (with_reducible repeat (first | apply Kd.V_alloc | apply Kd.V_drewN | apply Kd.V_drew)); exact Kd.V_mono HO_0.out (fun _ hk => hk.1)⟩, ⟨Kd.V_mono (Kd.R_V (by (with_reducible repeat (first | apply Kd.R_alloc | apply Kd.R_drewN | apply Kd.R_drew)); exact Kd.R_mono HO230.out (fun _ hk => hk.1))) (fun k_ hk => by first | exact ⟨(.inr (hk.1)), hk.2⟩ | exact (.inr (hk)))⟩, ⟨by repeat (first | (with_reducible first | exact HB.out | apply below_alloc | apply pw_below_drewN | apply below_drew1) | exact HB.out)⟩⟩
                    · replace c19 := Bool.eq_false_iff.mpr c19
                      subst c19
                      have H1 : (lookasideref06_Demap.l0 kj7 l0 a1 a2 a3 x10_1 x11_1 (wrap64 (x12_1 + 1))) = some (r1, r2) := by rw [if_neg (show ¬ (false = true) by decide)] at H; exact H
                      clear H
                      have H := H1
                      clear H1
                      have H' := Aside0.mk H
                      clear H
                      have p226 : 0 ≤ (x12_1 : Int) := of_decide_eq_true (by first | (with_reducible assumption) | assumption)
                      have q226 : x12_1 < (l0.length : Int) := of_decide_eq_true (by first | (with_reducible assumption) | assumption)
                      obtain ⟨ad226, e226, hx226_0, hx226_1, hx226_2, hx226_3, hx226_4, hx226_5, hx226_6, hx226_7, hx226_8, hx226_9, hx226_10⟩ := at_T26 (Kd.V_reads' HO_0.out).2.2 x12_1 p226 q226
                      (try rw [← Nbq18.out] at hx226_4)
                      (try rw [← Nbq18.out] at hx226_5)
                      (try rw [← Nbq18.out] at hx226_6)
                      (try rw [← Nbq18.out] at hx226_7)
                      (try rw [← Nbq18.out] at hx226_8)
                      (try rw [← Nbq18.out] at hx226_9)
                      (try rw [← Nbq18.out] at hx226_10)
                      obtain rfl : ad221 = ad226 := (by injection e226)
                      replace p226 := eq_true p226
                      replace q226 := eq_true q226
                      go_wp2
                      go_roundg kj7
                      case measure => have := HK1.out; have := HJ7.out; omega
                      case rel => exact ⟨(x10_1), (x11_1), (wrap64 (x12_1 + 1)), (by first | rfl | (simp; done) | (simp [*]; done)), (by first | rfl | (simp; done) | (simp [*]; done)), H', ⟨by have := HK1.out; have := HJ7.out; omega⟩, ⟨by (with_reducible repeat (first | apply Kd.V_alloc | apply Kd.V_drewN | apply Kd.V_drew)); exact HO_0.out⟩, ⟨by (with_reducible repeat (first | apply Kd.V_alloc | apply Kd.V_drewN | apply Kd.V_drew)); exact HO_10.out⟩, ⟨by repeat (first | (with_reducible first | exact HB.out | apply below_alloc | apply pw_below_drewN | apply below_drew1) | exact HB.out)⟩⟩
                  · rw [if_neg c17] at H
                    exact absurd H (by simp)
                · rw [if_neg c16] at H
                  exact absurd H (by simp)
              · rw [if_neg c15] at H
                have c15b0 : (a1 == 2) = false := beq_eq_false_iff_ne.mpr c15
                have c15b1 : (a1 != 2) = true := bne_iff_ne.mpr c15
                by_cases c25 : x13_7 = true
                · subst c25
                  have H1 : ((lookasideref06_with.f x10_1 x12_1 0 0 0 0 false false false false false false false).bind fun t231 => (lookasideref06_Demap.l0 kj7 l0 a1 a2 a3 t231 (wrap64 (x11_1 + 1)) (wrap64 (x12_1 + 1)))) = some (r1, r2) := by rw [if_pos rfl] at H; exact H
                  clear H
                  have H := H1
                  clear H1
                  replace H := Option.bind_eq_some_iff.mp H
                  obtain ⟨t231, A260, H⟩ := H
                  replace H : (lookasideref06_Demap.l0 kj7 l0 a1 a2 a3 t231 (wrap64 (x11_1 + 1)) (wrap64 (x12_1 + 1))) = some (r1, r2) := H
                  have A26 := Aside0.mk A260
                  clear A260
                  have H' := Aside0.mk H
                  clear H
                  obtain ⟨Ao27, co27, eo27⟩ := Kd.V_slice HO_10.out
                  subst eo27
                  go_wp2_with (first | ((with_reducible refine gate_callee (f := 93) rfl ?_); refine goesL_ (some 73) rfl rfl Try.func93 (by kernel_rfl) rfl #[.slice Ao27 x10_1.length co27, .int .i64 x12_1, .agg #[.int .i64 0, .int .i64 0, .int .u64 0, .int .u64 0, .bool false, .bool false, .bool false, .bool false, .bool false, .bool false, .bool false]] rfl (by (try simp only [List.map_toArray, List.map_cons, List.map_nil]); first | done | rfl | (simp only [List.length_drop, List.length_take]; rfl)) ?_; (with_reducible refine (lookasideref06_with.calls _ _ x10_1 x12_1 0 0 0 0 false false false false false false false t231 _ ?side1 ?side2 A26.out).mono ?_); (case side1 => repeat (first | exact (Kd.V_reads' HO_10.out).2.2 | (with_reducible refine Kd.C_alloc ?_ _) | (with_reducible refine Kd.C_drewN ?_ _) | (with_reducible refine Kd.C_drew ?_))); (case side2 => exact (Kd.V_reads' HO_10.out).2.1); rintro e w28 ⟨v232, rfl, ho0, hb⟩; refine ⟨_, rfl, ?_⟩; have n0_ := Aside0.mk (Kd.V_elder' (by (with_reducible repeat (first | apply Kd.V_alloc | apply Kd.V_drewN | apply Kd.V_drew)); exact HO_0.out) (Kd.R_base ho0) hb); have n1_ := Aside0.mk (Kd.V_elder' (by (with_reducible repeat (first | apply Kd.V_alloc | apply Kd.V_drewN | apply Kd.V_drew)); exact HO_10.out) (Kd.R_base ho0) hb); have n2_ := Aside0.mk (Kd.R_lower (Kd.R_newM (M := fun k_ => (w.heap.size ≤ k_)) ho0 (below_size (by repeat (first | (with_reducible first | exact HB.out | apply below_alloc | apply pw_below_drewN | apply below_drew1) | exact HB.out))) (fun k_ h_ => h_)) (below_size (by repeat (first | (with_reducible first | exact HB.out | apply below_alloc | apply pw_below_drewN | apply below_drew1) | exact HB.out)))); have n3_ := Aside0.mk (below_step (by repeat (first | (with_reducible first | exact HB.out | apply below_alloc | apply pw_below_drewN | apply below_drew1) | exact HB.out)) hb); clear HO_0; clear HO_10; clear HB; have HO_0 := n0_; have HO_10 := n1_; have HO233 := n2_; have HB := n3_; clear n0_ n1_ n2_ n3_; (try clear hb); (try clear hb2); (try clear hk); (try clear hi); (try clear ho0)))
                  go_roundg kj7
                  case measure => have := HK1.out; have := HJ7.out; omega
                  case rel => exact ⟨(t231), (wrap64 (x11_1 + 1)), (wrap64 (x12_1 + 1)), (by first | rfl | (simp; done) | (simp [*]; done)), (by first | rfl | (simp; done) | (simp [*]; done)), H', ⟨by have := HK1.out; have := HJ7.out; omega⟩, ⟨by (with_reducible repeat (first | apply Kd.V_alloc | apply Kd.V_drewN | apply Kd.V_drew)); exact Kd.V_mono HO_0.out (fun _ hk => hk.1)⟩, ⟨Kd.V_mono (Kd.R_V (by (with_reducible repeat (first | apply Kd.R_alloc | apply Kd.R_drewN | apply Kd.R_drew)); exact Kd.R_mono HO233.out (fun _ hk => hk.1))) (fun k_ hk => by first | exact ⟨(.inr (hk.1)), hk.2⟩ | exact (.inr (hk)))⟩, ⟨by repeat (first | (with_reducible first | exact HB.out | apply below_alloc | apply pw_below_drewN | apply below_drew1) | exact HB.out)⟩⟩
                · replace c25 := Bool.eq_false_iff.mpr c25
                  subst c25
                  have H1 : (lookasideref06_Demap.l0 kj7 l0 a1 a2 a3 x10_1 x11_1 (wrap64 (x12_1 + 1))) = some (r1, r2) := by rw [if_neg (show ¬ (false = true) by decide)] at H; exact H
                  clear H
                  have H := H1
                  clear H1
                  have H' := Aside0.mk H
                  clear H
                  go_wp2
                  go_roundg kj7
                  case measure => have := HK1.out; have := HJ7.out; omega
                  case rel => exact ⟨(x10_1), (x11_1), (wrap64 (x12_1 + 1)), (by first | rfl | (simp; done) | (simp [*]; done)), (by first | rfl | (simp; done) | (simp [*]; done)), H', ⟨by have := HK1.out; have := HJ7.out; omega⟩, ⟨by (with_reducible repeat (first | apply Kd.V_alloc | apply Kd.V_drewN | apply Kd.V_drew)); exact HO_0.out⟩, ⟨by (with_reducible repeat (first | apply Kd.V_alloc | apply Kd.V_drewN | apply Kd.V_drew)); exact HO_10.out⟩, ⟨by repeat (first | (with_reducible first | exact HB.out | apply below_alloc | apply pw_below_drewN | apply below_drew1) | exact HB.out)⟩⟩
        · rw [if_neg c6] at H
          exact absurd H (by simp)
      · rw [if_neg c5] at H
        have c5b0 : decide (x12_1 < (l0.length : Int)) = false := decide_eq_false c5
        clear c5
        simp only [Option.some.injEq, Prod.mk.injEq] at H
        obtain ⟨rfl, rfl⟩ := H
        go_wp2
        go_ret2
        exact ⟨_, by first | rfl | (simp [errW_none, errW_some] <;> rfl) | (simp [*, errW_none, errW_some] <;> rfl), by (with_reducible repeat (first | apply Kd.V_alloc | apply Kd.V_drewN | apply Kd.V_drew)); exact HO_10.out, by repeat (first | (with_reducible first | exact HB.out | apply below_alloc | apply pw_below_drewN | apply below_drew1) | exact HB.out)⟩

-- NOT PRINTED: function 68 (tlb_Tlb_DemapContext)

/-! ### lookasideref06_Clear: function 69 -/
def lookasideref06_Clear.f (l0 : List (S26)) (a1 : Int) : Option ((List (S26)) × Bool) := if a1 < 0 then (some (l0, false)) else (if a1 ≥ (l0.length : Int) then (some (l0, false)) else (if 0 ≤ a1 then (if a1 < (l0.length : Int) then (if ((rd_T26 l0 a1).f5 = true) then ((lookasideref06_with.f l0 a1 0 0 0 0 false false false false false false false).bind fun t235 => (some (t235, true))) else (some (l0, false))) else (none)) else (none)))
set_option maxHeartbeats 8000000 in
set_option maxRecDepth 100000 in
theorem lookasideref06_Clear.calls (P0_ : Nat → Prop) (A0 : Option Addr) (c0 : Nat) (l0 : List (S26)) (a1 : Int) (r1 : List (S26)) (r2 : Bool) (w : World) (hs0 : Kd.V k26 26 w w.heap.size (fun k_ => P0_ k_) (.slice A0 l0.length c0) l0) (h : lookasideref06_Clear.f l0 a1 = some (r1, r2)) :
    Calls Try.prog 69 #[.slice A0 l0.length c0, .int .i64 a1] w fun e w' => ∃ v0_ : Value, e = .returned (.tuple #[v0_, .bool r2]) ∧ Kd.V k26 26 w' w.heap.size (fun k_ => (P0_ k_ ∨ w.heap.size ≤ k_)) v0_ r1 ∧ Below w.heap.size w w' := by
  have hu26 := Try.underlying26
  have HO0 := Aside0.mk (show Kd.V k26 26 w w.heap.size (fun k_ => (P0_ k_ ∨ w.heap.size ≤ k_)) (.slice A0 l0.length c0) l0 from Kd.V_mono hs0 (fun k_ hk => .inl hk))
  have HB := Aside0.mk (Below.refl w.heap.size w)
  have H : (if a1 < 0 then (some (l0, false)) else (if a1 ≥ (l0.length : Int) then (some (l0, false)) else (if 0 ≤ a1 then (if a1 < (l0.length : Int) then (if ((rd_T26 l0 a1).f5 = true) then ((lookasideref06_with.f l0 a1 0 0 0 0 false false false false false false false).bind fun t235 => (some (t235, true))) else (some (l0, false))) else (none)) else (none)))) = some (r1, r2) := h
  clear h
  by_cases c3 : a1 < 0
  · rw [if_pos c3] at H
    have c3b0 : decide (a1 < 0) = true := decide_eq_true c3
    clear c3
    simp only [Option.some.injEq, Prod.mk.injEq] at H
    obtain ⟨rfl, rfl⟩ := H
    go_enter Try.func69, Try.ntmps69
    go_wp2
    go_ret2
    exact ⟨_, by first | rfl | (simp [errW_none, errW_some] <;> rfl) | (simp [*, errW_none, errW_some] <;> rfl), by (with_reducible repeat (first | apply Kd.V_alloc | apply Kd.V_drewN | apply Kd.V_drew)); exact HO0.out, by repeat (first | (with_reducible first | exact HB.out | apply below_alloc | apply pw_below_drewN | apply below_drew1) | exact HB.out)⟩
  · rw [if_neg c3] at H
    have c3b0 : decide (a1 < 0) = false := decide_eq_false c3
    clear c3
    by_cases c4 : a1 ≥ (l0.length : Int)
    · rw [if_pos c4] at H
      have c4b0 : decide ((l0.length : Int) ≤ a1) = true := decide_eq_true c4
      clear c4
      simp only [Option.some.injEq, Prod.mk.injEq] at H
      obtain ⟨rfl, rfl⟩ := H
      go_enter Try.func69, Try.ntmps69
      go_wp2
      go_ret2
      exact ⟨_, by first | rfl | (simp [errW_none, errW_some] <;> rfl) | (simp [*, errW_none, errW_some] <;> rfl), by (with_reducible repeat (first | apply Kd.V_alloc | apply Kd.V_drewN | apply Kd.V_drew)); exact HO0.out, by repeat (first | (with_reducible first | exact HB.out | apply below_alloc | apply pw_below_drewN | apply below_drew1) | exact HB.out)⟩
    · rw [if_neg c4] at H
      have c4b0 : decide ((l0.length : Int) ≤ a1) = false := decide_eq_false c4
      clear c4
      by_cases c5 : 0 ≤ a1
      · rw [if_pos c5] at H
        have c5b0 : decide (0 ≤ a1) = true := decide_eq_true c5
        clear c5
        by_cases c6 : a1 < (l0.length : Int)
        · rw [if_pos c6] at H
          have c6b0 : decide (a1 < (l0.length : Int)) = true := decide_eq_true c6
          clear c6
          obtain ⟨bq7, hbq7⟩ : ∃ b_ : Bool, b_ = ((rd_T26 l0 a1).f5) := ⟨_, rfl⟩
          replace H : (if (bq7 = true) then ((lookasideref06_with.f l0 a1 0 0 0 0 false false false false false false false).bind fun t235 => (some (t235, true))) else (some (l0, false))) = some (r1, r2) := by rw [← hbq7] at H; exact H
          have Nbq7 := Aside0.mk hbq7
          clear hbq7
          by_cases c8 : (bq7 = true)
          · subst c8
            have H1 : ((lookasideref06_with.f l0 a1 0 0 0 0 false false false false false false false).bind fun t235 => (some (t235, true))) = some (r1, r2) := by rw [if_pos rfl] at H; exact H
            clear H
            have H := H1
            clear H1
            replace H := Option.bind_eq_some_iff.mp H
            obtain ⟨t235, A90, H⟩ := H
            replace H : (some (t235, true)) = some (r1, r2) := H
            have A9 := Aside0.mk A90
            clear A90
            simp only [Option.some.injEq, Prod.mk.injEq] at H
            obtain ⟨rfl, rfl⟩ := H
            have p234 : 0 ≤ (a1 : Int) := of_decide_eq_true (by first | (with_reducible assumption) | assumption)
            have q234 : a1 < (l0.length : Int) := of_decide_eq_true (by first | (with_reducible assumption) | assumption)
            obtain ⟨ad234, e234, hx234_0, hx234_1, hx234_2, hx234_3, hx234_4, hx234_5, hx234_6, hx234_7, hx234_8, hx234_9, hx234_10⟩ := at_T26 (Kd.V_reads' HO0.out).2.2 a1 p234 q234
            (try rw [← Nbq7.out] at hx234_4)
            (try rw [← Nbq7.out] at hx234_5)
            (try rw [← Nbq7.out] at hx234_6)
            (try rw [← Nbq7.out] at hx234_7)
            (try rw [← Nbq7.out] at hx234_8)
            (try rw [← Nbq7.out] at hx234_9)
            (try rw [← Nbq7.out] at hx234_10)
            cases e234
            replace p234 := eq_true p234
            replace q234 := eq_true q234
            go_enter Try.func69, Try.ntmps69
            go_wp2_with (first | ((with_reducible refine gate_callee (f := 93) rfl ?_); refine goesL_ (some 26) rfl rfl Try.func93 (by kernel_rfl) rfl #[.slice (some ad234) l0.length c0, .int .i64 a1, .agg #[.int .i64 0, .int .i64 0, .int .u64 0, .int .u64 0, .bool false, .bool false, .bool false, .bool false, .bool false, .bool false, .bool false]] rfl (by (try simp only [List.map_toArray, List.map_cons, List.map_nil]); first | done | rfl | (simp only [List.length_drop, List.length_take]; rfl)) ?_; (with_reducible refine (lookasideref06_with.calls _ _ l0 a1 0 0 0 0 false false false false false false false t235 _ ?side1 ?side2 A9.out).mono ?_); (case side1 => repeat (first | exact (Kd.V_reads' HO0.out).2.2 | (with_reducible refine Kd.C_alloc ?_ _) | (with_reducible refine Kd.C_drewN ?_ _) | (with_reducible refine Kd.C_drew ?_))); (case side2 => exact (Kd.V_reads' HO0.out).2.1); rintro e w10 ⟨v236, rfl, ho0, hb⟩; refine ⟨_, rfl, ?_⟩; have n0_ := Aside0.mk (Kd.V_elder' (by (with_reducible repeat (first | apply Kd.V_alloc | apply Kd.V_drewN | apply Kd.V_drew)); exact HO0.out) (Kd.R_base ho0) hb); have n1_ := Aside0.mk (Kd.R_lower (Kd.R_newM (M := fun k_ => (w.heap.size ≤ k_)) ho0 (below_size (by repeat (first | (with_reducible first | exact HB.out | apply below_alloc | apply pw_below_drewN | apply below_drew1) | exact HB.out))) (fun k_ h_ => h_)) (below_size (by repeat (first | (with_reducible first | exact HB.out | apply below_alloc | apply pw_below_drewN | apply below_drew1) | exact HB.out)))); have n2_ := Aside0.mk (below_step (by repeat (first | (with_reducible first | exact HB.out | apply below_alloc | apply pw_below_drewN | apply below_drew1) | exact HB.out)) hb); clear HO0; clear HB; have HO0 := n0_; have HO237 := n1_; have HB := n2_; clear n0_ n1_ n2_; (try clear hb); (try clear hb2); (try clear hk); (try clear hi); (try clear ho0)))
            go_ret2
            exact ⟨_, by first | rfl | (simp [errW_none, errW_some] <;> rfl) | (simp [*, errW_none, errW_some] <;> rfl), Kd.V_mono (Kd.R_V (by (with_reducible repeat (first | apply Kd.R_alloc | apply Kd.R_drewN | apply Kd.R_drew)); exact Kd.R_mono HO237.out (fun _ hk => hk.1))) (fun k_ hk => by first | exact ⟨(.inr (hk.1)), hk.2⟩ | exact (.inr (hk))), by repeat (first | (with_reducible first | exact HB.out | apply below_alloc | apply pw_below_drewN | apply below_drew1) | exact HB.out)⟩
          · replace c8 := Bool.eq_false_iff.mpr c8
            subst c8
            have H1 : (some (l0, false)) = some (r1, r2) := by rw [if_neg (show ¬ (false = true) by decide)] at H; exact H
            clear H
            have H := H1
            clear H1
            simp only [Option.some.injEq, Prod.mk.injEq] at H
            obtain ⟨rfl, rfl⟩ := H
            have p234 : 0 ≤ (a1 : Int) := of_decide_eq_true (by first | (with_reducible assumption) | assumption)
            have q234 : a1 < (l0.length : Int) := of_decide_eq_true (by first | (with_reducible assumption) | assumption)
            obtain ⟨ad234, e234, hx234_0, hx234_1, hx234_2, hx234_3, hx234_4, hx234_5, hx234_6, hx234_7, hx234_8, hx234_9, hx234_10⟩ := at_T26 (Kd.V_reads' HO0.out).2.2 a1 p234 q234
            (try rw [← Nbq7.out] at hx234_4)
            (try rw [← Nbq7.out] at hx234_5)
            (try rw [← Nbq7.out] at hx234_6)
            (try rw [← Nbq7.out] at hx234_7)
            (try rw [← Nbq7.out] at hx234_8)
            (try rw [← Nbq7.out] at hx234_9)
            (try rw [← Nbq7.out] at hx234_10)
            cases e234
            replace p234 := eq_true p234
            replace q234 := eq_true q234
            go_enter Try.func69, Try.ntmps69
            go_wp2
            go_ret2
            exact ⟨_, by first | rfl | (simp [errW_none, errW_some] <;> rfl) | (simp [*, errW_none, errW_some] <;> rfl), by (with_reducible repeat (first | apply Kd.V_alloc | apply Kd.V_drewN | apply Kd.V_drew)); exact HO0.out, by repeat (first | (with_reducible first | exact HB.out | apply below_alloc | apply pw_below_drewN | apply below_drew1) | exact HB.out)⟩
        · rw [if_neg c6] at H
          exact absurd H (by simp)
      · rw [if_neg c5] at H
        exact absurd H (by simp)

/-! ### lookasideref06_Find: function 70 -/
def lookasideref06_Find.l0 : Nat → List (S26) → Int → Int → Int → Option (Int)
  | 0, _, _, _, _ => none
  | k + 1, x0, x1, x2, x7 => if x7 < (x0.length : Int) then (if 0 ≤ x7 then ((lookasideref03_Hits.f ((rd_T26 x0 x7).f0) ((rd_T26 x0 x7).f1) ((rd_T26 x0 x7).f2) ((rd_T26 x0 x7).f3) ((rd_T26 x0 x7).f4.f0) ((rd_T26 x0 x7).f4.f1) ((rd_T26 x0 x7).f4.f2) ((rd_T26 x0 x7).f4.f3) ((rd_T26 x0 x7).f4.f4) ((rd_T26 x0 x7).f4.f5) ((rd_T26 x0 x7).f5) x1 x2).bind fun t239 => (if t239 = true then (some x7) else (lookasideref06_Find.l0 k x0 x1 x2 (wrap64 (x7 + 1))))) else (none)) else (some (-1))
def lookasideref06_Find.f (k : Nat) (l0 : List (S26)) (a1 : Int) (a2 : Int) : Option (Int) := lookasideref06_Find.l0 k l0 a1 a2 0
theorem lookasideref06_Find.mono_l : ∀ k, (∀ y0 y1 y2 y3, LeO (lookasideref06_Find.l0 k y0 y1 y2 y3) (lookasideref06_Find.l0 (k + 1) y0 y1 y2 y3))
  | 0 => fun _ _ _ _ r h => by simp [lookasideref06_Find.l0] at h
  | k + 1 => by
    have ih0 := lookasideref06_Find.mono_l k
    · intro y0 y1 y2 y3
      unfold lookasideref06_Find.l0
      repeat' first
      | (with_reducible exact ih0 _ _ _ _)
      | (with_reducible exact LeO.refl _)
      | (with_reducible exact LeO.none _)
      | (with_reducible refine LeO.ite ?_ ?_)
      | (with_reducible refine LeO.bind ?_ (fun _ => ?_))
      | exact ih0 _ _ _ _
      | exact LeO.none _
      | refine LeO.ite ?_ ?_
      | refine LeO.bind ?_ (fun _ => ?_)
theorem lookasideref06_Find.mono : ∀ a0 a1 a2 k, LeO (lookasideref06_Find.f k a0 a1 a2) (lookasideref06_Find.f (k + 1) a0 a1 a2) := by
  intro a0 a1 a2 k
  have ih0 := lookasideref06_Find.mono_l k
  unfold lookasideref06_Find.f
  repeat' first
      | (with_reducible exact ih0 _ _ _ _)
      | (with_reducible exact LeO.refl _)
      | (with_reducible exact LeO.none _)
      | (with_reducible refine LeO.ite ?_ ?_)
      | (with_reducible refine LeO.bind ?_ (fun _ => ?_))
      | exact ih0 _ _ _ _
      | exact LeO.none _
      | refine LeO.ite ?_ ?_
      | refine LeO.bind ?_ (fun _ => ?_)
set_option maxHeartbeats 8000000 in
set_option maxRecDepth 100000 in
theorem lookasideref06_Find.calls (k : Nat) (A0 : Option Addr) (c0 : Nat) (l0 : List (S26)) (a1 : Int) (a2 : Int) (r : Int) (w : World) (hr0 : Kd.C k26 w A0 l0.length l0) (hc0 : l0.length ≤ c0) (h : lookasideref06_Find.f k l0 a1 a2 = some r) :
    Calls Try.prog 70 #[.slice A0 l0.length c0, .int .u64 a1, .int .i64 a2] w fun e w' => e = .returned (.int .i64 r) ∧ Below w.heap.size w w' := by
  have hu26 := Try.underlying26
  have HR0 := Aside0.mk hr0
  have HC0 := Aside0.mk hc0
  clear hr0 hc0
  have HB := Aside0.mk (Below.refl w.heap.size w)
  have H : (lookasideref06_Find.l0 k l0 a1 a2 0) = some r := h
  clear h
  have H' := Aside0.mk H
  clear H
  go_enter Try.func70, Try.ntmps70
  go_wp2
  go_loopg [7] k (fun kq v7 w' => ∃ (x7_1 : Int), v7 = .int .i64 x7_1 ∧ Aside0 (lookasideref06_Find.l0 kq l0 a1 a2 x7_1 = some r) ∧ Aside0 (kq ≤ k) ∧ Aside0 (Below w.heap.size w w'))
  case atStart => exact ⟨(0), (by first | rfl | (simp; done) | (simp [*]; done)), H', ⟨Nat.le_refl _⟩, ⟨by repeat (first | (with_reducible first | exact HB.out | apply below_alloc | apply pw_below_drewN | apply below_drew1) | exact HB.out)⟩⟩
  case round =>
    clear H'
    try clear p2
    obtain ⟨x7_1, rfl, HA, HK1, HB⟩ := hrel
    cases gk with
    | zero => exact absurd HA.out (by simp [lookasideref06_Find.l0])
    | succ k1 =>
      have H := HA.out
      clear HA
      simp only [lookasideref06_Find.l0] at H
      by_cases c4 : x7_1 < (l0.length : Int)
      · rw [if_pos c4] at H
        have c4b0 : decide (x7_1 < (l0.length : Int)) = true := decide_eq_true c4
        clear c4
        by_cases c5 : 0 ≤ x7_1
        · rw [if_pos c5] at H
          have c5b0 : decide (0 ≤ x7_1) = true := decide_eq_true c5
          clear c5
          replace H := Option.bind_eq_some_iff.mp H
          obtain ⟨t239, A60, H⟩ := H
          replace H : (if t239 = true then (some x7_1) else (lookasideref06_Find.l0 k1 l0 a1 a2 (wrap64 (x7_1 + 1)))) = some r := H
          have A6 := Aside0.mk A60
          clear A60
          by_cases c7 : t239 = true
          · subst c7
            have H1 : (some x7_1) = some r := by rw [if_pos rfl] at H; exact H
            clear H
            have H := H1
            clear H1
            obtain rfl := Option.some.inj H
            have p238 : 0 ≤ (x7_1 : Int) := of_decide_eq_true (by first | (with_reducible assumption) | assumption)
            have q238 : x7_1 < (l0.length : Int) := of_decide_eq_true (by first | (with_reducible assumption) | assumption)
            obtain ⟨ad238, e238, hx238_0, hx238_1, hx238_2, hx238_3, hx238_4, hx238_5, hx238_6, hx238_7, hx238_8, hx238_9, hx238_10⟩ := at_T26 HR0.out x7_1 p238 q238
            cases e238
            replace hx238_0 := (HB.out.cell (World.block_lt_of_cell? w _ hx238_0)).trans hx238_0
            replace hx238_1 := (HB.out.cell (World.block_lt_of_cell? w _ hx238_1)).trans hx238_1
            replace hx238_2 := (HB.out.cell (World.block_lt_of_cell? w _ hx238_2)).trans hx238_2
            replace hx238_3 := (HB.out.cell (World.block_lt_of_cell? w _ hx238_3)).trans hx238_3
            replace hx238_4 := (HB.out.cell (World.block_lt_of_cell? w _ hx238_4)).trans hx238_4
            replace hx238_5 := (HB.out.cell (World.block_lt_of_cell? w _ hx238_5)).trans hx238_5
            replace hx238_6 := (HB.out.cell (World.block_lt_of_cell? w _ hx238_6)).trans hx238_6
            replace hx238_7 := (HB.out.cell (World.block_lt_of_cell? w _ hx238_7)).trans hx238_7
            replace hx238_8 := (HB.out.cell (World.block_lt_of_cell? w _ hx238_8)).trans hx238_8
            replace hx238_9 := (HB.out.cell (World.block_lt_of_cell? w _ hx238_9)).trans hx238_9
            replace hx238_10 := (HB.out.cell (World.block_lt_of_cell? w _ hx238_10)).trans hx238_10
            replace p238 := eq_true p238
            replace q238 := eq_true q238
            go_wp2_with (first | ((with_reducible refine gate_callee (f := 16) rfl ?_); refine goesL_ (some 21) rfl rfl Try.func16 (by kernel_rfl) rfl #[.agg #[.int .i64 ((rd_T26 l0 x7_1).f0), .int .i64 ((rd_T26 l0 x7_1).f1), .int .u64 ((rd_T26 l0 x7_1).f2), .int .u64 ((rd_T26 l0 x7_1).f3), .bool ((rd_T26 l0 x7_1).f4.f0), .bool ((rd_T26 l0 x7_1).f4.f1), .bool ((rd_T26 l0 x7_1).f4.f2), .bool ((rd_T26 l0 x7_1).f4.f3), .bool ((rd_T26 l0 x7_1).f4.f4), .bool ((rd_T26 l0 x7_1).f4.f5), .bool ((rd_T26 l0 x7_1).f5)], .int .u64 a1, .int .i64 a2] rfl (by (try simp only [List.map_toArray, List.map_cons, List.map_nil]); first | done | rfl | (simp only [List.length_drop, List.length_take]; rfl)) ?_; (with_reducible refine (lookasideref03_Hits.calls ((rd_T26 l0 x7_1).f0) ((rd_T26 l0 x7_1).f1) ((rd_T26 l0 x7_1).f2) ((rd_T26 l0 x7_1).f3) ((rd_T26 l0 x7_1).f4.f0) ((rd_T26 l0 x7_1).f4.f1) ((rd_T26 l0 x7_1).f4.f2) ((rd_T26 l0 x7_1).f4.f3) ((rd_T26 l0 x7_1).f4.f4) ((rd_T26 l0 x7_1).f4.f5) ((rd_T26 l0 x7_1).f5) a1 a2 true _ A6.out).mono ?_); rintro e w8 ⟨rfl, hb⟩; refine ⟨_, rfl, ?_⟩; have n0_ := Aside0.mk (below_step (by repeat (first | (with_reducible first | exact HB.out | apply below_alloc | apply pw_below_drewN | apply below_drew1) | exact HB.out)) hb); clear HB; have HB := n0_; clear n0_; (try clear hb); (try clear hb2); (try clear hk); (try clear hi)))
            go_ret
            exact ⟨by first | rfl | (simp [errW_none, errW_some] <;> rfl) | (simp [*, errW_none, errW_some] <;> rfl), by repeat (first | (with_reducible first | exact HB.out | apply below_alloc | apply pw_below_drewN | apply below_drew1) | exact HB.out)⟩
          · replace c7 := Bool.eq_false_iff.mpr c7
            subst c7
            have H1 : (lookasideref06_Find.l0 k1 l0 a1 a2 (wrap64 (x7_1 + 1))) = some r := by rw [if_neg (show ¬ (false = true) by decide)] at H; exact H
            clear H
            have H := H1
            clear H1
            have H' := Aside0.mk H
            clear H
            have p238 : 0 ≤ (x7_1 : Int) := of_decide_eq_true (by first | (with_reducible assumption) | assumption)
            have q238 : x7_1 < (l0.length : Int) := of_decide_eq_true (by first | (with_reducible assumption) | assumption)
            obtain ⟨ad238, e238, hx238_0, hx238_1, hx238_2, hx238_3, hx238_4, hx238_5, hx238_6, hx238_7, hx238_8, hx238_9, hx238_10⟩ := at_T26 HR0.out x7_1 p238 q238
            cases e238
            replace hx238_0 := (HB.out.cell (World.block_lt_of_cell? w _ hx238_0)).trans hx238_0
            replace hx238_1 := (HB.out.cell (World.block_lt_of_cell? w _ hx238_1)).trans hx238_1
            replace hx238_2 := (HB.out.cell (World.block_lt_of_cell? w _ hx238_2)).trans hx238_2
            replace hx238_3 := (HB.out.cell (World.block_lt_of_cell? w _ hx238_3)).trans hx238_3
            replace hx238_4 := (HB.out.cell (World.block_lt_of_cell? w _ hx238_4)).trans hx238_4
            replace hx238_5 := (HB.out.cell (World.block_lt_of_cell? w _ hx238_5)).trans hx238_5
            replace hx238_6 := (HB.out.cell (World.block_lt_of_cell? w _ hx238_6)).trans hx238_6
            replace hx238_7 := (HB.out.cell (World.block_lt_of_cell? w _ hx238_7)).trans hx238_7
            replace hx238_8 := (HB.out.cell (World.block_lt_of_cell? w _ hx238_8)).trans hx238_8
            replace hx238_9 := (HB.out.cell (World.block_lt_of_cell? w _ hx238_9)).trans hx238_9
            replace hx238_10 := (HB.out.cell (World.block_lt_of_cell? w _ hx238_10)).trans hx238_10
            replace p238 := eq_true p238
            replace q238 := eq_true q238
            go_wp2_with (first | ((with_reducible refine gate_callee (f := 16) rfl ?_); refine goesL_ (some 21) rfl rfl Try.func16 (by kernel_rfl) rfl #[.agg #[.int .i64 ((rd_T26 l0 x7_1).f0), .int .i64 ((rd_T26 l0 x7_1).f1), .int .u64 ((rd_T26 l0 x7_1).f2), .int .u64 ((rd_T26 l0 x7_1).f3), .bool ((rd_T26 l0 x7_1).f4.f0), .bool ((rd_T26 l0 x7_1).f4.f1), .bool ((rd_T26 l0 x7_1).f4.f2), .bool ((rd_T26 l0 x7_1).f4.f3), .bool ((rd_T26 l0 x7_1).f4.f4), .bool ((rd_T26 l0 x7_1).f4.f5), .bool ((rd_T26 l0 x7_1).f5)], .int .u64 a1, .int .i64 a2] rfl (by (try simp only [List.map_toArray, List.map_cons, List.map_nil]); first | done | rfl | (simp only [List.length_drop, List.length_take]; rfl)) ?_; (with_reducible refine (lookasideref03_Hits.calls ((rd_T26 l0 x7_1).f0) ((rd_T26 l0 x7_1).f1) ((rd_T26 l0 x7_1).f2) ((rd_T26 l0 x7_1).f3) ((rd_T26 l0 x7_1).f4.f0) ((rd_T26 l0 x7_1).f4.f1) ((rd_T26 l0 x7_1).f4.f2) ((rd_T26 l0 x7_1).f4.f3) ((rd_T26 l0 x7_1).f4.f4) ((rd_T26 l0 x7_1).f4.f5) ((rd_T26 l0 x7_1).f5) a1 a2 false _ A6.out).mono ?_); rintro e w9 ⟨rfl, hb⟩; refine ⟨_, rfl, ?_⟩; have n0_ := Aside0.mk (below_step (by repeat (first | (with_reducible first | exact HB.out | apply below_alloc | apply pw_below_drewN | apply below_drew1) | exact HB.out)) hb); clear HB; have HB := n0_; clear n0_; (try clear hb); (try clear hb2); (try clear hk); (try clear hi)))
            go_roundg k1
            case measure => have := HK1.out; omega
            case rel => exact ⟨(wrap64 (x7_1 + 1)), (by first | rfl | (simp; done) | (simp [*]; done)), H', ⟨by have := HK1.out; omega⟩, ⟨by repeat (first | (with_reducible first | exact HB.out | apply below_alloc | apply pw_below_drewN | apply below_drew1) | exact HB.out)⟩⟩
        · rw [if_neg c5] at H
          exact absurd H (by simp)
      · rw [if_neg c4] at H
        have c4b0 : decide (x7_1 < (l0.length : Int)) = false := decide_eq_false c4
        clear c4
        obtain rfl := Option.some.inj H
        go_wp2
        go_ret
        exact ⟨by first | rfl | (simp [errW_none, errW_some] <;> rfl) | (simp [*, errW_none, errW_some] <;> rfl), by repeat (first | (with_reducible first | exact HB.out | apply below_alloc | apply pw_below_drewN | apply below_drew1) | exact HB.out)⟩

-- NOT PRINTED: function 29 (lookasidelaw06_does)

-- NOT PRINTED: function 22 (tlb_Tlb_List)

-- NOT PRINTED: function 23 (tlb_Tlb_Slots)

-- NOT PRINTED: function 26 (tlb_Tlb_Locked)

end Go.Proofs.Ythclbckkfgmbaaa.QTlbPlays
