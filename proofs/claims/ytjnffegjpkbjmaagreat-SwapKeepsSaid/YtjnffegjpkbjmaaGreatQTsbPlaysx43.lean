-- Taken out of a text that a program of this session printed (wip/print/myprint.py, wip/print/take.py); Lean checks it.
import Derived.Test.YtjnffegjpkbjmaaGreatQTsbPlaysx20
namespace Go.Proofs.YtjnffegjpkbjmaaGreat.QTsbPlays
open Go.RowKit Go.Proofs.YtjnffegjpkbjmaaGreatW.PrintWords Go.Proofs.YtjnffegjpkbjmaaGreatW.PrintLast Go.Proofs.YtjnffegjpkbjmaaGreatW.PrintMore
attribute [local go_sem] max2_int min2_int max_two min_two max_three min_three max_four min_four   -- for this text's walks alone
set_option linter.unusedVariables false
set_option linter.unusedSimpArgs false
/-! ### frames_Frames_List: function 41 -/
def frames_Frames_List.l0 : Nat → List Int → List Bool → Int → Int → List Bool → Int → Option (List Int × Int)
  | 0, _, _, _, _, _, _ => none
  | k + 1, x3, x9, x10, x11, x1000, x1001 => if x11 < x10 then (if 0 ≤ x11 then (if x11 < (x9.length : Int) then (if rdOf false x9 x11 = true then (if x3.length < 17592186044416 then (frames_Frames_List.l0 k (x3 ++ [x11]) x9 x10 (wrap64 (x11 + 1)) x1000 x1001) else (none)) else (frames_Frames_List.l0 k x3 x9 x10 (wrap64 (x11 + 1)) x1000 x1001)) else (none)) else (none)) else (some (x3, x1001))
def frames_Frames_List.f (k : Nat) (s0_0 : List Bool) (s0_1 : Int) : Option (List Int × Int) := frames_Frames_List.l0 k ([] : List Int) s0_0 (s0_0.length : Int) 0 s0_0 s0_1
set_option maxHeartbeats 8000000 in
set_option maxRecDepth 100000 in
theorem frames_Frames_List.calls (k : Nat) (g : Nat) (s0_0 : List Bool) (s0_1 : Int) (r1 : List Int) (r2 : Int) (w0 w : World) (hI : IsS89 w0 w g s0_0 s0_1) (hB : Below w0.heap.size w0 w) (h : frames_Frames_List.f k s0_0 s0_1 = some (r1, r2)) :
    Calls Tryz.prog 41 #[.pointer (some ⟨g, 0, none⟩)] w fun e w' => ∃ v0_ : Value, e = .returned (v0_) ∧ Kd.R (Kd.int .i64) 3 w' w.heap.size (fun _ => True) v0_ r1 ∧ IsS89 w0 w' g s0_0 r2 ∧ Below w0.heap.size w0 w' ∧ KeepBut w w' g none := by
  have HI0 := Aside0.mk hI
  have HK := Aside0.mk (KeepBut.refl w g none)
  have HL := Aside0.mk hB.size
  clear hI
  have HW0 := Aside0.mk hB.size
  have HB := Aside0.mk hB
  clear hB
  have H : (frames_Frames_List.l0 k ([] : List Int) s0_0 (s0_0.length : Int) 0 s0_0 s0_1) = some (r1, r2) := h
  clear h
  have H' := Aside0.mk H
  clear H
  obtain ⟨ASz2_0, cSz2_0, HGz2, hgz2, HSz2_0⟩ := HI0.out
  have hcz2_0 := cellS89_0 HGz2
  have hcz2_1 := cellS89_1 HGz2
  have hfz2_1 := blk_frozen HGz2 1
  clear HGz2 hgz2
  go_enter Tryz.func41, Tryz.ntmps41
  go_wp2
  go_loopg [3, 11] k (fun kq v3 v11 w' => ∃ (x3_1 : List Int) (x11_1 : Int), v11 = .int .i64 x11_1 ∧ Aside0 (frames_Frames_List.l0 kq x3_1 s0_0 (s0_0.length : Int) x11_1 s0_0 s0_1 = some (r1, r2)) ∧ Aside0 (kq ≤ k) ∧ Aside0 (Kd.R (Kd.int .i64) 3 w' w.heap.size (fun _ => True) v3 x3_1) ∧ Aside0 (IsS89 w0 w' g s0_0 s0_1) ∧ Aside0 (KeepBut w w' g none) ∧ Aside0 (Below w0.heap.size w0 w'))
  case atStart => exact ⟨(([] : List Int)), (0), (by first | rfl | (simp; done) | (simp [*]; done)), H', ⟨Nat.le_refl _⟩, ⟨by first | exact Kd.R_nil _ _ _ _ _ | exact Kd.N_nil _ _ _ _ _ | exact Kd.V_nil _ _ _ _ _ | exact Kd.Q_nil _ _ _ _ _ | exact Kd.S_nil _ _ _ _ _⟩, ⟨by repeat (first | (with_reducible first | exact HI0.out | apply IsS89.alloc | apply IsS89.drewN | apply IsS89.drew | apply IsS89.set_1) | exact HI0.out)⟩, ⟨by repeat (first | (with_reducible first | exact HK.out | apply KeepBut.set_ | apply keep_drewN | apply keep_drew | apply keep_alloc) | exact HK.out)⟩, ⟨by repeat (first | (with_reducible first | exact HB.out | apply below_alloc | apply pw_below_drewN | apply below_drew1 | refine below_set ?_ (IsS89.ge HI0.out)) | exact HB.out)⟩⟩
  case round =>
    clear H'
    try clear p2
    try clear hcz2_0
    try clear hcz2_1
    try clear hfz2_1
    obtain ⟨x3_1, x11_1, rfl, HA, HK1, HO_3, HI0, HK, HB⟩ := hrel
    cases gk with
    | zero => exact absurd HA.out (by simp [frames_Frames_List.l0])
    | succ k1 =>
      have H := HA.out
      clear HA
      simp only [frames_Frames_List.l0] at H
      by_cases c3 : x11_1 < (s0_0.length : Int)
      · rw [if_pos c3] at H
        have c3b0 : decide (x11_1 < (s0_0.length : Int)) = true := decide_eq_true c3
        clear c3
        by_cases c4 : 0 ≤ x11_1
        · rw [if_pos c4] at H
          have c4b0 : decide (0 ≤ x11_1) = true := decide_eq_true c4
          clear c4
          by_cases c5 : x11_1 < (s0_0.length : Int)
          · rw [if_pos c5] at H
            have c5b0 : decide (x11_1 < (s0_0.length : Int)) = true := decide_eq_true c5
            clear c5
            obtain ⟨bq6, hbq6⟩ : ∃ b_ : Bool, b_ = (rdOf false s0_0 x11_1) := ⟨_, rfl⟩
            replace H : (if bq6 = true then (if x3_1.length < 17592186044416 then (frames_Frames_List.l0 k1 (x3_1 ++ [x11_1]) s0_0 (s0_0.length : Int) (wrap64 (x11_1 + 1)) s0_0 s0_1) else (none)) else (frames_Frames_List.l0 k1 x3_1 s0_0 (s0_0.length : Int) (wrap64 (x11_1 + 1)) s0_0 s0_1)) = some (r1, r2) := by rw [← hbq6] at H; exact H
            have Nbq6 := Aside0.mk hbq6
            clear hbq6
            by_cases c7 : bq6 = true
            · subst c7
              have H1 : (if x3_1.length < 17592186044416 then (frames_Frames_List.l0 k1 (x3_1 ++ [x11_1]) s0_0 (s0_0.length : Int) (wrap64 (x11_1 + 1)) s0_0 s0_1) else (none)) = some (r1, r2) := by rw [if_pos rfl] at H; exact H
              clear H
              have H := H1
              clear H1
              by_cases c8 : x3_1.length < 17592186044416
              · rw [if_pos c8] at H
                have LMc8 := Aside0.mk c8
                clear c8
                obtain ⟨y454, hy454⟩ : ∃ y_ : List Int, y_ = (x3_1 ++ [x11_1]) := ⟨_, rfl⟩
                replace H : (frames_Frames_List.l0 k1 y454 s0_0 (s0_0.length : Int) (wrap64 (x11_1 + 1)) s0_0 s0_1) = some (r1, r2) := by first | (rw [hy454]; with_reducible exact H) | (have H2_ := (Option.bind_some _ _).symm.trans H; rw [hy454]; with_reducible exact H2_) | (have H2_ := (Option.bind_some _ _).symm.trans H; with_reducible exact H2_) | with_reducible exact H | (rw [hy454]; exact H) | exact H
                have Ny454 := Aside0.mk hy454
                clear hy454
                have H' := Aside0.mk H
                clear H
                obtain ⟨ASz9_0, cSz9_0, HGz9, hgz9, HSz9_0⟩ := HI0.out
                have hcz9_0 := cellS89_0 HGz9
                have hcz9_1 := cellS89_1 HGz9
                have hfz9_1 := blk_frozen HGz9 1
                clear HGz9 hgz9
                have p453 : 0 ≤ (x11_1 : Int) := of_decide_eq_true (by first | (with_reducible assumption) | assumption)
                have q453 : x11_1 < (s0_0.length : Int) := of_decide_eq_true (by first | (with_reducible assumption) | assumption)
                obtain ⟨ad453, e453, hx453_0⟩ := Kd.at_bool HSz2_0 x11_1 p453 q453
                (try rw [← Nbq6.out] at hx453_0)
                cases e453
                replace hx453_0 := pw_cell_below HB.out hx453_0
                replace p453 := eq_true p453
                replace q453 := eq_true q453
                go_wp2_with (first | ((with_reducible refine gate_builtin (b := .append) (xs := #[.tmp 17, .tmp 19]) rfl ?_); at_builtin; refine Kd.R_append (Kd.int .i64) w.heap.size rfl (.tmp 17) (.tmp 19) 30 3 (.int .i64 0) 8 rfl Tryz.underlying30 info3 rfl (by decide) (by omega) u3 x3_1 x11_1 [.int .i64 x11_1] (fun _ => True) (fun _ => False) rfl rfl ?aP (fun _ hk => hk.elim) ?aF ?aO (Below.refl _ _) ?aS ?aL ?_; (case aP => exact rfl); (case aF => exact (fun _ _ => trivial)); (case aO => exact (by (with_reducible repeat (first | apply Kd.R_alloc | apply Kd.R_drewN | apply Kd.R_drew)); exact HO_3.out)); (case aS => exact (keep_size (w := w) (g := g) (row := none) (by repeat (first | (with_reducible first | exact HK.out | apply KeepBut.set_ | apply keep_drewN | apply keep_drew | apply keep_alloc) | exact HK.out)))); (case aL => have := LMc8.out; omega); intro v455 w10 ho hb hg hat; rw [← Ny454.out] at ho; have n0_ := Aside0.mk (IsS89.grown (by repeat (first | (with_reducible first | exact HI0.out | apply IsS89.alloc | apply IsS89.drewN | apply IsS89.drew | apply IsS89.set_1) | exact HI0.out)) hg (IsS89.own_ne HI0.out HO_3.out (by decide))); have n1_ := Aside0.mk (below_weaken (by repeat (first | (with_reducible first | exact HB.out | apply below_alloc | apply pw_below_drewN | apply below_drew1 | refine below_set ?_ (IsS89.ge HI0.out)) | exact HB.out)) HL.out hb); have n2_ := Aside0.mk (KeepBut.trans (by repeat (first | (with_reducible first | exact HK.out | apply KeepBut.set_ | apply keep_drewN | apply keep_drew | apply keep_alloc) | exact HK.out)) (KeepBut.of_grown hg g) (Kd.R_base2 HO_3.out)); have n3_ := Aside0.mk (ho); clear HI0; clear HB; clear HK; clear HO_3; have HI0 := n0_; have HB := n1_; have HK := n2_; have HO456 := n3_; clear n0_ n1_ n2_ n3_; clear ho hb hg hat))
                go_roundg k1
                case measure => have := HK1.out; omega
                case rel => exact ⟨(y454), (wrap64 (x11_1 + 1)), (by first | rfl | (simp; done) | (simp [*]; done)), H', ⟨by have := HK1.out; omega⟩, ⟨by (with_reducible repeat (first | apply Kd.R_alloc | apply Kd.R_drewN | apply Kd.R_drew)); exact HO456.out⟩, ⟨by repeat (first | (with_reducible first | exact HI0.out | apply IsS89.alloc | apply IsS89.drewN | apply IsS89.drew | apply IsS89.set_1) | exact HI0.out)⟩, ⟨by repeat (first | (with_reducible first | exact HK.out | apply KeepBut.set_ | apply keep_drewN | apply keep_drew | apply keep_alloc) | exact HK.out)⟩, ⟨by repeat (first | (with_reducible first | exact HB.out | apply below_alloc | apply pw_below_drewN | apply below_drew1 | refine below_set ?_ (IsS89.ge HI0.out)) | exact HB.out)⟩⟩
              · rw [if_neg c8] at H
                exact absurd H (by simp)
            · replace c7 := Bool.eq_false_iff.mpr c7
              subst c7
              have H1 : (frames_Frames_List.l0 k1 x3_1 s0_0 (s0_0.length : Int) (wrap64 (x11_1 + 1)) s0_0 s0_1) = some (r1, r2) := by rw [if_neg (show ¬ (false = true) by decide)] at H; exact H
              clear H
              have H := H1
              clear H1
              have H' := Aside0.mk H
              clear H
              obtain ⟨ASz11_0, cSz11_0, HGz11, hgz11, HSz11_0⟩ := HI0.out
              have hcz11_0 := cellS89_0 HGz11
              have hcz11_1 := cellS89_1 HGz11
              have hfz11_1 := blk_frozen HGz11 1
              clear HGz11 hgz11
              have p453 : 0 ≤ (x11_1 : Int) := of_decide_eq_true (by first | (with_reducible assumption) | assumption)
              have q453 : x11_1 < (s0_0.length : Int) := of_decide_eq_true (by first | (with_reducible assumption) | assumption)
              obtain ⟨ad453, e453, hx453_0⟩ := Kd.at_bool HSz2_0 x11_1 p453 q453
              (try rw [← Nbq6.out] at hx453_0)
              cases e453
              replace hx453_0 := pw_cell_below HB.out hx453_0
              replace p453 := eq_true p453
              replace q453 := eq_true q453
              go_wp2
              go_roundg k1
              case measure => have := HK1.out; omega
              case rel => exact ⟨(x3_1), (wrap64 (x11_1 + 1)), (by first | rfl | (simp; done) | (simp [*]; done)), H', ⟨by have := HK1.out; omega⟩, ⟨by (with_reducible repeat (first | apply Kd.R_alloc | apply Kd.R_drewN | apply Kd.R_drew)); exact HO_3.out⟩, ⟨by repeat (first | (with_reducible first | exact HI0.out | apply IsS89.alloc | apply IsS89.drewN | apply IsS89.drew | apply IsS89.set_1) | exact HI0.out)⟩, ⟨by repeat (first | (with_reducible first | exact HK.out | apply KeepBut.set_ | apply keep_drewN | apply keep_drew | apply keep_alloc) | exact HK.out)⟩, ⟨by repeat (first | (with_reducible first | exact HB.out | apply below_alloc | apply pw_below_drewN | apply below_drew1 | refine below_set ?_ (IsS89.ge HI0.out)) | exact HB.out)⟩⟩
          · rw [if_neg c5] at H
            exact absurd H (by simp)
        · rw [if_neg c4] at H
          exact absurd H (by simp)
      · rw [if_neg c3] at H
        have c3b0 : decide (x11_1 < (s0_0.length : Int)) = false := decide_eq_false c3
        clear c3
        simp only [Option.some.injEq, Prod.mk.injEq] at H
        obtain ⟨rfl, rfl⟩ := H
        go_wp2
        go_ret
        exact ⟨_, by first | rfl | (simp [errW_none, errW_some] <;> rfl) | (simp [*, errW_none, errW_some] <;> rfl), by (with_reducible repeat (first | apply Kd.R_alloc | apply Kd.R_drewN | apply Kd.R_drew)); exact HO_3.out, by repeat (first | (with_reducible first | exact HI0.out | apply IsS89.alloc | apply IsS89.drewN | apply IsS89.drew | apply IsS89.set_1) | exact HI0.out), by repeat (first | (with_reducible first | exact HB.out | apply below_alloc | apply pw_below_drewN | apply below_drew1 | refine below_set ?_ (IsS89.ge HI0.out)) | exact HB.out), by repeat (first | (with_reducible first | exact HK.out | apply KeepBut.set_ | apply keep_drewN | apply keep_drew | apply keep_alloc) | exact HK.out)⟩

-- NOT PRINTED: function 43 (tsb_Tsb_Len)

-- NOT PRINTED: function 17 (lookasidelaw13_World_like)

-- NOT PRINTED: function 4 (lookasidelaw13_SwapPlays)
/-! ### frames_Frames_Free: function 15 -/
def frames_Frames_Free.f (s0_0 : List Bool) (s0_1 : Int) : Option (Int × Int) := some (s0_1, s0_1)
set_option maxHeartbeats 8000000 in
set_option maxRecDepth 100000 in
theorem frames_Frames_Free.calls (g : Nat) (s0_0 : List Bool) (s0_1 : Int) (r1 : Int) (r2 : Int) (w0 w : World) (hI : IsS89 w0 w g s0_0 s0_1) (hB : Below w0.heap.size w0 w) (h : frames_Frames_Free.f s0_0 s0_1 = some (r1, r2)) :
    Calls Tryz.prog 15 #[.pointer (some ⟨g, 0, none⟩)] w fun e w' => e = .returned (.int .i64 r1) ∧ IsS89 w0 w' g s0_0 r2 ∧ Below w0.heap.size w0 w' ∧ KeepBut w w' g none := by
  have HI0 := Aside0.mk hI
  have HK := Aside0.mk (KeepBut.refl w g none)
  have HL := Aside0.mk hB.size
  clear hI
  have HW0 := Aside0.mk hB.size
  have HB := Aside0.mk hB
  clear hB
  have H : (some (s0_1, s0_1)) = some (r1, r2) := h
  clear h
  simp only [Option.some.injEq, Prod.mk.injEq] at H
  obtain ⟨rfl, rfl⟩ := H
  obtain ⟨ASz2_0, cSz2_0, HGz2, hgz2, HSz2_0⟩ := HI0.out
  have hcz2_0 := cellS89_0 HGz2
  have hcz2_1 := cellS89_1 HGz2
  have hfz2_1 := blk_frozen HGz2 1
  clear HGz2 hgz2
  go_enter Tryz.func15, Tryz.ntmps15
  go_wp2
  go_ret
  exact ⟨by first | rfl | (simp [errW_none, errW_some] <;> rfl) | (simp [*, errW_none, errW_some] <;> rfl), by repeat (first | (with_reducible first | exact HI0.out | apply IsS89.alloc | apply IsS89.drewN | apply IsS89.drew | apply IsS89.set_1) | exact HI0.out), by repeat (first | (with_reducible first | exact HB.out | apply below_alloc | apply pw_below_drewN | apply below_drew1 | refine below_set ?_ (IsS89.ge HI0.out)) | exact HB.out), by repeat (first | (with_reducible first | exact HK.out | apply KeepBut.set_ | apply keep_drewN | apply keep_drew | apply keep_alloc) | exact HK.out)⟩

-- NOT PRINTED: function 16 (lookasidelaw13_lives)
end Go.Proofs.YtjnffegjpkbjmaaGreat.QTsbPlays
