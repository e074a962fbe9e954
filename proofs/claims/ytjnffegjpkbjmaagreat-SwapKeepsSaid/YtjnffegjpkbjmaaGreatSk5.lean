/- SwapKeeps: to a grade that is not less all entries are kept; behind all Drops all frames are free, and all bytes 0. -/
import Derived.Test.YtjnffegjpkbjmaaGreatSk4
import Derived.Test.YtjnffegjpkbjmaaGreatSk2
namespace Go.Proofs.YtjnffegjpkbjmaaGreat.Mem
open Go.Proofs.YtjnffegjpkbjmaaGreat.QFramesPlays (Fs Fr FrK Took fs_Many fs_new fs_list fs_free took_at setN cnt First FreeIn AllIn setN_len fs_same)
open Go.RowKit Go.Maps Go.Proofs.YtjnffegjpkbjmaaGreatW.PrintWords Go.Proofs.YtjnffegjpkbjmaaGreatW.PrintLast Go.Proofs.YtjnffegjpkbjmaaGreatW.PrintMore Go.Proofs.YtjnffegjpkbjmaaGreat.QTsbPlays Go.Proofs.YtjnffegjpkbjmaaGreat.Pure
set_option linter.unusedSimpArgs false
set_option linter.unusedVariables false
section
attribute [local go_sem] max_two min_two
set_option maxHeartbeats 2000000
set_option maxRecDepth 100000
theorem R_fm {α : Type} {d : Kd α} {e base B pf rf pm mb n : Nat} {sz : Int} {D : DataW Unit} {w0 W W1 : World} {v : Value} {xs : List α} {ts : List Bool} (h : d.R e W base (fun _ => True) v xs) (hM : Mem B w0 pm mb sz n D W) (hF : Fs B w0 pf rf ts W) (he1 : ∀ q, q ∈ e :: d.E → q ≠ 89) (he2 : ∀ q, q ∈ e :: d.E → q ≠ 4) (hk : FM W pf rf mb W1) : d.R e W1 base (fun _ => True) v xs := by
  obtain ⟨W2, h1, h2⟩ := hk
  exact R_map (R_make h hF he1 he2 h1) (hM.frk hF h1) h2
theorem tq_of {B : Nat} {w0 W : World} {p mb pt : Nat} {sz : Int} {base N s n : Nat} {grade : Int} {os : Nat → Option GE} {D : DataW Unit} (hM : Mem B w0 p mb sz n D W) (hD : HoldsT D base N s (WO os)) (hr : W.heap[pt]? = some (.cells (TCs p (base : Int) N s grade) 119 (0, 0))) (ok : OKO N s os) : TQ B w0 p mb pt sz base N s grade n os W := ⟨⟨D, hM, hD.holds⟩, hr, ok⟩
theorem Mem.keptB {B k : Nat} {w0 W W' : World} {p mb n : Nat} {sz : Int} {D : DataW Unit} {cs : Array Value} {t : TypeId} (h : Mem B w0 p mb sz n D W) (hg : W.grownBy W' (some k)) (hk : W.heap[k]? = some (.cells cs t (0, 0))) (h2 : t ≠ 101) (h3 : B ≤ k) : Mem B w0 p mb sz n D W' := by
  have e1 : k ≠ mb := h.nb k cs t hk
  have e2 : k ≠ p := by rintro rfl; have := h.row; rw [hk] at this; injection this with this; injection this with _ a; exact h2 a
  exact h.kept hg (fun e => e1 (Option.some.inj e).symm) (fun e => e2 (Option.some.inj e).symm) (fun j e => by cases e; exact h3)
theorem Fs.keptB {B k : Nat} {w0 W W' : World} {pf rf : Nat} {ts : List Bool} {cs : Array Value} {t : TypeId} (h : Fs B w0 pf rf ts W) (hg : W.grownBy W' (some k)) (hk : W.heap[k]? = some (.cells cs t (0, 0))) (h1 : t ≠ 89) (h2 : t ≠ 4) (h3 : B ≤ k) : Fs B w0 pf rf ts W' := by
  have e1 : pf ≠ k := by rintro rfl; have := h.row; rw [hk] at this; injection this with this; injection this with _ a; exact h1 a
  have e2 : rf ≠ k := by rintro rfl; have := h.bits; rw [hk] at this; injection this with this; injection this with _ a; exact h2 a
  exact h.kept hg (fun e => e1 (Option.some.inj e)) (fun e => e2 (Option.some.inj e)) (fun j e => by cases e; exact h3)
theorem blk_keptB {k g : Nat} {W W' : World} {cs cs' : Array Value} {t t' : TypeId} (h : W.heap[g]? = some (.cells cs t (0, 0))) (hg : W.grownBy W' (some k)) (hk : W.heap[k]? = some (.cells cs' t' (0, 0))) (h1 : t ≠ t') : W'.heap[g]? = some (.cells cs t (0, 0)) :=
  (hg.block g (blk_lt h) (fun e => by obtain rfl : g = k := Option.some.inj e; rw [h] at hk; injection hk with hk; injection hk with _ a; exact h1 a)).trans h
/-- Behind the second Drop nothing is left. -/
theorem all_gone {B : Nat} {w0 W : World} {p mb n fa fb N s : Nat} {sz : Int} {D E : DataW Unit} {ws : Nat → Wd} (hD : HoldsT D (fa * 8192) N s ws) (hlow : ∀ k, 0 ≤ k → k < (fa : Int) * 1024 → rd D k = 0) (hN : 16 * N ≤ fb * 8192) (hM : Mem B w0 p mb sz n E W) (hE : Good E) (h : ∀ t, 0 ≤ t → byteAt E t = if ((fa * 8192 : Nat) : Int) ≤ t ∧ t - ((fa * 8192 : Nat) : Int) < ((fb * 8192 : Nat) : Int) then 0 else byteAt D t) : Maps.size E = 0 := by
  refine size_zero hM hE fun k => ?_
  by_cases hk : 0 ≤ k
  · rw [dropped_words hD.good hE h hk]
    split
    · rfl
    · rename_i c
      by_cases c2 : k < (fa : Int) * 1024
      · exact hlow k hk c2
      · exact hD.top k (by omega)
  · by_cases c : rd E k = 0
    · exact c
    · exact absurd (hE.low k c).1 hk
noncomputable def skeeps15_T : Bool × List (List Nat × List Nat) := rtab .any (opsOf Tryz.f5 15)
theorem skeeps15_tab : rtab .any (opsOf Tryz.f5 15) = skeeps15_T := rfl
noncomputable def skeeps21_T : Bool × List (List Nat × List Nat) := rtab .any (opsOf Tryz.f5 21)
theorem skeeps21_tab : rtab .any (opsOf Tryz.f5 21) = skeeps21_T := rfl
noncomputable def skeeps22_T : Bool × List (List Nat × List Nat) := rtab .any (opsOf Tryz.f5 22)
theorem skeeps22_tab : rtab .any (opsOf Tryz.f5 22) = skeeps22_T := rfl
noncomputable def skeeps24_T : Bool × List (List Nat × List Nat) := rtab .any (opsOf Tryz.f5 24)
theorem skeeps24_tab : rtab .any (opsOf Tryz.f5 24) = skeeps24_T := rfl
theorem swapKeeps_calls (size a b : Int) (x : Option Addr) (len cap0 : Nat) (W : World) (hs : (Lit.int .i64 size).wf = true) (ha : (Lit.int .i64 a).wf = true) (hb : (Lit.int .i64 b).wf = true) (hl : Ents W x len ∧ len ≤ maxLen) :
    Calls Tryz.prog 5 #[.int .i64 size, .int .i64 a, .int .i64 b, .slice x len cap0] W fun e W' => e = .returned (.bool true) ∧ Below W.heap.size W W' := by
  have hu := Tryz.underlying41
  have HEN := Aside0.mk hl.1
  have hlm : len ≤ 9223372036854775807 := hl.2
  have HG := Aside0.mk (grown_refl W none)
  clear hs ha hb hl
  go_enter Tryz.func5, Tryz.ntmps5
  go_wp2_with fail
  refine (lookasideref08_Around.calls size 4 _ _ (rAround4 size)).mono ?_
  rintro x0 w3 ⟨rfl, hd⟩
  replace HG := Aside0.mk (grown_two HG.out (drawn_grown hd))
  clear hd
  go_wp2_with fail
  refine (lookasideref08_Around.calls a 4 _ _ (rAround4 a)).mono ?_
  rintro x0 w4 ⟨rfl, hd⟩
  replace HG := Aside0.mk (grown_two HG.out (drawn_grown hd))
  clear hd
  go_wp2_with fail
  refine (lookasideref08_Around.calls b 4 _ _ (rAround4 b)).mono ?_
  rintro x0 wb ⟨rfl, hd⟩
  replace HG := Aside0.mk (grown_two HG.out (drawn_grown hd))
  clear hd
  have hs4 := ar4_lt size
  have ha4 := ar4_lt a
  have hb4 := ar4_lt b
  generalize ar4 size = s at hs4 ⊢
  generalize ar4 a = ga at ha4 ⊢
  generalize ar4 b = gb at hb4 ⊢
  obtain ⟨g0, hg0⟩ : ∃ z, z = min ga gb := ⟨_, rfl⟩
  obtain ⟨g1, hg1⟩ : ∃ z, z = max ga gb := ⟨_, rfl⟩
  have hmn : Builtin.min2 (.int .i64 (ga : Int)) (.int .i64 (gb : Int)) = pure (.int .i64 (g0 : Int)) := by rw [min2_int]; congr 2; split <;> omega
  have HMX := Aside0.mk (show Builtin.max2 (.int .i64 (ga : Int)) (.int .i64 (gb : Int)) = pure (.int .i64 (g1 : Int)) by rw [max2_int]; congr 2; split <;> omega)
  have HSG := Aside0.mk (show s < 4 ∧ g0 < 4 ∧ g1 < 4 ∧ g0 ≤ g1 from ⟨hs4, by omega, by omega, by omega⟩)
  clear hg0 hg1 hs4 ha4 hb4
  have HIA := Aside0.mk (frs_in s g0 HSG.out.1 HSG.out.2.1)
  have HIB := Aside0.mk (frs_in s g1 HSG.out.1 HSG.out.2.2.1)
  have HPA := Aside0.mk (plcs_le s g0 HSG.out.1 HSG.out.2.1)
  have HPB := Aside0.mk (plcs_le s g1 HSG.out.1 HSG.out.2.2.1)
  have HTB := Aside0.mk (show TB 0 (plcs s g0) s ((20 * 8192 : Nat) : Int) from ⟨HSG.out.1, HPA.out.1, HPA.out.2, by decide, by have := HPA.out; omega, by omega, plcs_mod s g0 HSG.out.1 HSG.out.2.1⟩)
  go_wp2_with fail
  refine (begin13F_calls 20 (by omega) _).mono ?_
  rintro x0 w5 ⟨h, pm, mb, pf, rf, rfl, hh, hM, hF, hhb, hg⟩
  have HM := Aside0.mk hM
  have HF := Aside0.mk hF
  have HB := Aside0.mk hh
  have HHB := Aside0.mk hhb
  clear hh hM hF hhb hg
  go_wp2_with fail
  refine (wmakeF_calls ⟨good_empty, fun k => rfl⟩ HM.out HF.out HB.out HHB.out s g0 HSG.out.1 HSG.out.2.1 (by decide) (by have := HIA.out; omega) (by omega)).mono ?_
  rintro x0 w7 ⟨rfl, pt, lb, sb, cap, cap5, v3, lcs, scs, A, c, hh, hl, hl0, hs, h5, hsb, hR, hT, hF⟩
  have HG4 := HG
  obtain ⟨N, hN⟩ : ∃ z, plcs s g0 = z := ⟨_, rfl⟩
  obtain ⟨N2, hN2⟩ : ∃ z, plcs s g1 = z := ⟨_, rfl⟩
  obtain ⟨fa, hfa⟩ : ∃ z, frsW s g0 = z := ⟨_, rfl⟩
  obtain ⟨fb, hfb⟩ : ∃ z, frsW s g1 = z := ⟨_, rfl⟩
  have HDV := Aside0.mk (show N2 % N = 0 by rw [← hN, ← hN2]; exact plcs_dvd HSG.out.1 HSG.out.2.1 HSG.out.2.2.1 HSG.out.2.2.2)
  have HTC := Aside0.mk (show TB (fa * 8192) N2 s ((20 * 8192 : Nat) : Int) by
    have h1 := HIA.out
    have h2 := HIB.out
    rw [hfa] at h1
    rw [hfb, hN2] at h2
    have h3 := HPB.out
    rw [hN2] at h3
    have h4 := plcs_mod s g1 HSG.out.1 HSG.out.2.2.1
    rw [hN2] at h4
    exact ⟨HSG.out.1, h3.1, h3.2, by omega, by omega, by omega, h4⟩)
  have HFS := Aside0.mk (show 1 ≤ fa ∧ fa ≤ 8 ∧ 1 ≤ fb ∧ fb ≤ 8 ∧ 16 * N2 ≤ fb * 8192 by
    have h1 := HIA.out
    have h2 := HIB.out
    rw [hfa] at h1
    rw [hfb, hN2] at h2
    omega)
  have HEQ := Aside0.mk (And.intro hN (And.intro hN2 (And.intro hfa hfb)))
  rw [hN] at HTB HPA h5 hT
  rw [hfa] at hF
  have HB2 := Aside0.mk hh
  have HL := Aside0.mk hl
  have HL0 := Aside0.mk hl0
  have hs5 : 5 ≤ scs.size := by
    have e := congrArg List.length h5
    simp at e
    omega
  have hix : ∀ i, i < 5 → scs[i]? = [Value.int .i64 (s : Int), .int .i64 (N : Int), .slice A 0 c, .int .i64 0, .int .i64 (g0 : Int)][i]? := fun i hi => by
    have e := congrArg (fun l => l[i]?) h5
    simp only [List.getElem?_take] at e
    rw [if_pos hi] at e
    rw [← e]
    simp
  have HS := Aside0.mk (show w7.heap[sb]? = some (.cells scs 66 (0, 0)) ∧ 5 ≤ scs.size ∧ scs[0]? = some (.int .i64 (s : Int)) ∧ scs[1]? = some (.int .i64 (N : Int)) ∧ scs[2]? = some (.slice A (List.length ([] : List (S141))) c) from ⟨hs, hs5, hix 0 (by decide), hix 1 (by decide), hix 2 (by decide)⟩)
  have HSB := Aside0.mk hsb
  have HR := Aside0.mk (show Kd.R k141 141 w7 wb.heap.size (fun _ => True) (.slice A (List.length ([] : List (S141))) c) [] from hR)
  rw [Nat.zero_add] at hT
  have HT := Aside0.mk hT
  have HF2 := Aside0.mk hF
  clear hh hl hl0 hs h5 hsb hR hT hF hs5 hix HM HF HB HHB hN hN2 hfa hfb hmn HIA HIB HPB
  have hN0 : N ≤ 4096 := HPA.out.2
  obtain ⟨q0, q1, q2, q3, q4, q5⟩ := cz6 HB2.out
  go_wp2_with fail
  clear q0 q1 q2 q3 q4 q5
  go_loopw [11] (fun v11 wr => ∃ (k : Nat) (os : Nat → Option GE) (l : List (S141)) (A : Option Addr) (c : Nat) (scs : Array Value), v11 = .int .i64 k ∧ k ≤ len ∧ k ≤ 8 ∧ l.length ≤ 3 * k ∧ Aside0 (wr.heap[h]? = some (.cells #[.pointer (some ⟨pm, 0, none⟩), .pointer (some ⟨pf, 0, none⟩), .slice (some ⟨lb, 0, none⟩) 1 cap, .int .i64 ((20 : Nat) : Int), v3, .slice (some ⟨sb, 0, none⟩) 1 cap5] 35 (0, 0))) ∧ Aside0 (wr.heap[lb]? = some (.cells lcs 44 (0, 0))) ∧ Aside0 (wr.heap[sb]? = some (.cells scs 66 (0, 0)) ∧ 5 ≤ scs.size ∧ scs[0]? = some (.int .i64 (s : Int)) ∧ scs[1]? = some (.int .i64 (N : Int)) ∧ scs[2]? = some (.slice A l.length c)) ∧ Aside0 (Kd.R k141 141 wr wb.heap.size (fun _ => True) (.slice A l.length c) l) ∧ Aside0 (TK wb.heap.size wb pm mb pt ((20 * 8192 : Nat) : Int) 0 N s (g0 : Int) (2 * N + 3 * k) (os) wr) ∧ Aside0 (Fs wb.heap.size wb pf rf (setN (List.replicate 20 false) 0 true fa) wr)) (fun v11 _ => 8 - (intOf v11).toNat)
  case atStart => exact ⟨0, fun _ => none, [], A, c, scs, rfl, by omega, by omega, by simp, HB2, HL, HS, HR, HT, HF2⟩
  case round =>
    clear HB2 HL HS HR HT HF2
    obtain ⟨k, os, l, A, c, scs, rfl, hk, hkm, hll, HB, HL, HS, HR, HT, HF⟩ := hrel
    by_cases hlk : k < len ∧ k < 8
    · have h1' : (k : Int) < (len : Int) := by omega
      have h2' : (k : Int) < 8 := by omega
      have h0' : (0 : Int) ≤ (k : Int) := by omega
      obtain ⟨D0, hM0, _⟩ := HT.out.mem
      have HGW := Aside0.mk (grown_two HG4.out (below_grown hM0.below))
      clear hM0
      obtain ⟨y, e, rfl, HEW0⟩ := HEN.out.at k hlk.1
      have HEW := Aside0.mk HEW0.wf
      have HE2 := HEW0.grown HGW.out
      clear HEW0 HGW
      obtain ⟨_, c0, c1, c2, c3, c4, c5, c6, c7, c8, c9, c10⟩ := HE2
      go_wp2_with fail
      refine (does3_calls HTB.out HB.out HL.out HL0.out HS.out.1 HS.out.2.1 HS.out.2.2.1 HS.out.2.2.2.1 HS.out.2.2.2.2 HSB.out HR.out (by omega) HT.out HF.out (by omega) e HEW.out).mono ?_
      rintro x0 w8 ⟨rfl, scs2, A2, c2', l2, hh, hl, hs, h5, s0, s1, s2, hR, hll2, hT, hF⟩
      have HB3 := Aside0.mk hh
      have HL3 := Aside0.mk hl
      have HS3 := Aside0.mk (And.intro hs (And.intro h5 (And.intro s0 (And.intro s1 s2))))
      have HR3 := Aside0.mk hR
      have HT3 := Aside0.mk (show TK wb.heap.size wb pm mb pt ((20 * 8192 : Nat) : Int) 0 N s (g0 : Int) (2 * N + 3 * (k + 1)) (setO os (plcOf N (s : Int) (geE s e).v) (some (geE s e))) w8 from hT)
      have HF3 := Aside0.mk hF
      clear hh hl hs h5 s0 s1 s2 hR hT hF c0 c1 c2 c3 c4 c5 c6 c7 c8 c9 c10 HB HL HS HR HT HF
      go_wp2_with fail
      go_roundw
      case rel => exact ⟨k + 1, _, l2, A2, c2', scs2, by go_num, by omega, by omega, by omega, HB3, HL3, HS3, HR3, HT3, HF3⟩
      case measure => simp [intOf]; omega
    · have HKK := Aside0.mk hkm
      have hkk : ((k : Int) < (len : Int) ∧ ¬ (k : Int) < 8) ∨ ¬ (k : Int) < (len : Int) := by omega
      clear hk hkm hlk hll HS HR HSB
      rcases hkk with ⟨h1', h2'⟩ | h1'
      all_goals
        obtain ⟨q0, q1, q2, q3, q4, q5⟩ := cz6 HB.out
        have x0 := (blk_cell HL.out 0).trans HL0.out
        go_wp2_with fail
        refine (o_list HTB.out HT.out.tq).mono ?_
        rintro xq w9 ⟨v, rfl, hR, hg⟩
        have hle := list_le N os
        obtain ⟨xs, hxs⟩ : ∃ z, z = listO N os := ⟨_, rfl⟩
        rw [← hxs] at hR hle
        obtain ⟨A5, c5, rfl⟩ := Kd.R_slice hR
        rw [List.length_map] at hR ⊢
        have HXS := Aside0.mk hxs
        have HXL := Aside0.mk (show xs.length ≤ 4096 by have := HPA.out; omega)
        have HXK := Aside0.mk (show ∀ g ∈ xs, g.ok from fun g hg => (mem_okO HT.out.ok (by rw [← hxs]; exact hg)).1)
        have HV := Aside0.mk (Kd.R_lower hR HT.out.below0)
        replace HB := Aside0.mk (blk_grown HB.out hg)
        replace HL := Aside0.mk (blk_grown HL.out hg)
        replace HT := Aside0.mk (HT.out.same hg)
        replace HF := Aside0.mk (HF.out.same hg)
        clear hR hg hle hxs
        clear q0 q1 q2 q3 q4 q5 x0
        go_upto_region 15 with fail
        have hg := grown_drew w9 none
        replace HV := Aside0.mk (Kd.R_grown HV.out hg (by simp))
        replace HB := Aside0.mk (blk_grown HB.out hg)
        replace HL := Aside0.mk (blk_grown HL.out hg)
        replace HT := Aside0.mk (HT.out.same hg)
        replace HF := Aside0.mk (HF.out.same hg)
        clear hg
        refine start_ (n := 26) (S := fun w' => w'.heap[h]? = some (.cells #[.pointer (some ⟨pm, 0, none⟩), .pointer (some ⟨pf, 0, none⟩), .slice (some ⟨lb, 0, none⟩) 1 cap, .int .i64 ((20 : Nat) : Int), v3, .slice (some ⟨sb, 0, none⟩) 1 cap5] 35 (0, 0)) ∧ w'.heap[lb]? = some (.cells lcs 44 (0, 0))) (ds := []) #[false, false, false, false, false, false, false, false, false, false, false, false, false, false, false, false, false, false, false, false, false, false, false, false, false, false] (by kernel_rfl) rfl rfl ⟨HB.out, HL.out⟩ (fun hHeld => ?_)
        refine with_tab skeeps15_tab (fun HT_ => ?_)
        refine pure_ (i := 0) (N := some 70) (v := ?_) (a' := ?_) #[true, false, false, false, false, false, false, false, false, false, false, false, false, false, false, false, false, false, false, false, false, false, false, false, false, false] rfl rfl (any_of HT_.out (by kernel_rfl)) (fun _ _ _ h => h) (Or.inl ⟨by rfl, ?_⟩) ?_ ?_
        rotate_left
        · intro w'
          go_simp
          with_reducible rfl
        rotate_left
        · simp only [ap_]
          rfl
        refine pure_ (i := 1) (N := some 71) (v := ?_) (a' := ?_) #[true, true, false, false, false, false, false, false, false, false, false, false, false, false, false, false, false, false, false, false, false, false, false, false, false, false] rfl rfl (any_of HT_.out (by kernel_rfl)) (fun _ _ _ h => h) (Or.inl ⟨by rfl, ?_⟩) ?_ ?_
        rotate_left
        · intro w'
          go_simp
          with_reducible rfl
        rotate_left
        · simp only [ap_]
          rfl
        refine pure_ (i := 2) (N := some 72) (v := ?_) (a' := ?_) #[true, true, true, false, false, false, false, false, false, false, false, false, false, false, false, false, false, false, false, false, false, false, false, false, false, false] rfl rfl (any_of HT_.out (by kernel_rfl)) (fun _ _ _ h => h) (Or.inl ⟨by rfl, ?_⟩) ?_ ?_
        rotate_left
        · intro w'
          go_simp
          with_reducible rfl
        rotate_left
        · simp only [ap_]
          rfl
        refine pure_ (i := 4) (N := some 74) (v := ?_) (a' := ?_) #[true, true, true, false, true, false, false, false, false, false, false, false, false, false, false, false, false, false, false, false, false, false, false, false, false, false] rfl rfl (any_of HT_.out (by kernel_rfl)) (fun _ _ _ h => h) (Or.inl ⟨by rfl, ?_⟩) ?_ ?_
        rotate_left
        · intro w'
          go_simp
          with_reducible rfl
        rotate_left
        · simp only [ap_]
          rfl
        refine pure_ (i := 5) (N := some 75) (v := ?_) (a' := ?_) #[true, true, true, false, true, true, false, false, false, false, false, false, false, false, false, false, false, false, false, false, false, false, false, false, false, false] rfl rfl (any_of HT_.out (by kernel_rfl)) (fun _ _ _ h => h) (Or.inl ⟨by rfl, ?_⟩) ?_ ?_
        rotate_left
        · intro w'
          go_simp
          with_reducible rfl
        rotate_left
        · simp only [ap_]
          rfl
        refine pure_ (i := 6) (N := some 76) (v := ?_) (a' := ?_) #[true, true, true, false, true, true, true, false, false, false, false, false, false, false, false, false, false, false, false, false, false, false, false, false, false, false] rfl rfl (any_of HT_.out (by kernel_rfl)) (fun _ _ _ h => h) (Or.inl ⟨by rfl, ?_⟩) ?_ ?_
        rotate_left
        · intro w'
          go_simp
          with_reducible rfl
        rotate_left
        · simp only [ap_]
          rfl
        refine pure_ (i := 8) (N := some 78) (v := ?_) (a' := ?_) #[true, true, true, false, true, true, true, false, true, false, false, false, false, false, false, false, false, false, false, false, false, false, false, false, false, false] rfl rfl (any_of HT_.out (by kernel_rfl)) (fun _ _ _ h => h) (Or.inl ⟨by rfl, ?_⟩) ?_ ?_
        rotate_left
        · intro w'
          go_simp
          with_reducible rfl
        rotate_left
        · simp only [ap_]
          rfl
        refine pure_ (i := 9) (N := some 79) (v := ?_) (a' := ?_) #[true, true, true, false, true, true, true, false, true, true, false, false, false, false, false, false, false, false, false, false, false, false, false, false, false, false] rfl rfl (any_of HT_.out (by kernel_rfl)) (fun _ _ _ h => h) (Or.inl ⟨by rfl, ?_⟩) ?_ ?_
        rotate_left
        · intro w'
          go_simp
          with_reducible rfl
        rotate_left
        · simp only [ap_]
          rfl
        refine pure_ (i := 10) (N := some 80) (v := ?_) (a' := ?_) #[true, true, true, false, true, true, true, false, true, true, true, false, false, false, false, false, false, false, false, false, false, false, false, false, false, false] rfl rfl (any_of HT_.out (by kernel_rfl)) (fun _ _ _ h => h) (Or.inl ⟨by rfl, ?_⟩) ?_ ?_
        rotate_left
        · intro w'
          go_simp
          with_reducible rfl
        rotate_left
        · simp only [ap_]
          rfl
        refine pure_ (i := 14) (N := some 84) (v := ?_) (a' := ?_) #[true, true, true, false, true, true, true, false, true, true, true, false, false, false, true, false, false, false, false, false, false, false, false, false, false, false] rfl rfl (any_of HT_.out (by kernel_rfl)) (fun _ _ _ h => h) (Or.inl ⟨by rfl, ?_⟩) ?_ ?_
        rotate_left
        · intro w'
          go_simp
          with_reducible rfl
        rotate_left
        · simp only [ap_]
          rfl
        refine pure_ (i := 15) (N := some 85) (v := ?_) (a' := ?_) #[true, true, true, false, true, true, true, false, true, true, true, false, false, false, true, true, false, false, false, false, false, false, false, false, false, false] rfl rfl (any_of HT_.out (by kernel_rfl)) (fun _ _ _ h => h) (Or.inl ⟨by rfl, ?_⟩) ?_ ?_
        rotate_left
        · intro w'
          go_simp
          with_reducible rfl
        rotate_left
        · simp only [ap_]
          rfl
        refine pure_ (i := 16) (N := some 86) (v := ?_) (a' := ?_) #[true, true, true, false, true, true, true, false, true, true, true, false, false, false, true, true, true, false, false, false, false, false, false, false, false, false] rfl rfl (any_of HT_.out (by kernel_rfl)) (fun _ _ _ h => h) (Or.inl ⟨by rfl, ?_⟩) ?_ ?_
        rotate_left
        · intro w'
          go_simp
          with_reducible rfl
        rotate_left
        · simp only [ap_]
          rfl
        refine pure_ (i := 17) (N := some 87) (v := .int .i64 (g1 : Int)) (a' := ?_) #[true, true, true, false, true, true, true, false, true, true, true, false, false, false, true, true, true, true, false, false, false, false, false, false, false, false] rfl rfl (any_of HT_.out (by kernel_rfl)) (fun _ _ _ h => h) (Or.inl ⟨by rfl, ?_⟩) ?_ ?_
        · intro w'
          have hmx := HMX.out
          go_simp
        rotate_left
        · simp only [ap_]
          rfl
        refine take_ (i := 3) (N := some 73) (v := .pointer (some ⟨pm, 0, none⟩)) (a' := ?_) #[true, true, true, true, true, true, true, false, true, true, true, false, false, false, true, true, true, true, false, false, false, false, false, false, false, false] rfl rfl (take_of HT_.out (by kernel_rfl)) (fun _ _ _ h => h) (Or.inl ⟨by rfl, ?_⟩) hHeld ?_ ?_
        · rintro w' ⟨s1, s2⟩
          obtain ⟨q0, q1, q2, q3, q4, q5⟩ := cz6 s1
          go_simp
        rotate_left
        · simp only [ap_]
          rfl
        refine take_ (i := 7) (N := some 77) (v := .pointer (some ⟨pf, 0, none⟩)) (a' := ?_) #[true, true, true, true, true, true, true, true, true, true, true, false, false, false, true, true, true, true, false, false, false, false, false, false, false, false] rfl rfl (take_of HT_.out (by kernel_rfl)) (fun _ _ _ h => h) (Or.inl ⟨by rfl, ?_⟩) hHeld ?_ ?_
        · rintro w' ⟨s1, s2⟩
          obtain ⟨q0, q1, q2, q3, q4, q5⟩ := cz6 s1
          go_simp
        rotate_left
        · simp only [ap_]
          rfl
        refine take_ (i := 11) (N := some 81) (v := .slice (some ⟨lb, 0, none⟩) 1 cap) (a' := ?_) #[true, true, true, true, true, true, true, true, true, true, true, true, false, false, true, true, true, true, false, false, false, false, false, false, false, false] rfl rfl (take_of HT_.out (by kernel_rfl)) (fun _ _ _ h => h) (Or.inl ⟨by rfl, ?_⟩) hHeld ?_ ?_
        · rintro w' ⟨s1, s2⟩
          obtain ⟨q0, q1, q2, q3, q4, q5⟩ := cz6 s1
          go_simp
        rotate_left
        · simp only [ap_]
          rfl
        refine pure_ (i := 12) (N := some 82) (v := ?_) (a' := ?_) #[true, true, true, true, true, true, true, true, true, true, true, true, true, false, true, true, true, true, false, false, false, false, false, false, false, false] rfl rfl (any_of HT_.out (by kernel_rfl)) (fun _ _ _ h => h) (Or.inl ⟨by rfl, ?_⟩) ?_ ?_
        rotate_left
        · intro w'
          go_simp
          with_reducible rfl
        rotate_left
        · simp only [ap_]
          rfl
        refine take_ (i := 13) (N := some 83) (v := .pointer (some ⟨pt, 0, none⟩)) (a' := ?_) #[true, true, true, true, true, true, true, true, true, true, true, true, true, true, true, true, true, true, false, false, false, false, false, false, false, false] rfl rfl (take_of HT_.out (by kernel_rfl)) (fun _ _ _ h => h) (Or.inl ⟨by rfl, ?_⟩) hHeld ?_ ?_
        · rintro w' ⟨s1, s2⟩
          have x0 := (blk_cell s2 0).trans HL0.out
          go_simp
        rotate_left
        · simp only [ap_]
          rfl
        refine one_ (i := 18) (N := some 88) #[true, true, true, true, true, true, true, true, true, true, true, true, true, true, true, true, true, true, true, false, false, false, false, false, false, false] rfl rfl (one_of HT_.out (by kernel_rfl)) (by decide) (fun K hK => ?_)
        refine goes_ Tryz.func12 (by kernel_rfl) rfl #[.pointer (some ⟨pm, 0, none⟩), .pointer (some ⟨pf, 0, none⟩), .pointer (some ⟨pt, 0, none⟩), .int .i64 (s : Int), .int .i64 (g1 : Int)] (by rfl) rfl rfl (by (try simp only [List.map_toArray, List.map_cons, List.map_nil]); first | done | rfl) ?_
        refine (change_calls HSG.out.1 HSG.out.2.1 HSG.out.2.2.1 HSG.out.2.2.2 HEQ.out.1 HEQ.out.2.1 HEQ.out.2.2.1 HEQ.out.2.2.2 (F := 20) (by have := HFS.out; omega) (by omega) HT.out HF.out (by have := HPA.out; have := HKK.out; omega)).mono ?_
        rintro x0 wn ⟨pt2, rfl, D2, n2, hn2, hM2, hD2, hlow, hr2, ok2, hF2, hk⟩
        obtain ⟨D0, hM0, _⟩ := HT.out.mem
        replace HV := Aside0.mk (R_fm HV.out hM0 HF.out (by decide) (by decide) hk)
        replace HB := Aside0.mk (blk_fm HB.out (by decide) (by decide) hM0 HF.out hk)
        replace HL := Aside0.mk (blk_fm HL.out (by decide) (by decide) hM0 HF.out hk)
        have HFD := Aside0.mk (show ∀ g ∈ xs, findO (insL N2 s (listO N os) (fun _ => none) (plcOf N2 (s : Int) g.v)) g.v g.c = some g from fun g hg => moves_find HT.out.ok HDV.out (by rw [← HXS.out]; exact hg))
        have HLN := Aside0.mk (show (listO N2 (insL N2 s (listO N os) (fun _ => none))).length = xs.length by rw [moves_len HT.out.ok HTC.out.h1 HDV.out, HXS.out])
        rw [← HXS.out]
        rw [← HXS.out] at hD2 ok2 HFD HLN
        generalize insL N2 s xs (fun _ => none) = os2 at hD2 ok2 HFD HLN
        have HM := Aside0.mk hM2
        have HN2 := Aside0.mk hn2
        have HD2 := Aside0.mk hD2
        have HLO := Aside0.mk hlow
        have HR2 := Aside0.mk hr2
        have HO2 := Aside0.mk ok2
        replace HF := Aside0.mk hF2
        have hs : wn.heap[h]? = some (.cells #[.pointer (some ⟨pm, 0, none⟩), .pointer (some ⟨pf, 0, none⟩), .slice (some ⟨lb, 0, none⟩) 1 cap, .int .i64 ((20 : Nat) : Int), v3, .slice (some ⟨sb, 0, none⟩) 1 cap5] 35 (0, 0)) ∧ wn.heap[lb]? = some (.cells lcs 44 (0, 0)) := ⟨HB.out, HL.out⟩
        clear hM0 hM2 hn2 hD2 hlow hr2 ok2 hF2 hk HT
        refine ⟨_, rfl, ?_⟩
        refine hK.out _ _ hs (fun hHeld => ?_)
        clear hK K
        refine norm_ (a' := ?_) ?_ ?_
        rotate_left
        · show Act.put _ (some 88) _ = _
          simp only [ap_]
          rfl
        refine pure_ (i := 19) (N := some 69) (v := ?_) (a' := ?_) #[true, true, true, true, true, true, true, true, true, true, true, true, true, true, true, true, true, true, true, true, false, false, false, false, false, false] rfl rfl (any_of HT_.out (by kernel_rfl)) (fun _ _ _ h => h) (Or.inl ⟨by rfl, ?_⟩) ?_ ?_
        rotate_left
        · intro w'
          go_simp
          with_reducible rfl
        rotate_left
        · simp only [ap_]
          rfl
        refine pure_ (i := 20) (N := some 89) (v := ?_) (a' := ?_) #[true, true, true, true, true, true, true, true, true, true, true, true, true, true, true, true, true, true, true, true, true, false, false, false, false, false] rfl rfl (any_of HT_.out (by kernel_rfl)) (fun _ _ _ h => h) (Or.inl ⟨by rfl, ?_⟩) ?_ ?_
        rotate_left
        · intro w'
          go_simp
          with_reducible rfl
        rotate_left
        · simp only [ap_]
          rfl
        refine pure_ (i := 21) (N := some 90) (v := ?_) (a' := ?_) #[true, true, true, true, true, true, true, true, true, true, true, true, true, true, true, true, true, true, true, true, true, true, false, false, false, false] rfl rfl (any_of HT_.out (by kernel_rfl)) (fun _ _ _ h => h) (Or.inl ⟨by rfl, ?_⟩) ?_ ?_
        rotate_left
        · intro w'
          go_simp
          with_reducible rfl
        rotate_left
        · simp only [ap_]
          rfl
        refine pure_ (i := 22) (N := some 91) (v := ?_) (a' := ?_) #[true, true, true, true, true, true, true, true, true, true, true, true, true, true, true, true, true, true, true, true, true, true, true, false, false, false] rfl rfl (any_of HT_.out (by kernel_rfl)) (fun _ _ _ h => h) (Or.inl ⟨by rfl, ?_⟩) ?_ ?_
        rotate_left
        · intro w'
          go_simp
          with_reducible rfl
        rotate_left
        · simp only [ap_]
          rfl
        refine pure_ (i := 23) (N := some 13) (v := ?_) (a' := ?_) #[true, true, true, true, true, true, true, true, true, true, true, true, true, true, true, true, true, true, true, true, true, true, true, true, false, false] rfl rfl (any_of HT_.out (by kernel_rfl)) (fun _ _ _ h => h) (Or.inl ⟨by rfl, ?_⟩) ?_ ?_
        rotate_left
        · intro w'
          go_simp
          with_reducible rfl
        rotate_left
        · simp only [ap_]
          rfl
        refine pure_ (i := 24) (N := some 14) (v := ?_) (a' := ?_) #[true, true, true, true, true, true, true, true, true, true, true, true, true, true, true, true, true, true, true, true, true, true, true, true, true, false] rfl rfl (any_of HT_.out (by kernel_rfl)) (fun _ _ _ h => h) (Or.inl ⟨by rfl, ?_⟩) ?_ ?_
        rotate_left
        · intro w'
          go_simp
          with_reducible rfl
        rotate_left
        · simp only [ap_]
          rfl
        refine pure_ (i := 25) (N := some 15) (v := ?_) (a' := ?_) #[true, true, true, true, true, true, true, true, true, true, true, true, true, true, true, true, true, true, true, true, true, true, true, true, true, true] rfl rfl (any_of HT_.out (by kernel_rfl)) (fun _ _ _ h => h) (Or.inl ⟨by rfl, ?_⟩) ?_ ?_
        rotate_left
        · intro w'
          go_simp
          with_reducible rfl
        rotate_left
        · simp only [ap_]
          rfl
        refine done_ (done_of HT_.out (by kernel_rfl)) ?_
        clear hHeld HL
        go_wp2_with fail
        refine (o_list HTC.out (tq_of HM.out HD2.out HR2.out HO2.out)).mono ?_
        rintro xq w10 ⟨v2, rfl, hR, hg⟩
        obtain ⟨A6, c6, rfl⟩ := Kd.R_slice hR
        rw [List.length_map, HLN.out]
        replace HM := Aside0.mk (HM.out.same hg)
        replace HR2 := Aside0.mk (blk_grown HR2.out hg)
        replace HF := Aside0.mk (HF.out.same hg)
        replace HB := Aside0.mk (blk_grown HB.out hg)
        replace HV := Aside0.mk (Kd.R_grown HV.out hg (by simp))
        clear hR hg HLN HXS
        go_wp2_with fail
        go_loopw [16] (fun v16 wr => ∃ (i : Nat), v16 = .int .i64 i ∧ i ≤ xs.length ∧ Aside0 (Mem wb.heap.size wb pm mb ((20 * 8192 : Nat) : Int) n2 D2 wr) ∧ Aside0 (wr.heap[pt2]? = some (.cells (TCs pm ((fa * 8192 : Nat) : Int) N2 s g1) 119 (0, 0))) ∧ Aside0 (Fs wb.heap.size wb pf rf (setN (setN (setN (List.replicate 20 false) 0 true fa) fa true fb) 0 false fa) wr) ∧ Aside0 (wr.heap[h]? = some (.cells #[.pointer (some ⟨pm, 0, none⟩), .pointer (some ⟨pf, 0, none⟩), .slice (some ⟨lb, 0, none⟩) 1 cap, .int .i64 ((20 : Nat) : Int), v3, .slice (some ⟨sb, 0, none⟩) 1 cap5] 35 (0, 0))) ∧ Aside0 (Kd.R k41 41 wr wb.heap.size (fun _ => True) (.slice A5 xs.length c5) (xs.map geS))) (fun v16 _ => xs.length - (intOf v16).toNat)
        case' atStart => exact ⟨0, rfl, by omega, HM, HR2, HF, HB, HV⟩
        case' round =>
          clear HM HR2 HF HB HV
          obtain ⟨i, rfl, hi, HM, HR2, HF, HB, HV⟩ := hrel
          by_cases hix : i < xs.length
          · have hi1 : (i : Int) < (xs.length : Int) := by omega
            have hi0 : (0 : Int) ≤ (i : Int) := by omega
            obtain ⟨ad, hA, hgi⟩ := own_ge HV.out HXK.out i hix
            have HKI := Aside0.mk (HXK.out _ (List.getElem_mem hix))
            have HFI := Aside0.mk (HFD.out _ (List.getElem_mem hix))
            first | subst hA | cases hA
            have HEI := Aside0.mk hgi
            clear hgi
            generalize hgx : xs[i] = gi at HEI HKI HFI
            have HXI := Aside0.mk hgx
            clear hgx
            go_upto_region 21 with fail
            have hg := grown_drew wr none
            replace HEI := Aside0.mk (HEI.out.grown hg)
            replace HM := Aside0.mk (HM.out.same hg)
            replace HR2 := Aside0.mk (blk_grown HR2.out hg)
            replace HF := Aside0.mk (HF.out.same hg)
            replace HB := Aside0.mk (blk_grown HB.out hg)
            replace HV := Aside0.mk (Kd.R_grown HV.out hg (by simp))
            clear hg
            refine start_ (n := 18) (S := fun w' => GEAt w' (ad.add (i * 11)) gi) (ds := []) #[false, false, false, false, false, false, false, false, false, false, false, false, false, false, false, false, false, false] (by kernel_rfl) rfl rfl HEI.out (fun hHeld => ?_)
            refine with_tab skeeps21_tab (fun HT_ => ?_)
            refine pure_ (i := 0) (N := some 119) (v := ?_) (a' := ?_) #[true, false, false, false, false, false, false, false, false, false, false, false, false, false, false, false, false, false] rfl rfl (any_of HT_.out (by kernel_rfl)) (fun _ _ _ h => h) (Or.inl ⟨by rfl, ?_⟩) ?_ ?_
            rotate_left
            · intro w'
              go_simp
              with_reducible rfl
            rotate_left
            · simp only [ap_]
              rfl
            refine pure_ (i := 1) (N := some 120) (v := ?_) (a' := ?_) #[true, true, false, false, false, false, false, false, false, false, false, false, false, false, false, false, false, false] rfl rfl (any_of HT_.out (by kernel_rfl)) (fun _ _ _ h => h) (Or.inl ⟨by rfl, ?_⟩) ?_ ?_
            rotate_left
            · intro w'
              go_simp
              with_reducible rfl
            rotate_left
            · simp only [ap_]
              rfl
            refine pure_ (i := 2) (N := some 121) (v := ?_) (a' := ?_) #[true, true, true, false, false, false, false, false, false, false, false, false, false, false, false, false, false, false] rfl rfl (any_of HT_.out (by kernel_rfl)) (fun _ _ _ h => h) (Or.inl ⟨by rfl, ?_⟩) ?_ ?_
            rotate_left
            · intro w'
              go_simp
              with_reducible rfl
            rotate_left
            · simp only [ap_]
              rfl
            refine pure_ (i := 3) (N := some 122) (v := ?_) (a' := ?_) #[true, true, true, true, false, false, false, false, false, false, false, false, false, false, false, false, false, false] rfl rfl (any_of HT_.out (by kernel_rfl)) (fun _ _ _ h => h) (Or.inl ⟨by rfl, ?_⟩) ?_ ?_
            rotate_left
            · intro w'
              go_simp
              with_reducible rfl
            rotate_left
            · simp only [ap_]
              rfl
            refine pure_ (i := 4) (N := some 123) (v := ?_) (a' := ?_) #[true, true, true, true, true, false, false, false, false, false, false, false, false, false, false, false, false, false] rfl rfl (any_of HT_.out (by kernel_rfl)) (fun _ _ _ h => h) (Or.inl ⟨by rfl, ?_⟩) ?_ ?_
            rotate_left
            · intro w'
              go_simp
              with_reducible rfl
            rotate_left
            · simp only [ap_]
              rfl
            refine pure_ (i := 6) (N := some 125) (v := ?_) (a' := ?_) #[true, true, true, true, true, false, true, false, false, false, false, false, false, false, false, false, false, false] rfl rfl (any_of HT_.out (by kernel_rfl)) (fun _ _ _ h => h) (Or.inl ⟨by rfl, ?_⟩) ?_ ?_
            rotate_left
            · intro w'
              go_simp
              with_reducible rfl
            rotate_left
            · simp only [ap_]
              rfl
            refine pure_ (i := 7) (N := some 126) (v := ?_) (a' := ?_) #[true, true, true, true, true, false, true, true, false, false, false, false, false, false, false, false, false, false] rfl rfl (any_of HT_.out (by kernel_rfl)) (fun _ _ _ h => h) (Or.inl ⟨by rfl, ?_⟩) ?_ ?_
            rotate_left
            · intro w'
              go_simp
              with_reducible rfl
            rotate_left
            · simp only [ap_]
              rfl
            refine pure_ (i := 8) (N := some 127) (v := ?_) (a' := ?_) #[true, true, true, true, true, false, true, true, true, false, false, false, false, false, false, false, false, false] rfl rfl (any_of HT_.out (by kernel_rfl)) (fun _ _ _ h => h) (Or.inl ⟨by rfl, ?_⟩) ?_ ?_
            rotate_left
            · intro w'
              go_simp
              with_reducible rfl
            rotate_left
            · simp only [ap_]
              rfl
            refine pure_ (i := 9) (N := some 128) (v := ?_) (a' := ?_) #[true, true, true, true, true, false, true, true, true, true, false, false, false, false, false, false, false, false] rfl rfl (any_of HT_.out (by kernel_rfl)) (fun _ _ _ h => h) (Or.inl ⟨by rfl, ?_⟩) ?_ ?_
            rotate_left
            · intro w'
              go_simp
              with_reducible rfl
            rotate_left
            · simp only [ap_]
              rfl
            refine take_ (i := 5) (N := some 124) (v := .int .u64 (gi.v : Int)) (a' := ?_) #[true, true, true, true, true, true, true, true, true, true, false, false, false, false, false, false, false, false] rfl rfl (take_of HT_.out (by kernel_rfl)) (fun _ _ _ h => h) (Or.inl ⟨by rfl, ?_⟩) hHeld ?_ ?_
            · rintro w' s1
              obtain ⟨c0, c1, c2, c3, c4, c5, c6, c7, c8, c9, c10⟩ := s1
              go_simp
            rotate_left
            · simp only [ap_]
              rfl
            refine take_ (i := 10) (N := some 129) (v := .int .i64 (gi.c : Int)) (a' := ?_) #[true, true, true, true, true, true, true, true, true, true, true, false, false, false, false, false, false, false] rfl rfl (take_of HT_.out (by kernel_rfl)) (fun _ _ _ h => h) (Or.inl ⟨by rfl, ?_⟩) hHeld ?_ ?_
            · rintro w' s1
              obtain ⟨c0, c1, c2, c3, c4, c5, c6, c7, c8, c9, c10⟩ := s1
              go_simp
            rotate_left
            · simp only [ap_]
              rfl
            refine two_ (i := 11) (j := 15) (Ni := some 130) (Nj := some 17) #[true, true, true, true, true, true, true, true, true, true, true, true, false, false, false, false, false, false] #[true, true, true, true, true, true, true, true, true, true, true, false, false, false, false, true, false, false] rfl rfl rfl rfl (two_of HT_.out (by kernel_rfl)) (by decide) (by decide) (fun K hK => ?_) (fun K hK => ?_)
            focus
              refine goes_ Tryz.func18 (by kernel_rfl) rfl #[.pointer (some ⟨pt2, 0, none⟩), .int .u64 (gi.v : Int), .int .i64 (gi.c : Int)] (by rfl) rfl rfl (by (try simp only [List.map_toArray, List.map_cons, List.map_nil]); first | done | rfl) ?_
              refine (o_findE HTC.out (tq_of HM.out HD2.out HR2.out HO2.out) gi.v HKI.out.hv gi.c).mono ?_
              rintro x0 wn ⟨hx0, hg⟩
              rw [HFI.out] at hx0
              obtain rfl : x0 = .returned (.tuple #[.agg (geA gi), .bool true]) := hx0
              replace HM := Aside0.mk (HM.out.same hg)
              replace HR2 := Aside0.mk (blk_grown HR2.out hg)
              replace HF := Aside0.mk (HF.out.same hg)
              replace HB := Aside0.mk (blk_grown HB.out hg)
              replace HV := Aside0.mk (Kd.R_grown HV.out hg (by simp))
              have hs : GEAt wn (ad.add (i * 11)) gi := hHeld.grown hg
              clear hg
              refine ⟨_, rfl, ?_⟩
              refine hK.out _ _ hs (fun hHeld => ?_)
              clear hK K
              refine norm_ (a' := ?_) ?_ ?_
              rotate_left
              · show Act.put _ (some 130) _ = _
                simp only [ap_]
                rfl
              refine pure_ (i := 12) (N := some 118) (v := ?_) (a' := ?_) #[true, true, true, true, true, true, true, true, true, true, true, true, true, false, false, false, false, false] rfl rfl (any_of HT_.out (by kernel_rfl)) (fun _ _ _ h => h) (Or.inl ⟨by rfl, ?_⟩) ?_ ?_
              rotate_left
              · intro w'
                go_simp
                with_reducible rfl
              rotate_left
              · simp only [ap_]
                rfl
              refine pure_ (i := 13) (N := some 131) (v := ?_) (a' := ?_) #[true, true, true, true, true, true, true, true, true, true, true, true, true, true, false, false, false, false] rfl rfl (any_of HT_.out (by kernel_rfl)) (fun _ _ _ h => h) (Or.inl ⟨by rfl, ?_⟩) ?_ ?_
              rotate_left
              · intro w'
                go_simp
                with_reducible rfl
              rotate_left
              · simp only [ap_]
                rfl
              refine pure_ (i := 14) (N := some 132) (v := ?_) (a' := ?_) #[true, true, true, true, true, true, true, true, true, true, true, true, true, true, true, false, false, false] rfl rfl (any_of HT_.out (by kernel_rfl)) (fun _ _ _ h => h) (Or.inl ⟨by rfl, ?_⟩) ?_ ?_
              rotate_left
              · intro w'
                go_simp
                with_reducible rfl
              rotate_left
              · simp only [ap_]
                rfl
              refine one_ (i := 15) (N := some 17) #[true, true, true, true, true, true, true, true, true, true, true, true, true, true, true, true, false, false] rfl rfl (one_of HT_.out (by kernel_rfl)) (by decide) (fun K hK => ?_)
              refine box_step ?hg (N := 17) ?hd (cs := #[.int .i64 0, .int .i64 0, .int .u64 0, .int .u64 0, .bool false, .bool false, .bool false, .bool false, .bool false, .bool false, .bool false]) (t := 41) ?hr ?_; (case hd => rfl); (case hg => rfl); (case hr => first | (go_simp; done) | (go_simp; rfl))
              intro h17 hg17 wn hbox hb
              have HB17 := Aside0.mk hbox
              have HN17 := Aside0.mk (show wb.heap.size ≤ h17 from by rw [hg17]; exact HM.out.hB)
              replace HV := Aside0.mk (Kd.R_elderB HV.out h17 (Nat.le_of_eq hg17.symm))
              have hg := below_grown hb
              replace HM := Aside0.mk (HM.out.same hg)
              replace HR2 := Aside0.mk (blk_grown HR2.out hg)
              replace HF := Aside0.mk (HF.out.same hg)
              replace HB := Aside0.mk (blk_grown HB.out hg)
              replace HV := Aside0.mk (Kd.R_grown HV.out hg (by simp))
              have hs : GEAt wn (ad.add (i * 11)) gi := hHeld.grown hg
              clear hg hg17 hbox hb
              refine hK.out _ _ hs (fun hHeld => ?_)
              clear hK K
              refine norm_ (a' := ?_) ?_ ?_
              rotate_left
              · show Act.put _ (some 17) _ = _
                simp only [ap_]
                rfl
              refine one_ (i := 16) (N := none) #[true, true, true, true, true, true, true, true, true, true, true, true, true, true, true, true, true, false] rfl rfl (one_of HT_.out (by kernel_rfl)) (by decide) (fun K hK => ?_)
              rw [if_pos (by rfl)]
              refine wp_store_row 41 (.tmp 17) (.tmp 131) rfl h17 (geA gi) rfl rfl 41 #[.int .i64 0, .int .i64 0, .int .u64 0, .int .u64 0, .bool false, .bool false, .bool false, .bool false, .bool false, .bool false, .bool false] HB17.out (by kernel_rfl) rfl (by kernel_rfl) ?_
              have hb2 := setRow_heap wn h17 _ (geA gi) _ _ HB17.out
              have hgr := grown_row wn h17 (geA gi)
              replace HM := Aside0.mk (HM.out.keptB hgr HB17.out (by decide) HN17.out)
              replace HR2 := Aside0.mk (blk_keptB HR2.out hgr HB17.out (by decide))
              replace HF := Aside0.mk (Fs.keptB HF.out hgr HB17.out (by decide) (by decide) HN17.out)
              replace HB := Aside0.mk (blk_keptB HB.out hgr HB17.out (by decide))
              replace HV := Aside0.mk (Kd.R_mono (ok' := fun _ => True) (Kd.R_grown HV.out hgr (fun k hk e => hk.2 (Option.some.inj e))) (fun _ _ => trivial))
              have hs : GEAt (World.setRow wn h17 (geA gi)) (ad.add (i * 11)) gi := by
                obtain ⟨ad3, hA3, hg3⟩ := own_ge HV.out HXK.out i hix
                obtain rfl : ad = ad3 := Option.some.inj hA3
                rw [HXI.out] at hg3
                exact hg3
              generalize World.setRow wn h17 (geA gi) = wc at hb2 hs HM HR2 HF HB HV ⊢
              replace HB17 := Aside0.mk hb2
              clear hgr hb2
              refine hK.out _ _ hs (fun hHeld => ?_)
              clear hK K
              refine norm_ (a' := ?_) ?_ ?_
              rotate_left
              · show Act.put _ none _ = _
                rfl
              refine pure_ (i := 17) (N := some 18) (v := ?_) (a' := ?_) #[true, true, true, true, true, true, true, true, true, true, true, true, true, true, true, true, true, true] rfl rfl (any_of HT_.out (by kernel_rfl)) (fun _ _ _ h => h) (Or.inl ⟨by rfl, ?_⟩) ?_ ?_
              rotate_left
              · intro w'
                go_simp
                with_reducible rfl
              rotate_left
              · simp only [ap_]
                rfl
              refine done_ (done_of HT_.out (by kernel_rfl)) ?_
            rotate_left
            focus
              refine box_step ?hg (N := 17) ?hd (cs := #[.int .i64 0, .int .i64 0, .int .u64 0, .int .u64 0, .bool false, .bool false, .bool false, .bool false, .bool false, .bool false, .bool false]) (t := 41) ?hr ?_; (case hd => rfl); (case hg => rfl); (case hr => first | (go_simp; done) | (go_simp; rfl))
              intro h17 hg17 wn hbox hb
              have HB17 := Aside0.mk hbox
              have HN17 := Aside0.mk (show wb.heap.size ≤ h17 from by rw [hg17]; exact HM.out.hB)
              replace HV := Aside0.mk (Kd.R_elderB HV.out h17 (Nat.le_of_eq hg17.symm))
              have hg := below_grown hb
              replace HM := Aside0.mk (HM.out.same hg)
              replace HR2 := Aside0.mk (blk_grown HR2.out hg)
              replace HF := Aside0.mk (HF.out.same hg)
              replace HB := Aside0.mk (blk_grown HB.out hg)
              replace HV := Aside0.mk (Kd.R_grown HV.out hg (by simp))
              have hs : GEAt wn (ad.add (i * 11)) gi := hHeld.grown hg
              clear hg hg17 hbox hb
              refine hK.out _ _ hs (fun hHeld => ?_)
              clear hK K
              refine norm_ (a' := ?_) ?_ ?_
              rotate_left
              · show Act.put _ (some 17) _ = _
                simp only [ap_]
                rfl
              refine one_ (i := 11) (N := some 130) #[true, true, true, true, true, true, true, true, true, true, true, true, false, false, false, true, false, false] rfl rfl (one_of HT_.out (by kernel_rfl)) (by decide) (fun K hK => ?_)
              refine goes_ Tryz.func18 (by kernel_rfl) rfl #[.pointer (some ⟨pt2, 0, none⟩), .int .u64 (gi.v : Int), .int .i64 (gi.c : Int)] (by rfl) rfl rfl (by (try simp only [List.map_toArray, List.map_cons, List.map_nil]); first | done | rfl) ?_
              refine (o_findE HTC.out (tq_of HM.out HD2.out HR2.out HO2.out) gi.v HKI.out.hv gi.c).mono ?_
              rintro x0 wn ⟨hx0, hg⟩
              rw [HFI.out] at hx0
              obtain rfl : x0 = .returned (.tuple #[.agg (geA gi), .bool true]) := hx0
              replace HM := Aside0.mk (HM.out.same hg)
              replace HR2 := Aside0.mk (blk_grown HR2.out hg)
              replace HF := Aside0.mk (HF.out.same hg)
              replace HB := Aside0.mk (blk_grown HB.out hg)
              replace HV := Aside0.mk (Kd.R_grown HV.out hg (by simp))
              have hs : GEAt wn (ad.add (i * 11)) gi := hHeld.grown hg
              replace HB17 := Aside0.mk (blk_grown HB17.out hg)
              clear hg
              refine ⟨_, rfl, ?_⟩
              refine hK.out _ _ hs (fun hHeld => ?_)
              clear hK K
              refine norm_ (a' := ?_) ?_ ?_
              rotate_left
              · show Act.put _ (some 130) _ = _
                simp only [ap_]
                rfl
              refine pure_ (i := 12) (N := some 118) (v := ?_) (a' := ?_) #[true, true, true, true, true, true, true, true, true, true, true, true, true, false, false, true, false, false] rfl rfl (any_of HT_.out (by kernel_rfl)) (fun _ _ _ h => h) (Or.inl ⟨by rfl, ?_⟩) ?_ ?_
              rotate_left
              · intro w'
                go_simp
                with_reducible rfl
              rotate_left
              · simp only [ap_]
                rfl
              refine pure_ (i := 13) (N := some 131) (v := ?_) (a' := ?_) #[true, true, true, true, true, true, true, true, true, true, true, true, true, true, false, true, false, false] rfl rfl (any_of HT_.out (by kernel_rfl)) (fun _ _ _ h => h) (Or.inl ⟨by rfl, ?_⟩) ?_ ?_
              rotate_left
              · intro w'
                go_simp
                with_reducible rfl
              rotate_left
              · simp only [ap_]
                rfl
              refine pure_ (i := 14) (N := some 132) (v := ?_) (a' := ?_) #[true, true, true, true, true, true, true, true, true, true, true, true, true, true, true, true, false, false] rfl rfl (any_of HT_.out (by kernel_rfl)) (fun _ _ _ h => h) (Or.inl ⟨by rfl, ?_⟩) ?_ ?_
              rotate_left
              · intro w'
                go_simp
                with_reducible rfl
              rotate_left
              · simp only [ap_]
                rfl
              refine one_ (i := 16) (N := none) #[true, true, true, true, true, true, true, true, true, true, true, true, true, true, true, true, true, false] rfl rfl (one_of HT_.out (by kernel_rfl)) (by decide) (fun K hK => ?_)
              rw [if_pos (by rfl)]
              refine wp_store_row 41 (.tmp 17) (.tmp 131) rfl h17 (geA gi) rfl rfl 41 #[.int .i64 0, .int .i64 0, .int .u64 0, .int .u64 0, .bool false, .bool false, .bool false, .bool false, .bool false, .bool false, .bool false] HB17.out (by kernel_rfl) rfl (by kernel_rfl) ?_
              have hb2 := setRow_heap wn h17 _ (geA gi) _ _ HB17.out
              have hgr := grown_row wn h17 (geA gi)
              replace HM := Aside0.mk (HM.out.keptB hgr HB17.out (by decide) HN17.out)
              replace HR2 := Aside0.mk (blk_keptB HR2.out hgr HB17.out (by decide))
              replace HF := Aside0.mk (Fs.keptB HF.out hgr HB17.out (by decide) (by decide) HN17.out)
              replace HB := Aside0.mk (blk_keptB HB.out hgr HB17.out (by decide))
              replace HV := Aside0.mk (Kd.R_mono (ok' := fun _ => True) (Kd.R_grown HV.out hgr (fun k hk e => hk.2 (Option.some.inj e))) (fun _ _ => trivial))
              have hs : GEAt (World.setRow wn h17 (geA gi)) (ad.add (i * 11)) gi := by
                obtain ⟨ad3, hA3, hg3⟩ := own_ge HV.out HXK.out i hix
                obtain rfl : ad = ad3 := Option.some.inj hA3
                rw [HXI.out] at hg3
                exact hg3
              generalize World.setRow wn h17 (geA gi) = wc at hb2 hs HM HR2 HF HB HV ⊢
              replace HB17 := Aside0.mk hb2
              clear hgr hb2
              refine hK.out _ _ hs (fun hHeld => ?_)
              clear hK K
              refine norm_ (a' := ?_) ?_ ?_
              rotate_left
              · show Act.put _ none _ = _
                rfl
              refine pure_ (i := 17) (N := some 18) (v := ?_) (a' := ?_) #[true, true, true, true, true, true, true, true, true, true, true, true, true, true, true, true, true, true] rfl rfl (any_of HT_.out (by kernel_rfl)) (fun _ _ _ h => h) (Or.inl ⟨by rfl, ?_⟩) ?_ ?_
              rotate_left
              · intro w'
                go_simp
                with_reducible rfl
              rotate_left
              · simp only [ap_]
                rfl
              refine done_ (done_of HT_.out (by kernel_rfl)) ?_
            all_goals
              replace HEI := Aside0.mk hHeld
              clear hHeld
              go_upto_region 22 with fail
              have hg := grown_drew wc none
              replace HEI := Aside0.mk (HEI.out.grown hg)
              replace HB17 := Aside0.mk (blk_grown HB17.out hg)
              replace HM := Aside0.mk (HM.out.same hg)
              replace HR2 := Aside0.mk (blk_grown HR2.out hg)
              replace HF := Aside0.mk (HF.out.same hg)
              replace HB := Aside0.mk (blk_grown HB.out hg)
              replace HV := Aside0.mk (Kd.R_grown HV.out hg (by simp))
              clear hg
              refine start_ (n := 10) (S := fun w' => GEAt w' (ad.add (i * 11)) gi ∧ w'.heap[h17]? = some (.cells (geA gi) 41 (0, 0))) (ds := []) #[false, false, false, false, false, false, false, false, false, false] (by kernel_rfl) rfl rfl ⟨HEI.out, HB17.out⟩ (fun hHeld => ?_)
              refine with_tab skeeps22_tab (fun HT_ => ?_)
              refine pure_ (i := 1) (N := some 134) (v := ?_) (a' := ?_) #[false, true, false, false, false, false, false, false, false, false] rfl rfl (any_of HT_.out (by kernel_rfl)) (fun _ _ _ h => h) (Or.inl ⟨by rfl, ?_⟩) ?_ ?_
              rotate_left
              · intro w'
                go_simp
                with_reducible rfl
              rotate_left
              · simp only [ap_]
                rfl
              refine pure_ (i := 2) (N := some 135) (v := ?_) (a' := ?_) #[false, true, true, false, false, false, false, false, false, false] rfl rfl (any_of HT_.out (by kernel_rfl)) (fun _ _ _ h => h) (Or.inl ⟨by rfl, ?_⟩) ?_ ?_
              rotate_left
              · intro w'
                go_simp
                with_reducible rfl
              rotate_left
              · simp only [ap_]
                rfl
              refine pure_ (i := 3) (N := some 136) (v := ?_) (a' := ?_) #[false, true, true, true, false, false, false, false, false, false] rfl rfl (any_of HT_.out (by kernel_rfl)) (fun _ _ _ h => h) (Or.inl ⟨by rfl, ?_⟩) ?_ ?_
              rotate_left
              · intro w'
                go_simp
                with_reducible rfl
              rotate_left
              · simp only [ap_]
                rfl
              refine take_ (i := 0) (N := some 133) (v := .agg (geA gi)) (a' := ?_) #[true, true, true, true, false, false, false, false, false, false] rfl rfl (take_of HT_.out (by kernel_rfl)) (fun _ _ _ h => h) (Or.inl ⟨by rfl, ?_⟩) hHeld ?_ ?_
              · rintro w' ⟨s1, s2⟩
                obtain ⟨z0, z1, z2, z3, z4, z5, z6, z7, z8, z9, z10⟩ := tte_Read.cz11 s2
                go_simp
              rotate_left
              · simp only [ap_]
                rfl
              refine take_ (i := 4) (N := some 137) (v := .agg (geA gi)) (a' := ?_) #[true, true, true, true, true, false, false, false, false, false] rfl rfl (take_of HT_.out (by kernel_rfl)) (fun _ _ _ h => h) (Or.inl ⟨by rfl, ?_⟩) hHeld ?_ ?_
              · rintro w' ⟨s1, s2⟩
                obtain ⟨c0, c1, c2, c3, c4, c5, c6, c7, c8, c9, c10⟩ := s1
                go_simp
              rotate_left
              · simp only [ap_]
                rfl
              refine pure_ (i := 5) (N := some 138) (v := ?_) (a' := ?_) #[true, true, true, true, true, true, false, false, false, false] rfl rfl (any_of HT_.out (by kernel_rfl)) (fun _ _ _ h => h) (Or.inl ⟨by rfl, ?_⟩) ?_ ?_
              rotate_left
              · intro w'
                go_simp
                with_reducible rfl
              rotate_left
              · simp only [ap_]
                rfl
              refine pure_ (i := 6) (N := some 139) (v := ?_) (a' := ?_) #[true, true, true, true, true, true, true, false, false, false] rfl rfl (any_of HT_.out (by kernel_rfl)) (fun _ _ _ h => h) (Or.inl ⟨by rfl, ?_⟩) ?_ ?_
              rotate_left
              · intro w'
                go_simp
                with_reducible rfl
              rotate_left
              · simp only [ap_]
                rfl
              refine pure_ (i := 7) (N := some 140) (v := ?_) (a' := ?_) #[true, true, true, true, true, true, true, true, false, false] rfl rfl (any_of HT_.out (by kernel_rfl)) (fun _ _ _ h => h) (Or.inl ⟨by rfl, ?_⟩) ?_ ?_
              rotate_left
              · intro w'
                go_simp
                with_reducible rfl
              rotate_left
              · simp only [ap_]
                rfl
              refine pure_ (i := 8) (N := some 141) (v := ?_) (a' := ?_) #[true, true, true, true, true, true, true, true, true, false] rfl rfl (any_of HT_.out (by kernel_rfl)) (fun _ _ _ h => h) (Or.inl ⟨by rfl, ?_⟩) ?_ ?_
              rotate_left
              · intro w'
                go_simp
                with_reducible rfl
              rotate_left
              · simp only [ap_]
                rfl
              refine pure_ (i := 9) (N := some 142) (v := ?_) (a' := ?_) #[true, true, true, true, true, true, true, true, true, true] rfl rfl (any_of HT_.out (by kernel_rfl)) (fun _ _ _ h => h) (Or.inl ⟨by rfl, ?_⟩) ?_ ?_
              rotate_left
              · intro w'
                go_simp
                with_reducible rfl
              rotate_left
              · simp only [ap_]
                rfl
              refine done_ (done_of HT_.out (by kernel_rfl)) ?_
              have hxl := HXL.out
              go_wp2_with fail
              go_roundw
              case rel => exact ⟨i + 1, by go_num, by omega, HM, HR2, HF, HB, HV⟩
              case measure => simp [intOf]; omega
          · obtain rfl : i = xs.length := by omega
            clear hix hi HFD HXK
            go_upto_region 24 with fail
            have hg := grown_drew wr none
            replace HM := Aside0.mk (HM.out.same hg)
            replace HR2 := Aside0.mk (blk_grown HR2.out hg)
            replace HF := Aside0.mk (HF.out.same hg)
            replace HB := Aside0.mk (blk_grown HB.out hg)
            replace HV := Aside0.mk (Kd.R_grown HV.out hg (by simp))
            clear hg
            refine start_ (n := 12) (S := fun w' => w'.heap[h]? = some (.cells #[.pointer (some ⟨pm, 0, none⟩), .pointer (some ⟨pf, 0, none⟩), .slice (some ⟨lb, 0, none⟩) 1 cap, .int .i64 ((20 : Nat) : Int), v3, .slice (some ⟨sb, 0, none⟩) 1 cap5] 35 (0, 0))) (ds := []) #[false, false, false, false, false, false, false, false, false, false, false, false] (by kernel_rfl) rfl rfl HB.out (fun hHeld => ?_)
            refine with_tab skeeps24_tab (fun HT_ => ?_)
            refine pure_ (i := 0) (N := some 143) (v := ?_) (a' := ?_) #[true, false, false, false, false, false, false, false, false, false, false, false] rfl rfl (any_of HT_.out (by kernel_rfl)) (fun _ _ _ h => h) (Or.inl ⟨by rfl, ?_⟩) ?_ ?_
            rotate_left
            · intro w'
              go_simp
              with_reducible rfl
            rotate_left
            · simp only [ap_]
              rfl
            refine pure_ (i := 1) (N := some 144) (v := ?_) (a' := ?_) #[true, true, false, false, false, false, false, false, false, false, false, false] rfl rfl (any_of HT_.out (by kernel_rfl)) (fun _ _ _ h => h) (Or.inl ⟨by rfl, ?_⟩) ?_ ?_
            rotate_left
            · intro w'
              go_simp
              with_reducible rfl
            rotate_left
            · simp only [ap_]
              rfl
            refine pure_ (i := 2) (N := some 145) (v := ?_) (a' := ?_) #[true, true, true, false, false, false, false, false, false, false, false, false] rfl rfl (any_of HT_.out (by kernel_rfl)) (fun _ _ _ h => h) (Or.inl ⟨by rfl, ?_⟩) ?_ ?_
            rotate_left
            · intro w'
              go_simp
              with_reducible rfl
            rotate_left
            · simp only [ap_]
              rfl
            refine pure_ (i := 4) (N := some 147) (v := ?_) (a' := ?_) #[true, true, true, false, true, false, false, false, false, false, false, false] rfl rfl (any_of HT_.out (by kernel_rfl)) (fun _ _ _ h => h) (Or.inl ⟨by rfl, ?_⟩) ?_ ?_
            rotate_left
            · intro w'
              go_simp
              with_reducible rfl
            rotate_left
            · simp only [ap_]
              rfl
            refine pure_ (i := 5) (N := some 148) (v := ?_) (a' := ?_) #[true, true, true, false, true, true, false, false, false, false, false, false] rfl rfl (any_of HT_.out (by kernel_rfl)) (fun _ _ _ h => h) (Or.inl ⟨by rfl, ?_⟩) ?_ ?_
            rotate_left
            · intro w'
              go_simp
              with_reducible rfl
            rotate_left
            · simp only [ap_]
              rfl
            refine pure_ (i := 6) (N := some 149) (v := ?_) (a' := ?_) #[true, true, true, false, true, true, true, false, false, false, false, false] rfl rfl (any_of HT_.out (by kernel_rfl)) (fun _ _ _ h => h) (Or.inl ⟨by rfl, ?_⟩) ?_ ?_
            rotate_left
            · intro w'
              go_simp
              with_reducible rfl
            rotate_left
            · simp only [ap_]
              rfl
            refine pure_ (i := 8) (N := some 151) (v := ?_) (a' := ?_) #[true, true, true, false, true, true, true, false, true, false, false, false] rfl rfl (any_of HT_.out (by kernel_rfl)) (fun _ _ _ h => h) (Or.inl ⟨by rfl, ?_⟩) ?_ ?_
            rotate_left
            · intro w'
              go_simp
              with_reducible rfl
            rotate_left
            · simp only [ap_]
              rfl
            refine pure_ (i := 9) (N := some 152) (v := ?_) (a' := ?_) #[true, true, true, false, true, true, true, false, true, true, false, false] rfl rfl (any_of HT_.out (by kernel_rfl)) (fun _ _ _ h => h) (Or.inl ⟨by rfl, ?_⟩) ?_ ?_
            rotate_left
            · intro w'
              go_simp
              with_reducible rfl
            rotate_left
            · simp only [ap_]
              rfl
            refine take_ (i := 3) (N := some 146) (v := .pointer (some ⟨pm, 0, none⟩)) (a' := ?_) #[true, true, true, true, true, true, true, false, true, true, false, false] rfl rfl (take_of HT_.out (by kernel_rfl)) (fun _ _ _ h => h) (Or.inl ⟨by rfl, ?_⟩) hHeld ?_ ?_
            · rintro w' s1
              obtain ⟨q0, q1, q2, q3, q4, q5⟩ := cz6 s1
              go_simp
            rotate_left
            · simp only [ap_]
              rfl
            refine take_ (i := 7) (N := some 150) (v := .pointer (some ⟨pf, 0, none⟩)) (a' := ?_) #[true, true, true, true, true, true, true, true, true, true, false, false] rfl rfl (take_of HT_.out (by kernel_rfl)) (fun _ _ _ h => h) (Or.inl ⟨by rfl, ?_⟩) hHeld ?_ ?_
            · rintro w' s1
              obtain ⟨q0, q1, q2, q3, q4, q5⟩ := cz6 s1
              go_simp
            rotate_left
            · simp only [ap_]
              rfl
            refine one_ (i := 10) (N := some 153) #[true, true, true, true, true, true, true, true, true, true, true, false] rfl rfl (one_of HT_.out (by kernel_rfl)) (by decide) (fun K hK => ?_)
            refine goes_ Tryz.func19 (by kernel_rfl) rfl #[.pointer (some ⟨pm, 0, none⟩), .pointer (some ⟨pf, 0, none⟩), .pointer (some ⟨pt2, 0, none⟩), .int .i64 (s : Int)] (by rfl) rfl rfl (by (try simp only [List.map_toArray, List.map_cons, List.map_nil]); first | done | rfl) ?_
            refine ((swdrop_both (a := fa) HM.out HF.out s g1 HSG.out.1 HSG.out.2.2.1 HR2.out (by rw [HEQ.out.2.2.2, setN_len, setN_len, setN_len]; have := HFS.out; simp; omega) (by rw [HEQ.out.2.2.2]; exact (frames2 (F := 20) HFS.out.1 HFS.out.2.2.1 (by have := HFS.out; omega)).2.2.1) (by have := HFS.out; omega) (by rw [HEQ.out.2.2.2]; have := HFS.out; omega) (by omega) HD2.out.good (by have h1 := HM.out.size_le; have := HN2.out; omega)).1).mono ?_
            rintro x0 wn ⟨rfl, hD3⟩
            rw [HEQ.out.2.2.2] at hD3
            obtain ⟨D3, hM3, hG3, hs3, hb3, hF3, hk3⟩ := hD3
            have HSZ := Aside0.mk (all_gone HD2.out HLO.out HFS.out.2.2.2.2 hM3 hG3 hb3)
            replace HB := Aside0.mk (blk_fm HB.out (by decide) (by decide) HM.out HF.out hk3)
            replace HM := Aside0.mk hM3
            replace HF := Aside0.mk hF3
            have HCN := Aside0.mk (frames2 (F := 20) HFS.out.1 HFS.out.2.2.1 (by have := HFS.out; omega)).2.2.2
            have hs : wn.heap[h]? = some (.cells #[.pointer (some ⟨pm, 0, none⟩), .pointer (some ⟨pf, 0, none⟩), .slice (some ⟨lb, 0, none⟩) 1 cap, .int .i64 ((20 : Nat) : Int), v3, .slice (some ⟨sb, 0, none⟩) 1 cap5] 35 (0, 0)) := HB.out
            clear hM3 hG3 hs3 hb3 hF3 hk3 HV HR2
            refine ⟨_, rfl, ?_⟩
            refine hK.out _ _ hs (fun hHeld => ?_)
            clear hK K
            refine norm_ (a' := ?_) ?_ ?_
            rotate_left
            · show Act.put _ (some 153) _ = _
              simp only [ap_]
              rfl
            refine pure_ (i := 11) (N := some 19) (v := ?_) (a' := ?_) #[true, true, true, true, true, true, true, true, true, true, true, true] rfl rfl (any_of HT_.out (by kernel_rfl)) (fun _ _ _ h => h) (Or.inl ⟨by rfl, ?_⟩) ?_ ?_
            rotate_left
            · intro w'
              go_simp
              with_reducible rfl
            rotate_left
            · simp only [ap_]
              rfl
            refine done_ (done_of HT_.out (by kernel_rfl)) ?_
            clear hHeld
            obtain ⟨q0, q1, q2, q3, q4, q5⟩ := cz6 HB.out
            go_wp2_with fail
            refine (fs_free HF.out 20 HCN.out).mono ?_
            rintro xq w13 ⟨rfl, hF, hg⟩
            replace HM := Aside0.mk (HM.out.same hg)
            replace HB := Aside0.mk (blk_grown HB.out hg)
            clear hF hg HF q0 q1 q2 q3 q4 q5
            obtain ⟨q0, q1, q2, q3, q4, q5⟩ := cz6 HB.out
            go_wp2_with fail
            refine (used_calls HM.out).mono ?_
            rintro xq w14 ⟨rfl, rfl⟩
            rw [HSZ.out]
            go_wp2_with fail
            refine (lives13 _).mono ?_
            rintro xq w15 ⟨rfl, hg⟩
            have HGW := Aside0.mk (grown_two HG4.out (below_grown (HM.out.same hg).below))
            clear hg
            go_wp2_with fail
            go_ret
            exact ⟨rfl, below_og HGW.out⟩
end
end Go.Proofs.YtjnffegjpkbjmaaGreat.Mem
