/- runs' iterator, as a contract of a range over a function. -/
import Derived.RangeFuncNested
import Derived.RangeFuncBound
import Derived.RangeFuncCalls
import Derived.RangeFuncLeaves
import Derived.Shelf.Abstract
import Derived.Shelf.RegionOpen
import Derived.WalkKit
import Derived.OwnWalkIn
import Derived.TacticsInMore
import Derived.LoopNIn
import Derived.LoopIn
import Derived.Test.YtjnffegjpkbjmaaGreatFrRng
namespace Go.Proofs.YtjnffegjpkbjmaaGreat.QFramesPlays
open Go.Proofs.YtjnffegjpkbjmaaGreat.QTsbPlays
open Go.RowKit Go.Shelf Go.Proofs.YtjnffegjpkbjmaaGreatW.PrintWords Go.Proofs.YtjnffegjpkbjmaaGreatW.PrintLast Go.Proofs.YtjnffegjpkbjmaaGreatW.PrintMore
attribute [local go_sem] Oper.semAt_some
set_option linter.unusedSimpArgs false
set_option linter.unusedVariables false
section
set_option maxHeartbeats 1000000
set_option maxRecDepth 100000
noncomputable def runs3_T : Bool × List (List Nat × List Nat) := rtab .any (opsOf Tryz.f114 3)
theorem runs3_tab : rtab .any (opsOf Tryz.f114 3) = runs3_T := rfl
theorem grown_drew (W : World) (row : Option Nat) : W.grownBy W.drew row := ⟨rfl, rfl, rfl, Nat.le_refl _, fun _ _ _ => rfl⟩
theorem cell_lt {w : World} {a : Addr} {v : Value} (h : w.cell? a = some v) : a.block < w.heap.size := by
  unfold World.cell? at h
  split at h
  · rename_i hb
    exact blk_lt hb
  · cases h
theorem YieldAt.mono {F : Fence} {m : Nat} {P : Program} {l : Nat} {args : Array Value} {W : World} {R R' : Ending → World → Prop} (h : YieldAt F m P l args W R) (hr : ∀ e w', R e w' → R' e w') : YieldAt F m P l args W R' := by
  obtain ⟨fn, tmps, assign, body, hy, hR⟩ := h
  exact ⟨fn, tmps, assign, body, hy, hR.mono hr⟩
/-- The first free run. -/
def First (ts : List Bool) (n each x : Nat) : Prop := ∃ j, x = j * each ∧ x + n ≤ ts.length ∧ FreeIn ts x n ∧ ∀ j', j' < j → ¬ FreeIn ts (j' * each) n
/-- Where a run is wholly there. -/
abbrev Run (ts : List Bool) (n : Nat) := { x : Nat // x + n ≤ ts.length }
def SDone (ts : List Bool) (n each : Nat) (xs : List (Run ts n)) : Prop := xs = [] → ∀ j, j * each + n ≤ ts.length → ¬ FreeIn ts (j * each) n
def SStop (ts : List Bool) (n each : Nat) (xs : List (Run ts n)) : Prop := ∀ x rest, xs = x :: rest → First ts n each x.1
/-- What has come ahead of the multiple j. -/
def Came (ts : List Bool) (n each j : Nat) (pre : List (Run ts n)) : Prop := pre.length ≤ j ∧ (pre = [] → ∀ j', j' < j → ¬ FreeIn ts (j' * each) n) ∧ SStop ts n each pre
theorem Came.no {ts n each j pre} (h : Came ts n each j pre) (hf : ¬ FreeIn ts (j * each) n) : Came ts n each (j + 1) pre := ⟨Nat.le_succ_of_le h.1, fun e j' hj' => by
  by_cases c : j' < j
  · exact h.2.1 e j' c
  · obtain rfl : j' = j := by omega
    exact hf, h.2.2⟩
theorem Came.yes {ts n each j i pre} (h : Came ts n each j pre) (hi : i = j * each) (hl : i + n ≤ ts.length) (hf : FreeIn ts i n) : Came ts n each (j + 1) (pre ++ [⟨i, hl⟩]) := ⟨by have := h.1; simp; omega, fun e => by simp at e, fun x rest e => by
  cases pre with
  | nil =>
    obtain ⟨rfl, _⟩ : (⟨i, hl⟩ : Run ts n) = x ∧ [] = rest := by simpa using e
    exact ⟨j, hi, hl, hf, h.2.1 rfl⟩
  | cons y l =>
    obtain ⟨rfl, _⟩ : y = x ∧ _ := by simpa using e
    exact h.2.2 _ _ rfl⟩
theorem Came.done {ts n each j pre} (h : Came ts n each j pre) (hl : ¬ j * each + n ≤ ts.length) : SDone ts n each pre := fun e j' hj' => h.2.1 e j' (by
  by_cases c : j' < j
  · exact c
  · exfalso
    have : j * each ≤ j' * each := Nat.mul_le_mul_right _ (by omega)
    omega)
theorem Fr.later {B w0 p r ts free W W' m} (h : Fr B w0 p r ts free W) (hm : p < m) (hb : Below m W W') : Fr B w0 p r ts free W' := by
  have hrp := h.rp
  exact ⟨h.below.trans (hb.mono (Nat.le_trans h.hr (Nat.le_of_lt (Nat.lt_trans hrp hm)))), h.hr, h.hp, (hb.block p hm).trans h.row, (hb.block r (Nat.lt_trans hrp hm)).trans h.bits, h.len⟩
theorem below_more {W W1 W2 : World} {m : Nat} (h : Below m W W1) (hg : W1.grownBy W2 none) (hm : m ≤ W.heap.size) : Below m W W2 := h.grown hg (Nat.le_trans hm h.size) (fun _ e => by cases e)
theorem runs_stops {B w0 p r ts free w} (h : Fr B w0 p r ts free w) (b1 b2 b3 n each : Nat) (hn : 1 ≤ n) (he : 1 ≤ each) (he2 : each ≤ 70000) (k1 : w.cell? ⟨b1, 0, none⟩ = some (.pointer (some ⟨p, 0, none⟩))) (k2 : w.cell? ⟨b2, 0, none⟩ = some (.int .i64 n)) (k3 : w.cell? ⟨b3, 0, none⟩ = some (.int .i64 each)) :
    SeqStopsK Fence.wide 3 Tryz.prog 114 #[.pointer (some ⟨b1, 0, none⟩), .pointer (some ⟨b2, 0, none⟩), .pointer (some ⟨b3, 0, none⟩)] (fun x : Run ts n => #[.int .i64 (x.1 : Nat)]) (Below w.heap.size) (SDone ts n each) (SStop ts n each) 70000 w := by
  intro l J Jx W hW hJ hJx hY h0
  refine callsIn_of_wp Tryz.func114 rfl trivial ?_ rfl
  simp only [Tryz.ntmps114, List.size_toArray, List.length_cons, List.length_nil, Nat.reduceAdd, Nat.reduceSub, Array.replicate_succ, Array.replicate_zero, List.push_toArray, List.append_toArray, List.nil_append, List.cons_append]
  have hRg : ∀ {pre W1 W2}, J pre W1 → W1.grownBy W2 none → J pre W2 := fun hj hg => hJ _ _ _ none hj hg (fun _ e => by cases e)
  have HRG := Aside0.mk (@hRg)
  clear hRg
  have HY := Aside0.mk hY
  have hl := h.len
  have HP := Aside0.mk h.lt
  have HM := Aside0.mk (h.later h.lt hW)
  have HK := Aside0.mk hW
  have HC := Aside0.mk (And.intro k1 (And.intro k2 k3))
  have HJ0 := Aside0.mk h0
  clear h k1 k2 k3 hJ hJx hY h0 hW
  have kc : ∀ {a : Addr} {v : Value} {wr : World}, Below w.heap.size w wr → w.cell? a = some v → wr.cell? a = some v := fun {a v wr} hG hc => (hG.cell (cell_lt hc)).trans hc
  gi_wp2
  gi_loopw [5] (fun v5 wr => ∃ (j i : Nat) (pre : List (Run ts n)), v5 = .int .i64 i ∧ i ≤ ts.length + each ∧ Aside0 (i = j * each) ∧ Aside0 (Came ts n each j pre) ∧ Aside0 (Fr B w0 p r ts free wr) ∧ Aside0 (Below w.heap.size w wr) ∧ Aside0 (J pre wr)) (fun v5 _ => ts.length + each + 1 - (intOf v5).toNat)
  case atStart => exact ⟨0, 0, [], by simp, by omega, ⟨by simp⟩, ⟨by simp [Came, SStop]⟩, HM, HK, HJ0⟩
  case round =>
    clear HM HK HJ0
    obtain ⟨j, i, pre, rfl, hj, HJ, HN, HM, HG, HJ0⟩ := hrel
    have k1 := kc HG.out HC.out.1
    have k2 := kc HG.out HC.out.2.1
    have k3 := kc HG.out HC.out.2.2
    by_cases hin : i + n ≤ ts.length
    · have HI := Aside0.mk (show inOf ts (i : Int) n = true by unfold inOf; exact decide_eq_true ⟨by omega, by omega, by omega⟩)
      gi_wp2_with (refine ⟨trivial, ?_⟩; gi_at_call 79; refine (callsIn_wide.2 (fr_in_eq HM.out _ _ _ HI.out)).mono ?_; rintro e w1 ⟨rfl, hM, hg⟩; have HG1 := Aside0.mk (below_more HG.out hg (Nat.le_refl _)); have HJ1 := Aside0.mk (HRG.out HJ0.out hg); have HM1 := Aside0.mk hM; clear hM hg HM HG HJ0)
      have j1 := kc HG1.out HC.out.1
      have j2 := kc HG1.out HC.out.2.1
      have HM2 := Aside0.mk (HM1.out.same (grown_drew w1 _))
      have HG2 := Aside0.mk (below_more HG1.out (grown_drew w1 none) (Nat.le_refl _))
      have HJ2 := Aside0.mk (HRG.out HJ1.out (grown_drew w1 none))
      refine startW (m := 12) (S := fun w' => w'.cell? ⟨b1, 0, none⟩ = some (.pointer (some ⟨p, 0, none⟩)) ∧ w'.cell? ⟨b2, 0, none⟩ = some (.int .i64 n)) (ds := [9]) #[false, false, false, false, false, false, false, false, false, false, false, false] (by kernel_rfl) rfl rfl ⟨(World.cell?_of_block (w := w1) rfl).trans j1, (World.cell?_of_block (w := w1) rfl).trans j2⟩ (fun hHeld => ?_)
      refine withW runs3_tab (by kernel_rfl) (fun HT_ HD_ => ?_)
      refine takeW (i := 0) (N := some 13) (v := ?_) (a' := ?_) wd_wide HD_.out #[true, false, false, false, false, false, false, false, false, false, false, false] rfl rfl (take_of HT_.out (by kernel_rfl)) (fun _ _ _ h => h) (Or.inl ⟨by rfl, ?_⟩) hHeld ?_ ?_
      rotate_left
      · rintro w' ⟨s1, s2⟩
        go_simp
        with_reducible rfl
      rotate_left
      · simp only [ap_]
        rfl
      refine takeW (i := 2) (N := some 15) (v := ?_) (a' := ?_) wd_wide HD_.out #[true, false, true, false, false, false, false, false, false, false, false, false] rfl rfl (take_of HT_.out (by kernel_rfl)) (fun _ _ _ h => h) (Or.inl ⟨by rfl, ?_⟩) hHeld ?_ ?_
      rotate_left
      · rintro w' ⟨s1, s2⟩
        go_simp
        with_reducible rfl
      rotate_left
      · simp only [ap_]
        rfl
      refine takeW (i := 4) (N := some 17) (v := ?_) (a' := ?_) wd_wide HD_.out #[true, false, true, false, true, false, false, false, false, false, false, false] rfl rfl (take_of HT_.out (by kernel_rfl)) (fun _ _ _ h => h) (Or.inl ⟨by rfl, ?_⟩) hHeld ?_ ?_
      rotate_left
      · rintro w' ⟨s1, s2⟩
        go_simp
        with_reducible rfl
      rotate_left
      · simp only [ap_]
        rfl
      refine pureW (i := 1) (N := some 14) (v := ?_) (a' := ?_) wd_wide HD_.out #[true, true, true, false, true, false, false, false, false, false, false, false] rfl rfl (any_of HT_.out (by kernel_rfl)) (fun _ _ _ h => h) (Or.inl ⟨by rfl, ?_⟩) ?_ ?_
      rotate_left
      · intro w'
        go_simp
        with_reducible rfl
      rotate_left
      · simp only [ap_]
        rfl
      refine oneW (i := 3) (N := some 16) wd_wide #[true, true, true, true, true, false, false, false, false, false, false, false] rfl rfl (one_of HT_.out (by kernel_rfl)) (fun K hK => ?_)
      refine goesW wd_wide Tryz.func115 (by kernel_rfl) rfl #[.pointer (some ⟨p, 0, none⟩), .int .i64 i, .int .i64 n] (by rfl) rfl rfl (by (try simp only [List.map_toArray, List.map_cons, List.map_nil]); first | done | rfl) ?_
      refine (fr_open HM2.out i n (by omega) (by omega)).mono ?_
      rintro e w2 ⟨k, rfl, hk, hF, hS, hM, hg⟩
      have HG3 := Aside0.mk (below_more HG2.out hg (Nat.le_refl _))
      have HJ3 := Aside0.mk (HRG.out HJ2.out hg)
      have HM3 := Aside0.mk hM
      have HF := Aside0.mk hF
      have HS := Aside0.mk hS
      have hh := hHeld
      have q1 := (World.cell?_of_block (w := w1.drew) (a := ⟨b1, 0, none⟩) (hg.block b1 (cell_lt hh.1) (by simp))).trans hh.1
      have q2 := (World.cell?_of_block (w := w1.drew) (a := ⟨b2, 0, none⟩) (hg.block b2 (cell_lt hh.2) (by simp))).trans hh.2
      clear hM hg hF hS hh HM2 HG2 HJ2
      refine ⟨_, rfl, ?_⟩
      refine hK.out _ _ (fun _ _ => ⟨q1, q2⟩) ?_
      clear hK K
      refine normW (a' := ?_) ?_ ?_
      rotate_left
      · show Act.put _ (some 16) _ = _
        simp only [ap_]
        rfl
      by_cases hkn : k = n
      · obtain rfl : n = k := hkn.symm
        have HNL := Aside0.mk (show pre.length < 70000 from by
          have h1 := HN.out.1
          have h2 : j * 1 ≤ j * each := Nat.mul_le_mul_left _ he
          have h3 := HJ.out
          omega)
        have HC2 := Aside0.mk (HN.out.yes HJ.out hin HF.out)
        refine pureW (i := 5) (N := some 18) (v := ?_) (a' := ?_) wd_wide HD_.out #[true, true, true, true, true, true, false, false, false, false, false, false] rfl rfl (any_of HT_.out (by kernel_rfl)) (fun _ _ _ h => h) (Or.inl ⟨by rfl, ?_⟩) ?_ ?_
        rotate_left
        · intro w'
          go_simp
          with_reducible rfl
        rotate_left
        · simp only [ap_]
          rfl
        refine pureW (i := 6) (N := some 19) (v := ?_) (a' := ?_) wd_wide HD_.out #[true, true, true, true, true, true, true, false, false, false, false, false] rfl rfl (any_of HT_.out (by kernel_rfl)) (fun _ _ _ h => h) (Or.inl ⟨by rfl, ?_⟩) ?_ ?_
        rotate_left
        · intro w'
          go_simp
          with_reducible rfl
        rotate_left
        · simp only [ap_]
          rfl
        refine pureW (i := 7) (N := some 20) (v := ?_) (a' := ?_) wd_wide HD_.out #[true, true, true, true, true, true, true, true, false, false, false, false] rfl rfl (any_of HT_.out (by kernel_rfl)) (fun _ _ _ h => h) (Or.inl ⟨by rfl, ?_⟩) ?_ ?_
        rotate_left
        · intro w'
          go_simp
          with_reducible rfl
        rotate_left
        · simp only [ap_]
          rfl
        refine pureW (i := 8) (N := some 21) (v := ?_) (a' := ?_) wd_wide HD_.out #[true, true, true, true, true, true, true, true, true, false, false, false] rfl rfl (any_of HT_.out (by kernel_rfl)) (fun _ _ _ h => h) (Or.inl ⟨by rfl, ?_⟩) ?_ ?_
        rotate_left
        · intro w'
          go_simp
          with_reducible rfl
        rotate_left
        · simp only [ap_]
          rfl
        refine oneW (i := 9) (N := some 22) wd_wide #[true, true, true, true, true, true, true, true, true, true, false, false] rfl rfl (one_of HT_.out (by kernel_rfl)) (fun K hK => ?_)
        refine yieldW wd_wide #[.int .i64 i] (by rfl) rfl rfl (by rfl) (by (try simp only [List.map_toArray, List.map_cons, List.map_nil]); first | done | rfl) ?_
        refine YieldAt.mono (HY.out pre ⟨i, hin⟩ _ HJ3.out HNL.out) ?_
        rintro e w3 (⟨rfl, hX, hY3⟩ | ⟨rfl, hX⟩)
        · have HX := Aside0.mk hX
          have HG4 := Aside0.mk (HG3.out.trans hY3)
          have HM4 := Aside0.mk (HM3.out.later HP.out hY3)
          clear hX hY3
          refine ⟨_, rfl, ?_⟩
          refine hK.out _ _ (fun hn _ => absurd (by simp) hn) ?_
          clear hK K
          refine normW (a' := ?_) ?_ ?_
          rotate_left
          · show Act.put _ (some 22) _ = _
            simp only [ap_]
            rfl
          refine pureW (i := 10) (N := some 23) (v := ?_) (a' := ?_) wd_wide HD_.out #[true, true, true, true, true, true, true, true, true, true, true, false] rfl rfl (any_of HT_.out (by kernel_rfl)) (fun _ _ _ h => h) (Or.inl ⟨by rfl, ?_⟩) ?_ ?_
          rotate_left
          · intro w'
            go_simp
            with_reducible rfl
          rotate_left
          · simp only [ap_]
            rfl
          refine pureW (i := 11) (N := some 24) (v := ?_) (a' := ?_) wd_wide HD_.out #[true, true, true, true, true, true, true, true, true, true, true, true] rfl rfl (any_of HT_.out (by kernel_rfl)) (fun _ _ _ h => h) (Or.inl ⟨by rfl, ?_⟩) ?_ ?_
          rotate_left
          · intro w'
            go_simp
            with_reducible rfl
          rotate_left
          · simp only [ap_]
            rfl
          refine doneW (done_of HT_.out (by kernel_rfl)) ?_
          have k1 := kc HG4.out HC.out.1
          have k3 := kc HG4.out HC.out.2.2
          gi_wp2
          go_roundw
          case rel => exact ⟨j + 1, i + each, pre ++ [⟨i, hin⟩], by go_num, by omega, ⟨by rw [Nat.succ_mul, HJ.out]⟩, HC2, HM4, HG4, HX⟩
          case measure => simp [intOf]; omega
        · have HX := Aside0.mk hX
          clear hX
          refine ⟨_, rfl, ?_⟩
          refine hK.out _ _ (fun hn _ => absurd (by simp) hn) ?_
          clear hK K
          refine normW (a' := ?_) ?_ ?_
          rotate_left
          · show Act.put _ (some 22) _ = _
            simp only [ap_]
            rfl
          refine pureW (i := 10) (N := some 23) (v := ?_) (a' := ?_) wd_wide HD_.out #[true, true, true, true, true, true, true, true, true, true, true, false] rfl rfl (any_of HT_.out (by kernel_rfl)) (fun _ _ _ h => h) (Or.inl ⟨by rfl, ?_⟩) ?_ ?_
          rotate_left
          · intro w'
            go_simp
            with_reducible rfl
          rotate_left
          · simp only [ap_]
            rfl
          refine pureW (i := 11) (N := some 24) (v := ?_) (a' := ?_) wd_wide HD_.out #[true, true, true, true, true, true, true, true, true, true, true, true] rfl rfl (any_of HT_.out (by kernel_rfl)) (fun _ _ _ h => h) (Or.inl ⟨by rfl, ?_⟩) ?_ ?_
          rotate_left
          · intro w'
            go_simp
            with_reducible rfl
          rotate_left
          · simp only [ap_]
            rfl
          refine doneW (done_of HT_.out (by kernel_rfl)) ?_
          gi_wp2
          refine bodyPost_ret (results_none rfl _ _ _) rfl ?_
          exact ⟨⟨_, rfl⟩, .inr ⟨pre ++ [⟨i, hin⟩], HC2.out.2.2, HX.out⟩⟩
      · have hd : ((k : Int) == (n : Int)) = false := by rw [beq_eq_false_iff_ne]; omega
        have HN2 := Aside0.mk (show ¬ FreeIn ts i n from fun x => by
          rcases HS.out with h1 | h1 | h1
          · exact hkn h1
          · have := (x k (by omega)).1
            omega
          · have := (x k (by omega)).2
            rw [h1] at this
            cases this)
        refine pureW (i := 5) (N := some 18) (v := ?_) (a' := ?_) wd_wide HD_.out #[true, true, true, true, true, true, false, false, false, false, false, false] rfl rfl (any_of HT_.out (by kernel_rfl)) (fun _ _ _ h => h) (Or.inl ⟨by rfl, ?_⟩) ?_ ?_
        rotate_left
        · intro w'
          go_simp
          with_reducible rfl
        rotate_left
        · simp only [ap_]
          rfl
        refine pureW (i := 6) (N := some 19) (v := ?_) (a' := ?_) wd_wide HD_.out #[true, true, true, true, true, true, true, false, false, false, false, false] rfl rfl (any_of HT_.out (by kernel_rfl)) (fun _ _ _ h => h) (Or.inl ⟨by rfl, ?_⟩) ?_ ?_
        rotate_left
        · intro w'
          go_simp
          with_reducible rfl
        rotate_left
        · simp only [ap_]
          rfl
        refine pureW (i := 7) (N := some 20) (v := undef) (a' := ?_) wd_wide HD_.out #[true, true, true, true, true, true, true, true, false, false, false, false] rfl rfl (any_of HT_.out (by kernel_rfl)) (fun _ _ _ h => h) (Or.inr ⟨by rfl, rfl⟩) ?_ ?_
        rotate_left
        · simp only [ap_]
          rfl
        refine pureW (i := 8) (N := some 21) (v := undef) (a' := ?_) wd_wide HD_.out #[true, true, true, true, true, true, true, true, true, false, false, false] rfl rfl (any_of HT_.out (by kernel_rfl)) (fun _ _ _ h => h) (Or.inr ⟨by rfl, rfl⟩) ?_ ?_
        rotate_left
        · simp only [ap_]
          rfl
        refine pureW (i := 9) (N := some 22) (v := undef) (a' := ?_) wd_wide HD_.out #[true, true, true, true, true, true, true, true, true, true, false, false] rfl rfl (any_of HT_.out (by kernel_rfl)) (fun _ _ _ h => h) (Or.inr ⟨by rfl, rfl⟩) ?_ ?_
        rotate_left
        · simp only [ap_]
          rfl
        refine pureW (i := 10) (N := some 23) (v := undef) (a' := ?_) wd_wide HD_.out #[true, true, true, true, true, true, true, true, true, true, true, false] rfl rfl (any_of HT_.out (by kernel_rfl)) (fun _ _ _ h => h) (Or.inr ⟨by rfl, rfl⟩) ?_ ?_
        rotate_left
        · simp only [ap_]
          rfl
        refine pureW (i := 11) (N := some 24) (v := ?_) (a' := ?_) wd_wide HD_.out #[true, true, true, true, true, true, true, true, true, true, true, true] rfl rfl (any_of HT_.out (by kernel_rfl)) (fun _ _ _ h => h) (Or.inl ⟨by rfl, ?_⟩) ?_ ?_
        rotate_left
        · intro w'
          go_simp
          with_reducible rfl
        rotate_left
        · simp only [ap_]
          rfl
        refine doneW (done_of HT_.out (by kernel_rfl)) ?_
        have k1 := kc HG3.out HC.out.1
        have k3 := kc HG3.out HC.out.2.2
        gi_wp2
        go_roundw
        case rel => exact ⟨j + 1, i + each, pre, by go_num, by omega, ⟨by rw [Nat.succ_mul, HJ.out]⟩, ⟨HN.out.no (by rw [← HJ.out]; exact HN2.out)⟩, HM3, HG3, HJ3⟩
        case measure => simp [intOf]; omega
    · have HI := Aside0.mk (show inOf ts (i : Int) n = false by unfold inOf; exact decide_eq_false (fun x => hin (by omega)))
      gi_wp2_with (refine ⟨trivial, ?_⟩; gi_at_call 79; refine (callsIn_wide.2 (fr_in_eq HM.out _ _ _ HI.out)).mono ?_; rintro e w1 ⟨rfl, hM, hg⟩; have HG1 := Aside0.mk (below_more HG.out hg (Nat.le_refl _)); have HJ1 := Aside0.mk (HRG.out HJ0.out hg); clear hM hg HM HG HJ0)
      go_end0
      exact ⟨⟨_, rfl⟩, .inl ⟨pre, HN.out.done (by rw [← HJ.out]; exact hin), HJ1.out⟩⟩
end
end Go.Proofs.YtjnffegjpkbjmaaGreat.QFramesPlays
