/- The first TSB of a world of so many frames, made by both. -/
import Derived.Test.YtjnffegjpkbjmaaGreatSk0
import Derived.Test.YtjnffegjpkbjmaaGreatSwM
/- merged: YtjnffegjpkbjmaaGreatSx2 -/
namespace Go.Proofs.YtjnffegjpkbjmaaGreat.Mem
open Go.Proofs.YtjnffegjpkbjmaaGreat.QFramesPlays (Fs Fr FrK Took fs_Many fs_new fs_list fs_free took_at setN cnt)
open Go.RowKit Go.Maps Go.Proofs.YtjnffegjpkbjmaaGreatW.PrintWords Go.Proofs.YtjnffegjpkbjmaaGreatW.PrintLast Go.Proofs.YtjnffegjpkbjmaaGreatW.PrintMore Go.Proofs.YtjnffegjpkbjmaaGreat.QTsbPlays Go.Proofs.YtjnffegjpkbjmaaGreat.Pure
set_option linter.unusedSimpArgs false
set_option linter.unusedVariables false
section
set_option maxHeartbeats 2000000
set_option maxRecDepth 100000
theorem rnew05F (F : Nat) (hF : F ≤ 20) (W : World) : Calls Tryz.prog 23 #[.int .i64 (F : Int)] W fun e W' => e = .returned (.agg #[.int .i64 (F : Int), .slice none 0 0]) ∧ W.grownBy W' none := by
  have HG := Aside0.mk (grown_refl W none)
  have hu := Tryz.underlying32
  have hm : mx (F : Int) 0 = (F : Int) := by unfold mx; split <;> omega
  have hn : mn (F : Int) 65536 = (F : Int) := by unfold mn; split <;> omega
  go_enter Tryz.func23, Tryz.ntmps23
  go_wp2_with fail
  obtain ⟨q0, q1⟩ := cz2w (heap_alloc_new W (.cells #[.int .i64 (F : Int), .slice none 0 0] 32))
  exact bodyPost_ret (v := .agg #[.int .i64 (F : Int), .slice none 0 0]) (by simp [results, Tryz.f23, go_sem, q0, q1]) rfl ⟨rfl, World.grownBy_alloc _ _ none⟩
theorem begin13F_calls (F : Nat) (hF : F ≤ 20) (W : World) :
    Calls Tryz.prog 7 #[.int .i64 (F : Int)] W fun e W' => ∃ h pm mb pf rf, e = .returned (.pointer (some ⟨h, 0, none⟩)) ∧ W'.heap[h]? = some (.cells #[.pointer (some ⟨pm, 0, none⟩), .pointer (some ⟨pf, 0, none⟩), .slice none 0 0, .int .i64 (F : Int), .slice none 0 0, .slice none 0 0] 35 (0, 0)) ∧ Mem W.heap.size W pm mb ((F * 8192 : Nat) : Int) 0 (.map []) W' ∧ Fs W.heap.size W pf rf (List.replicate F false) W' ∧ W.heap.size ≤ h ∧ W.grownBy W' none := by
  have HG := Aside0.mk (grown_refl W none)
  have hw2 : IntKind.u64.wrap ((F : Int) * 8192) = ((F * 8192 : Nat) : Int) := by rw [IntKind.wrap_u64]; omega
  have HW0 := Aside0.mk hF
  have HWF := Aside0.mk (show (Lit.int .u64 ((F * 8192 : Nat) : Int)).wf = true ∧ ((F * 8192 : Nat) : Int) ≤ 2199023255552 from ⟨wfN (by omega), by omega⟩)
  have HMN := Aside0.mk (show mn (mx (F : Int) 0) 65536 = (F : Int) by unfold mn mx; split <;> split <;> omega)
  go_enter Tryz.func7, Tryz.ntmps7
  go_wp2_with fail
  refine (new_calls (below_og HG.out) HG.out.size ((F * 8192 : Nat) : Int) HWF.out.1 HWF.out.2).mono ?_
  rintro x0 w1 ⟨pm, mb, rfl, hM, hg, hmb, hpm⟩
  have HM := Aside0.mk hM
  replace HG := Aside0.mk (grown_two HG.out hg)
  clear hM hg hmb hpm hw2
  go_wp2_with fail
  refine (fs_new (below_og HG.out) HG.out.size (F : Int) F HMN.out).mono ?_
  rintro x0 w2 ⟨pf, rf, rfl, hF2, hrf, hg⟩
  have HF := Aside0.mk hF2
  replace HM := Aside0.mk (HM.out.same hg)
  replace HG := Aside0.mk (grown_two HG.out hg)
  clear hF2 hrf hg
  go_wp2_with fail
  refine (rnew05F F HW0.out _).mono ?_
  rintro x0 w3 ⟨rfl, hg⟩
  have hgc := World.grownBy_alloc w3 (.cells #[.pointer (some ⟨pm, 0, none⟩), .pointer (some ⟨pf, 0, none⟩), .slice none 0 0, .int .i64 (F : Int), .slice none 0 0, .slice none 0 0] 35) none
  have hM := (HM.out.same hg).same hgc
  have hF2 := (HF.out.same hg).same hgc
  have hh := heap_alloc_new w3 (.cells #[.pointer (some ⟨pm, 0, none⟩), .pointer (some ⟨pf, 0, none⟩), .slice none 0 0, .int .i64 (F : Int), .slice none 0 0, .slice none 0 0] 35)
  have hG := grown_two (grown_two HG.out hg) hgc
  have hS := Nat.le_trans HG.out.size hg.size
  go_wp2_with fail
  go_ret
  exact ⟨w3.heap.size, pm, mb, pf, rf, rfl, hh, hM, hF2, hS, hG⟩
end
end Go.Proofs.YtjnffegjpkbjmaaGreat.Mem
/- merged: YtjnffegjpkbjmaaGreatSw3 -/
namespace Go.Proofs.YtjnffegjpkbjmaaGreat.Mem
open Go.Proofs.YtjnffegjpkbjmaaGreat.QFramesPlays (Fs Fr FrK Took fs_Many fs_new fs_list fs_free took_at setN cnt)
open Go.RowKit Go.Maps Go.Proofs.YtjnffegjpkbjmaaGreatW.PrintWords Go.Proofs.YtjnffegjpkbjmaaGreatW.PrintLast Go.Proofs.YtjnffegjpkbjmaaGreatW.PrintMore Go.Proofs.YtjnffegjpkbjmaaGreat.QTsbPlays Go.Proofs.YtjnffegjpkbjmaaGreat.Pure
set_option linter.unusedSimpArgs false
set_option linter.unusedVariables false
section
set_option maxHeartbeats 2000000
set_option maxRecDepth 100000
theorem cz6 {W : World} {g : Nat} {t : TypeId} {a0 a1 a2 a3 a4 a5 : Value} (h : W.heap[g]? = some (.cells #[a0, a1, a2, a3, a4, a5] t (0, 0))) : W.cell? ⟨g, 0, none⟩ = some a0 ∧ W.cell? ⟨g, 1, none⟩ = some a1 ∧ W.cell? ⟨g, 2, none⟩ = some a2 ∧ W.cell? ⟨g, 3, none⟩ = some a3 ∧ W.cell? ⟨g, 4, none⟩ = some a4 ∧ W.cell? ⟨g, 5, none⟩ = some a5 := ⟨(blk_cell h 0).trans rfl, (blk_cell h 1).trans rfl, (blk_cell h 2).trans rfl, (blk_cell h 3).trans rfl, (blk_cell h 4).trans rfl, (blk_cell h 5).trans rfl⟩
theorem cz5w {W : World} {g : Nat} {t : TypeId} {a0 a1 a2 a3 a4 : Value} (h : W.heap[g]? = some (.cells #[a0, a1, a2, a3, a4] t (0, 0))) : W.cell? ⟨g, 0, none⟩ = some a0 ∧ W.cell? ⟨g, 1, none⟩ = some a1 ∧ W.cell? ⟨g, 2, none⟩ = some a2 ∧ W.cell? ⟨g, 3, none⟩ = some a3 ∧ W.cell? ⟨g, 4, none⟩ = some a4 := ⟨(blk_cell h 0).trans rfl, (blk_cell h 1).trans rfl, (blk_cell h 2).trans rfl, (blk_cell h 3).trans rfl, (blk_cell h 4).trans rfl⟩
theorem blk_make {B g' mb pm n pf rf : Nat} {w0 W W1 W' : World} {sz : Int} {D : DataW Unit} {ts : List Bool} {cs : Array Value} {t : TypeId} (hb : W.heap[g']? = some (.cells cs t (0, 0))) (h1 : t ≠ 89) (h2 : t ≠ 4) (hM : Mem B w0 pm mb sz n D W) (hF : Fs B w0 pf rf ts W) (hk : FrK W pf rf W1) (hg : W1.grownBy W' (some mb)) : W'.heap[g']? = some (.cells cs t (0, 0)) := by
  have e1 : g' ≠ pf := by rintro rfl; have := hF.row; rw [hb] at this; injection this with this; injection this with _ a; exact h1 a
  have e2 : g' ≠ rf := by rintro rfl; have := hF.bits; rw [hb] at this; injection this with this; injection this with _ a; exact h2 a
  have hb1 := (hk.block g' (blk_lt hb) e1 e2).trans hb
  exact (hg.block g' (blk_lt hb1) (fun e => hM.nb _ _ _ hb (Option.some.inj e))).trans hb1
theorem blk_keptW {W W' : World} {o : Option Nat} {g : Nat} {cs : Array Value} {t t' : TypeId} (hb : W.heap[g]? = some (.cells cs t' (0, 0))) (hg : W.grownBy W' o) (hk : ∀ k, o = some k → ∃ cs, W.heap[k]? = some (.cells cs t (0, 0))) (ht : t ≠ t') : W'.heap[g]? = some (.cells cs t' (0, 0)) :=
  (hg.block g (blk_lt hb) (fun e => by obtain ⟨cs2, hc⟩ := hk g e.symm; rw [hb] at hc; injection hc with hc; injection hc with _ a; exact ht a.symm)).trans hb
theorem own_one {w : World} {base e : Nat} {v x : Value} (h : w.ownsRow base e 1 v (0 + 1) ([] ++ [x])) : ∃ lb cap, v = .slice (some ⟨lb, 0, none⟩) 1 cap ∧ ∃ cs, w.heap[lb]? = some (.cells cs e (0, 0)) ∧ cs[0]? = some x := by
  rcases h.2 with ⟨_, h0⟩ | ⟨g, cap, cur, rfl, hb, hc, _, _, hs, ht⟩
  · cases h0
  · refine ⟨g, cap, rfl, cur, hc, ?_⟩
    have := congrArg (fun l => l[0]?) ht
    simpa using this
end
end Go.Proofs.YtjnffegjpkbjmaaGreat.Mem
namespace Go.Proofs.YtjnffegjpkbjmaaGreat.Mem
open Go.Proofs.YtjnffegjpkbjmaaGreat.QFramesPlays (Fs Fr FrK Took fs_Many fs_new fs_list fs_free took_at setN cnt)
open Go.RowKit Go.Maps Go.Proofs.YtjnffegjpkbjmaaGreatW.PrintWords Go.Proofs.YtjnffegjpkbjmaaGreatW.PrintLast Go.Proofs.YtjnffegjpkbjmaaGreatW.PrintMore Go.Proofs.YtjnffegjpkbjmaaGreat.QTsbPlays Go.Proofs.YtjnffegjpkbjmaaGreat.Pure
set_option linter.unusedSimpArgs false
set_option linter.unusedVariables false
section
set_option maxHeartbeats 2000000
set_option maxRecDepth 100000
theorem own_slc2 {w : World} {base e k n : Nat} {v : Value} {xs : List Value} (h : w.ownsRow base e k v (n + 1) xs) : ∃ lb cap cs, v = .slice (some ⟨lb, 0, none⟩) (n + 1) cap ∧ base ≤ lb ∧ w.heap[lb]? = some (.cells cs e (0, 0)) ∧ cs.toList.take ((n + 1) * k) = xs := by
  rcases h.2 with ⟨_, h0⟩ | ⟨g, cap, cur, rfl, hb, hc, _, _, hs, ht⟩
  · cases h0
  · exact ⟨g, cap, cur, rfl, hb, hc, ht⟩
theorem R_make {α : Type} {d : Kd α} {e base B pf rf : Nat} {w0 W W1 : World} {v : Value} {xs : List α} {ts : List Bool} (h : d.R e W base (fun _ => True) v xs) (hF : Fs B w0 pf rf ts W) (he1 : ∀ q, q ∈ e :: d.E → q ≠ 89) (he2 : ∀ q, q ∈ e :: d.E → q ≠ 4) (hk : FrK W pf rf W1) : d.R e W1 base (fun _ => True) v xs := by
  obtain ⟨W2, h1, h2⟩ := frk_split hk hF.lt
  have hr := hF.rp
  have hb : W2.heap[rf]? = some (.cells (ts.map Value.bool).toArray 4 (0, 0)) := (h1.block rf (Nat.lt_trans hr hF.lt) (fun e => by have := Option.some.inj e; omega)).trans hF.bits
  have r1 := Kd.R_mono (ok' := fun _ => True) (Kd.R_grown (Kd.R_types h hF.row he1) h1 (fun k hk e => hk.2 (Option.some.inj e))) (fun _ _ => trivial)
  exact Kd.R_mono (ok' := fun _ => True) (Kd.R_grown (Kd.R_types r1 hb he2) h2 (fun k hk e => hk.2 (Option.some.inj e))) (fun _ _ => trivial)
theorem R_map {α : Type} {d : Kd α} {e base B pm mb n : Nat} {w0 W W1 : World} {sz : Int} {D : DataW Unit} {v : Value} {xs : List α} (h : d.R e W base (fun _ => True) v xs) (hM : Mem B w0 pm mb sz n D W) (hg : W.grownBy W1 (some mb)) : d.R e W1 base (fun _ => True) v xs :=
  Kd.R_mono (ok' := fun _ => True) (Kd.R_grown (Kd.R_bound h) hg (fun k hk e => by obtain ⟨_, _, _, q, _, cs, hc⟩ := hk; exact hM.nb k cs q hc (Option.some.inj e))) (fun _ _ => trivial)
noncomputable def wmakeF8_T : Bool × List (List Nat × List Nat) := rtab .any (opsOf Tryz.f9 8)
theorem wmakeF8_tab : rtab .any (opsOf Tryz.f9 8) = wmakeF8_T := rfl
noncomputable def wmakeF2_T : Bool × List (List Nat × List Nat) := rtab .any (opsOf Tryz.f9 2)
theorem wmakeF2_tab : rtab .any (opsOf Tryz.f9 2) = wmakeF2_T := rfl
theorem wmakeF_calls {w0 W : World} {h pm mb n F : Nat} {D : DataW Unit} {pf rf : Nat} (hD : Good D ∧ ∀ k, rd D k = 0) (hM : Mem w0.heap.size w0 pm mb ((F * 8192 : Nat) : Int) n D W) (hF : Fs w0.heap.size w0 pf rf (List.replicate F false) W) (hh : W.heap[h]? = some (.cells #[.pointer (some ⟨pm, 0, none⟩), .pointer (some ⟨pf, 0, none⟩), .slice none 0 0, .int .i64 (F : Int), .slice none 0 0, .slice none 0 0] 35 (0, 0))) (hhb : w0.heap.size ≤ h) (s g : Nat) (hs : s < 4) (hg : g < 4) (hn : n ≤ 300000) (hF1 : frsW s g ≤ F) (hF2 : F ≤ 20) :
    Calls Tryz.prog 9 #[.pointer (some ⟨h, 0, none⟩), .int .i64 (s : Int), .int .i64 (g : Int)] W fun e W' => e = .returned (.bool true) ∧ ∃ pt lb sb cap cap5 v3 lcs scs A c, W'.heap[h]? = some (.cells #[.pointer (some ⟨pm, 0, none⟩), .pointer (some ⟨pf, 0, none⟩), .slice (some ⟨lb, 0, none⟩) 1 cap, .int .i64 (F : Int), v3, .slice (some ⟨sb, 0, none⟩) 1 cap5] 35 (0, 0)) ∧ W'.heap[lb]? = some (.cells lcs 44 (0, 0)) ∧ lcs[0]? = some (.pointer (some ⟨pt, 0, none⟩)) ∧ W'.heap[sb]? = some (.cells scs 66 (0, 0)) ∧ scs.toList.take 5 = [.int .i64 (s : Int), .int .i64 (plcs s g : Int), .slice A 0 c, .int .i64 0, .int .i64 (g : Int)] ∧ w0.heap.size ≤ sb ∧ Kd.R k141 141 W' w0.heap.size (fun _ => True) (.slice A 0 c) [] ∧ TK w0.heap.size w0 pm mb pt ((F * 8192 : Nat) : Int) 0 (plcs s g) s g (n + 2 * plcs s g) (fun _ => none) W' ∧ Fs w0.heap.size w0 pf rf (setN (List.replicate F false) 0 true (frsW s g)) W' := by
  have hu := Tryz.underlying32
  have hu2 := Tryz.underlying66
  have hu3 := Tryz.underlying35
  have HM := Aside0.mk hM
  have HF := Aside0.mk hF
  have HB := Aside0.mk hh
  have HHB := Aside0.mk hhb
  have HSG := Aside0.mk (show s < 4 ∧ g < 4 ∧ n ≤ 300000 from ⟨hs, hg, hn⟩)
  have HMK := Aside0.mk (And.intro hF1 hF2)
  have HDM := Aside0.mk hD
  have HTB := Aside0.mk (show TB 0 (plcs s g) s ((F * 8192 : Nat) : Int) by
    have h1 := frs_in s g hs hg
    have h2 := plcs_le s g hs hg
    exact ⟨hs, h2.1, h2.2, by decide, by omega, by omega, plcs_mod s g hs hg⟩)
  have HBW := Aside0.mk hM.below
  have HFR := Aside0.mk (show frsW (s : Int) (g : Int) ≤ F ∧ (16 * plcs s g : Int) ≤ ((F * 8192 : Nat) : Int) ∧ ((F * 8192 : Nat) : Int) ≤ 2199023255552 by have h1 := frs_in s g hs hg; have h2 := plcs_le s g hs hg; omega)
  clear hM hF hh hhb hs hg hn hD
  obtain ⟨q0, q1, q2, q3, q4, q5⟩ := cz6 HB.out
  go_enter Tryz.func9, Tryz.ntmps9
  go_wp2_with fail
  refine (rmake13_calls F s g HSG.out.1 HSG.out.2.1 HMK.out.1 HMK.out.2 _).mono ?_
  rintro x0 w1 ⟨A1, n1, c1, A4, c4, rfl, hR4, hg⟩
  have HR4 := Aside0.mk (Kd.R_lower hR4 HBW.out.size)
  replace HM := Aside0.mk (HM.out.same hg)
  replace HF := Aside0.mk (HF.out.same hg)
  replace HB := Aside0.mk (blk_grown HB.out hg)
  clear hR4 hg q0 q1 q2 q3 q4 q5
  have HB0L := Aside0.mk (blk_lt HB.out)
  have hga := World.grownBy_alloc w1 (.cells #[.int .i64 0, .slice none 0 0] 32) none
  have hgb := World.grownBy_alloc (w1.alloc (.cells #[.int .i64 0, .slice none 0 0] 32)) (.cells #[.int .i64 0, .int .i64 0, .slice none 0 0, .int .i64 0, .int .i64 0] 66) none
  have hb7 := heap_alloc_new w1 (.cells #[.int .i64 0, .slice none 0 0] 32)
  have HB8 := Aside0.mk (heap_alloc_new (w1.alloc (.cells #[.int .i64 0, .slice none 0 0] 32)) (.cells #[.int .i64 0, .int .i64 0, .slice none 0 0, .int .i64 0, .int .i64 0] 66))
  have hz : (w1.alloc (.cells #[.int .i64 0, .slice none 0 0] 32)).heap.size = w1.heap.size + 1 := by simp only [World.size_alloc]
  rw [hz] at HB8
  have HB7 := Aside0.mk (blk_grown hb7 hgb)
  have HG1 := Aside0.mk (grown_two hga hgb)
  clear hga hgb hb7 hz
  go_upto_region 2 with (first | ((with_reducible refine gate_store (t := 32) (p := 7) rfl ?_); refine wpList_store_row rfl 32 (.tmp 7) (.tmp 20) rfl w1.heap.size #[.int .i64 (F : Int), .slice A1 n1 c1] rfl rfl 32 _ HB7.out (by kernel_rfl) rfl (by kernel_rfl) ?_; have SHB7 := Aside0.mk (setRow_heap _ w1.heap.size _ #[.int .i64 (F : Int), .slice A1 n1 c1] _ _ HB7.out); have THB7 := Aside0.mk (grown_row ((w1.alloc (.cells #[.int .i64 0, .slice none 0 0] 32)).alloc (.cells #[.int .i64 0, .int .i64 0, .slice none 0 0, .int .i64 0, .int .i64 0] 66)) w1.heap.size #[.int .i64 (F : Int), .slice A1 n1 c1]); have HB8b := Aside0.mk ((THB7.out.block _ (blk_lt HB8.out) (fun e => by have := Option.some.inj e; omega)).trans HB8.out)) | ((with_reducible refine gate_store (t := 66) (p := 8) rfl ?_); refine wpList_store_row rfl 66 (.tmp 8) (.tmp 21) rfl (w1.heap.size + 1) #[.int .i64 (s : Int), .int .i64 (plcs s g : Int), .slice A4 0 c4, .int .i64 0, .int .i64 (g : Int)] rfl rfl 66 _ HB8b.out (by kernel_rfl) rfl (by kernel_rfl) ?_; have SHB8b := Aside0.mk (setRow_heap _ (w1.heap.size + 1) _ #[.int .i64 (s : Int), .int .i64 (plcs s g : Int), .slice A4 0 c4, .int .i64 0, .int .i64 (g : Int)] _ _ HB8b.out); have THB8b := Aside0.mk (grown_row (World.setRow ((w1.alloc (.cells #[.int .i64 0, .slice none 0 0] 32)).alloc (.cells #[.int .i64 0, .int .i64 0, .slice none 0 0, .int .i64 0, .int .i64 0] 66)) w1.heap.size #[.int .i64 (F : Int), .slice A1 n1 c1]) (w1.heap.size + 1) #[.int .i64 (s : Int), .int .i64 (plcs s g : Int), .slice A4 0 c4, .int .i64 0, .int .i64 (g : Int)])))
  have hg := grown_loc (grown_loc HG1.out THB7.out (Nat.le_refl _)) THB8b.out (Nat.le_succ _)
  replace HM := Aside0.mk (HM.out.same hg)
  replace HF := Aside0.mk (HF.out.same hg)
  replace HR4 := Aside0.mk (Kd.R_grown HR4.out hg (by simp))
  replace HB := Aside0.mk (blk_grown HB.out hg)
  have HN8 := Aside0.mk (show h < w1.heap.size + 1 from Nat.lt_succ_of_lt (by have := HB0L.out; exact this))
  replace HB8 := Aside0.mk SHB8b.out
  have HB7' := Aside0.mk ((THB8b.out.block w1.heap.size (blk_lt SHB7.out) (fun e => by have := Option.some.inj e; omega)).trans SHB7.out)
  clear HB7 HG1 SHB7 SHB8b HB8b THB8b THB7 hg
  generalize (World.setRow (World.setRow ((w1.alloc (.cells #[.int .i64 0, .slice none 0 0] 32)).alloc (.cells #[.int .i64 0, .int .i64 0, .slice none 0 0, .int .i64 0, .int .i64 0] 66)) w1.heap.size #[.int .i64 (F : Int), .slice A1 n1 c1]) (w1.heap.size + 1) #[.int .i64 (s : Int), .int .i64 (plcs s g : Int), .slice A4 0 c4, .int .i64 0, .int .i64 (g : Int)]) = w4 at HM HF HB HB7' HB8 HR4 ⊢
  generalize w1.heap.size + 1 = h8 at HB8 HN8 ⊢
  generalize w1.heap.size = h7 at HB7' ⊢
  have hg := grown_drew w4 none
  replace HM := Aside0.mk (HM.out.same hg)
  replace HF := Aside0.mk (HF.out.same hg)
  replace HR4 := Aside0.mk (Kd.R_grown HR4.out hg (by simp))
  replace HB := Aside0.mk (blk_grown HB.out hg)
  replace HB7' := Aside0.mk (blk_grown HB7'.out hg)
  replace HB8 := Aside0.mk (blk_grown HB8.out hg)
  clear hg
  refine start_ (n := 16) (S := fun w' => w'.heap[h]? = some (.cells #[.pointer (some ⟨pm, 0, none⟩), .pointer (some ⟨pf, 0, none⟩), .slice none 0 0, .int .i64 (F : Int), .slice none 0 0, .slice none 0 0] 35 (0, 0))) (ds := []) #[false, false, false, false, false, false, false, false, false, false, false, false, false, false, false, false] (by kernel_rfl) rfl rfl HB.out (fun hHeld => ?_)
  refine with_tab wmakeF2_tab (fun HT_ => ?_)
  refine pure_ (i := 0) (N := some 24) (v := ?_) (a' := ?_) #[true, false, false, false, false, false, false, false, false, false, false, false, false, false, false, false] rfl rfl (any_of HT_.out (by kernel_rfl)) (fun _ _ _ h => h) (Or.inl ⟨by rfl, ?_⟩) ?_ ?_
  rotate_left
  · intro w'
    go_simp
    with_reducible rfl
  rotate_left
  · simp only [ap_]
    rfl
  refine pure_ (i := 1) (N := some 25) (v := ?_) (a' := ?_) #[true, true, false, false, false, false, false, false, false, false, false, false, false, false, false, false] rfl rfl (any_of HT_.out (by kernel_rfl)) (fun _ _ _ h => h) (Or.inl ⟨by rfl, ?_⟩) ?_ ?_
  rotate_left
  · intro w'
    go_simp
    with_reducible rfl
  rotate_left
  · simp only [ap_]
    rfl
  refine pure_ (i := 2) (N := some 26) (v := ?_) (a' := ?_) #[true, true, true, false, false, false, false, false, false, false, false, false, false, false, false, false] rfl rfl (any_of HT_.out (by kernel_rfl)) (fun _ _ _ h => h) (Or.inl ⟨by rfl, ?_⟩) ?_ ?_
  rotate_left
  · intro w'
    go_simp
    with_reducible rfl
  rotate_left
  · simp only [ap_]
    rfl
  refine pure_ (i := 4) (N := some 28) (v := ?_) (a' := ?_) #[true, true, true, false, true, false, false, false, false, false, false, false, false, false, false, false] rfl rfl (any_of HT_.out (by kernel_rfl)) (fun _ _ _ h => h) (Or.inl ⟨by rfl, ?_⟩) ?_ ?_
  rotate_left
  · intro w'
    go_simp
    with_reducible rfl
  rotate_left
  · simp only [ap_]
    rfl
  refine pure_ (i := 5) (N := some 29) (v := ?_) (a' := ?_) #[true, true, true, false, true, true, false, false, false, false, false, false, false, false, false, false] rfl rfl (any_of HT_.out (by kernel_rfl)) (fun _ _ _ h => h) (Or.inl ⟨by rfl, ?_⟩) ?_ ?_
  rotate_left
  · intro w'
    go_simp
    with_reducible rfl
  rotate_left
  · simp only [ap_]
    rfl
  refine pure_ (i := 6) (N := some 30) (v := ?_) (a' := ?_) #[true, true, true, false, true, true, true, false, false, false, false, false, false, false, false, false] rfl rfl (any_of HT_.out (by kernel_rfl)) (fun _ _ _ h => h) (Or.inl ⟨by rfl, ?_⟩) ?_ ?_
  rotate_left
  · intro w'
    go_simp
    with_reducible rfl
  rotate_left
  · simp only [ap_]
    rfl
  refine pure_ (i := 8) (N := some 32) (v := ?_) (a' := ?_) #[true, true, true, false, true, true, true, false, true, false, false, false, false, false, false, false] rfl rfl (any_of HT_.out (by kernel_rfl)) (fun _ _ _ h => h) (Or.inl ⟨by rfl, ?_⟩) ?_ ?_
  rotate_left
  · intro w'
    go_simp
    with_reducible rfl
  rotate_left
  · simp only [ap_]
    rfl
  refine pure_ (i := 9) (N := some 33) (v := ?_) (a' := ?_) #[true, true, true, false, true, true, true, false, true, true, false, false, false, false, false, false] rfl rfl (any_of HT_.out (by kernel_rfl)) (fun _ _ _ h => h) (Or.inl ⟨by rfl, ?_⟩) ?_ ?_
  rotate_left
  · intro w'
    go_simp
    with_reducible rfl
  rotate_left
  · simp only [ap_]
    rfl
  refine take_ (i := 3) (N := some 27) (v := .pointer (some ⟨pm, 0, none⟩)) (a' := ?_) #[true, true, true, true, true, true, true, false, true, true, false, false, false, false, false, false] rfl rfl (take_of HT_.out (by kernel_rfl)) (fun _ _ _ h => h) (Or.inl ⟨by rfl, ?_⟩) hHeld ?_ ?_
  · rintro w' s1
    obtain ⟨q0, q1, q2, q3, q4, q5⟩ := cz6 s1
    go_simp
  rotate_left
  · simp only [ap_]
    rfl
  refine take_ (i := 7) (N := some 31) (v := .pointer (some ⟨pf, 0, none⟩)) (a' := ?_) #[true, true, true, true, true, true, true, true, true, true, false, false, false, false, false, false] rfl rfl (take_of HT_.out (by kernel_rfl)) (fun _ _ _ h => h) (Or.inl ⟨by rfl, ?_⟩) hHeld ?_ ?_
  · rintro w' s1
    obtain ⟨q0, q1, q2, q3, q4, q5⟩ := cz6 s1
    go_simp
  rotate_left
  · simp only [ap_]
    rfl
  refine one_ (i := 10) (N := some 34) #[true, true, true, true, true, true, true, true, true, true, true, false, false, false, false, false] rfl rfl (one_of HT_.out (by kernel_rfl)) (by decide) (fun K hK => ?_)
  refine goes_ Tryz.func27 (by kernel_rfl) rfl #[.pointer (some ⟨pm, 0, none⟩), .pointer (some ⟨pf, 0, none⟩), .int .i64 (s : Int), .int .i64 (g : Int)] (by rfl) rfl rfl (by (try simp only [List.map_toArray, List.map_cons, List.map_nil]); first | done | rfl) ?_
  refine (swmake_calls HM.out HF.out s g HSG.out.1 HSG.out.2.1 HFR.out.1 HFR.out.2.1 HFR.out.2.2 (by have := HSG.out; omega)).mono ?_
  rintro x0 wn ⟨pt, W1, rfl, hM2, hF2, hr, hpt, hk, hg2⟩
  have hs : wn.heap[h]? = some (.cells #[.pointer (some ⟨pm, 0, none⟩), .pointer (some ⟨pf, 0, none⟩), .slice none 0 0, .int .i64 (F : Int), .slice none 0 0, .slice none 0 0] 35 (0, 0)) := blk_make hHeld (by decide) (by decide) HM.out HF.out hk hg2
  replace HB7' := Aside0.mk (blk_make HB7'.out (by decide) (by decide) HM.out HF.out hk hg2)
  replace HB8 := Aside0.mk (blk_make HB8.out (by decide) (by decide) HM.out HF.out hk hg2)
  replace HR4 := Aside0.mk (R_map (R_make HR4.out HF.out (by decide) (by decide) hk) (HM.out.frk HF.out hk) hg2)
  replace HB := Aside0.mk hs
  replace HF := Aside0.mk hF2
  have HPT := Aside0.mk (show TK w0.heap.size w0 pm mb pt ((F * 8192 : Nat) : Int) 0 (plcs s g) s g (n + 2 * plcs s g) (fun _ => none) wn from ⟨⟨_, hM2, clearedT HTB.out HDM.out.1 (fun k _ => HDM.out.2 k)⟩, hr, oko_none _ _⟩)
  have HBE := Aside0.mk hM2.below
  clear HM hM2 hF2 hr hpt hk hg2
  refine ⟨_, rfl, ?_⟩
  refine hK.out _ _ hs (fun hHeld => ?_)
  clear hK K
  refine norm_ (a' := ?_) ?_ ?_
  rotate_left
  · show Act.put _ (some 34) _ = _
    simp only [ap_]
    rfl
  refine pure_ (i := 11) (N := some 23) (v := ?_) (a' := ?_) #[true, true, true, true, true, true, true, true, true, true, true, true, false, false, false, false] rfl rfl (any_of HT_.out (by kernel_rfl)) (fun _ _ _ h => h) (Or.inl ⟨by rfl, ?_⟩) ?_ ?_
  rotate_left
  · intro w'
    go_simp
    with_reducible rfl
  rotate_left
  · simp only [ap_]
    rfl
  refine pure_ (i := 12) (N := some 35) (v := ?_) (a' := ?_) #[true, true, true, true, true, true, true, true, true, true, true, true, true, false, false, false] rfl rfl (any_of HT_.out (by kernel_rfl)) (fun _ _ _ h => h) (Or.inl ⟨by rfl, ?_⟩) ?_ ?_
  rotate_left
  · intro w'
    go_simp
    with_reducible rfl
  rotate_left
  · simp only [ap_]
    rfl
  refine pure_ (i := 13) (N := some 36) (v := ?_) (a' := ?_) #[true, true, true, true, true, true, true, true, true, true, true, true, true, true, false, false] rfl rfl (any_of HT_.out (by kernel_rfl)) (fun _ _ _ h => h) (Or.inl ⟨by rfl, ?_⟩) ?_ ?_
  rotate_left
  · intro w'
    go_simp
    with_reducible rfl
  rotate_left
  · simp only [ap_]
    rfl
  refine pure_ (i := 14) (N := some 10) (v := ?_) (a' := ?_) #[true, true, true, true, true, true, true, true, true, true, true, true, true, true, true, false] rfl rfl (any_of HT_.out (by kernel_rfl)) (fun _ _ _ h => h) (Or.inl ⟨by rfl, ?_⟩) ?_ ?_
  rotate_left
  · intro w'
    go_simp
    with_reducible rfl
  rotate_left
  · simp only [ap_]
    rfl
  refine pure_ (i := 15) (N := some 11) (v := ?_) (a' := ?_) #[true, true, true, true, true, true, true, true, true, true, true, true, true, true, true, true] rfl rfl (any_of HT_.out (by kernel_rfl)) (fun _ _ _ h => h) (Or.inl ⟨by rfl, ?_⟩) ?_ ?_
  rotate_left
  · intro w'
    go_simp
    with_reducible rfl
  rotate_left
  · simp only [ap_]
    rfl
  refine done_ (done_of HT_.out (by kernel_rfl)) ?_
  clear hHeld
  obtain ⟨q0, q1, q2, q3, q4, q5⟩ := cz6 HB.out
  obtain ⟨y0, y1⟩ := cz2w HB7'.out
  have zf3 := blk_frozen HB.out 3
  have zf4 := blk_frozen HB.out 4
  have HBX := Aside0.mk (show Below w0.heap.size w0 ((wn.setCell ⟨h, 3, none⟩ (.int .i64 (F : Int))).setCell ⟨h, 4, none⟩ (.slice A1 n1 c1)) from below_set (below_set HBE.out HHB.out) HHB.out)
  have hgX : wn.grownBy ((wn.setCell ⟨h, 3, none⟩ (.int .i64 (F : Int))).setCell ⟨h, 4, none⟩ (.slice A1 n1 c1)) (some h) := grown_two (QFramesPlays.grown_cell wn ⟨h, 3, none⟩ (.int .i64 (F : Int))) (QFramesPlays.grown_cell (wn.setCell ⟨h, 3, none⟩ (.int .i64 (F : Int))) ⟨h, 4, none⟩ (.slice A1 n1 c1))
  have HHX := Aside0.mk (show ((wn.setCell ⟨h, 3, none⟩ (.int .i64 (F : Int))).setCell ⟨h, 4, none⟩ (.slice A1 n1 c1)).heap[h]? = some (.cells #[.pointer (some ⟨pm, 0, none⟩), .pointer (some ⟨pf, 0, none⟩), .slice none 0 0, .int .i64 (F : Int), .slice A1 n1 c1, .slice none 0 0] 35 (0, 0)) from blk_put (blk_put HB.out 3 (.int .i64 (F : Int)) rfl) 4 (.slice A1 n1 c1) rfl)
  have hkh : ∀ k, some h = some k → ∃ cs, wn.heap[k]? = some (.cells cs 35 (0, 0)) := fun k e => by cases e; exact ⟨_, HB.out⟩
  have HFX := Aside0.mk (HF.out.kept hgX (fun e => by have e := Option.some.inj e; subst e; have := HF.out.row; rw [HB.out] at this; injection this with this; injection this with _ a; exact absurd a (by decide)) (fun e => by have e := Option.some.inj e; subst e; have := HF.out.bits; rw [HB.out] at this; injection this with this; injection this with _ a; exact absurd a (by decide)) (fun k e => by cases e; exact HHB.out))
  have HPX := Aside0.mk (HPT.out.kept hgX HB.out (by decide) (by decide) HHB.out)
  have HRX := Aside0.mk (Kd.R_mono (ok' := fun _ => True) (Kd.R_grown (Kd.R_types HR4.out HB.out (by decide)) hgX (fun k hk e => hk.2 (Option.some.inj e))) (fun _ _ => trivial))
  have H8X := Aside0.mk (blk_keptW HB8.out hgX hkh (by decide))
  clear hgX hkh HBE
  go_upto_region 8 with (((with_reducible refine gate_builtin (b := .append) (xs := #[.tmp 57, .tmp 59]) rfl ?_); at_builtin; refine print_append_cells (w0 := w0) w0.heap.size rfl (.tmp 57) (.tmp 59) 29 44 (.pointer none) 1 8 rfl Tryz.underlying29 (by kernel_rfl) rfl (by decide) (by decide) (.slice none 0 0) 0 [] [.pointer (some ⟨pt, 0, none⟩)] rfl (by first | (go_simp; done) | (go_simp; rfl)) rfl (by simp [Value.oneCell']) ⟨rfl, .inl ⟨rfl, rfl⟩⟩ ?aB ?aS (by decide) ?_; (case aB => exact HBX.out); (case aS => exact HBX.out.size); intro v9 w5 hown hb hgr hat; obtain ⟨lb, cap, hv9, lcs, hlb, hcell⟩ := own_one hown; subst hv9; have HR5 := Aside0.mk (Kd.R_grown HRX.out hgr (fun k _ e => by have e2 : some k = none := e; cases e2)); have HBE5 := Aside0.mk hb; have HGR := Aside0.mk hgr; have HLB := Aside0.mk hlb; have HCL := Aside0.mk hcell; have HH5 := Aside0.mk (blk_grown HHX.out hgr); have zf5 := blk_frozen HH5.out 2; obtain ⟨p0, p1, p2, p3, p4, p5⟩ := cz6 HH5.out; clear hown hb hgr hat hlb hcell))
  clear zf5 p0 p1 p2 p3 p4 p5 q0 q1 q2 q3 q4 q5 y0 y1 zf3 zf4
  have hg6 := QFramesPlays.grown_cell w5 ⟨h, 2, none⟩ (.slice (some ⟨lb, 0, none⟩) 1 cap)
  have hkh : ∀ k, some h = some k → ∃ cs, w5.heap[k]? = some (.cells cs 35 (0, 0)) := fun k e => by cases e; exact ⟨_, HH5.out⟩
  have HH6 := Aside0.mk (show (w5.setCell ⟨h, 2, none⟩ (.slice (some ⟨lb, 0, none⟩) 1 cap)).heap[h]? = some (.cells #[.pointer (some ⟨pm, 0, none⟩), .pointer (some ⟨pf, 0, none⟩), .slice (some ⟨lb, 0, none⟩) 1 cap, .int .i64 (F : Int), .slice A1 n1 c1, .slice none 0 0] 35 (0, 0)) from blk_put HH5.out 2 (.slice (some ⟨lb, 0, none⟩) 1 cap) rfl)
  have HF6 := Aside0.mk ((HFX.out.same HGR.out).kept hg6 (fun e => by have e := Option.some.inj e; subst e; have := (HFX.out.same HGR.out).row; rw [HH5.out] at this; injection this with this; injection this with _ a; exact absurd a (by decide)) (fun e => by have e := Option.some.inj e; subst e; have := (HFX.out.same HGR.out).bits; rw [HH5.out] at this; injection this with this; injection this with _ a; exact absurd a (by decide)) (fun k e => by cases e; exact HHB.out))
  have HP6 := Aside0.mk ((HPX.out.same HGR.out).kept hg6 HH5.out (by decide) (by decide) HHB.out)
  have HR6 := Aside0.mk (Kd.R_mono (ok' := fun _ => True) (Kd.R_grown (Kd.R_types HR5.out HH5.out (by decide)) hg6 (fun k hk e => hk.2 (Option.some.inj e))) (fun _ _ => trivial))
  have H86 := Aside0.mk (blk_keptW (blk_grown H8X.out HGR.out) hg6 hkh (by decide))
  have HL6 := Aside0.mk (blk_keptW HLB.out hg6 hkh (by decide))
  have HB6 := Aside0.mk (show Below w0.heap.size w0 (w5.setCell ⟨h, 2, none⟩ (.slice (some ⟨lb, 0, none⟩) 1 cap)) from below_set HBE5.out HHB.out)
  generalize w5.setCell ⟨h, 2, none⟩ (.slice (some ⟨lb, 0, none⟩) 1 cap) = w6 at HH6 HF6 HP6 H86 HL6 HB6 HR6 ⊢
  have hg := grown_drew w6 none
  replace HF6 := Aside0.mk (HF6.out.same hg)
  replace HP6 := Aside0.mk (HP6.out.same hg)
  replace HR6 := Aside0.mk (Kd.R_grown HR6.out hg (by simp))
  replace H86 := Aside0.mk (blk_grown H86.out hg)
  replace HL6 := Aside0.mk (blk_grown HL6.out hg)
  replace HH6 := Aside0.mk (blk_grown HH6.out hg)
  replace HB6 := Aside0.mk (show Below w0.heap.size w0 w6.drew from ⟨HB6.out.os, HB6.out.tape, HB6.out.output, HB6.out.size, HB6.out.block⟩)
  clear hg hg6 hkh HH5 HFX HPX H8X HLB HBE5 HGR HBX HHX HB HB7' HF HPT HB8 HR4 HRX HR5
  refine start_ (n := 11) (S := fun w' => w'.heap[h]? = some (.cells #[.pointer (some ⟨pm, 0, none⟩), .pointer (some ⟨pf, 0, none⟩), .slice (some ⟨lb, 0, none⟩) 1 cap, .int .i64 (F : Int), .slice A1 n1 c1, .slice none 0 0] 35 (0, 0)) ∧ w'.heap[h8]? = some (.cells #[.int .i64 (s : Int), .int .i64 (plcs s g : Int), .slice A4 0 c4, .int .i64 0, .int .i64 (g : Int)] 66 (0, 0))) (ds := [10]) #[false, false, false, false, false, false, false, false, false, false, false] (by kernel_rfl) rfl rfl ⟨HH6.out, H86.out⟩ (fun hHeld => ?_)
  refine with_tab wmakeF8_tab (fun HT_ => ?_)
  refine pure_ (i := 0) (N := some 63) (v := ?_) (a' := ?_) #[true, false, false, false, false, false, false, false, false, false, false] rfl rfl (any_of HT_.out (by kernel_rfl)) (fun _ _ _ h => h) (Or.inl ⟨by rfl, ?_⟩) ?_ ?_
  rotate_left
  · intro w'
    go_simp
    with_reducible rfl
  rotate_left
  · simp only [ap_]
    rfl
  refine pure_ (i := 1) (N := some 64) (v := ?_) (a' := ?_) #[true, true, false, false, false, false, false, false, false, false, false] rfl rfl (any_of HT_.out (by kernel_rfl)) (fun _ _ _ h => h) (Or.inl ⟨by rfl, ?_⟩) ?_ ?_
  rotate_left
  · intro w'
    go_simp
    with_reducible rfl
  rotate_left
  · simp only [ap_]
    rfl
  refine pure_ (i := 2) (N := some 65) (v := ?_) (a' := ?_) #[true, true, true, false, false, false, false, false, false, false, false] rfl rfl (any_of HT_.out (by kernel_rfl)) (fun _ _ _ h => h) (Or.inl ⟨by rfl, ?_⟩) ?_ ?_
  rotate_left
  · intro w'
    go_simp
    with_reducible rfl
  rotate_left
  · simp only [ap_]
    rfl
  refine pure_ (i := 3) (N := some 66) (v := ?_) (a' := ?_) #[true, true, true, true, false, false, false, false, false, false, false] rfl rfl (any_of HT_.out (by kernel_rfl)) (fun _ _ _ h => h) (Or.inl ⟨by rfl, ?_⟩) ?_ ?_
  rotate_left
  · intro w'
    go_simp
    with_reducible rfl
  rotate_left
  · simp only [ap_]
    rfl
  refine take_ (i := 4) (N := some 67) (v := .slice none 0 0) (a' := ?_) #[true, true, true, true, true, false, false, false, false, false, false] rfl rfl (take_of HT_.out (by kernel_rfl)) (fun _ _ _ h => h) (Or.inl ⟨by rfl, ?_⟩) hHeld ?_ ?_
  · rintro w' ⟨s1, s2⟩
    obtain ⟨q0, q1, q2, q3, q4, q5⟩ := cz6 s1
    go_simp
  rotate_left
  · simp only [ap_]
    rfl
  refine take_ (i := 5) (N := some 68) (v := .agg #[.int .i64 (s : Int), .int .i64 (plcs s g : Int), .slice A4 0 c4, .int .i64 0, .int .i64 (g : Int)]) (a' := ?_) #[true, true, true, true, true, true, false, false, false, false, false] rfl rfl (take_of HT_.out (by kernel_rfl)) (fun _ _ _ h => h) (Or.inl ⟨by rfl, ?_⟩) hHeld ?_ ?_
  · rintro w' ⟨s1, s2⟩
    obtain ⟨y0, y1, y2, y3, y4⟩ := cz5w s2
    go_simp
  rotate_left
  · simp only [ap_]
    rfl
  refine one_ (i := 6) (N := some 69) #[true, true, true, true, true, true, true, false, false, false, false] rfl rfl (one_of HT_.out (by kernel_rfl)) (by decide) (fun K hK => ?_)
  refine event_step (v := .slice (some ⟨w6.drew.heap.size, 0, none⟩) 1 1) (w1 := w6.drew.alloc (.cells #[.int .i64 (s : Int), .int .i64 (plcs s g : Int), .slice A4 0 c4, .int .i64 0, .int .i64 (g : Int)] 66)) (by rfl) ?hr ?_
  (case hr => first | (go_simp; done) | (go_simp; rfl))
  have hga := World.grownBy_alloc w6.drew (.cells #[.int .i64 (s : Int), .int .i64 (plcs s g : Int), .slice A4 0 c4, .int .i64 0, .int .i64 (g : Int)] 66) none
  refine hK.out _ _ ⟨blk_grown hHeld.1 hga, blk_grown hHeld.2 hga⟩ (fun hHeld => ?_)
  clear hK K hga
  refine norm_ (a' := ?_) ?_ ?_
  rotate_left
  · show Act.put _ (some 69) _ = _
    simp only [ap_]
    rfl
  refine one_ (i := 7) (N := some 70) #[true, true, true, true, true, true, true, true, false, false, false] rfl rfl (one_of HT_.out (by kernel_rfl)) (by decide) (fun K hK => ?_)
  refine step_append_cells (w0 := w0) w0.heap.size (by rfl) (.tmp 67) (.tmp 69) 33 66 (.agg #[.int .i64 0, .int .i64 0, .slice none 0 0, .int .i64 0, .int .i64 0]) 5 56 rfl Tryz.underlying33 (by kernel_rfl) rfl (by decide) (by decide) (.slice none 0 0) 0 [] [.int .i64 (s : Int), .int .i64 (plcs s g : Int), .slice A4 0 c4, .int .i64 0, .int .i64 (g : Int)] rfl (by rfl) rfl (by simp [Value.oneCell']) ⟨rfl, .inl ⟨rfl, rfl⟩⟩ HB6.out HB6.out.size (by decide) ?_
  intro v9 w8 hown hb hgr hat
  obtain ⟨lb2, cap2, scs, rfl, hsb, hscs, hstk⟩ := own_slc2 hown
  have HSB := Aside0.mk hsb
  have HSC := Aside0.mk hscs
  have HSK := Aside0.mk hstk
  replace HR6 := Aside0.mk (Kd.R_grown HR6.out hgr (fun k _ e => by have e2 : some k = none := e; cases e2))
  replace HF6 := Aside0.mk (HF6.out.same hgr)
  replace HP6 := Aside0.mk (HP6.out.same hgr)
  replace H86 := Aside0.mk (blk_grown H86.out hgr)
  replace HL6 := Aside0.mk (blk_grown HL6.out hgr)
  replace HH6 := Aside0.mk (blk_grown HH6.out hgr)
  replace HB6 := Aside0.mk hb
  clear hown hb hgr hat hsb hscs hstk
  refine hK.out _ _ ⟨HH6.out, H86.out⟩ (fun hHeld => ?_)
  clear hK K
  refine norm_ (a' := ?_) ?_ ?_
  rotate_left
  · show Act.put _ (some 70) _ = _
    simp only [ap_]
    rfl
  refine pure_ (i := 8) (N := some 71) (v := ?_) (a' := ?_) #[true, true, true, true, true, true, true, true, true, false, false] rfl rfl (any_of HT_.out (by kernel_rfl)) (fun _ _ _ h => h) (Or.inl ⟨by rfl, ?_⟩) ?_ ?_
  rotate_left
  · intro w'
    go_simp
    with_reducible rfl
  rotate_left
  · simp only [ap_]
    rfl
  refine pure_ (i := 9) (N := some 72) (v := ?_) (a' := ?_) #[true, true, true, true, true, true, true, true, true, true, false] rfl rfl (any_of HT_.out (by kernel_rfl)) (fun _ _ _ h => h) (Or.inl ⟨by rfl, ?_⟩) ?_ ?_
  rotate_left
  · intro w'
    go_simp
    with_reducible rfl
  rotate_left
  · simp only [ap_]
    rfl
  refine last_ (i := 10) (N := none) #[true, true, true, true, true, true, true, true, true, true, true] rfl rfl (one_of HT_.out (by kernel_rfl)) (by decide) (fun K hK => ?_)
  obtain ⟨p0, p1, p2, p3, p4, p5⟩ := cz6 HH6.out
  have zf5 := blk_frozen HH6.out 5
  refine skip_ (w1 := (w8.setCell ⟨h, 5, none⟩ (.slice (some ⟨lb2, 0, none⟩) 1 cap2))) (by rfl) rfl ?_ ?_
  · first | (go_simp; done) | (go_simp; rfl)
  refine hK.out _ _ ?_
  clear hK K
  refine done_ (done_of HT_.out (by kernel_rfl)) ?_
  have hg9 := QFramesPlays.grown_cell w8 ⟨h, 5, none⟩ (.slice (some ⟨lb2, 0, none⟩) 1 cap2)
  have hkh : ∀ k, some h = some k → ∃ cs, w8.heap[k]? = some (.cells cs 35 (0, 0)) := fun k e => by cases e; exact ⟨_, HH6.out⟩
  have HF9 := Aside0.mk (HF6.out.kept hg9 (fun e => by have e := Option.some.inj e; subst e; have := HF6.out.row; rw [HH6.out] at this; injection this with this; injection this with _ a; exact absurd a (by decide)) (fun e => by have e := Option.some.inj e; subst e; have := HF6.out.bits; rw [HH6.out] at this; injection this with this; injection this with _ a; exact absurd a (by decide)) (fun k e => by cases e; exact HHB.out))
  have HH9 := Aside0.mk (blk_put HH6.out 5 (.slice (some ⟨lb2, 0, none⟩) 1 cap2) rfl)
  have HP9 := Aside0.mk (HP6.out.kept hg9 HH6.out (by decide) (by decide) HHB.out)
  have HL9 := Aside0.mk (blk_keptW HL6.out hg9 hkh (by decide))
  have HS9 := Aside0.mk (blk_keptW HSC.out hg9 hkh (by decide))
  have HR9 := Aside0.mk (Kd.R_mono (ok' := fun _ => True) (Kd.R_grown (Kd.R_types HR6.out HH6.out (by decide)) hg9 (fun k hk e => hk.2 (Option.some.inj e))) (fun _ _ => trivial))
  have HB9 := Aside0.mk (show Below w0.heap.size w0 (w8.setCell ⟨h, 5, none⟩ (.slice (some ⟨lb2, 0, none⟩) 1 cap2)) from below_set HB6.out HHB.out)
  clear hg9 hkh
  go_wp2
  go_ret
  exact ⟨rfl, pt, lb, lb2, cap, cap2, _, lcs, scs, A4, c4, HH9.out, HL9.out, HCL.out, HS9.out, by simpa using HSK.out, HSB.out, HR9.out, HP9.out, HF9.out⟩
end
end Go.Proofs.YtjnffegjpkbjmaaGreat.Mem
