/- A TSB behind which its memory is 0; what a greater TSB has of a lesser one's entries; frames given back; what Clear leaves of words: plainly. -/
import Derived.Test.YtjnffegjpkbjmaaGreatSwP
import Derived.Test.YtjnffegjpkbjmaaGreatTsO
import Derived.Test.YtjnffegjpkbjmaaGreatMem3
/- merged: YtjnffegjpkbjmaaGreatSw1 -/
namespace Go.Proofs.YtjnffegjpkbjmaaGreat.Mem
open Go.Proofs.YtjnffegjpkbjmaaGreat.QFramesPlays (Fs Fr FrK Took fs_Many fs_new fs_list fs_free took_at setN cnt)
open Go.RowKit Go.Maps Go.Proofs.YtjnffegjpkbjmaaGreatW.PrintWords Go.Proofs.YtjnffegjpkbjmaaGreatW.PrintLast Go.Proofs.YtjnffegjpkbjmaaGreatW.PrintMore Go.Proofs.YtjnffegjpkbjmaaGreat.QTsbPlays Go.Proofs.YtjnffegjpkbjmaaGreat.Pure
set_option linter.unusedSimpArgs false
set_option linter.unusedVariables false
section
set_option maxHeartbeats 2000000
set_option maxRecDepth 100000
theorem below_og {W W1 : World} (h : W.grownBy W1 none) : Below W.heap.size W W1 := ⟨h.os, h.tape, h.output, h.size, fun k hk => h.block k hk (by simp)⟩
theorem frk_split {W W' : World} {p r : Nat} (h : FrK W p r W') (hp : p < W.heap.size) : ∃ W1, W.grownBy W1 (some p) ∧ W1.grownBy W' (some r) := by
  have hp2 : p < W'.heap.size := Nat.lt_of_lt_of_le hp h.size
  refine ⟨{ W with heap := W.heap.set p (W'.heap[p]'hp2) hp }, ⟨rfl, rfl, rfl, by simp, fun k hk hn => ?_⟩, ⟨h.os, h.tape, h.output, by simpa using h.size, fun k hk hn => ?_⟩⟩
  · show (W.heap.set p _ hp)[k]? = _
    rw [Array.getElem?_set]
    exact if_neg (fun e => hn (by rw [e]))
  · show _ = (W.heap.set p _ hp)[k]?
    have hk' : k < W.heap.size := by simpa using hk
    rw [Array.getElem?_set]
    by_cases e : p = k
    · subst e
      rw [if_pos rfl]
      simp [hp2]
    · rw [if_neg e]
      exact h.block k hk' (fun z => e z.symm) (fun z => hn (by rw [z]))
theorem Mem.frk {B : Nat} {w0 W W' : World} {p mb n : Nat} {sz : Int} {D : DataW Unit} {pf rf : Nat} {ts : List Bool} (h : Mem B w0 p mb sz n D W) (hF : Fs B w0 pf rf ts W) (hk : FrK W pf rf W') : Mem B w0 p mb sz n D W' := by
  obtain ⟨W1, h1, h2⟩ := frk_split hk hF.lt
  have e1 : p ≠ pf := by rintro rfl; have := hF.row; rw [h.row] at this; injection this with this; injection this with _ a; exact absurd a (by decide)
  have e2 : p ≠ rf := by rintro rfl; have := hF.bits; rw [h.row] at this; injection this with this; injection this with _ a; exact absurd a (by decide)
  have e3 : mb ≠ pf := Ne.symm (h.nb _ _ _ hF.row)
  have e4 : mb ≠ rf := Ne.symm (h.nb _ _ _ hF.bits)
  have hr := hF.hr
  have hp := hF.hp
  exact (h.kept h1 (fun e => e3 (Option.some.inj e)) (fun e => e1 (Option.some.inj e)) (fun k e => by cases e; omega)).kept h2 (fun e => e4 (Option.some.inj e)) (fun e => e2 (Option.some.inj e)) (fun k e => by cases e; exact hr)
theorem Fs.over {B : Nat} {w0 W W' : World} {p mb n : Nat} {sz : Int} {D : DataW Unit} {pf rf : Nat} {ts : List Bool} (h : Fs B w0 pf rf ts W) (hM : Mem B w0 p mb sz n D W) (hg : W.grownBy W' (some mb)) : Fs B w0 pf rf ts W' := h.kept hg (fun e => hM.nb _ _ _ h.row (Option.some.inj e)) (fun e => hM.nb _ _ _ h.bits (Option.some.inj e)) (fun k e => by cases e; exact hM.hm)
theorem swmake_calls {B : Nat} {w0 W : World} {pm mb n F : Nat} {sz : Int} {D : DataW Unit} {pf rf : Nat} (hM : Mem B w0 pm mb sz n D W) (hF : Fs B w0 pf rf (List.replicate F false) W) (s g : Nat) (hs : s < 4) (hg : g < 4) (hfr : frsW s g ≤ F) (hsz : (16 * plcs s g : Int) ≤ sz) (hz : sz ≤ 2199023255552) (hn : n ≤ 400000) :
    Calls Tryz.prog 27 #[.pointer (some ⟨pm, 0, none⟩), .pointer (some ⟨pf, 0, none⟩), .int .i64 (s : Int), .int .i64 (g : Int)] W fun e W' => ∃ pt W1, e = .returned (.tuple #[.pointer (some ⟨pt, 0, none⟩), .int .i64 0]) ∧ Mem B w0 pm mb sz (n + 2 * plcs s g) (clearD D 0 (List.range (plcs s g))) W' ∧ Fs B w0 pf rf (setN (List.replicate F false) 0 true (frsW s g)) W' ∧ W'.heap[pt]? = some (.cells (TCs pm 0 (plcs s g) s g) 119 (0, 0)) ∧ W.heap.size ≤ pt ∧ FrK W pf rf W1 ∧ W1.grownBy W' (some mb) := by
  have HM := Aside0.mk hM
  have HF := Aside0.mk hF
  have hin := frs_in s g hs hg
  have hpl := plcs_le s g hs hg
  have HPF := Aside0.mk (Pure.pFrames (s : Int) (g : Int))
  have HPL := Aside0.mk (pPlaces s g hs hg)
  have HFA := Aside0.mk (first_all hfr)
  have hfr1 : 1 ≤ frsW s g := hin.1
  generalize frsW s g = fr at hin HPF HFA hfr1 ⊢
  have HNN := Aside0.mk (show 1 ≤ plcs s g ∧ plcs s g ≤ 70000 ∧ (0 : Int) + 16 * (plcs s g : Int) ≤ sz ∧ sz ≤ 2199023255552 ∧ n ≤ 500000 from ⟨hpl.1, by omega, by omega, hz, by omega⟩)
  have hfz : ((fr : Int) == 0) = false := by simpa using (show ¬ fr = 0 by omega)
  clear hM hF hin hpl hs hg hfr hsz hz hn
  go_enter Tryz.func27, Tryz.ntmps27
  go_wp2_with fail
  refine (swap_Frames.calls _ _ _ _ HPF.out).mono ?_
  rintro x0 w1 ⟨rfl, hd⟩
  have hg := drawn_grown hd
  replace HM := Aside0.mk (HM.out.same hg)
  replace HF := Aside0.mk (HF.out.same hg)
  have HK := Aside0.mk (QFramesPlays.FrK.of_grown (p := pf) (r := rf) hg)
  have HSZ := Aside0.mk hg.size
  clear hd hg
  go_wp2_with fail
  refine (fs_Many HF.out fr hfr1).mono ?_
  rintro x0 w2 hT
  obtain ⟨rfl, hF2, hK⟩ := took_at hT HFA.out
  replace HM := Aside0.mk (HM.out.frk HF.out hK)
  replace HSZ := Aside0.mk (Nat.le_trans HSZ.out hK.size)
  replace HK := Aside0.mk (HK.out.trans hK)
  replace HF := Aside0.mk hF2
  clear hT hF2 hK hfz
  go_wp2_with fail
  refine (swap_bytes.calls _ _ swBytes).mono ?_
  rintro x0 w3 ⟨rfl, hd⟩
  have hg := drawn_grown hd
  replace HM := Aside0.mk (HM.out.same hg)
  replace HF := Aside0.mk (HF.out.same hg)
  replace HK := Aside0.mk (HK.out.trans (QFramesPlays.FrK.of_grown hg))
  replace HSZ := Aside0.mk (Nat.le_trans HSZ.out hg.size)
  clear hd hg
  go_wp2_with fail
  refine (tnew_calls (base := 0) HM.out HPL.out HNN.out.1 HNN.out.2.1 (by decide) (by decide) HNN.out.2.2.1 HNN.out.2.2.2.1 HNN.out.2.2.2.2).mono ?_
  rintro x0 w4 ⟨pt, rfl, hM, hr, hpt, hg⟩
  have HF2 := Aside0.mk (Fs.over HF.out HM.out hg)
  go_wp2_with fail
  exact bodyPost_ret (v := .tuple #[.pointer (some ⟨pt, 0, none⟩), .int .i64 0]) (by simp [results, Tryz.f27]) rfl ⟨pt, w3, rfl, hM, HF2.out, hr, Nat.le_trans HSZ.out hpt, HK.out, hg⟩
end
end Go.Proofs.YtjnffegjpkbjmaaGreat.Mem
/- merged: YtjnffegjpkbjmaaGreatSw2 -/
namespace Go.Proofs.YtjnffegjpkbjmaaGreat.Mem
open Go.Proofs.YtjnffegjpkbjmaaGreat.QFramesPlays (Fs Fr FrK Took fs_Many fs_new fs_list fs_free took_at setN cnt)
open Go.RowKit Go.Maps Go.Proofs.YtjnffegjpkbjmaaGreatW.PrintWords Go.Proofs.YtjnffegjpkbjmaaGreatW.PrintLast Go.Proofs.YtjnffegjpkbjmaaGreatW.PrintMore Go.Proofs.YtjnffegjpkbjmaaGreat.QTsbPlays Go.Proofs.YtjnffegjpkbjmaaGreat.Pure
set_option linter.unusedSimpArgs false
set_option linter.unusedVariables false
section
set_option maxHeartbeats 2000000
set_option maxRecDepth 100000
theorem cz2w {W : World} {g : Nat} {t : TypeId} {a0 a1 : Value} (h : W.heap[g]? = some (.cells #[a0, a1] t (0, 0))) : W.cell? ⟨g, 0, none⟩ = some a0 ∧ W.cell? ⟨g, 1, none⟩ = some a1 := ⟨(blk_cell h 0).trans rfl, (blk_cell h 1).trans rfl⟩
theorem swap_frames0 : frsW 0 3 = 8 ∧ frsW 3 0 = 1 ∧ frsW 0 0 = 1 := by decide
theorem lives13 (W : World) : Calls Tryz.prog 16 #[] W fun e W' => e = .returned (.bool true) ∧ W.grownBy W' none := by
  have HG := Aside0.mk (grown_refl W none)
  go_enter Tryz.func16, Tryz.ntmps16
  go_wp2_with fail
  refine (new_calls (below_og HG.out) HG.out.size 81920 (by decide) (by decide)).mono ?_
  rintro x0 w1 ⟨pm, mb, rfl, hM, hg, hmb, hpm⟩
  have HM := Aside0.mk hM
  replace HG := Aside0.mk (grown_two HG.out hg)
  clear hM hg hmb hpm
  go_wp2_with fail
  refine (fs_new (below_og HG.out) HG.out.size 10 10 (by decide)).mono ?_
  rintro x0 w2 ⟨pf, rf, rfl, hF, hrf, hg⟩
  have HF := Aside0.mk hF
  replace HM := Aside0.mk (HM.out.same hg)
  replace HG := Aside0.mk (grown_two HG.out hg)
  clear hF hrf hg
  go_wp2_with fail
  refine (swmake_calls HM.out HF.out 0 0 (by decide) (by decide) (by rw [show frsW ((0 : Nat) : Int) ((0 : Nat) : Int) = 1 from swap_frames0.2.2]; decide) (by decide) (by decide) (by decide)).mono ?_
  rintro x0 w3 ⟨pt, W1, rfl, hM, hF, hr, hpt, hk, hg⟩
  replace HG := Aside0.mk (below_grown hM.below)
  have HF2 := Aside0.mk hF
  clear hM hr hpt hk hg hF HM HF
  go_wp2_with fail
  refine (swap_Frames.calls 0 3 8 _ (by rw [Pure.pFrames, swap_frames0.1]; rfl)).mono ?_
  rintro x0 w4 ⟨rfl, hd⟩
  have hg := drawn_grown hd
  replace HF2 := Aside0.mk (HF2.out.same hg)
  replace HG := Aside0.mk (grown_two HG.out hg)
  clear hd hg
  go_wp2_with fail
  refine (swap_Frames.calls 3 0 1 _ (by rw [Pure.pFrames, swap_frames0.2.1]; rfl)).mono ?_
  rintro x0 w5 ⟨rfl, hd⟩
  have hg := drawn_grown hd
  replace HF2 := Aside0.mk (HF2.out.same hg)
  replace HG := Aside0.mk (grown_two HG.out hg)
  clear hd hg
  go_wp2_with fail
  refine (fs_free HF2.out 9 (by rw [show frsW ((0 : Nat) : Int) ((0 : Nat) : Int) = 1 from swap_frames0.2.2]; decide)).mono ?_
  rintro x0 w6 ⟨rfl, hF, hg⟩
  replace HG := Aside0.mk (grown_two HG.out hg)
  clear hF hg
  go_wp2_with fail
  go_ret
  exact ⟨rfl, HG.out⟩
end
end Go.Proofs.YtjnffegjpkbjmaaGreat.Mem
namespace Go.Proofs.YtjnffegjpkbjmaaGreat.Mem
open Go.Proofs.YtjnffegjpkbjmaaGreat.QFramesPlays (Fs Fr FrK Took fs_Many fs_new fs_list fs_free took_at setN cnt First FreeIn AllIn setN_at setN_len cnt_take cnt_give cnt_new inOf fr_give_in cnt_le)
open Go.RowKit Go.Maps Go.Proofs.YtjnffegjpkbjmaaGreatW.PrintWords Go.Proofs.YtjnffegjpkbjmaaGreatW.PrintLast Go.Proofs.YtjnffegjpkbjmaaGreatW.PrintMore Go.Proofs.YtjnffegjpkbjmaaGreat.QTsbPlays Go.Proofs.YtjnffegjpkbjmaaGreat.Pure
set_option linter.unusedSimpArgs false
set_option linter.unusedVariables false
section
set_option maxHeartbeats 1000000
set_option maxRecDepth 100000
/-- Words at a TSB's places; behind it all is 0. -/
structure HoldsT (D : DataW Unit) (base N s : Nat) (ws : Nat → Wd) : Prop where
  holds : Holds D base N s ws
  good : Good D
  top : ∀ k, (base : Int) / 8 + 2 * N ≤ k → rd D k = 0
theorem Sts.good {lo hi : Int} {D E : DataW Unit} (h : Sts lo hi D E) (h0 : 0 ≤ lo) (h1 : hi ≤ 1152921504606846976) (hG : Good D) : Good E := by
  induction h with
  | refl => exact hG
  | st _ a b hk hv ih => exact good_st ih (by omega) hv
theorem HoldsT.sts {D D' : DataW Unit} {base N s : Nat} {sz : Int} {ws ws' : Nat → Wd} (b : TB base N s sz) (h : HoldsT D base N s ws) (hS : Sts (base / 8) ((base : Int) / 8 + 2 * N) D D') (hD : Holds D' base N s ws') : HoldsT D' base N s ws' :=
  ⟨hD, hS.good (by omega) (by have := b.hsz; have := b.hz; omega) h.good, fun k hk => (hS.out (.inr hk)).trans (h.top k hk)⟩
theorem clearedT {base N s : Nat} {sz : Int} (b : TB base N s sz) {D : DataW Unit} (hG : Good D) (hz : ∀ k, (base : Int) / 8 + 2 * N ≤ k → rd D k = 0) : HoldsT (clearD D base (List.range N)) base N s (fun _ => (BADW, 0)) := by
  have hm : IsMap D := hG.clean.1.isMap
  obtain ⟨h1, h2⟩ := clear_holds b (List.range N) D hm (fun x hx => List.mem_range.1 hx)
  exact ⟨cleared b D hm, h1.good (by omega) (by have := b.hsz; have := b.hz; omega) hG, fun k hk => (h1.out (.inr hk)).trans (hz k hk)⟩
/-- Another TSB's words stay. -/
theorem Holds.out {D D' : DataW Unit} {base N s : Nat} {sz lo hi : Int} {ws : Nat → Wd} (b : TB base N s sz) (h : Holds D base N s ws) (hS : Sts lo hi D D') (hlo : (base : Int) / 8 + 2 * N ≤ lo) : Holds D' base N s ws := by
  have hb := b.hb
  refine ⟨hS.isMap h.map, fun i hi => ?_, fun i hi => ?_, h.lt, h.size⟩
  · rw [hS.out (.inl (by omega)), h.tag i hi]
  · rw [hS.out (.inl (by omega)), h.data i hi]
structure TK (B : Nat) (w0 : World) (p mb pt : Nat) (sz : Int) (base N s : Nat) (grade : Int) (n : Nat) (os : Nat → Option GE) (W : World) : Prop where
  mem : ∃ D, Mem B w0 p mb sz n D W ∧ HoldsT D base N s (WO os)
  row : W.heap[pt]? = some (.cells (TCs p base N s grade) 119 (0, 0))
  ok : OKO N s os
section
variable {B : Nat} {w0 W W' : World} {p mb pt : Nat} {sz : Int} {base N s n : Nat} {grade : Int} {os : Nat → Option GE}
theorem TK.tq (h : TK B w0 p mb pt sz base N s grade n os W) : TQ B w0 p mb pt sz base N s grade n os W := by
  obtain ⟨D, hM, hD⟩ := h.mem
  exact ⟨⟨D, hM, hD.holds⟩, h.row, h.ok⟩
theorem TK.same (h : TK B w0 p mb pt sz base N s grade n os W) (hg : W.grownBy W' none) : TK B w0 p mb pt sz base N s grade n os W' := by
  obtain ⟨D, hM, hD⟩ := h.mem
  exact ⟨⟨D, hM.same hg, hD⟩, blk_grown h.row hg, h.ok⟩
theorem TK.nb (h : TK B w0 p mb pt sz base N s grade n os W) (b : Nat) (cs : Array Value) (t : TypeId) (hb : W.heap[b]? = some (.cells cs t (0, 0))) : b ≠ mb := h.tq.nb b cs t hb
theorem TK.kept {k : Nat} (h : TK B w0 p mb pt sz base N s grade n os W) (hg : W.grownBy W' (some k)) {cs : Array Value} {t : TypeId} (hk : W.heap[k]? = some (.cells cs t (0, 0))) (h1 : t ≠ 119) (h2 : t ≠ 101) (h3 : B ≤ k) : TK B w0 p mb pt sz base N s grade n os W' := by
  have h4 := h.tq.kept hg hk h1 h2 h3
  obtain ⟨D, hM, hD⟩ := h.mem
  have e1 : k ≠ mb := hM.nb k cs t hk
  have e2 : k ≠ p := by rintro rfl; have := hM.row; rw [hk] at this; injection this with this; injection this with _ a; exact h2 a
  exact ⟨⟨D, hM.kept hg (fun e => e1 (Option.some.inj e).symm) (fun e => e2 (Option.some.inj e).symm) (fun j e => by cases e; exact h3), hD⟩, h4.row, h.ok⟩
theorem TK.below0 (h : TK B w0 p mb pt sz base N s grade n os W) : B ≤ W.heap.size := by
  obtain ⟨D, hM, _⟩ := h.mem
  exact hM.hB
theorem k_insert (b : TB base N s sz) (h : TK B w0 p mb pt sz base N s grade n os W) (g : GE) (hg : g.ok) (hs : g.s = s) (hn : n < 900000) :
    Calls Tryz.prog 32 #[.pointer (some ⟨pt, 0, none⟩), .agg (geA g)] W fun e W' => e = .returned (.int .i64 0) ∧ TK B w0 p mb pt sz base N s grade (n + 3) (setO os (plcOf N (s : Int) g.v) (some g)) W' ∧ W.grownBy W' (some mb) := by
  obtain ⟨D, hM, hD⟩ := h.mem
  refine (q_insert b hM hD.holds h.row g hg hs hn).mono ?_
  rintro e W' ⟨rfl, ⟨D', hM', hD', hS⟩, hgr⟩
  have e1 : setW (WO os) (plcOf N (s : Int) g.v) (g.tag, g.data) = WO (setO os (plcOf N (s : Int) g.v) (some g)) := WO_set _ _ (some g)
  rw [e1] at hD'
  exact ⟨rfl, ⟨⟨D', hM', hD.sts b hS hD'⟩, (hgr.block pt (blk_lt h.row) (fun e => h.nb _ _ _ h.row (Option.some.inj e))).trans h.row, h.ok.set (fun g' e => by cases e; exact ⟨hg, hs, rfl⟩)⟩, hgr⟩
end
/-! ### Entries in a greater TSB -/
theorem insL_snoc (N s : Nat) (xs : List GE) (g : GE) (os : Nat → Option GE) : insL N s (xs ++ [g]) os = setO (insL N s xs os) (plcOf N (s : Int) g.v) (some g) := by
  unfold insL
  rw [List.foldl_append]
  rfl
theorem mem_okO {N s : Nat} {os : Nat → Option GE} (h : OKO N s os) {g : GE} (hg : g ∈ listO N os) : g.ok ∧ g.s = s := by
  obtain ⟨i, hi, ho⟩ := List.mem_filterMap.1 hg
  obtain ⟨h1, h2, h3⟩ := h i (List.mem_range.1 hi) g ho
  exact ⟨h1, h2⟩
theorem plcs_dvd {s a b : Nat} (hs : s < 4) (ha : a < 4) (hb : b < 4) (h : a ≤ b) : plcs s b % plcs s a = 0 := by
  have h1 : s = 0 ∨ s = 1 ∨ s = 2 ∨ s = 3 := by omega
  have h2 : a = 0 ∨ a = 1 ∨ a = 2 ∨ a = 3 := by omega
  have h3 : b = 0 ∨ b = 1 ∨ b = 2 ∨ b = 3 := by omega
  rcases h1 with rfl | rfl | rfl | rfl <;> rcases h2 with rfl | rfl | rfl | rfl <;> rcases h3 with rfl | rfl | rfl | rfl <;> first | (exfalso; omega) | decide
theorem list_some {N : Nat} {os : Nat → Option GE} {i : Nat} (hi : i < N) (h : os i = none) (g : GE) : (listO N (setO os i (some g))).length = (listO N os).length + 1 := by
  have e := list_none (os := setO os i (some g)) (i := i) (List.range N) List.nodup_range
  have e2 : setO (setO os i (some g)) i none = os := by
    funext j
    by_cases hj : j = i
    · subst hj; rw [setO_at, h]
    · rw [setO_ne hj, setO_ne hj]
  rw [e2, if_pos (List.mem_range.2 hi), setO_at, if_pos (show (some g).isSome = true from rfl)] at e
  exact e.symm
theorem list_ins (N s : Nat) (h1 : 1 ≤ N) : ∀ (xs : List GE) (os : Nat → Option GE), (xs.map (fun g => plcOf N (s : Int) g.v)).Nodup → (∀ g ∈ xs, os (plcOf N (s : Int) g.v) = none) → (listO N (insL N s xs os)).length = (listO N os).length + xs.length
  | [], os, _, _ => rfl
  | g :: xs, os, hn, h => by
    rw [List.map_cons, List.nodup_cons] at hn
    have ih := list_ins N s h1 xs (setO os (plcOf N (s : Int) g.v) (some g)) hn.2 (fun x hx => by
      rw [setO_ne (fun e => hn.1 (by rw [← e]; exact List.mem_map.2 ⟨x, hx, rfl⟩))]
      exact h x (by simp [hx]))
    show (listO N (insL N s xs (setO os (plcOf N (s : Int) g.v) (some g)))).length = _
    rw [ih, list_some (plcOf_lt h1 _ _) (h g (by simp)) g, List.length_cons]
    omega
theorem moves_nodup {N NO s : Nat} {os : Nat → Option GE} (h : OKO N s os) (hd : NO % N = 0) : ((listO N os).map (fun g => plcOf NO (s : Int) g.v)).Nodup := by
  unfold List.Nodup listO
  rw [List.pairwise_map, List.pairwise_filterMap]
  refine List.Pairwise.imp_of_mem ?_ (List.nodup_range (n := N))
  intro a b ha hb hab g hg g' hg' e
  obtain ⟨_, _, e1⟩ := h a (List.mem_range.1 ha) g hg
  obtain ⟨_, _, e2⟩ := h b (List.mem_range.1 hb) g' hg'
  refine hab ?_
  rw [← e1, ← e2]
  unfold plcOf at e ⊢
  have hdv : N ∣ NO := Nat.dvd_of_mod_eq_zero hd
  rw [← Nat.mod_mod_of_dvd _ hdv, e, Nat.mod_mod_of_dvd _ hdv]
theorem moves_len {N NO s : Nat} {os : Nat → Option GE} (h : OKO N s os) (h2 : 1 ≤ NO) (hd : NO % N = 0) : (listO NO (insL NO s (listO N os) (fun _ => none))).length = (listO N os).length := by
  rw [list_ins NO s h2 _ _ (moves_nodup h hd) (fun _ _ => rfl)]
  have : listO NO (fun _ => (none : Option GE)) = [] := List.filterMap_eq_nil_iff.2 (fun _ _ => rfl)
  rw [this]
  simp
theorem ins_find (N s : Nat) : ∀ (xs : List GE) (os : Nat → Option GE), (xs.map (fun g => plcOf N (s : Int) g.v)).Nodup → ∀ g ∈ xs, insL N s xs os (plcOf N (s : Int) g.v) = some g
  | [], _, _, g, hg => by cases hg
  | x :: xs, os, hn, g, hg => by
    rw [List.map_cons, List.nodup_cons] at hn
    show insL N s xs (setO os (plcOf N (s : Int) x.v) (some x)) (plcOf N (s : Int) g.v) = some g
    rcases List.mem_cons.1 hg with rfl | hg
    · rw [insL_far N s _ xs _ (fun y hy e => hn.1 (by rw [← e]; exact List.mem_map.2 ⟨y, hy, rfl⟩)), setO_at]
    · exact ins_find N s xs _ hn.2 g hg
theorem moves_find {N NO s : Nat} {os : Nat → Option GE} (h : OKO N s os) (hd : NO % N = 0) {g : GE} (hg : g ∈ listO N os) : findO (insL NO s (listO N os) (fun _ => none) (plcOf NO (s : Int) g.v)) g.v g.c = some g := by
  rw [ins_find NO s _ _ (moves_nodup h hd) g hg]
  exact if_pos (hit_self (mem_okO h hg).1)
/-! ### Frames given back -/
/-- Two runs are taken, one behind the other; the first is given back, then the second. -/
theorem frames2 {F a b : Nat} (h1 : 1 ≤ a) (h2 : 1 ≤ b) (h : a + b ≤ F) :
    First (setN (List.replicate F false) 0 true a) b 1 a ∧ AllIn (setN (setN (List.replicate F false) 0 true a) a true b) 0 a ∧ AllIn (setN (setN (setN (List.replicate F false) 0 true a) a true b) 0 false a) a b ∧ cnt (setN (setN (setN (setN (List.replicate F false) 0 true a) a true b) 0 false a) a false b) = F := by
  have l0 : (List.replicate F false).length = F := by simp
  have l1 : (setN (List.replicate F false) 0 true a).length = F := by rw [setN_len, l0]
  have g0 : ∀ i, (List.replicate F false).getD i false = false := fun i => by simp [List.getD, List.getElem?_replicate]; split <;> rfl
  have g1 : ∀ i, (setN (List.replicate F false) 0 true a).getD i false = if 0 ≤ i ∧ i < 0 + a then true else false := fun i => by rw [setN_at _ _ _ _ _ (by rw [l0]; omega), g0]
  have f0 : FreeIn (List.replicate F false) 0 a := fun i hi => ⟨by rw [l0]; omega, g0 _⟩
  have f1 : FreeIn (setN (List.replicate F false) 0 true a) a b := fun i hi => ⟨by rw [l1]; omega, by rw [g1, if_neg (by omega)]⟩
  have l2 : (setN (setN (List.replicate F false) 0 true a) a true b).length = F := by rw [setN_len, l1]
  have g2 : ∀ i, (setN (setN (List.replicate F false) 0 true a) a true b).getD i false = if a ≤ i ∧ i < a + b then true else if 0 ≤ i ∧ i < 0 + a then true else false := fun i => by rw [setN_at _ _ _ _ _ (by rw [l1]; omega), g1]
  have a2 : AllIn (setN (setN (List.replicate F false) 0 true a) a true b) 0 a := fun i hi => by rw [g2, if_neg (by omega), if_pos (by omega)]
  have l3 : (setN (setN (setN (List.replicate F false) 0 true a) a true b) 0 false a).length = F := by rw [setN_len, l2]
  have a3 : AllIn (setN (setN (setN (List.replicate F false) 0 true a) a true b) 0 false a) a b := fun i hi => by
    rw [setN_at _ _ _ _ _ (by rw [l2]; omega), if_neg (by omega), g2, if_pos (by omega)]
  refine ⟨⟨a, by omega, by rw [l1]; omega, f1, fun j hj hf => ?_⟩, a2, a3, ?_⟩
  · obtain ⟨_, e⟩ := hf 0 (by omega)
    rw [g1, if_pos (by omega)] at e
    cases e
  · rw [cnt_give (by rw [l3]; omega) a3, cnt_give (by rw [l2]; omega) a2, cnt_take (by rw [l1]; omega) f1, cnt_take (by rw [l0]; omega) f0, cnt_new]
    omega
/-- Give, where all of them are taken. -/
theorem fs_giveAll {B p r : Nat} {w0 W : World} {ts : List Bool} (h : Fs B w0 p r ts W) (a n : Nat) (hn : 1 ≤ n) (hl : a + n ≤ ts.length) (hA : AllIn ts a n) :
    Calls Tryz.prog 49 #[.pointer (some ⟨p, 0, none⟩), .int .i64 (a : Int), .int .i64 (n : Int)] W fun e W' => e = .returned (.int .i64 0) ∧ Fs B w0 p r (setN ts a false n) W' ∧ FrK W p r W' := by
  have hc := cnt_le ts
  have hlen : ts.length ≤ 65536 := h.len
  refine (fr_give_in h a n hn hl hc.1 (by omega)).mono fun e W' ⟨c, he, h4, h5, hk⟩ => ?_
  obtain ⟨rfl, hf⟩ := h4 hA
  refine ⟨he, ?_, hk⟩
  unfold Fs
  rw [cnt_give hl hA]
  exact hf
/-! ### What Clear leaves -/
theorem rd_bytes {D E : DataW Unit} (hD : ∀ q, (Lit.int .u64 (rd D q)).wf = true) (hE : ∀ q, (Lit.int .u64 (rd E q)).wf = true) {k : Int} (h : ∀ j, 0 ≤ j → j < 8 → byteAt D (8 * k + j) = byteAt E (8 * k + j)) : rd D k = rd E k := by
  have a := u64_b (hD k)
  have b := u64_b (hE k)
  have e : ∀ i : Nat, i < 8 → bt (rd D k) i = bt (rd E k) i := fun i hi => by
    have h1 := h i (by omega) (by omega)
    rw [byte_at_i (x := rd D k) (A := 8 * k) (by omega) hi (by rw [Int.mul_ediv_cancel_left k (by decide)]), byte_at_i (x := rd E k) (A := 8 * k) (by omega) hi (by rw [Int.mul_ediv_cancel_left k (by decide)])] at h1
    exact h1
  have p : ∀ i : Nat, i ≤ 8 → pre (rd D k) i = pre (rd E k) i := by
    intro i
    induction i with
    | zero => intro _; rw [← pre_zero (hD k), ← pre_zero (hE k)]
    | succ i ih =>
      intro hi
      rw [← pre_step (hD k) (by omega), ← pre_step (hE k) (by omega), ih (by omega), e i (by omega)]
  have := p 8 (by omega)
  rw [pre_eight, pre_eight] at this
  exact this
theorem rd_zero {D : DataW Unit} (hD : Good D) {k : Int} (h : ∀ j, 0 ≤ j → j < 8 → byteAt D (8 * k + j) = 0) : rd D k = 0 :=
  (rd_bytes hD.wf (E := .map []) good_empty.wf fun j h0 h1 => by rw [h j h0 h1]; exact (byte_zero rfl).symm).trans rfl
theorem key_of {P : Program} {k : TypeId} {q : IntKind} (hk : P.underlying k = some (.int q)) {v : Value} {kl : Lit} (h : keyOf P k v = some kl) : ∃ z : Int, kl = .int q z := by
  simp only [keyOf, hk] at h
  cases v <;> simp [mapKey, hk] at h
  obtain ⟨_, rfl⟩ := h
  exact ⟨_, rfl⟩
/-- Nothing is left. -/
theorem size_zero {B : Nat} {w0 W : World} {p mb n : Nat} {sz : Int} {D : DataW Unit} (h : Mem B w0 p mb sz n D W) (hG : Good D) (hz : ∀ k, rd D k = 0) : Maps.size D = 0 := by
  obtain ⟨es, clock, hb, F, hs, hD⟩ := h.own
  obtain ⟨L, hL, hpw⟩ := hG.clean.1
  have hkey : ∀ p ∈ L, ∃ z : Int, p.1 = .int .u64 z := fun p hp => by
    have e : L = (es.toList.map (Go.WideElems.rg Tryz.prog 37 (plainElem Tryz.prog 37))).foldr DataW.insert [] := by
      rw [hL] at hD
      injection hD
    rw [e] at hp
    have hp2 := (Go.WideShapes.sorted_perm _).mem_iff.1 hp
    obtain ⟨x, hx, rfl⟩ := List.mem_map.1 hp2
    obtain ⟨y, hy⟩ := F.reads x hx
    rw [Go.WideElems.rg_of hy]
    exact key_of Tryz.underlying37 (Go.WideElems.rd_key hy)
  cases L with
  | nil => rw [hL]; simp [size_eq]
  | cons q L =>
    obtain ⟨z, e⟩ := hkey q (by simp)
    have hh : has D (.int .u64 z) = true := by
      rw [hL, has_eq, List.any_eq_true]
      exact ⟨q, by simp, by rw [e, same_int]; simp⟩
    rw [hG.clean.2 z, hz z] at hh
    cases hh
end
end Go.Proofs.YtjnffegjpkbjmaaGreat.Mem
