/- SwapFrames: how many frames a TSB has; so many are taken, one behind the other. -/
import Derived.Test.YtjnffegjpkbjmaaTsP3
import Derived.Test.YtjnffegjpkbjmaaFr7
import Derived.Test.YtjnffegjpkbjmaaQTsbPlaysx42
import Derived.Test.YtjnffegjpkbjmaaTsT
import Derived.Test.YtjnffegjpkbjmaaTsB
import Derived.Test.YtjnffegjpkbjmaaTsLv
/- merged: Sw3 -/
/- merged: Sw2 -/
/- merged: Sw1 -/
/- merged: SwP -/
set_option linter.unusedVariables false
set_option linter.unusedSimpArgs false
namespace Go.Proofs.Ytjnffegjpkbjmaa.Pure
open Go.RowKit Go.Proofs.Ytjnffegjpkbjmaa.QTsbPlays Go.Proofs.YtjnffegjpkbjmaaW.PrintWords Go.Proofs.YtjnffegjpkbjmaaW.PrintLast Go.Proofs.YtjnffegjpkbjmaaW.PrintMore
open Go.Proofs.Ytjnffegjpkbjmaa.QFramesPlays (setN cnt First FreeIn)
def frsW (s g : Int) : Nat := (16 * plcW s g + 8191) / 8192
theorem swBytes : swap_bytes.f = some 8192 := by decide +kernel
theorem pFrames (s g : Int) : swap_Frames.f s g = some (frsW s g : Int) := by
  unfold swap_Frames.f frsW
  rw [pPlacesA, swBytes]
  have h := plcW_le s g
  generalize plcW s g = p at h
  simp only [Option.bind_some]
  rw [if_neg (by decide)]
  have e1 : wrap64 (16 * (p : Int)) = ((16 * p : Nat) : Int) := by unfold wrap64; omega
  rw [e1]
  have e2 : wrap64 (((16 * p : Nat) : Int) + 8192) = ((16 * p + 8192 : Nat) : Int) := by unfold wrap64; omega
  rw [e2]
  have e3 : wrap64 (((16 * p + 8192 : Nat) : Int) - 1) = ((16 * p + 8191 : Nat) : Int) := by unfold wrap64; omega
  rw [e3, show (8192 : Int) = ((8192 : Nat) : Int) from rfl, ← Int.ofNat_tdiv]
  refine congrArg some ?_
  have : (16 * p + 8191) / 8192 ≤ 100000 := by omega
  unfold wrap64; omega
theorem rFrames_l : ∀ (k : Nat) (n : Int) (c : Nat), -8192 ≤ n → n ≤ 8192 * k → n ≤ 65536 → c + k ≤ 100 → lookasideref13_Frames.l0 (k + 1) n (c : Int) = some ((c : Int) + (if n > 0 then (n + 8191) / 8192 else 0))
  | 0, n, c, h1, h2, h3, h4 => by
    rw [lookasideref13_Frames.l0, if_neg (by omega), if_neg (by omega)]; simp
  | k + 1, n, c, h1, h2, h3, h4 => by
    rw [lookasideref13_Frames.l0]
    by_cases hn : n > 0
    · have e1 : wrap64 (n - 8192) = n - 8192 := by unfold wrap64; omega
      have e2 : wrap64 ((c : Int) + 1) = ((c + 1 : Nat) : Int) := by unfold wrap64; omega
      rw [if_pos hn, if_pos hn, e1, e2, rFrames_l k (n - 8192) (c + 1) (by omega) (by omega) (by omega) (by omega)]
      congr 1
      split <;> omega
    · rw [if_neg hn, if_neg hn]; simp
theorem rFrames (s g : Int) : lookasideref13_Frames.f 40 s g = some (frsW s g : Int) := by
  unfold lookasideref13_Frames.f frsW
  rw [rPlacesA]
  have h := plcW_le s g
  generalize plcW s g = p at h
  have e1 : wrap64 (16 * (p : Int)) = ((16 * p : Nat) : Int) := by unfold wrap64; omega
  rw [Option.bind_some, e1]
  have := rFrames_l 39 ((16 * p : Nat) : Int) 0 (by omega) (by omega) (by omega) (by omega)
  rw [show ((0 : Nat) : Int) = 0 from rfl] at this
  rw [this]
  congr 1
  split <;> omega
theorem plcW_nat (s g : Nat) (hs : s < 4) (hg : g < 4) : plcW (s : Int) (g : Int) = plcs s g := by
  unfold plcW
  rw [if_pos (by unfold okSize; omega)]
  simp
theorem frs_in (s g : Nat) (hs : s < 4) (hg : g < 4) : 1 ≤ frsW s g ∧ frsW s g ≤ 8 ∧ 16 * plcs s g ≤ frsW s g * 8192 ∧ (frsW s g - 1) * 8192 < 16 * plcs s g := by
  unfold frsW
  rw [plcW_nat s g hs hg]
  have := plcs_le s g hs hg
  omega
def upto (n : Nat) : List Int := (List.range n).map (fun i : Nat => (i : Int))
theorem rMany (n : Nat) (h1 : 1 ≤ n) (h2 : n ≤ 8) : lookasideref05_TakeMany.f 40 9 [] (n : Int) = some (9, upto n, 0, 0) := by
  have : n = 1 ∨ n = 2 ∨ n = 3 ∨ n = 4 ∨ n = 5 ∨ n = 6 ∨ n = 7 ∨ n = 8 := by omega
  rcases this with rfl | rfl | rfl | rfl | rfl | rfl | rfl | rfl <;> decide +kernel
theorem rMake (s g : Nat) (hs : s < 4) (hg : g < 4) : lookasideref13_Make.f 40 9 [] (s : Int) (g : Int) = some (9, upto (frsW s g), (s : Int), (plcs s g : Int), [], 0, (g : Int), 0) := by
  obtain ⟨h1, h2, _⟩ := frs_in s g hs hg
  unfold lookasideref13_Make.f
  rw [rFrames, Option.bind_some, if_neg (by omega), rMany _ h1 h2, Option.bind_some]
  simp only
  rw [if_pos trivial]
  unfold lookasideref10_New.f
  rw [rPlaces s g hs hg]
  rfl
theorem pList (n : Nat) (h1 : 1 ≤ n) (h2 : n ≤ 8) : frames_Frames_List.f 40 (setN (List.replicate 9 false) 0 true n) (cnt (setN (List.replicate 9 false) 0 true n)) = some (upto n, cnt (setN (List.replicate 9 false) 0 true n)) := by
  have : n = 1 ∨ n = 2 ∨ n = 3 ∨ n = 4 ∨ n = 5 ∨ n = 6 ∨ n = 7 ∨ n = 8 := by omega
  rcases this with rfl | rfl | rfl | rfl | rfl | rfl | rfl | rfl <;> decide +kernel
theorem first_all {F n : Nat} (h : n ≤ F) : First (List.replicate F false) n 1 0 := ⟨0, rfl, by simpa using h, fun i hi => ⟨by simp; omega, by simp [List.getD, List.getElem?_replicate]; split <;> rfl⟩, fun j hj => absurd hj (Nat.not_lt_zero _)⟩
end Go.Proofs.Ytjnffegjpkbjmaa.Pure
namespace Go.Proofs.Ytjnffegjpkbjmaa.Mem
open Go.Proofs.Ytjnffegjpkbjmaa.QFramesPlays (Fs Fr FrK Took fs_Many fs_new fs_list fs_free took_at setN cnt)
open Go.RowKit Go.Maps Go.Proofs.YtjnffegjpkbjmaaW.PrintWords Go.Proofs.YtjnffegjpkbjmaaW.PrintLast Go.Proofs.YtjnffegjpkbjmaaW.PrintMore Go.Proofs.Ytjnffegjpkbjmaa.QTsbPlays Go.Proofs.Ytjnffegjpkbjmaa.Pure
set_option linter.unusedSimpArgs false
set_option linter.unusedVariables false
section
set_option maxHeartbeats 2000000
set_option maxRecDepth 100000
theorem below_og {W W1 : World} (h : W.grownBy W1 none) : Below W.heap.size W W1 := ⟨h.os, h.tape, h.output, h.size, fun k hk => h.block k hk (by simp)⟩
theorem frk_split {W W' : World} {p r : Nat} (h : FrK W p r W') (hp : p < W.heap.size) : ∃ W1, W.grownBy W1 (some p) ∧ W1.grownBy W' (some r) := by
  have hp2 : p < W'.heap.size := Nat.lt_of_lt_of_le hp h.size
  refine ⟨{ W with heap := W.heap.set p (W'.heap[p]'hp2) hp }, ⟨rfl, rfl, rfl, by simp, fun k hk hn => ?_⟩, ⟨h.os, h.tape, h.output, by simpa using h.size, fun k hk hn => ?_⟩⟩
  · show (W.heap.set p _ hp)[k]? = _
    rw [Array.getElem?_set]
    exact if_neg (fun e => hn (by rw [e]))
  · show _ = (W.heap.set p _ hp)[k]?
    have hk' : k < W.heap.size := by simpa using hk
    rw [Array.getElem?_set]
    by_cases e : p = k
    · subst e
      rw [if_pos rfl]
      simp [hp2]
    · rw [if_neg e]
      exact h.block k hk' (fun z => e z.symm) (fun z => hn (by rw [z]))
theorem Mem.frk {B : Nat} {w0 W W' : World} {p mb n : Nat} {sz : Int} {D : DataW Unit} {pf rf : Nat} {ts : List Bool} (h : Mem B w0 p mb sz n D W) (hF : Fs B w0 pf rf ts W) (hk : FrK W pf rf W') : Mem B w0 p mb sz n D W' := by
  obtain ⟨W1, h1, h2⟩ := frk_split hk hF.lt
  have e1 : p ≠ pf := by rintro rfl; have := hF.row; rw [h.row] at this; injection this with this; injection this with _ a; exact absurd a (by decide)
  have e2 : p ≠ rf := by rintro rfl; have := hF.bits; rw [h.row] at this; injection this with this; injection this with _ a; exact absurd a (by decide)
  have e3 : mb ≠ pf := Ne.symm (h.nb _ _ _ hF.row)
  have e4 : mb ≠ rf := Ne.symm (h.nb _ _ _ hF.bits)
  have hr := hF.hr
  have hp := hF.hp
  exact (h.kept h1 (fun e => e3 (Option.some.inj e)) (fun e => e1 (Option.some.inj e)) (fun k e => by cases e; omega)).kept h2 (fun e => e4 (Option.some.inj e)) (fun e => e2 (Option.some.inj e)) (fun k e => by cases e; exact hr)
theorem Fs.over {B : Nat} {w0 W W' : World} {p mb n : Nat} {sz : Int} {D : DataW Unit} {pf rf : Nat} {ts : List Bool} (h : Fs B w0 pf rf ts W) (hM : Mem B w0 p mb sz n D W) (hg : W.grownBy W' (some mb)) : Fs B w0 pf rf ts W' := h.kept hg (fun e => hM.nb _ _ _ h.row (Option.some.inj e)) (fun e => hM.nb _ _ _ h.bits (Option.some.inj e)) (fun k e => by cases e; exact hM.hm)
theorem swmake_calls {B : Nat} {w0 W : World} {pm mb n F : Nat} {sz : Int} {D : DataW Unit} {pf rf : Nat} (hM : Mem B w0 pm mb sz n D W) (hF : Fs B w0 pf rf (List.replicate F false) W) (s g : Nat) (hs : s < 4) (hg : g < 4) (hfr : frsW s g ≤ F) (hsz : (16 * plcs s g : Int) ≤ sz) (hz : sz ≤ 2199023255552) (hn : n ≤ 400000) :
    Calls Try.prog 52 #[.pointer (some ⟨pm, 0, none⟩), .pointer (some ⟨pf, 0, none⟩), .int .i64 (s : Int), .int .i64 (g : Int)] W fun e W' => ∃ pt D' W1, e = .returned (.tuple #[.pointer (some ⟨pt, 0, none⟩), .int .i64 0]) ∧ Mem B w0 pm mb sz (n + 2 * plcs s g) D' W' ∧ Fs B w0 pf rf (setN (List.replicate F false) 0 true (frsW s g)) W' ∧ W'.heap[pt]? = some (.cells (TCs pm 0 (plcs s g) s g) 95 (0, 0)) ∧ W.heap.size ≤ pt ∧ FrK W pf rf W1 ∧ W1.grownBy W' (some mb) := by
  have HM := Aside0.mk hM
  have HF := Aside0.mk hF
  have hin := frs_in s g hs hg
  have hpl := plcs_le s g hs hg
  have HPF := Aside0.mk (Pure.pFrames (s : Int) (g : Int))
  have HPL := Aside0.mk (pPlaces s g hs hg)
  have HFA := Aside0.mk (first_all hfr)
  have hfr1 : 1 ≤ frsW s g := hin.1
  generalize frsW s g = fr at hin HPF HFA hfr1 ⊢
  have HNN := Aside0.mk (show 1 ≤ plcs s g ∧ plcs s g ≤ 70000 ∧ (0 : Int) + 16 * (plcs s g : Int) ≤ sz ∧ sz ≤ 2199023255552 ∧ n ≤ 500000 from ⟨hpl.1, by omega, by omega, hz, by omega⟩)
  have hfz : ((fr : Int) == 0) = false := by simpa using (show ¬ fr = 0 by omega)
  clear hM hF hin hpl hs hg hfr hsz hz hn
  go_enter Try.func52, Try.ntmps52
  go_wp2_with fail
  refine (swap_Frames.calls _ _ _ _ HPF.out).mono ?_
  rintro x0 w1 ⟨rfl, hd⟩
  have hg := drawn_grown hd
  replace HM := Aside0.mk (HM.out.same hg)
  replace HF := Aside0.mk (HF.out.same hg)
  have HK := Aside0.mk (QFramesPlays.FrK.of_grown (p := pf) (r := rf) hg)
  have HSZ := Aside0.mk hg.size
  clear hd hg
  go_wp2_with fail
  refine (fs_Many HF.out fr hfr1).mono ?_
  rintro x0 w2 hT
  obtain ⟨rfl, hF2, hK⟩ := took_at hT HFA.out
  replace HM := Aside0.mk (HM.out.frk HF.out hK)
  replace HSZ := Aside0.mk (Nat.le_trans HSZ.out hK.size)
  replace HK := Aside0.mk (HK.out.trans hK)
  replace HF := Aside0.mk hF2
  clear hT hF2 hK hfz
  go_wp2_with fail
  refine (swap_bytes.calls _ _ swBytes).mono ?_
  rintro x0 w3 ⟨rfl, hd⟩
  have hg := drawn_grown hd
  replace HM := Aside0.mk (HM.out.same hg)
  replace HF := Aside0.mk (HF.out.same hg)
  replace HK := Aside0.mk (HK.out.trans (QFramesPlays.FrK.of_grown hg))
  replace HSZ := Aside0.mk (Nat.le_trans HSZ.out hg.size)
  clear hd hg
  go_wp2_with fail
  refine (tnew_calls (base := 0) HM.out HPL.out HNN.out.1 HNN.out.2.1 (by decide) (by decide) HNN.out.2.2.1 HNN.out.2.2.2.1 HNN.out.2.2.2.2).mono ?_
  rintro x0 w4 ⟨pt, rfl, hM, hr, hpt, hg⟩
  have HF2 := Aside0.mk (Fs.over HF.out HM.out hg)
  go_wp2_with fail
  exact bodyPost_ret (v := .tuple #[.pointer (some ⟨pt, 0, none⟩), .int .i64 0]) (by simp [results, Try.f52]) rfl ⟨pt, _, w3, rfl, hM, HF2.out, hr, Nat.le_trans HSZ.out hpt, HK.out, hg⟩
end
end Go.Proofs.Ytjnffegjpkbjmaa.Mem
namespace Go.Proofs.Ytjnffegjpkbjmaa.Mem
open Go.Proofs.Ytjnffegjpkbjmaa.QFramesPlays (Fs Fr FrK Took fs_Many fs_new fs_list fs_free took_at setN cnt)
open Go.RowKit Go.Maps Go.Proofs.YtjnffegjpkbjmaaW.PrintWords Go.Proofs.YtjnffegjpkbjmaaW.PrintLast Go.Proofs.YtjnffegjpkbjmaaW.PrintMore Go.Proofs.Ytjnffegjpkbjmaa.QTsbPlays Go.Proofs.Ytjnffegjpkbjmaa.Pure
set_option linter.unusedSimpArgs false
set_option linter.unusedVariables false
section
set_option maxHeartbeats 2000000
set_option maxRecDepth 100000
theorem cz2w {W : World} {g : Nat} {t : TypeId} {a0 a1 : Value} (h : W.heap[g]? = some (.cells #[a0, a1] t (0, 0))) : W.cell? ⟨g, 0, none⟩ = some a0 ∧ W.cell? ⟨g, 1, none⟩ = some a1 := ⟨(blk_cell h 0).trans rfl, (blk_cell h 1).trans rfl⟩
theorem rnew05 (W : World) : Calls Try.prog 50 #[.int .i64 9] W fun e W' => e = .returned (.agg #[.int .i64 9, .slice none 0 0]) ∧ W.grownBy W' none := by
  have HG := Aside0.mk (grown_refl W none)
  have hu := Try.underlying31
  go_enter Try.func50, Try.ntmps50
  go_wp2_with fail
  obtain ⟨q0, q1⟩ := cz2w (heap_alloc_new W (.cells #[.int .i64 9, .slice none 0 0] 31))
  exact bodyPost_ret (v := .agg #[.int .i64 9, .slice none 0 0]) (by simp [results, Try.f50, go_sem, q0, q1]) rfl ⟨rfl, World.grownBy_alloc _ _ none⟩
theorem begin13_calls (W : World) :
    Calls Try.prog 14 #[.int .i64 9] W fun e W' => ∃ h pm mb pf rf, e = .returned (.pointer (some ⟨h, 0, none⟩)) ∧ W'.heap[h]? = some (.cells #[.pointer (some ⟨pm, 0, none⟩), .pointer (some ⟨pf, 0, none⟩), .slice none 0 0, .int .i64 9, .slice none 0 0, .slice none 0 0] 34 (0, 0)) ∧ Mem W.heap.size W pm mb 73728 0 (.map []) W' ∧ Fs W.heap.size W pf rf (List.replicate 9 false) W' ∧ W.heap.size ≤ h ∧ W.grownBy W' none := by
  have HG := Aside0.mk (grown_refl W none)
  go_enter Try.func14, Try.ntmps14
  go_wp2_with fail
  refine (new_calls (below_og HG.out) HG.out.size 73728 (by decide) (by decide)).mono ?_
  rintro x0 w1 ⟨pm, mb, rfl, hM, hg, hmb, hpm⟩
  have HM := Aside0.mk hM
  replace HG := Aside0.mk (grown_two HG.out hg)
  clear hM hg hmb hpm
  go_wp2_with fail
  refine (fs_new (below_og HG.out) HG.out.size 9 9 (by decide)).mono ?_
  rintro x0 w2 ⟨pf, rf, rfl, hF, hrf, hg⟩
  have HF := Aside0.mk hF
  replace HM := Aside0.mk (HM.out.same hg)
  replace HG := Aside0.mk (grown_two HG.out hg)
  clear hF hrf hg
  go_wp2_with fail
  refine (rnew05 _).mono ?_
  rintro x0 w3 ⟨rfl, hg⟩
  have hgc := World.grownBy_alloc w3 (.cells #[.pointer (some ⟨pm, 0, none⟩), .pointer (some ⟨pf, 0, none⟩), .slice none 0 0, .int .i64 9, .slice none 0 0, .slice none 0 0] 34) none
  have hM := (HM.out.same hg).same hgc
  have hF := (HF.out.same hg).same hgc
  have hh := heap_alloc_new w3 (.cells #[.pointer (some ⟨pm, 0, none⟩), .pointer (some ⟨pf, 0, none⟩), .slice none 0 0, .int .i64 9, .slice none 0 0, .slice none 0 0] 34)
  have hG := grown_two (grown_two HG.out hg) hgc
  have hS := Nat.le_trans HG.out.size hg.size
  go_wp2_with fail
  go_ret
  exact ⟨w3.heap.size, pm, mb, pf, rf, rfl, hh, hM, hF, hS, hG⟩
theorem swap_frames0 : frsW 0 3 = 8 ∧ frsW 3 0 = 1 ∧ frsW 0 0 = 1 := by decide
theorem lives13 (W : World) : Calls Try.prog 19 #[] W fun e W' => e = .returned (.bool true) ∧ W.grownBy W' none := by
  have HG := Aside0.mk (grown_refl W none)
  go_enter Try.func19, Try.ntmps19
  go_wp2_with fail
  refine (new_calls (below_og HG.out) HG.out.size 81920 (by decide) (by decide)).mono ?_
  rintro x0 w1 ⟨pm, mb, rfl, hM, hg, hmb, hpm⟩
  have HM := Aside0.mk hM
  replace HG := Aside0.mk (grown_two HG.out hg)
  clear hM hg hmb hpm
  go_wp2_with fail
  refine (fs_new (below_og HG.out) HG.out.size 10 10 (by decide)).mono ?_
  rintro x0 w2 ⟨pf, rf, rfl, hF, hrf, hg⟩
  have HF := Aside0.mk hF
  replace HM := Aside0.mk (HM.out.same hg)
  replace HG := Aside0.mk (grown_two HG.out hg)
  clear hF hrf hg
  go_wp2_with fail
  refine (swmake_calls HM.out HF.out 0 0 (by decide) (by decide) (by rw [show frsW ((0 : Nat) : Int) ((0 : Nat) : Int) = 1 from swap_frames0.2.2]; decide) (by decide) (by decide) (by decide)).mono ?_
  rintro x0 w3 ⟨pt, D', W1, rfl, hM, hF, hr, hpt, hk, hg⟩
  replace HG := Aside0.mk (below_grown hM.below)
  have HF2 := Aside0.mk hF
  clear hM hr hpt hk hg hF HM HF
  go_wp2_with fail
  refine (swap_Frames.calls 0 3 8 _ (by rw [Pure.pFrames, swap_frames0.1]; rfl)).mono ?_
  rintro x0 w4 ⟨rfl, hd⟩
  have hg := drawn_grown hd
  replace HF2 := Aside0.mk (HF2.out.same hg)
  replace HG := Aside0.mk (grown_two HG.out hg)
  clear hd hg
  go_wp2_with fail
  refine (swap_Frames.calls 3 0 1 _ (by rw [Pure.pFrames, swap_frames0.2.1]; rfl)).mono ?_
  rintro x0 w5 ⟨rfl, hd⟩
  have hg := drawn_grown hd
  replace HF2 := Aside0.mk (HF2.out.same hg)
  replace HG := Aside0.mk (grown_two HG.out hg)
  clear hd hg
  go_wp2_with fail
  refine (fs_free HF2.out 9 (by rw [show frsW ((0 : Nat) : Int) ((0 : Nat) : Int) = 1 from swap_frames0.2.2]; decide)).mono ?_
  rintro x0 w6 ⟨rfl, hF, hg⟩
  replace HG := Aside0.mk (grown_two HG.out hg)
  clear hF hg
  go_wp2_with fail
  go_ret
  exact ⟨rfl, HG.out⟩
end
end Go.Proofs.Ytjnffegjpkbjmaa.Mem
namespace Go.Proofs.Ytjnffegjpkbjmaa.Mem
open Go.Proofs.Ytjnffegjpkbjmaa.QFramesPlays (Fs Fr FrK Took fs_Many fs_new fs_list fs_free took_at setN cnt)
open Go.RowKit Go.Maps Go.Proofs.YtjnffegjpkbjmaaW.PrintWords Go.Proofs.YtjnffegjpkbjmaaW.PrintLast Go.Proofs.YtjnffegjpkbjmaaW.PrintMore Go.Proofs.Ytjnffegjpkbjmaa.QTsbPlays Go.Proofs.Ytjnffegjpkbjmaa.Pure
set_option linter.unusedSimpArgs false
set_option linter.unusedVariables false
section
set_option maxHeartbeats 2000000
set_option maxRecDepth 100000
theorem cz6 {W : World} {g : Nat} {t : TypeId} {a0 a1 a2 a3 a4 a5 : Value} (h : W.heap[g]? = some (.cells #[a0, a1, a2, a3, a4, a5] t (0, 0))) : W.cell? ⟨g, 0, none⟩ = some a0 ∧ W.cell? ⟨g, 1, none⟩ = some a1 ∧ W.cell? ⟨g, 2, none⟩ = some a2 ∧ W.cell? ⟨g, 3, none⟩ = some a3 ∧ W.cell? ⟨g, 4, none⟩ = some a4 ∧ W.cell? ⟨g, 5, none⟩ = some a5 := ⟨(blk_cell h 0).trans rfl, (blk_cell h 1).trans rfl, (blk_cell h 2).trans rfl, (blk_cell h 3).trans rfl, (blk_cell h 4).trans rfl, (blk_cell h 5).trans rfl⟩
theorem cz5w {W : World} {g : Nat} {t : TypeId} {a0 a1 a2 a3 a4 : Value} (h : W.heap[g]? = some (.cells #[a0, a1, a2, a3, a4] t (0, 0))) : W.cell? ⟨g, 0, none⟩ = some a0 ∧ W.cell? ⟨g, 1, none⟩ = some a1 ∧ W.cell? ⟨g, 2, none⟩ = some a2 ∧ W.cell? ⟨g, 3, none⟩ = some a3 ∧ W.cell? ⟨g, 4, none⟩ = some a4 := ⟨(blk_cell h 0).trans rfl, (blk_cell h 1).trans rfl, (blk_cell h 2).trans rfl, (blk_cell h 3).trans rfl, (blk_cell h 4).trans rfl⟩
theorem blk_make {B g' mb pm n pf rf : Nat} {w0 W W1 W' : World} {sz : Int} {D : DataW Unit} {ts : List Bool} {cs : Array Value} {t : TypeId} (hb : W.heap[g']? = some (.cells cs t (0, 0))) (h1 : t ≠ 93) (h2 : t ≠ 4) (hM : Mem B w0 pm mb sz n D W) (hF : Fs B w0 pf rf ts W) (hk : FrK W pf rf W1) (hg : W1.grownBy W' (some mb)) : W'.heap[g']? = some (.cells cs t (0, 0)) := by
  have e1 : g' ≠ pf := by rintro rfl; have := hF.row; rw [hb] at this; injection this with this; injection this with _ a; exact h1 a
  have e2 : g' ≠ rf := by rintro rfl; have := hF.bits; rw [hb] at this; injection this with this; injection this with _ a; exact h2 a
  have hb1 := (hk.block g' (blk_lt hb) e1 e2).trans hb
  exact (hg.block g' (blk_lt hb1) (fun e => hM.nb _ _ _ hb (Option.some.inj e))).trans hb1
theorem blk_keptW {W W' : World} {o : Option Nat} {g : Nat} {cs : Array Value} {t t' : TypeId} (hb : W.heap[g]? = some (.cells cs t' (0, 0))) (hg : W.grownBy W' o) (hk : ∀ k, o = some k → ∃ cs, W.heap[k]? = some (.cells cs t (0, 0))) (ht : t ≠ t') : W'.heap[g]? = some (.cells cs t' (0, 0)) :=
  (hg.block g (blk_lt hb) (fun e => by obtain ⟨cs2, hc⟩ := hk g e.symm; rw [hb] at hc; injection hc with hc; injection hc with _ a; exact ht a.symm)).trans hb
theorem own_slc {w : World} {base e k n : Nat} {v : Value} {xs : List Value} (h : w.ownsRow base e k v (n + 1) xs) : ∃ lb cap, v = .slice (some ⟨lb, 0, none⟩) (n + 1) cap := by
  rcases h.2 with ⟨_, h0⟩ | ⟨g, cap, cur, rfl, _⟩
  · cases h0
  · exact ⟨g, cap, rfl⟩
theorem own_one {w : World} {base e : Nat} {v x : Value} (h : w.ownsRow base e 1 v (0 + 1) ([] ++ [x])) : ∃ lb cap, v = .slice (some ⟨lb, 0, none⟩) 1 cap ∧ ∃ cs, w.heap[lb]? = some (.cells cs e (0, 0)) ∧ cs[0]? = some x := by
  rcases h.2 with ⟨_, h0⟩ | ⟨g, cap, cur, rfl, hb, hc, _, _, hs, ht⟩
  · cases h0
  · refine ⟨g, cap, rfl, cur, hc, ?_⟩
    have := congrArg (fun l => l[0]?) ht
    simpa using this
noncomputable def wmake8_T : Bool × List (List Nat × List Nat) := rtab .any (opsOf Try.f15 8)
theorem wmake8_tab : rtab .any (opsOf Try.f15 8) = wmake8_T := rfl
noncomputable def wmake2_T : Bool × List (List Nat × List Nat) := rtab .any (opsOf Try.f15 2)
theorem wmake2_tab : rtab .any (opsOf Try.f15 2) = wmake2_T := rfl
theorem wmake_calls {w0 W : World} {h pm mb n : Nat} {D : DataW Unit} {pf rf : Nat} (hM : Mem w0.heap.size w0 pm mb 73728 n D W) (hF : Fs w0.heap.size w0 pf rf (List.replicate 9 false) W) (hh : W.heap[h]? = some (.cells #[.pointer (some ⟨pm, 0, none⟩), .pointer (some ⟨pf, 0, none⟩), .slice none 0 0, .int .i64 9, .slice none 0 0, .slice none 0 0] 34 (0, 0))) (hhb : w0.heap.size ≤ h) (s g : Nat) (hs : s < 4) (hg : g < 4) (hn : n ≤ 300000) :
    Calls Try.prog 15 #[.pointer (some ⟨h, 0, none⟩), .int .i64 (s : Int), .int .i64 (g : Int)] W fun e W' => e = .returned (.bool true) ∧ ∃ pt lb cap v3 v5, W'.heap[h]? = some (.cells #[.pointer (some ⟨pm, 0, none⟩), .pointer (some ⟨pf, 0, none⟩), .slice (some ⟨lb, 0, none⟩) 1 cap, .int .i64 9, v3, v5] 34 (0, 0)) ∧ W'.cell? ⟨lb, 0, none⟩ = some (.pointer (some ⟨pt, 0, none⟩)) ∧ W'.heap[pt]? = some (.cells (TCs pm 0 (plcs s g) s g) 95 (0, 0)) ∧ Fs w0.heap.size w0 pf rf (setN (List.replicate 9 false) 0 true (frsW s g)) W' ∧ Below w0.heap.size w0 W' := by
  have hu := Try.underlying31
  have hu2 := Try.underlying87
  have hu3 := Try.underlying34
  have HM := Aside0.mk hM
  have HF := Aside0.mk hF
  have HB := Aside0.mk hh
  have HHB := Aside0.mk hhb
  have HSG := Aside0.mk (show s < 4 ∧ g < 4 ∧ n ≤ 300000 from ⟨hs, hg, hn⟩)
  have HMK := Aside0.mk (rMake s g hs hg)
  have HBW := Aside0.mk hM.below
  have HFR := Aside0.mk (show frsW (s : Int) (g : Int) ≤ 9 ∧ (16 * plcs s g : Int) ≤ 73728 by have h1 := frs_in s g hs hg; have h2 := plcs_le s g hs hg; omega)
  clear hM hF hh hhb hs hg hn
  obtain ⟨q0, q1, q2, q3, q4, q5⟩ := cz6 HB.out
  go_enter Try.func15, Try.ntmps15
  go_wp2_with fail
  refine (lookasideref13_Make.calls 40 9 (fun _ => False) (.slice none 0 0) [] _ _ _ _ _ _ _ _ _ _ w0 W HBW.out (Kd.R_nil _ _ _ _ _) HMK.out).mono ?_
  rintro x0 w1 ⟨v1, v4, rfl, hV, hR4, hB1, hK1⟩
  have hg : W.grownBy w1 none := ⟨hB1.os.trans HBW.out.os.symm, hB1.tape.trans HBW.out.tape.symm, hB1.output.trans HBW.out.output.symm, hK1.1, fun k hk _ => hK1.2 k hk (fun h => h)⟩
  replace HM := Aside0.mk (HM.out.same hg)
  replace HF := Aside0.mk (HF.out.same hg)
  replace HB := Aside0.mk (blk_grown HB.out hg)
  obtain ⟨A4, c4, rfl⟩ := Kd.R_slice hR4
  obtain ⟨A1, c1, rfl⟩ := Kd.V_slice hV
  generalize (upto (frsW (s : Int) (g : Int))).length = n1
  clear hV hR4 hB1 hK1 hg q0 q1 q2 q3 q4 q5
  have HB0L := Aside0.mk (blk_lt HB.out)
  have hga := World.grownBy_alloc w1 (.cells #[.int .i64 0, .slice none 0 0] 31) none
  have hgb := World.grownBy_alloc (w1.alloc (.cells #[.int .i64 0, .slice none 0 0] 31)) (.cells #[.int .i64 0, .int .i64 0, .slice none 0 0, .int .i64 0, .int .i64 0] 87) none
  have hb7 := heap_alloc_new w1 (.cells #[.int .i64 0, .slice none 0 0] 31)
  have HB8 := Aside0.mk (heap_alloc_new (w1.alloc (.cells #[.int .i64 0, .slice none 0 0] 31)) (.cells #[.int .i64 0, .int .i64 0, .slice none 0 0, .int .i64 0, .int .i64 0] 87))
  have hz : (w1.alloc (.cells #[.int .i64 0, .slice none 0 0] 31)).heap.size = w1.heap.size + 1 := by simp only [World.size_alloc]
  rw [hz] at HB8
  have HB7 := Aside0.mk (blk_grown hb7 hgb)
  have HG1 := Aside0.mk (grown_two hga hgb)
  clear hga hgb hb7 hz
  go_upto_region 2 with (first | ((with_reducible refine gate_store (t := 31) (p := 7) rfl ?_); refine wpList_store_row rfl 31 (.tmp 7) (.tmp 20) rfl w1.heap.size #[.int .i64 9, .slice A1 n1 c1] rfl rfl 31 _ HB7.out (by kernel_rfl) rfl (by kernel_rfl) ?_; have SHB7 := Aside0.mk (setRow_heap _ w1.heap.size _ #[.int .i64 9, .slice A1 n1 c1] _ _ HB7.out); have THB7 := Aside0.mk (grown_row ((w1.alloc (.cells #[.int .i64 0, .slice none 0 0] 31)).alloc (.cells #[.int .i64 0, .int .i64 0, .slice none 0 0, .int .i64 0, .int .i64 0] 87)) w1.heap.size #[.int .i64 9, .slice A1 n1 c1]); have HB8b := Aside0.mk ((THB7.out.block _ (blk_lt HB8.out) (fun e => by have := Option.some.inj e; omega)).trans HB8.out)) | ((with_reducible refine gate_store (t := 87) (p := 8) rfl ?_); refine wpList_store_row rfl 87 (.tmp 8) (.tmp 21) rfl (w1.heap.size + 1) #[.int .i64 (s : Int), .int .i64 (plcs s g : Int), .slice A4 0 c4, .int .i64 0, .int .i64 (g : Int)] rfl rfl 87 _ HB8b.out (by kernel_rfl) rfl (by kernel_rfl) ?_; have SHB8b := Aside0.mk (setRow_heap _ (w1.heap.size + 1) _ #[.int .i64 (s : Int), .int .i64 (plcs s g : Int), .slice A4 0 c4, .int .i64 0, .int .i64 (g : Int)] _ _ HB8b.out); have THB8b := Aside0.mk (grown_row (World.setRow ((w1.alloc (.cells #[.int .i64 0, .slice none 0 0] 31)).alloc (.cells #[.int .i64 0, .int .i64 0, .slice none 0 0, .int .i64 0, .int .i64 0] 87)) w1.heap.size #[.int .i64 9, .slice A1 n1 c1]) (w1.heap.size + 1) #[.int .i64 (s : Int), .int .i64 (plcs s g : Int), .slice A4 0 c4, .int .i64 0, .int .i64 (g : Int)])))
  have hg := grown_loc (grown_loc HG1.out THB7.out (Nat.le_refl _)) THB8b.out (Nat.le_succ _)
  replace HM := Aside0.mk (HM.out.same hg)
  replace HF := Aside0.mk (HF.out.same hg)
  replace HB := Aside0.mk (blk_grown HB.out hg)
  have HN8 := Aside0.mk (show h < w1.heap.size + 1 from Nat.lt_succ_of_lt (by have := HB0L.out; exact this))
  replace HB8 := Aside0.mk SHB8b.out
  have HB7' := Aside0.mk ((THB8b.out.block w1.heap.size (blk_lt SHB7.out) (fun e => by have := Option.some.inj e; omega)).trans SHB7.out)
  clear HB7 HG1 SHB7 SHB8b HB8b THB8b THB7 hg
  generalize (World.setRow (World.setRow ((w1.alloc (.cells #[.int .i64 0, .slice none 0 0] 31)).alloc (.cells #[.int .i64 0, .int .i64 0, .slice none 0 0, .int .i64 0, .int .i64 0] 87)) w1.heap.size #[.int .i64 9, .slice A1 n1 c1]) (w1.heap.size + 1) #[.int .i64 (s : Int), .int .i64 (plcs s g : Int), .slice A4 0 c4, .int .i64 0, .int .i64 (g : Int)]) = w4 at HM HF HB HB7' HB8 ⊢
  generalize w1.heap.size + 1 = h8 at HB8 HN8 ⊢
  generalize w1.heap.size = h7 at HB7' ⊢
  have hg := grown_drew w4 none
  replace HM := Aside0.mk (HM.out.same hg)
  replace HF := Aside0.mk (HF.out.same hg)
  replace HB := Aside0.mk (blk_grown HB.out hg)
  replace HB7' := Aside0.mk (blk_grown HB7'.out hg)
  replace HB8 := Aside0.mk (blk_grown HB8.out hg)
  clear hg
  refine start_ (n := 16) (S := fun w' => w'.heap[h]? = some (.cells #[.pointer (some ⟨pm, 0, none⟩), .pointer (some ⟨pf, 0, none⟩), .slice none 0 0, .int .i64 9, .slice none 0 0, .slice none 0 0] 34 (0, 0))) (ds := []) #[false, false, false, false, false, false, false, false, false, false, false, false, false, false, false, false] (by kernel_rfl) rfl rfl HB.out (fun hHeld => ?_)
  refine with_tab wmake2_tab (fun HT_ => ?_)
  refine pure_ (i := 0) (N := some 24) (v := ?_) (a' := ?_) #[true, false, false, false, false, false, false, false, false, false, false, false, false, false, false, false] rfl rfl (any_of HT_.out (by kernel_rfl)) (fun _ _ _ h => h) (Or.inl ⟨by rfl, ?_⟩) ?_ ?_
  rotate_left
  · intro w'
    go_simp
    with_reducible rfl
  rotate_left
  · simp only [Act.put, List.setIfInBounds_toArray, List.set_cons_zero, List.set_cons_succ, i64_w, i32_w]
    rfl
  refine pure_ (i := 1) (N := some 25) (v := ?_) (a' := ?_) #[true, true, false, false, false, false, false, false, false, false, false, false, false, false, false, false] rfl rfl (any_of HT_.out (by kernel_rfl)) (fun _ _ _ h => h) (Or.inl ⟨by rfl, ?_⟩) ?_ ?_
  rotate_left
  · intro w'
    go_simp
    with_reducible rfl
  rotate_left
  · simp only [Act.put, List.setIfInBounds_toArray, List.set_cons_zero, List.set_cons_succ, i64_w, i32_w]
    rfl
  refine pure_ (i := 2) (N := some 26) (v := ?_) (a' := ?_) #[true, true, true, false, false, false, false, false, false, false, false, false, false, false, false, false] rfl rfl (any_of HT_.out (by kernel_rfl)) (fun _ _ _ h => h) (Or.inl ⟨by rfl, ?_⟩) ?_ ?_
  rotate_left
  · intro w'
    go_simp
    with_reducible rfl
  rotate_left
  · simp only [Act.put, List.setIfInBounds_toArray, List.set_cons_zero, List.set_cons_succ, i64_w, i32_w]
    rfl
  refine pure_ (i := 4) (N := some 28) (v := ?_) (a' := ?_) #[true, true, true, false, true, false, false, false, false, false, false, false, false, false, false, false] rfl rfl (any_of HT_.out (by kernel_rfl)) (fun _ _ _ h => h) (Or.inl ⟨by rfl, ?_⟩) ?_ ?_
  rotate_left
  · intro w'
    go_simp
    with_reducible rfl
  rotate_left
  · simp only [Act.put, List.setIfInBounds_toArray, List.set_cons_zero, List.set_cons_succ, i64_w, i32_w]
    rfl
  refine pure_ (i := 5) (N := some 29) (v := ?_) (a' := ?_) #[true, true, true, false, true, true, false, false, false, false, false, false, false, false, false, false] rfl rfl (any_of HT_.out (by kernel_rfl)) (fun _ _ _ h => h) (Or.inl ⟨by rfl, ?_⟩) ?_ ?_
  rotate_left
  · intro w'
    go_simp
    with_reducible rfl
  rotate_left
  · simp only [Act.put, List.setIfInBounds_toArray, List.set_cons_zero, List.set_cons_succ, i64_w, i32_w]
    rfl
  refine pure_ (i := 6) (N := some 30) (v := ?_) (a' := ?_) #[true, true, true, false, true, true, true, false, false, false, false, false, false, false, false, false] rfl rfl (any_of HT_.out (by kernel_rfl)) (fun _ _ _ h => h) (Or.inl ⟨by rfl, ?_⟩) ?_ ?_
  rotate_left
  · intro w'
    go_simp
    with_reducible rfl
  rotate_left
  · simp only [Act.put, List.setIfInBounds_toArray, List.set_cons_zero, List.set_cons_succ, i64_w, i32_w]
    rfl
  refine pure_ (i := 8) (N := some 32) (v := ?_) (a' := ?_) #[true, true, true, false, true, true, true, false, true, false, false, false, false, false, false, false] rfl rfl (any_of HT_.out (by kernel_rfl)) (fun _ _ _ h => h) (Or.inl ⟨by rfl, ?_⟩) ?_ ?_
  rotate_left
  · intro w'
    go_simp
    with_reducible rfl
  rotate_left
  · simp only [Act.put, List.setIfInBounds_toArray, List.set_cons_zero, List.set_cons_succ, i64_w, i32_w]
    rfl
  refine pure_ (i := 9) (N := some 33) (v := ?_) (a' := ?_) #[true, true, true, false, true, true, true, false, true, true, false, false, false, false, false, false] rfl rfl (any_of HT_.out (by kernel_rfl)) (fun _ _ _ h => h) (Or.inl ⟨by rfl, ?_⟩) ?_ ?_
  rotate_left
  · intro w'
    go_simp
    with_reducible rfl
  rotate_left
  · simp only [Act.put, List.setIfInBounds_toArray, List.set_cons_zero, List.set_cons_succ, i64_w, i32_w]
    rfl
  refine take_ (i := 3) (N := some 27) (v := .pointer (some ⟨pm, 0, none⟩)) (a' := ?_) #[true, true, true, true, true, true, true, false, true, true, false, false, false, false, false, false] rfl rfl (take_of HT_.out (by kernel_rfl)) (fun _ _ _ h => h) (Or.inl ⟨by rfl, ?_⟩) hHeld ?_ ?_
  · rintro w' s1
    obtain ⟨q0, q1, q2, q3, q4, q5⟩ := cz6 s1
    go_simp
  rotate_left
  · simp only [Act.put, List.setIfInBounds_toArray, List.set_cons_zero, List.set_cons_succ, i64_w, i32_w]
    rfl
  refine take_ (i := 7) (N := some 31) (v := .pointer (some ⟨pf, 0, none⟩)) (a' := ?_) #[true, true, true, true, true, true, true, true, true, true, false, false, false, false, false, false] rfl rfl (take_of HT_.out (by kernel_rfl)) (fun _ _ _ h => h) (Or.inl ⟨by rfl, ?_⟩) hHeld ?_ ?_
  · rintro w' s1
    obtain ⟨q0, q1, q2, q3, q4, q5⟩ := cz6 s1
    go_simp
  rotate_left
  · simp only [Act.put, List.setIfInBounds_toArray, List.set_cons_zero, List.set_cons_succ, i64_w, i32_w]
    rfl
  refine one_ (i := 10) (N := some 34) #[true, true, true, true, true, true, true, true, true, true, true, false, false, false, false, false] rfl rfl (one_of HT_.out (by kernel_rfl)) (by decide) (fun K hK => ?_)
  refine goes_ Try.func52 (by kernel_rfl) rfl #[.pointer (some ⟨pm, 0, none⟩), .pointer (some ⟨pf, 0, none⟩), .int .i64 (s : Int), .int .i64 (g : Int)] (by rfl) rfl rfl (by (try simp only [List.map_toArray, List.map_cons, List.map_nil]); first | done | rfl) ?_
  refine (swmake_calls HM.out HF.out s g HSG.out.1 HSG.out.2.1 HFR.out.1 HFR.out.2 (by decide) (by have := HSG.out; omega)).mono ?_
  rintro x0 wn ⟨pt, D', W1, rfl, hM2, hF2, hr, hpt, hk, hg2⟩
  have hs : wn.heap[h]? = some (.cells #[.pointer (some ⟨pm, 0, none⟩), .pointer (some ⟨pf, 0, none⟩), .slice none 0 0, .int .i64 9, .slice none 0 0, .slice none 0 0] 34 (0, 0)) := blk_make hHeld (by decide) (by decide) HM.out HF.out hk hg2
  replace HB7' := Aside0.mk (blk_make HB7'.out (by decide) (by decide) HM.out HF.out hk hg2)
  replace HB8 := Aside0.mk (blk_make HB8.out (by decide) (by decide) HM.out HF.out hk hg2)
  replace HB := Aside0.mk hs
  replace HF := Aside0.mk hF2
  have HPT := Aside0.mk hr
  have HBE := Aside0.mk hM2.below
  clear HM hM2 hF2 hr hpt hk hg2
  refine ⟨_, rfl, ?_⟩
  refine hK.out _ _ hs (fun hHeld => ?_)
  clear hK K
  refine norm_ (a' := ?_) ?_ ?_
  rotate_left
  · show Act.put _ (some 34) _ = _
    simp only [Act.put, List.setIfInBounds_toArray, List.set_cons_zero, List.set_cons_succ, i64_w, i32_w]
    rfl
  refine pure_ (i := 11) (N := some 23) (v := ?_) (a' := ?_) #[true, true, true, true, true, true, true, true, true, true, true, true, false, false, false, false] rfl rfl (any_of HT_.out (by kernel_rfl)) (fun _ _ _ h => h) (Or.inl ⟨by rfl, ?_⟩) ?_ ?_
  rotate_left
  · intro w'
    go_simp
    with_reducible rfl
  rotate_left
  · simp only [Act.put, List.setIfInBounds_toArray, List.set_cons_zero, List.set_cons_succ, i64_w, i32_w]
    rfl
  refine pure_ (i := 12) (N := some 35) (v := ?_) (a' := ?_) #[true, true, true, true, true, true, true, true, true, true, true, true, true, false, false, false] rfl rfl (any_of HT_.out (by kernel_rfl)) (fun _ _ _ h => h) (Or.inl ⟨by rfl, ?_⟩) ?_ ?_
  rotate_left
  · intro w'
    go_simp
    with_reducible rfl
  rotate_left
  · simp only [Act.put, List.setIfInBounds_toArray, List.set_cons_zero, List.set_cons_succ, i64_w, i32_w]
    rfl
  refine pure_ (i := 13) (N := some 36) (v := ?_) (a' := ?_) #[true, true, true, true, true, true, true, true, true, true, true, true, true, true, false, false] rfl rfl (any_of HT_.out (by kernel_rfl)) (fun _ _ _ h => h) (Or.inl ⟨by rfl, ?_⟩) ?_ ?_
  rotate_left
  · intro w'
    go_simp
    with_reducible rfl
  rotate_left
  · simp only [Act.put, List.setIfInBounds_toArray, List.set_cons_zero, List.set_cons_succ, i64_w, i32_w]
    rfl
  refine pure_ (i := 14) (N := some 10) (v := ?_) (a' := ?_) #[true, true, true, true, true, true, true, true, true, true, true, true, true, true, true, false] rfl rfl (any_of HT_.out (by kernel_rfl)) (fun _ _ _ h => h) (Or.inl ⟨by rfl, ?_⟩) ?_ ?_
  rotate_left
  · intro w'
    go_simp
    with_reducible rfl
  rotate_left
  · simp only [Act.put, List.setIfInBounds_toArray, List.set_cons_zero, List.set_cons_succ, i64_w, i32_w]
    rfl
  refine pure_ (i := 15) (N := some 11) (v := ?_) (a' := ?_) #[true, true, true, true, true, true, true, true, true, true, true, true, true, true, true, true] rfl rfl (any_of HT_.out (by kernel_rfl)) (fun _ _ _ h => h) (Or.inl ⟨by rfl, ?_⟩) ?_ ?_
  rotate_left
  · intro w'
    go_simp
    with_reducible rfl
  rotate_left
  · simp only [Act.put, List.setIfInBounds_toArray, List.set_cons_zero, List.set_cons_succ, i64_w, i32_w]
    rfl
  refine done_ (done_of HT_.out (by kernel_rfl)) ?_
  clear hHeld
  obtain ⟨q0, q1, q2, q3, q4, q5⟩ := cz6 HB.out
  obtain ⟨y0, y1⟩ := cz2w HB7'.out
  have zf3 := blk_frozen HB.out 3
  have zf4 := blk_frozen HB.out 4
  have HBX := Aside0.mk (show Below w0.heap.size w0 ((wn.setCell ⟨h, 3, none⟩ (.int .i64 9)).setCell ⟨h, 4, none⟩ (.slice A1 n1 c1)) from below_set (below_set HBE.out HHB.out) HHB.out)
  have hgX : wn.grownBy ((wn.setCell ⟨h, 3, none⟩ (.int .i64 9)).setCell ⟨h, 4, none⟩ (.slice A1 n1 c1)) (some h) := grown_two (QFramesPlays.grown_cell wn ⟨h, 3, none⟩ (.int .i64 9)) (QFramesPlays.grown_cell (wn.setCell ⟨h, 3, none⟩ (.int .i64 9)) ⟨h, 4, none⟩ (.slice A1 n1 c1))
  have HHX := Aside0.mk (show ((wn.setCell ⟨h, 3, none⟩ (.int .i64 9)).setCell ⟨h, 4, none⟩ (.slice A1 n1 c1)).heap[h]? = some (.cells #[.pointer (some ⟨pm, 0, none⟩), .pointer (some ⟨pf, 0, none⟩), .slice none 0 0, .int .i64 9, .slice A1 n1 c1, .slice none 0 0] 34 (0, 0)) from blk_put (blk_put HB.out 3 (.int .i64 9) rfl) 4 (.slice A1 n1 c1) rfl)
  have hkh : ∀ k, some h = some k → ∃ cs, wn.heap[k]? = some (.cells cs 34 (0, 0)) := fun k e => by cases e; exact ⟨_, HB.out⟩
  have HFX := Aside0.mk (HF.out.kept hgX (fun e => by have e := Option.some.inj e; subst e; have := HF.out.row; rw [HB.out] at this; injection this with this; injection this with _ a; exact absurd a (by decide)) (fun e => by have e := Option.some.inj e; subst e; have := HF.out.bits; rw [HB.out] at this; injection this with this; injection this with _ a; exact absurd a (by decide)) (fun k e => by cases e; exact HHB.out))
  have HPX := Aside0.mk (blk_keptW HPT.out hgX hkh (by decide))
  have H8X := Aside0.mk (blk_keptW HB8.out hgX hkh (by decide))
  clear hgX hkh HBE
  go_upto_region 8 with (first | ((with_reducible refine gate_builtin (b := .append) (xs := #[.tmp 57, .tmp 59]) rfl ?_); at_builtin; refine print_append_cells (w0 := w0) w0.heap.size rfl (.tmp 57) (.tmp 59) 29 36 (.pointer none) 1 8 rfl Try.underlying29 (by kernel_rfl) rfl (by decide) (by decide) (.slice none 0 0) 0 [] [.pointer (some ⟨pt, 0, none⟩)] rfl (by first | (go_simp; done) | (go_simp; rfl)) rfl (by simp [Value.oneCell']) ⟨rfl, .inl ⟨rfl, rfl⟩⟩ ?aB ?aS (by decide) ?_; (case aB => exact HBX.out); (case aS => exact HBX.out.size); intro v9 w5 hown hb hgr hat; obtain ⟨lb, cap, hv9, lcs, hlb, hcell⟩ := own_one hown; subst hv9; have HBE5 := Aside0.mk hb; have HGR := Aside0.mk hgr; have HLB := Aside0.mk hlb; have HCL := Aside0.mk hcell; have HH5 := Aside0.mk (blk_grown HHX.out hgr); have zf5 := blk_frozen HH5.out 2; obtain ⟨p0, p1, p2, p3, p4, p5⟩ := cz6 HH5.out; clear hown hb hgr hat hlb hcell))
  clear zf5 p0 p1 p2 p3 p4 p5 q0 q1 q2 q3 q4 q5 y0 y1 zf3 zf4
  have hg6 := QFramesPlays.grown_cell w5 ⟨h, 2, none⟩ (.slice (some ⟨lb, 0, none⟩) 1 cap)
  have hkh : ∀ k, some h = some k → ∃ cs, w5.heap[k]? = some (.cells cs 34 (0, 0)) := fun k e => by cases e; exact ⟨_, HH5.out⟩
  have HH6 := Aside0.mk (show (w5.setCell ⟨h, 2, none⟩ (.slice (some ⟨lb, 0, none⟩) 1 cap)).heap[h]? = some (.cells #[.pointer (some ⟨pm, 0, none⟩), .pointer (some ⟨pf, 0, none⟩), .slice (some ⟨lb, 0, none⟩) 1 cap, .int .i64 9, .slice A1 n1 c1, .slice none 0 0] 34 (0, 0)) from blk_put HH5.out 2 (.slice (some ⟨lb, 0, none⟩) 1 cap) rfl)
  have HF6 := Aside0.mk ((HFX.out.same HGR.out).kept hg6 (fun e => by have e := Option.some.inj e; subst e; have := (HFX.out.same HGR.out).row; rw [HH5.out] at this; injection this with this; injection this with _ a; exact absurd a (by decide)) (fun e => by have e := Option.some.inj e; subst e; have := (HFX.out.same HGR.out).bits; rw [HH5.out] at this; injection this with this; injection this with _ a; exact absurd a (by decide)) (fun k e => by cases e; exact HHB.out))
  have HP6 := Aside0.mk (blk_keptW (blk_grown HPX.out HGR.out) hg6 hkh (by decide))
  have H86 := Aside0.mk (blk_keptW (blk_grown H8X.out HGR.out) hg6 hkh (by decide))
  have HL6 := Aside0.mk (blk_keptW HLB.out hg6 hkh (by decide))
  have HB6 := Aside0.mk (show Below w0.heap.size w0 (w5.setCell ⟨h, 2, none⟩ (.slice (some ⟨lb, 0, none⟩) 1 cap)) from below_set HBE5.out HHB.out)
  generalize w5.setCell ⟨h, 2, none⟩ (.slice (some ⟨lb, 0, none⟩) 1 cap) = w6 at HH6 HF6 HP6 H86 HL6 HB6 ⊢
  have hg := grown_drew w6 none
  replace HF6 := Aside0.mk (HF6.out.same hg)
  replace HP6 := Aside0.mk (blk_grown HP6.out hg)
  replace H86 := Aside0.mk (blk_grown H86.out hg)
  replace HL6 := Aside0.mk (blk_grown HL6.out hg)
  replace HH6 := Aside0.mk (blk_grown HH6.out hg)
  replace HB6 := Aside0.mk (show Below w0.heap.size w0 w6.drew from ⟨HB6.out.os, HB6.out.tape, HB6.out.output, HB6.out.size, HB6.out.block⟩)
  clear hg hg6 hkh HH5 HFX HPX H8X HLB HBE5 HGR HBX HHX HB HB7' HF HPT HB8
  refine start_ (n := 11) (S := fun w' => w'.heap[h]? = some (.cells #[.pointer (some ⟨pm, 0, none⟩), .pointer (some ⟨pf, 0, none⟩), .slice (some ⟨lb, 0, none⟩) 1 cap, .int .i64 9, .slice A1 n1 c1, .slice none 0 0] 34 (0, 0)) ∧ w'.heap[h8]? = some (.cells #[.int .i64 (s : Int), .int .i64 (plcs s g : Int), .slice A4 0 c4, .int .i64 0, .int .i64 (g : Int)] 87 (0, 0))) (ds := [10]) #[false, false, false, false, false, false, false, false, false, false, false] (by kernel_rfl) rfl rfl ⟨HH6.out, H86.out⟩ (fun hHeld => ?_)
  refine with_tab wmake8_tab (fun HT_ => ?_)
  refine pure_ (i := 0) (N := some 63) (v := ?_) (a' := ?_) #[true, false, false, false, false, false, false, false, false, false, false] rfl rfl (any_of HT_.out (by kernel_rfl)) (fun _ _ _ h => h) (Or.inl ⟨by rfl, ?_⟩) ?_ ?_
  rotate_left
  · intro w'
    go_simp
    with_reducible rfl
  rotate_left
  · simp only [Act.put, List.setIfInBounds_toArray, List.set_cons_zero, List.set_cons_succ, i64_w, i32_w]
    rfl
  refine pure_ (i := 1) (N := some 64) (v := ?_) (a' := ?_) #[true, true, false, false, false, false, false, false, false, false, false] rfl rfl (any_of HT_.out (by kernel_rfl)) (fun _ _ _ h => h) (Or.inl ⟨by rfl, ?_⟩) ?_ ?_
  rotate_left
  · intro w'
    go_simp
    with_reducible rfl
  rotate_left
  · simp only [Act.put, List.setIfInBounds_toArray, List.set_cons_zero, List.set_cons_succ, i64_w, i32_w]
    rfl
  refine pure_ (i := 2) (N := some 65) (v := ?_) (a' := ?_) #[true, true, true, false, false, false, false, false, false, false, false] rfl rfl (any_of HT_.out (by kernel_rfl)) (fun _ _ _ h => h) (Or.inl ⟨by rfl, ?_⟩) ?_ ?_
  rotate_left
  · intro w'
    go_simp
    with_reducible rfl
  rotate_left
  · simp only [Act.put, List.setIfInBounds_toArray, List.set_cons_zero, List.set_cons_succ, i64_w, i32_w]
    rfl
  refine pure_ (i := 3) (N := some 66) (v := ?_) (a' := ?_) #[true, true, true, true, false, false, false, false, false, false, false] rfl rfl (any_of HT_.out (by kernel_rfl)) (fun _ _ _ h => h) (Or.inl ⟨by rfl, ?_⟩) ?_ ?_
  rotate_left
  · intro w'
    go_simp
    with_reducible rfl
  rotate_left
  · simp only [Act.put, List.setIfInBounds_toArray, List.set_cons_zero, List.set_cons_succ, i64_w, i32_w]
    rfl
  refine take_ (i := 4) (N := some 67) (v := .slice none 0 0) (a' := ?_) #[true, true, true, true, true, false, false, false, false, false, false] rfl rfl (take_of HT_.out (by kernel_rfl)) (fun _ _ _ h => h) (Or.inl ⟨by rfl, ?_⟩) hHeld ?_ ?_
  · rintro w' ⟨s1, s2⟩
    obtain ⟨q0, q1, q2, q3, q4, q5⟩ := cz6 s1
    go_simp
  rotate_left
  · simp only [Act.put, List.setIfInBounds_toArray, List.set_cons_zero, List.set_cons_succ, i64_w, i32_w]
    rfl
  refine take_ (i := 5) (N := some 68) (v := .agg #[.int .i64 (s : Int), .int .i64 (plcs s g : Int), .slice A4 0 c4, .int .i64 0, .int .i64 (g : Int)]) (a' := ?_) #[true, true, true, true, true, true, false, false, false, false, false] rfl rfl (take_of HT_.out (by kernel_rfl)) (fun _ _ _ h => h) (Or.inl ⟨by rfl, ?_⟩) hHeld ?_ ?_
  · rintro w' ⟨s1, s2⟩
    obtain ⟨y0, y1, y2, y3, y4⟩ := cz5w s2
    go_simp
  rotate_left
  · simp only [Act.put, List.setIfInBounds_toArray, List.set_cons_zero, List.set_cons_succ, i64_w, i32_w]
    rfl
  refine one_ (i := 6) (N := some 69) #[true, true, true, true, true, true, true, false, false, false, false] rfl rfl (one_of HT_.out (by kernel_rfl)) (by decide) (fun K hK => ?_)
  refine event_step (v := .slice (some ⟨w6.drew.heap.size, 0, none⟩) 1 1) (w1 := w6.drew.alloc (.cells #[.int .i64 (s : Int), .int .i64 (plcs s g : Int), .slice A4 0 c4, .int .i64 0, .int .i64 (g : Int)] 87)) (by rfl) ?hr ?_
  (case hr => first | (go_simp; done) | (go_simp; rfl))
  have hga := World.grownBy_alloc w6.drew (.cells #[.int .i64 (s : Int), .int .i64 (plcs s g : Int), .slice A4 0 c4, .int .i64 0, .int .i64 (g : Int)] 87) none
  refine hK.out _ _ ⟨blk_grown hHeld.1 hga, blk_grown hHeld.2 hga⟩ (fun hHeld => ?_)
  clear hK K hga
  refine norm_ (a' := ?_) ?_ ?_
  rotate_left
  · show Act.put _ (some 69) _ = _
    simp only [Act.put, List.setIfInBounds_toArray, List.set_cons_zero, List.set_cons_succ, i64_w, i32_w]
    rfl
  refine one_ (i := 7) (N := some 70) #[true, true, true, true, true, true, true, true, false, false, false] rfl rfl (one_of HT_.out (by kernel_rfl)) (by decide) (fun K hK => ?_)
  refine step_append_cells (w0 := w0) w0.heap.size (by rfl) (.tmp 67) (.tmp 69) 32 87 (.agg #[.int .i64 0, .int .i64 0, .slice none 0 0, .int .i64 0, .int .i64 0]) 5 56 rfl Try.underlying32 (by kernel_rfl) rfl (by decide) (by decide) (.slice none 0 0) 0 [] [.int .i64 (s : Int), .int .i64 (plcs s g : Int), .slice A4 0 c4, .int .i64 0, .int .i64 (g : Int)] rfl (by rfl) rfl (by simp [Value.oneCell']) ⟨rfl, .inl ⟨rfl, rfl⟩⟩ HB6.out HB6.out.size (by decide) ?_
  intro v9 w8 hown hb hgr hat
  obtain ⟨lb2, cap2, rfl⟩ := own_slc hown
  replace HF6 := Aside0.mk (HF6.out.same hgr)
  replace HP6 := Aside0.mk (blk_grown HP6.out hgr)
  replace H86 := Aside0.mk (blk_grown H86.out hgr)
  replace HL6 := Aside0.mk (blk_grown HL6.out hgr)
  replace HH6 := Aside0.mk (blk_grown HH6.out hgr)
  replace HB6 := Aside0.mk hb
  clear hown hb hgr hat
  refine hK.out _ _ ⟨HH6.out, H86.out⟩ (fun hHeld => ?_)
  clear hK K
  refine norm_ (a' := ?_) ?_ ?_
  rotate_left
  · show Act.put _ (some 70) _ = _
    simp only [Act.put, List.setIfInBounds_toArray, List.set_cons_zero, List.set_cons_succ, i64_w, i32_w]
    rfl
  refine pure_ (i := 8) (N := some 71) (v := ?_) (a' := ?_) #[true, true, true, true, true, true, true, true, true, false, false] rfl rfl (any_of HT_.out (by kernel_rfl)) (fun _ _ _ h => h) (Or.inl ⟨by rfl, ?_⟩) ?_ ?_
  rotate_left
  · intro w'
    go_simp
    with_reducible rfl
  rotate_left
  · simp only [Act.put, List.setIfInBounds_toArray, List.set_cons_zero, List.set_cons_succ, i64_w, i32_w]
    rfl
  refine pure_ (i := 9) (N := some 72) (v := ?_) (a' := ?_) #[true, true, true, true, true, true, true, true, true, true, false] rfl rfl (any_of HT_.out (by kernel_rfl)) (fun _ _ _ h => h) (Or.inl ⟨by rfl, ?_⟩) ?_ ?_
  rotate_left
  · intro w'
    go_simp
    with_reducible rfl
  rotate_left
  · simp only [Act.put, List.setIfInBounds_toArray, List.set_cons_zero, List.set_cons_succ, i64_w, i32_w]
    rfl
  refine last_ (i := 10) (N := none) #[true, true, true, true, true, true, true, true, true, true, true] rfl rfl (one_of HT_.out (by kernel_rfl)) (by decide) (fun K hK => ?_)
  obtain ⟨p0, p1, p2, p3, p4, p5⟩ := cz6 HH6.out
  have zf5 := blk_frozen HH6.out 5
  refine skip_ (w1 := (w8.setCell ⟨h, 5, none⟩ (.slice (some ⟨lb2, 0, none⟩) 1 cap2))) (by rfl) rfl ?_ ?_
  · first | (go_simp; done) | (go_simp; rfl)
  refine hK.out _ _ ?_
  clear hK K
  refine done_ (done_of HT_.out (by kernel_rfl)) ?_
  have hg9 := QFramesPlays.grown_cell w8 ⟨h, 5, none⟩ (.slice (some ⟨lb2, 0, none⟩) 1 cap2)
  have hkh : ∀ k, some h = some k → ∃ cs, w8.heap[k]? = some (.cells cs 34 (0, 0)) := fun k e => by cases e; exact ⟨_, HH6.out⟩
  have HF9 := Aside0.mk (HF6.out.kept hg9 (fun e => by have e := Option.some.inj e; subst e; have := HF6.out.row; rw [HH6.out] at this; injection this with this; injection this with _ a; exact absurd a (by decide)) (fun e => by have e := Option.some.inj e; subst e; have := HF6.out.bits; rw [HH6.out] at this; injection this with this; injection this with _ a; exact absurd a (by decide)) (fun k e => by cases e; exact HHB.out))
  have HH9 := Aside0.mk (blk_put HH6.out 5 (.slice (some ⟨lb2, 0, none⟩) 1 cap2) rfl)
  have HP9 := Aside0.mk (blk_keptW HP6.out hg9 hkh (by decide))
  have HL9 := Aside0.mk ((blk_cell (blk_keptW HL6.out hg9 hkh (by decide)) 0).trans HCL.out)
  have HB9 := Aside0.mk (show Below w0.heap.size w0 (w8.setCell ⟨h, 5, none⟩ (.slice (some ⟨lb2, 0, none⟩) 1 cap2)) from below_set HB6.out HHB.out)
  clear hg9 hkh
  go_wp2
  go_ret
  exact ⟨rfl, pt, lb, cap, _, _, HH9.out, HL9.out, HP9.out, HF9.out, HB9.out⟩
end
end Go.Proofs.Ytjnffegjpkbjmaa.Mem
namespace Go.Proofs.Ytjnffegjpkbjmaa.Mem
open Go.Proofs.Ytjnffegjpkbjmaa.QFramesPlays (Fs Fr FrK Took fs_Many fs_new fs_list fs_free took_at setN cnt)
open Go.RowKit Go.Maps Go.Proofs.YtjnffegjpkbjmaaW.PrintWords Go.Proofs.YtjnffegjpkbjmaaW.PrintLast Go.Proofs.YtjnffegjpkbjmaaW.PrintMore Go.Proofs.Ytjnffegjpkbjmaa.QTsbPlays Go.Proofs.Ytjnffegjpkbjmaa.Pure
set_option linter.unusedSimpArgs false
set_option linter.unusedVariables false
section
set_option maxHeartbeats 2000000
set_option maxRecDepth 100000
theorem cell_ltq {w : World} {a : Addr} {v : Value} (h : w.cell? a = some v) : a.block < w.heap.size := by
  unfold World.cell? at h
  split at h
  · rename_i hb
    exact blk_lt hb
  · cases h
theorem cell_gr {W W' : World} {a : Addr} {v : Value} (h : W.cell? a = some v) (hg : W.grownBy W' none) : W'.cell? a = some v := (World.cell?_of_block (w := W) (hg.block a.block (cell_ltq h) (by simp))).trans h
theorem tbase_calls {W : World} {pt p : Nat} {base : Int} {N : Nat} {size grade : Int} (kt : W.heap[pt]? = some (.cells (TCs p base N size grade) 95 (0, 0))) : Calls Try.prog 18 #[.pointer (some ⟨pt, 0, none⟩)] W fun e W' => e = .returned (.int .u64 base) ∧ W.grownBy W' none := by
  obtain ⟨y0, y1, y2, y3, y4⟩ := cz5 kt
  have HG := Aside0.mk (grown_refl W none)
  clear kt
  go_enter Try.func18, Try.ntmps18
  go_wp2
  go_ret
  exact ⟨rfl, HG.out⟩
theorem upto_len (n : Nat) : (upto n).length = n := by simp [upto]
theorem upto_at {n i : Nat} (h : i < n) : Go.Proofs.YtjnffegjpkbjmaaW.PrintWords.rd (upto n) (i : Int) = (i : Int) := by
  unfold Go.Proofs.YtjnffegjpkbjmaaW.PrintWords.rd upto
  simp [List.getD, h]
theorem swapFrames_calls (size grade : Int) (W : World) (hs : (Lit.int .i64 size).wf = true) (hg : (Lit.int .i64 grade).wf = true) :
    Calls Try.prog 3 #[.int .i64 size, .int .i64 grade] W fun e W' => e = .returned (.bool true) ∧ Below W.heap.size W W' := by
  have HG := Aside0.mk (grown_refl W none)
  clear hs hg
  go_enter Try.func3, Try.ntmps3
  go_wp2_with fail
  refine (swap_Frames.calls _ _ _ _ (Pure.pFrames size grade)).mono ?_
  rintro x0 w1 ⟨rfl, hd⟩
  replace HG := Aside0.mk (grown_two HG.out (drawn_grown hd))
  clear hd
  go_wp2_with fail
  refine (lookasideref13_Frames.calls 40 _ _ _ _ (Pure.rFrames size grade)).mono ?_
  rintro x0 w2 ⟨rfl, hd⟩
  replace HG := Aside0.mk (grown_two HG.out (below_grown hd))
  clear hd
  go_wp2_with fail
  refine (lookasideref08_Around.calls size 4 _ _ (rAround4 size)).mono ?_
  rintro x0 w3 ⟨rfl, hd⟩
  replace HG := Aside0.mk (grown_two HG.out (drawn_grown hd))
  clear hd
  go_wp2_with fail
  refine (lookasideref08_Around.calls grade 4 _ _ (rAround4 grade)).mono ?_
  rintro x0 w4 ⟨rfl, hd⟩
  replace HG := Aside0.mk (grown_two HG.out (drawn_grown hd))
  clear hd
  have hs4 := ar4_lt size
  have hg4 := ar4_lt grade
  generalize (frsW size grade : Int) = fr0
  generalize ar4 size = s at hs4 ⊢
  generalize ar4 grade = g at hg4 ⊢
  have HSG := Aside0.mk (And.intro hs4 hg4)
  have HIN := Aside0.mk (frs_in s g hs4 hg4)
  have HPF := Aside0.mk (Pure.pFrames (s : Int) (g : Int))
  clear hs4 hg4
  go_wp2_with fail
  refine (begin13_calls _).mono ?_
  rintro x0 w5 ⟨h, pm, mb, pf, rf, rfl, hh, hM, hF, hhb, hg⟩
  have HM := Aside0.mk hM
  have HF := Aside0.mk hF
  have HB := Aside0.mk hh
  have HHB := Aside0.mk hhb
  have HG4 := HG
  replace HG := Aside0.mk (grown_two HG.out hg)
  clear hh hM hF hhb hg
  go_wp2_with fail
  refine (swap_Frames.calls _ _ _ _ HPF.out).mono ?_
  rintro x0 w6 ⟨rfl, hd⟩
  have hg := drawn_grown hd
  replace HM := Aside0.mk (HM.out.same hg)
  replace HF := Aside0.mk (HF.out.same hg)
  replace HB := Aside0.mk (blk_grown HB.out hg)
  replace HG := Aside0.mk (grown_two HG.out hg)
  clear hd hg
  go_wp2_with fail
  refine (wmake_calls HM.out HF.out HB.out HHB.out s g HSG.out.1 HSG.out.2 (by decide)).mono ?_
  rintro x0 w7 ⟨rfl, pt, lb, cap, v3, v5, hh, hl, hr, hF, hb⟩
  replace HG := Aside0.mk (grown_two HG4.out (below_grown hb))
  replace HB := Aside0.mk hh
  have HL := Aside0.mk hl
  have HP := Aside0.mk hr
  have HPL := Aside0.mk (pList (frsW (s : Int) (g : Int)) HIN.out.1 HIN.out.2.1)
  replace HF := Aside0.mk hF
  have hin := HIN.out
  have hpl := plcs_le s g HSG.out.1 HSG.out.2
  clear hh hl hr hF hb HM HG4
  generalize frsW (s : Int) (g : Int) = fr at HF HPL hin ⊢
  generalize plcs s g = N at HP hin hpl ⊢
  obtain ⟨x1, hx1⟩ : ∃ x, x = fr * 8192 := ⟨_, rfl⟩
  obtain ⟨x2, hx2⟩ : ∃ x, x = 16 * N := ⟨_, rfl⟩
  obtain ⟨f1, hf1⟩ : ∃ x, x = fr - 1 := ⟨_, rfl⟩
  obtain ⟨x3, hx3⟩ : ∃ x, x = f1 * 8192 := ⟨_, rfl⟩
  have HX := Aside0.mk (show ¬ x1 < x2 ∧ ¬ x3 ≥ x2 ∧ fr ≤ 8 ∧ 1 ≤ fr by omega)
  have e1 : IntKind.i64.wrap ((fr : Int) * 8192) = (x1 : Int) := by rw [IntWalk.i64_in _ (by omega)]; omega
  have e2 : IntKind.i64.wrap (16 * (N : Int)) = (x2 : Int) := by rw [IntWalk.i64_in _ (by omega)]; omega
  have e3 : IntKind.i64.wrap ((fr : Int) - 1) = (f1 : Int) := by rw [IntWalk.i64_in _ (by omega)]; omega
  have e4 : IntKind.i64.wrap ((f1 : Int) * 8192) = (x3 : Int) := by rw [IntWalk.i64_in _ (by omega)]; omega
  have HE := Aside0.mk (And.intro e1 (And.intro e2 (And.intro e3 e4)))
  clear e1 e2 e3 e4 hx1 hx2 hf1 hx3 hin hpl HIN HPF
  obtain ⟨q0, q1, q2, q3, q4, q5⟩ := cz6 HB.out
  go_wp2_with fail
  refine (fs_list HF.out 40 _ HPL.out).mono ?_
  rintro x0 w8 ⟨⟨v, rfl, hR⟩, hF, hg⟩
  obtain ⟨A, c, rfl⟩ := Kd.R_slice hR
  rw [upto_len] at hR ⊢
  have HR := Aside0.mk (Kd.R_lower hR HG.out.size)
  replace HB := Aside0.mk (blk_grown HB.out hg)
  replace HL := Aside0.mk (cell_gr HL.out hg)
  replace HP := Aside0.mk (blk_grown HP.out hg)
  replace HG := Aside0.mk (grown_two HG.out hg)
  clear hR hF hg HF HPL q0 q1 q2 q3 q4 q5
  obtain ⟨q0, q1, q2, q3, q4, q5⟩ := cz6 HB.out
  have hL := HL.out
  obtain ⟨e1, e2, e3, e4⟩ := HE.out
  have hxn : ¬ (x1 : Int) < (x2 : Int) := by have := HX.out; omega
  have hxm : ¬ (x3 : Int) ≥ (x2 : Int) := by have := HX.out; omega
  go_wp2_with fail
  refine (tlen_calls HP.out).mono ?_
  rintro x0 w9 ⟨rfl, hg⟩
  replace HB := Aside0.mk (blk_grown HB.out hg)
  replace HL := Aside0.mk (cell_gr HL.out hg)
  replace HP := Aside0.mk (blk_grown HP.out hg)
  replace HR := Aside0.mk (Kd.R_grown HR.out hg (by simp))
  replace HG := Aside0.mk (grown_two HG.out hg)
  clear hg q0 q1 q2 q3 q4 q5 hL
  obtain ⟨q0, q1, q2, q3, q4, q5⟩ := cz6 HB.out
  have hL := HL.out
  go_wp2_with fail
  refine (tlen_calls HP.out).mono ?_
  rintro x0 w10 ⟨rfl, hg⟩
  replace HB := Aside0.mk (blk_grown HB.out hg)
  replace HL := Aside0.mk (cell_gr HL.out hg)
  replace HP := Aside0.mk (blk_grown HP.out hg)
  replace HR := Aside0.mk (Kd.R_grown HR.out hg (by simp))
  replace HG := Aside0.mk (grown_two HG.out hg)
  clear hg q0 q1 q2 q3 q4 q5 hL
  obtain ⟨q0, q1, q2, q3, q4, q5⟩ := cz6 HB.out
  have hL := HL.out
  go_wp2_with fail
  clear e1 e2 e3 e4 hxn hxm q0 q1 q2 q3 q4 q5 hL
  have hfr := HX.out.2.2.1
  go_loopw [9] (fun v9 wr => ∃ (i : Nat), v9 = .int .i64 i ∧ i ≤ fr ∧ Aside0 (Kd.R (Kd.int .i64) 3 wr W.heap.size (fun _ => True) (.slice A fr c) (upto fr)) ∧ Aside0 (wr.heap[h]? = some (.cells #[.pointer (some ⟨pm, 0, none⟩), .pointer (some ⟨pf, 0, none⟩), .slice (some ⟨lb, 0, none⟩) 1 cap, .int .i64 9, v3, v5] 34 (0, 0))) ∧ Aside0 (wr.cell? ⟨lb, 0, none⟩ = some (.pointer (some ⟨pt, 0, none⟩))) ∧ Aside0 (wr.heap[pt]? = some (.cells (TCs pm 0 N s g) 95 (0, 0))) ∧ Aside0 (W.grownBy wr none)) (fun v9 _ => fr - (intOf v9).toNat)
  case atStart => exact ⟨0, rfl, by omega, HR, HB, HL, HP, HG⟩
  case round =>
    clear HR HB HL HP HG
    obtain ⟨i, rfl, hi, HR, HB, HL, HP, HG⟩ := hrel
    by_cases hix : i < fr
    · have hi1 : (i : Int) < (fr : Int) := by omega
      have hi0 : (0 : Int) ≤ (i : Int) := by omega
      obtain ⟨ad, hA, hc⟩ := Kd.at_int (Kd.R_reads' HR.out).2.2 (i : Int) hi0 (by rw [upto_len]; exact hi1)
      first | subst hA | cases hA
      rw [upto_at hix, Int.toNat_natCast] at hc
      go_wp2_with fail
      go_roundw
      case rel => exact ⟨i + 1, by go_num, by omega, HR, HB, HL, HP, HG⟩
      case measure => simp [intOf]; omega
    · have hi1 : ¬ (i : Int) < (fr : Int) := by omega
      obtain ⟨q0, q1, q2, q3, q4, q5⟩ := cz6 HB.out
      have hL := HL.out
      go_wp2_with fail
      refine (tbase_calls HP.out).mono ?_
      rintro x0 w11 ⟨rfl, hg⟩
      replace HG := Aside0.mk (grown_two HG.out hg)
      clear hg q0 q1 q2 q3 q4 q5 hL
      go_wp2_with fail
      refine (lives13 _).mono ?_
      rintro x0 w12 ⟨rfl, hg⟩
      replace HG := Aside0.mk (grown_two HG.out hg)
      clear hg
      go_wp2_with fail
      go_ret
      exact ⟨rfl, below_og HG.out⟩
end
end Go.Proofs.Ytjnffegjpkbjmaa.Mem
