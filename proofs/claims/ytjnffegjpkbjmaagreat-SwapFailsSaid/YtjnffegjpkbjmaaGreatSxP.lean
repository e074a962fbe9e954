/- The document's Make over so many frames, all free; plainly. -/
import Derived.Test.YtjnffegjpkbjmaaGreatFr6
import Derived.Test.YtjnffegjpkbjmaaGreatPureTsb
import Derived.Test.YtjnffegjpkbjmaaGreatQTsbPlaysx41
/- merged: YtjnffegjpkbjmaaGreatFr7 -/
/- merged: YtjnffegjpkbjmaaGreatFrPure -/
namespace Go.Proofs.YtjnffegjpkbjmaaGreat.QFramesPlays
open Go.Proofs.YtjnffegjpkbjmaaGreat.QTsbPlays
open Go.RowKit Go.Proofs.YtjnffegjpkbjmaaGreatW.PrintWords Go.Proofs.YtjnffegjpkbjmaaGreatW.PrintLast Go.Proofs.YtjnffegjpkbjmaaGreatW.PrintMore
set_option maxRecDepth 100000
end Go.Proofs.YtjnffegjpkbjmaaGreat.QFramesPlays
namespace Go.Proofs.YtjnffegjpkbjmaaGreat.QFramesPlays
open Go.Proofs.YtjnffegjpkbjmaaGreat.QTsbPlays
open Go.RowKit Go.Proofs.YtjnffegjpkbjmaaGreatW.PrintWords Go.Proofs.YtjnffegjpkbjmaaGreatW.PrintLast Go.Proofs.YtjnffegjpkbjmaaGreatW.PrintMore
set_option linter.unusedSimpArgs false
set_option linter.unusedVariables false
section
set_option maxHeartbeats 1000000
set_option maxRecDepth 100000
theorem below_grown {W W1 : World} (h : Below W.heap.size W W1) : W.grownBy W1 none := ⟨h.os, h.tape, h.output, h.size, fun k hk _ => h.block k hk⟩
theorem drawn_grown {W W1 : World} (h : Drawn0 W W1) : W.grownBy W1 none := by
  obtain ⟨n, rfl⟩ := h
  exact ⟨rfl, rfl, rfl, Nat.le_refl _, fun _ _ _ => rfl⟩
/-- How many are free. -/
def cnt (ts : List Bool) : Int := (ts.count false : Nat)
theorem cnt_le (ts : List Bool) : 0 ≤ cnt ts ∧ cnt ts ≤ ts.length := by
  unfold cnt
  have := List.count_le_length (a := false) (l := ts)
  omega
theorem setN_at (ts : List Bool) (a : Nat) (b : Bool) (k i : Nat) (h : a + k ≤ ts.length) : (setN ts a b k).getD i false = if a ≤ i ∧ i < a + k then b else ts.getD i false := by
  induction k with
  | zero =>
    rw [if_neg (by omega)]
    rfl
  | succ k ih =>
    have ih := ih (by omega)
    show ((setN ts a b k).set (a + k) b).getD i false = _
    by_cases e : i = a + k
    · subst e
      rw [if_pos (by omega)]
      simp [List.getD, setN_len, show a + k < ts.length by omega]
    · rw [show ((setN ts a b k).set (a + k) b).getD i false = (setN ts a b k).getD i false by simp [List.getD, List.getElem?_set_ne (Ne.symm e)], ih]
      by_cases c : a ≤ i ∧ i < a + k
      · rw [if_pos c, if_pos (by omega)]
      · rw [if_neg c, if_neg (by omega)]
theorem cnt_set (ts : List Bool) (i : Nat) (b : Bool) (hi : i < ts.length) (hb : ts.getD i false = !b) : cnt (ts.set i b) = cnt ts + (if b then -1 else 1) := by
  unfold cnt
  rw [List.count_set hi]
  have e : ts[i] = !b := by rw [← hb]; simp [List.getD, hi]
  rw [e]
  cases b with
  | true =>
    have : 0 < ts.count false := List.count_pos_iff.2 (by have : ts[i] = false := e; rw [← this]; exact List.getElem_mem hi)
    simp
    omega
  | false => simp
theorem cnt_setN (ts : List Bool) (a : Nat) (b : Bool) (k : Nat) (h : a + k ≤ ts.length) (hb : ∀ i, i < k → ts.getD (a + i) false = !b) : cnt (setN ts a b k) = cnt ts + (if b then -(k : Int) else k) := by
  induction k with
  | zero => cases b <;> simp [setN]
  | succ k ih =>
    have ih := ih (by omega) (fun i hi => hb i (by omega))
    show cnt ((setN ts a b k).set (a + k) b) = _
    rw [cnt_set _ _ _ (by rw [setN_len]; omega) (by rw [setN_at _ _ _ _ _ (by omega), if_neg (by omega)]; exact hb k (by omega)), ih]
    cases b <;> simp <;> omega
theorem cnt_take {ts : List Bool} {x n : Nat} (hl : x + n ≤ ts.length) (hf : FreeIn ts x n) : cnt (setN ts x true n) = cnt ts - n := by
  rw [cnt_setN ts x true n hl (fun i hi => (hf i hi).2)]
  simp
  omega
/-- Frames, of which so many are free as are. -/
abbrev Fs (B : Nat) (w0 : World) (p r : Nat) (ts : List Bool) (W : World) : Prop := Fr B w0 p r ts (cnt ts) W
/-- Behind a taking of a run. -/
def Took (B : Nat) (w0 W0 : World) (p r : Nat) (ts : List Bool) (n each : Nat) (e : Ending) (W' : World) : Prop :=
  FrK W0 p r W' ∧ ((e = .returned (.tuple #[.int .i64 0, .int .i64 6]) ∧ Fs B w0 p r ts W' ∧ ∀ j, j * each + n ≤ ts.length → ¬ FreeIn ts (j * each) n) ∨
    ∃ x, e = .returned (.tuple #[.int .i64 (x : Nat), .int .i64 0]) ∧ Fs B w0 p r (setN ts x true n) W' ∧ First ts n each x)
theorem fs_take {B w0 p r ts W} (h : Fs B w0 p r ts W) (n each : Nat) (hn : 1 ≤ n) (he : 1 ≤ each) (he2 : each ≤ 70000) :
    Calls Tryz.prog 57 #[.pointer (some ⟨p, 0, none⟩), .int .i64 n, .int .i64 each] W (Took B w0 W p r ts n each) := by
  have hc := cnt_le ts
  have hl := h.len
  refine (fr_take h n each hn he he2 hc.1 (by omega)).mono fun e W' ⟨hk, hh⟩ => ⟨hk, ?_⟩
  rcases hh with hh | ⟨x, he, hf, hx⟩
  · exact .inl hh
  · refine .inr ⟨x, he, ?_, hx⟩
    obtain ⟨j, rfl, h1, h2, h3⟩ := hx
    unfold Fs
    rw [cnt_take h1 h2]
    exact hf
theorem fs_same {B w0 p r ts W W'} (h : Fs B w0 p r ts W) (hg : W.grownBy W' none) : Fs B w0 p r ts W' := h.same hg
theorem fs_free {B w0 p r ts W} (h : Fs B w0 p r ts W) (x : Int) (hx : cnt ts = x) : Calls Tryz.prog 15 #[.pointer (some ⟨p, 0, none⟩)] W fun e W' => e = .returned (.int .i64 x) ∧ Fs B w0 p r ts W' ∧ W.grownBy W' none := by
  subst hx
  exact (frames_Frames_Free.calls p ts (cnt ts) _ _ (trunc W p) W h.isS (trunc_below h.lt) rfl).mono fun e W' z => ⟨z.1, h.same (h.after0 z.2.1 z.2.2.1 z.2.2.2), h.after0 z.2.1 z.2.2.1 z.2.2.2⟩
theorem fs_list {B w0 p r ts W} (h : Fs B w0 p r ts W) (k : Nat) (x : List Int) (hf : frames_Frames_List.f k ts (cnt ts) = some (x, cnt ts)) :
    Calls Tryz.prog 41 #[.pointer (some ⟨p, 0, none⟩)] W fun e W' => (∃ v0, e = .returned v0 ∧ Kd.R (Kd.int .i64) 3 W' W.heap.size (fun _ => True) v0 x) ∧ Fs B w0 p r ts W' ∧ W.grownBy W' none :=
  (frames_Frames_List.calls k p ts (cnt ts) x _ (trunc W p) W h.isS (trunc_below h.lt) hf).mono fun e W' ⟨v0, he, hr, hi, hb, hk⟩ => ⟨⟨v0, he, hr⟩, h.same (h.after0 hi hb hk), h.after0 hi hb hk⟩
theorem cnt_new (m : Nat) : cnt (List.replicate m false) = m := by
  unfold cnt
  simp
theorem fs_new {B w0 W} (hb : Below B w0 W) (hB : B ≤ W.heap.size) (n : Int) (m : Nat) (hm : mn (mx n 0) 65536 = m) :
    Calls Tryz.prog 22 #[.int .i64 n] W fun e W' => ∃ p r, e = .returned (.pointer (some ⟨p, 0, none⟩)) ∧ Fs B w0 p r (List.replicate m false) W' ∧ W.heap.size ≤ r ∧ W.grownBy W' none := by
  have h1 : m ≤ 65536 := by
    unfold mn at hm
    split at hm <;> omega
  refine (fr_new hb hB n _ m rfl hm (by omega) (by omega)).mono fun e W' z => ⟨_, _, z.1, ?_, Nat.le_refl _, z.2.2⟩
  unfold Fs
  rw [cnt_new]
  have := z.2.1
  rw [Int.toNat_natCast] at this
  exact this
theorem fs_Many {B w0 p r ts W} (h : Fs B w0 p r ts W) (n : Nat) (hn : 1 ≤ n) : Calls Tryz.prog 29 #[.pointer (some ⟨p, 0, none⟩), .int .i64 n] W (Took B w0 W p r ts n 1) := by
  have HM := Aside0.mk h
  have HK := Aside0.mk (FrK.refl W p r)
  have hn' : ¬ (n : Int) < 1 := by omega
  clear h
  go_enter Tryz.func29, Tryz.ntmps29
  go_wp2_with (go_at_call 57; refine (fs_take HM.out n 1 hn (by omega) (by omega)).mono ?_; rintro e w2 ⟨hk, (⟨rfl, hf, hx⟩ | ⟨x, rfl, hf, hx⟩)⟩ <;> replace HK := Aside0.mk (HK.out.trans hk) <;> have HF := Aside0.mk hf <;> have HX := Aside0.mk hx <;> clear hk hf hx)
  · go_ret2
    exact ⟨HK.out, .inl ⟨rfl, HF.out, HX.out⟩⟩
  · go_ret2
    exact ⟨HK.out, .inr ⟨x, rfl, HF.out, HX.out⟩⟩
/-- The first free run is one: what is found is told. -/
theorem first_eq {ts : List Bool} {n each x y : Nat} (h1 : First ts n each x) (h2 : First ts n each y) : x = y := by
  obtain ⟨i, rfl, a1, a2, a3⟩ := h1
  obtain ⟨j, rfl, b1, b2, b3⟩ := h2
  rcases Nat.lt_trichotomy i j with c | rfl | c
  · exact absurd a2 (b3 i c)
  · rfl
  · exact absurd b2 (a3 j c)
theorem took_at {B w0 W0 p r ts n each e W'} (h : Took B w0 W0 p r ts n each e W') {x : Nat} (hx : First ts n each x) : e = .returned (.tuple #[.int .i64 (x : Nat), .int .i64 0]) ∧ Fs B w0 p r (setN ts x true n) W' ∧ FrK W0 p r W' := by
  obtain ⟨hk, ⟨he, hf, hn⟩ | ⟨y, he, hf, hy⟩⟩ := h
  · obtain ⟨j, rfl, a1, a2, a3⟩ := hx
    exact absurd a2 (hn j a1)
  · obtain rfl := first_eq hx hy
    exact ⟨he, hf, hk⟩
instance (ts : List Bool) (a k : Nat) : Decidable (FreeIn ts a k) := by unfold FreeIn; exact inferInstance
end
end Go.Proofs.YtjnffegjpkbjmaaGreat.QFramesPlays
/- merged: YtjnffegjpkbjmaaGreatSwP -/
/- merged: YtjnffegjpkbjmaaGreatTsP3 -/
set_option linter.unusedVariables false
set_option linter.unusedSimpArgs false
namespace Go.Proofs.YtjnffegjpkbjmaaGreat.Pure
open Go.RowKit Go.Proofs.YtjnffegjpkbjmaaGreat.QTsbPlays Go.Proofs.YtjnffegjpkbjmaaGreatW.PrintWords Go.Proofs.YtjnffegjpkbjmaaGreatW.PrintLast Go.Proofs.YtjnffegjpkbjmaaGreatW.PrintMore
/-- How many places, at whatever size and grade. -/
def plcW (s g : Int) : Nat := if okSize s ∧ 0 ≤ g ∧ g < 4 then plcs s.toNat g.toNat else 0
theorem pPlacesA (s g : Int) : tsb_Places.f s g = some (plcW s g : Int) := by
  by_cases h : okSize s ∧ 0 ≤ g ∧ g < 4
  · obtain ⟨h1, h2, h3⟩ := h
    have h1' := h1
    unfold okSize at h1'
    have e := pPlaces s.toNat g.toNat (by omega) (by omega)
    rw [show ((s.toNat : Nat) : Int) = s by omega, show ((g.toNat : Nat) : Int) = g by omega] at e
    rw [e]
    unfold plcW
    rw [if_pos ⟨h1, h2, h3⟩]
  · unfold plcW
    rw [if_neg h]
    unfold tsb_Places.f
    rw [pMay, Option.bind_some]
    by_cases h1 : okSize s
    · rw [if_pos (decide_eq_true h1)]
      by_cases h2 : g < 0
      · rw [if_pos h2]; rfl
      · rw [if_neg h2, if_pos (by have : ¬ g < 4 := fun h3 => h ⟨h1, by omega, h3⟩; omega)]; rfl
    · rw [if_neg (by simpa using h1)]; rfl
theorem rPlacesA (s g : Int) : lookasideref10_Places.f s g = some (plcW s g : Int) := by
  by_cases h : okSize s ∧ 0 ≤ g ∧ g < 4
  · obtain ⟨h1, h2, h3⟩ := h
    have h1' := h1
    unfold okSize at h1'
    have e := rPlaces s.toNat g.toNat (by omega) (by omega)
    rw [show ((s.toNat : Nat) : Int) = s by omega, show ((g.toNat : Nat) : Int) = g by omega] at e
    rw [e]
    unfold plcW
    rw [if_pos ⟨h1, h2, h3⟩]
  · unfold plcW
    rw [if_neg h]
    unfold lookasideref10_Places.f
    rw [rMay, Option.bind_some]
    by_cases h1 : okSize s
    · rw [if_pos (decide_eq_true h1)]
      by_cases h2 : g < 0
      · rw [if_pos h2]; rfl
      · rw [if_neg h2, if_pos (by have : ¬ g < 4 := fun h3 => h ⟨h1, by omega, h3⟩; omega)]; rfl
    · rw [if_neg (by simpa using h1)]; rfl
theorem plcW_le (s g : Int) : plcW s g ≤ 4096 := by
  unfold plcW
  split
  · rename_i h
    have h1 := h.1
    unfold okSize at h1
    exact (plcs_le s.toNat g.toNat (by omega) (by omega)).2
  · omega
end Go.Proofs.YtjnffegjpkbjmaaGreat.Pure
/- merged: YtjnffegjpkbjmaaGreatQTsbPlaysx42 -/
namespace Go.Proofs.YtjnffegjpkbjmaaGreat.QTsbPlays
open Go.RowKit Go.Proofs.YtjnffegjpkbjmaaGreatW.PrintWords Go.Proofs.YtjnffegjpkbjmaaGreatW.PrintLast Go.Proofs.YtjnffegjpkbjmaaGreatW.PrintMore
attribute [local go_sem] max2_int min2_int max_two min_two max_three min_three max_four min_four   -- for this text's walks alone
set_option linter.unusedVariables false
set_option linter.unusedSimpArgs false
/-! ### lookasideref13_Make: function 26 -/
end Go.Proofs.YtjnffegjpkbjmaaGreat.QTsbPlays
set_option linter.unusedVariables false
set_option linter.unusedSimpArgs false
namespace Go.Proofs.YtjnffegjpkbjmaaGreat.Pure
open Go.RowKit Go.Proofs.YtjnffegjpkbjmaaGreat.QTsbPlays Go.Proofs.YtjnffegjpkbjmaaGreatW.PrintWords Go.Proofs.YtjnffegjpkbjmaaGreatW.PrintLast Go.Proofs.YtjnffegjpkbjmaaGreatW.PrintMore
open Go.Proofs.YtjnffegjpkbjmaaGreat.QFramesPlays (setN cnt First FreeIn)
def frsW (s g : Int) : Nat := (16 * plcW s g + 8191) / 8192
theorem swBytes : swap_bytes.f = some 8192 := by decide +kernel
theorem pFrames (s g : Int) : swap_Frames.f s g = some (frsW s g : Int) := by
  unfold swap_Frames.f frsW
  rw [pPlacesA, swBytes]
  have h := plcW_le s g
  generalize plcW s g = p at h
  simp only [Option.bind_some]
  rw [if_neg (by decide)]
  have e1 : wrap64 (16 * (p : Int)) = ((16 * p : Nat) : Int) := by unfold wrap64; omega
  rw [e1]
  have e2 : wrap64 (((16 * p : Nat) : Int) + 8192) = ((16 * p + 8192 : Nat) : Int) := by unfold wrap64; omega
  rw [e2]
  have e3 : wrap64 (((16 * p + 8192 : Nat) : Int) - 1) = ((16 * p + 8191 : Nat) : Int) := by unfold wrap64; omega
  rw [e3, show (8192 : Int) = ((8192 : Nat) : Int) from rfl, ← Int.ofNat_tdiv]
  refine congrArg some ?_
  have : (16 * p + 8191) / 8192 ≤ 100000 := by omega
  unfold wrap64; omega
theorem rFrames_l : ∀ (k : Nat) (n : Int) (c : Nat), -8192 ≤ n → n ≤ 8192 * k → n ≤ 65536 → c + k ≤ 100 → lookasideref13_Frames.l0 (k + 1) n (c : Int) = some ((c : Int) + (if n > 0 then (n + 8191) / 8192 else 0))
  | 0, n, c, h1, h2, h3, h4 => by
    rw [lookasideref13_Frames.l0, if_neg (by omega), if_neg (by omega)]; simp
  | k + 1, n, c, h1, h2, h3, h4 => by
    rw [lookasideref13_Frames.l0]
    by_cases hn : n > 0
    · have e1 : wrap64 (n - 8192) = n - 8192 := by unfold wrap64; omega
      have e2 : wrap64 ((c : Int) + 1) = ((c + 1 : Nat) : Int) := by unfold wrap64; omega
      rw [if_pos hn, if_pos hn, e1, e2, rFrames_l k (n - 8192) (c + 1) (by omega) (by omega) (by omega) (by omega)]
      congr 1
      split <;> omega
    · rw [if_neg hn, if_neg hn]; simp
theorem rFrames (s g : Int) : lookasideref13_Frames.f 40 s g = some (frsW s g : Int) := by
  unfold lookasideref13_Frames.f frsW
  rw [rPlacesA]
  have h := plcW_le s g
  generalize plcW s g = p at h
  have e1 : wrap64 (16 * (p : Int)) = ((16 * p : Nat) : Int) := by unfold wrap64; omega
  rw [Option.bind_some, e1]
  have := rFrames_l 39 ((16 * p : Nat) : Int) 0 (by omega) (by omega) (by omega) (by omega)
  rw [show ((0 : Nat) : Int) = 0 from rfl] at this
  rw [this]
  congr 1
  split <;> omega
theorem plcW_nat (s g : Nat) (hs : s < 4) (hg : g < 4) : plcW (s : Int) (g : Int) = plcs s g := by
  unfold plcW
  rw [if_pos (by unfold okSize; omega)]
  simp
theorem frs_in (s g : Nat) (hs : s < 4) (hg : g < 4) : 1 ≤ frsW s g ∧ frsW s g ≤ 8 ∧ 16 * plcs s g ≤ frsW s g * 8192 ∧ (frsW s g - 1) * 8192 < 16 * plcs s g := by
  unfold frsW
  rw [plcW_nat s g hs hg]
  have := plcs_le s g hs hg
  omega
def upto (n : Nat) : List Int := (List.range n).map (fun i : Nat => (i : Int))
theorem first_all {F n : Nat} (h : n ≤ F) : First (List.replicate F false) n 1 0 := ⟨0, rfl, by simpa using h, fun i hi => ⟨by simp; omega, by simp [List.getD, List.getElem?_replicate]; split <;> rfl⟩, fun j hj => absurd hj (Nat.not_lt_zero _)⟩
end Go.Proofs.YtjnffegjpkbjmaaGreat.Pure
set_option linter.unusedVariables false
set_option linter.unusedSimpArgs false
namespace Go.Proofs.YtjnffegjpkbjmaaGreat.Pure
open Go.RowKit Go.Proofs.YtjnffegjpkbjmaaGreat.QTsbPlays Go.Proofs.YtjnffegjpkbjmaaGreatW.PrintWords Go.Proofs.YtjnffegjpkbjmaaGreatW.PrintLast Go.Proofs.YtjnffegjpkbjmaaGreatW.PrintMore
theorem rManyF (F n : Nat) (h1 : 1 ≤ n) (h2 : n ≤ 8) (h3 : n ≤ F) (h4 : F ≤ 20) : lookasideref05_TakeMany.f 40 (F : Int) [] (n : Int) = some ((F : Int), upto n, 0, 0) := by
  have hn : n = 1 ∨ n = 2 ∨ n = 3 ∨ n = 4 ∨ n = 5 ∨ n = 6 ∨ n = 7 ∨ n = 8 := by omega
  have hF : F = 1 ∨ F = 2 ∨ F = 3 ∨ F = 4 ∨ F = 5 ∨ F = 6 ∨ F = 7 ∨ F = 8 ∨ F = 9 ∨ F = 10 ∨ F = 11 ∨ F = 12 ∨ F = 13 ∨ F = 14 ∨ F = 15 ∨ F = 16 ∨ F = 17 ∨ F = 18 ∨ F = 19 ∨ F = 20 := by omega
  rcases hn with rfl | rfl | rfl | rfl | rfl | rfl | rfl | rfl <;> rcases hF with rfl | rfl | rfl | rfl | rfl | rfl | rfl | rfl | rfl | rfl | rfl | rfl | rfl | rfl | rfl | rfl | rfl | rfl | rfl | rfl <;> first | (exfalso; omega) | decide +kernel
end Go.Proofs.YtjnffegjpkbjmaaGreat.Pure
