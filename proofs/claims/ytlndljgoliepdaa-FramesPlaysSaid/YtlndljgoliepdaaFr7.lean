/- Take, TakeMany, what is read, as one value of which frames are taken; the document's example; at whatever numbers. -/
import Derived.Test.YtlndljgoliepdaaFr6
import Derived.Test.YtlndljgoliepdaaFrPure
namespace Go.Proofs.Ytlndljgoliepdaa.QFramesPlays
open Go.RowKit Go.Proofs.YtlndljgoliepdaaW.PrintWords Go.Proofs.YtlndljgoliepdaaW.PrintLast Go.Proofs.YtlndljgoliepdaaW.PrintMore
set_option linter.unusedSimpArgs false
set_option linter.unusedVariables false
section
set_option maxHeartbeats 1000000
set_option maxRecDepth 100000
theorem below_grown {W W1 : World} (h : Below W.heap.size W W1) : W.grownBy W1 none := ⟨h.os, h.tape, h.output, h.size, fun k hk _ => h.block k hk⟩
theorem drawn_grown {W W1 : World} (h : Drawn0 W W1) : W.grownBy W1 none := by
  obtain ⟨n, rfl⟩ := h
  exact ⟨rfl, rfl, rfl, Nat.le_refl _, fun _ _ _ => rfl⟩
theorem new_apart {W W1 W2 : World} {p r B : Nat} {w0 : World} {ts : List Bool} {free : Int} {W3 : World} (h : W.grownBy W1 none) (hk : FrK W1 p r W2) (hf : Fr B w0 p r ts free W3) (hr : W.heap.size ≤ r) : W.grownBy W2 none := ⟨hk.os.trans h.os, hk.tape.trans h.tape, hk.output.trans h.output, Nat.le_trans h.size hk.size, fun k hk' _ => (hk.block k (Nat.lt_of_lt_of_le hk' h.size) (by have := hf.rp; omega) (by omega)).trans (h.block k hk' (by simp))⟩
/-- How many are free. -/
def cnt (ts : List Bool) : Int := (ts.count false : Nat)
theorem cnt_le (ts : List Bool) : 0 ≤ cnt ts ∧ cnt ts ≤ ts.length := by
  unfold cnt
  have := List.count_le_length (a := false) (l := ts)
  omega
theorem setN_at (ts : List Bool) (a : Nat) (b : Bool) (k i : Nat) (h : a + k ≤ ts.length) : (setN ts a b k).getD i false = if a ≤ i ∧ i < a + k then b else ts.getD i false := by
  induction k with
  | zero =>
    rw [if_neg (by omega)]
    rfl
  | succ k ih =>
    have ih := ih (by omega)
    show ((setN ts a b k).set (a + k) b).getD i false = _
    by_cases e : i = a + k
    · subst e
      rw [if_pos (by omega)]
      simp [List.getD, setN_len, show a + k < ts.length by omega]
    · rw [show ((setN ts a b k).set (a + k) b).getD i false = (setN ts a b k).getD i false by simp [List.getD, List.getElem?_set_ne (Ne.symm e)], ih]
      by_cases c : a ≤ i ∧ i < a + k
      · rw [if_pos c, if_pos (by omega)]
      · rw [if_neg c, if_neg (by omega)]
theorem cnt_set (ts : List Bool) (i : Nat) (b : Bool) (hi : i < ts.length) (hb : ts.getD i false = !b) : cnt (ts.set i b) = cnt ts + (if b then -1 else 1) := by
  unfold cnt
  rw [List.count_set hi]
  have e : ts[i] = !b := by rw [← hb]; simp [List.getD, hi]
  rw [e]
  cases b with
  | true =>
    have : 0 < ts.count false := List.count_pos_iff.2 (by have : ts[i] = false := e; rw [← this]; exact List.getElem_mem hi)
    simp
    omega
  | false => simp
theorem cnt_setN (ts : List Bool) (a : Nat) (b : Bool) (k : Nat) (h : a + k ≤ ts.length) (hb : ∀ i, i < k → ts.getD (a + i) false = !b) : cnt (setN ts a b k) = cnt ts + (if b then -(k : Int) else k) := by
  induction k with
  | zero => cases b <;> simp [setN]
  | succ k ih =>
    have ih := ih (by omega) (fun i hi => hb i (by omega))
    show cnt ((setN ts a b k).set (a + k) b) = _
    rw [cnt_set _ _ _ (by rw [setN_len]; omega) (by rw [setN_at _ _ _ _ _ (by omega), if_neg (by omega)]; exact hb k (by omega)), ih]
    cases b <;> simp <;> omega
theorem cnt_take {ts : List Bool} {x n : Nat} (hl : x + n ≤ ts.length) (hf : FreeIn ts x n) : cnt (setN ts x true n) = cnt ts - n := by
  rw [cnt_setN ts x true n hl (fun i hi => (hf i hi).2)]
  simp
  omega
theorem cnt_give {ts : List Bool} {x n : Nat} (hl : x + n ≤ ts.length) (hf : AllIn ts x n) : cnt (setN ts x false n) = cnt ts + n := by
  rw [cnt_setN ts x false n hl (fun i hi => hf i hi)]
  simp
/-- Frames, of which so many are free as are. -/
abbrev Fs (B : Nat) (w0 : World) (p r : Nat) (ts : List Bool) (W : World) : Prop := Fr B w0 p r ts (cnt ts) W
/-- Behind a taking of a run. -/
def Took (B : Nat) (w0 W0 : World) (p r : Nat) (ts : List Bool) (n each : Nat) (e : Ending) (W' : World) : Prop :=
  FrK W0 p r W' ∧ ((e = .returned (.tuple #[.int .i64 0, .int .i64 6]) ∧ Fs B w0 p r ts W' ∧ ∀ j, j * each + n ≤ ts.length → ¬ FreeIn ts (j * each) n) ∨
    ∃ x, e = .returned (.tuple #[.int .i64 (x : Nat), .int .i64 0]) ∧ Fs B w0 p r (setN ts x true n) W' ∧ First ts n each x)
theorem fs_take {B w0 p r ts W} (h : Fs B w0 p r ts W) (n each : Nat) (hn : 1 ≤ n) (he : 1 ≤ each) (he2 : each ≤ 70000) :
    Calls Try.prog 56 #[.pointer (some ⟨p, 0, none⟩), .int .i64 n, .int .i64 each] W (Took B w0 W p r ts n each) := by
  have hc := cnt_le ts
  have hl := h.len
  refine (fr_take h n each hn he he2 hc.1 (by omega)).mono fun e W' ⟨hk, hh⟩ => ⟨hk, ?_⟩
  rcases hh with hh | ⟨x, he, hf, hx⟩
  · exact .inl hh
  · refine .inr ⟨x, he, ?_, hx⟩
    obtain ⟨j, rfl, h1, h2, h3⟩ := hx
    unfold Fs
    rw [cnt_take h1 h2]
    exact hf
theorem fs_same {B w0 p r ts W W'} (h : Fs B w0 p r ts W) (hg : W.grownBy W' none) : Fs B w0 p r ts W' := h.same hg
theorem fs_len {B w0 p r ts W} (h : Fs B w0 p r ts W) (x : Int) (hx : (ts.length : Int) = x) : Calls Try.prog 30 #[.pointer (some ⟨p, 0, none⟩)] W fun e W' => e = .returned (.int .i64 x) ∧ Fs B w0 p r ts W' ∧ W.grownBy W' none := by
  subst hx
  exact (frames_Frames_Len.calls p ts (cnt ts) _ _ (trunc W p) W h.isS (trunc_below h.lt) rfl).mono fun e W' z => ⟨z.1, h.same (h.after0 z.2.1 z.2.2.1 z.2.2.2), h.after0 z.2.1 z.2.2.1 z.2.2.2⟩
theorem fs_free {B w0 p r ts W} (h : Fs B w0 p r ts W) (x : Int) (hx : cnt ts = x) : Calls Try.prog 32 #[.pointer (some ⟨p, 0, none⟩)] W fun e W' => e = .returned (.int .i64 x) ∧ Fs B w0 p r ts W' ∧ W.grownBy W' none := by
  subst hx
  exact (frames_Frames_Free.calls p ts (cnt ts) _ _ (trunc W p) W h.isS (trunc_below h.lt) rfl).mono fun e W' z => ⟨z.1, h.same (h.after0 z.2.1 z.2.2.1 z.2.2.2), h.after0 z.2.1 z.2.2.1 z.2.2.2⟩
theorem fs_longest {B w0 p r ts W} (h : Fs B w0 p r ts W) (k : Nat) (x : Int) (hf : frames_Frames_Longest.f k ts (cnt ts) = some (x, cnt ts)) : Calls Try.prog 33 #[.pointer (some ⟨p, 0, none⟩)] W fun e W' => e = .returned (.int .i64 x) ∧ Fs B w0 p r ts W' ∧ W.grownBy W' none :=
  (frames_Frames_Longest.calls k p ts (cnt ts) _ _ (trunc W p) W h.isS (trunc_below h.lt) hf).mono fun e W' z => ⟨z.1, h.same (h.after0 z.2.1 z.2.2.1 z.2.2.2), h.after0 z.2.1 z.2.2.1 z.2.2.2⟩
/-- Is a frame taken? -/
def isOf (ts : List Bool) (a : Int) : Bool := decide (0 ≤ a ∧ a < ts.length) && ts.getD a.toNat false
theorem is_f {ts : List Bool} (hl : ts.length ≤ 65536) (free a : Int) : frames_Frames_Is.f ts free a = some (isOf ts a, free) := by
  unfold frames_Frames_Is.f isOf
  rw [in_f hl, Option.bind_some]
  unfold inOf
  by_cases h : 0 ≤ a ∧ a < (ts.length : Int)
  · rw [decide_eq_true (show 0 ≤ a ∧ a < (ts.length : Int) ∧ 1 ≤ (ts.length : Int) - a from ⟨h.1, h.2, by omega⟩), if_pos rfl, if_pos h.1, if_pos h.2, decide_eq_true h]
    unfold rdOf
    simp [h.1]
  · rw [decide_eq_false (fun x : 0 ≤ a ∧ a < (ts.length : Int) ∧ 1 ≤ (ts.length : Int) - a => h ⟨x.1, x.2.1⟩), if_neg (by simp), decide_eq_false h]
    rfl
theorem fs_is {B w0 p r ts W} (h : Fs B w0 p r ts W) (a : Int) (b : Bool) (hb : isOf ts a = b) : Calls Try.prog 34 #[.pointer (some ⟨p, 0, none⟩), .int .i64 a] W fun e W' => e = .returned (.bool b) ∧ Fs B w0 p r ts W' ∧ W.grownBy W' none := by
  subst hb
  exact (frames_Frames_Is.calls p ts (cnt ts) a _ _ (trunc W p) W h.isS (trunc_below h.lt) (is_f h.len _ _)).mono fun e W' z => ⟨z.1, h.same (h.after0 z.2.1 z.2.2.1 z.2.2.2), h.after0 z.2.1 z.2.2.1 z.2.2.2⟩
theorem fs_list {B w0 p r ts W} (h : Fs B w0 p r ts W) (k : Nat) (x : List Int) (hf : frames_Frames_List.f k ts (cnt ts) = some (x, cnt ts)) :
    Calls Try.prog 40 #[.pointer (some ⟨p, 0, none⟩)] W fun e W' => (∃ v0, e = .returned v0 ∧ Kd.R (Kd.int .i64) 3 W' W.heap.size (fun _ => True) v0 x) ∧ Fs B w0 p r ts W' ∧ W.grownBy W' none :=
  (frames_Frames_List.calls k p ts (cnt ts) x _ (trunc W p) W h.isS (trunc_below h.lt) hf).mono fun e W' ⟨v0, he, hr, hi, hb, hk⟩ => ⟨⟨v0, he, hr⟩, h.same (h.after0 hi hb hk), h.after0 hi hb hk⟩
theorem cnt_new (m : Nat) : cnt (List.replicate m false) = m := by
  unfold cnt
  simp
theorem fs_new {B w0 W} (hb : Below B w0 W) (hB : B ≤ W.heap.size) (n : Int) (m : Nat) (hm : mn (mx n 0) 65536 = m) :
    Calls Try.prog 27 #[.int .i64 n] W fun e W' => ∃ p r, e = .returned (.pointer (some ⟨p, 0, none⟩)) ∧ Fs B w0 p r (List.replicate m false) W' ∧ W.heap.size ≤ r ∧ W.grownBy W' none := by
  have h1 : m ≤ 65536 := by
    unfold mn at hm
    split at hm <;> omega
  refine (fr_new hb hB n _ m rfl hm (by omega) (by omega)).mono fun e W' z => ⟨_, _, z.1, ?_, Nat.le_refl _, z.2.2⟩
  unfold Fs
  rw [cnt_new]
  have := z.2.1
  rw [Int.toNat_natCast] at this
  exact this
theorem fs_Take0 {B w0 p r ts W} (h : Fs B w0 p r ts W) (size : Int) (hr : runOf size = 0) : Calls Try.prog 37 #[.pointer (some ⟨p, 0, none⟩), .int .i64 size] W fun e W' => e = .returned (.tuple #[.int .i64 0, .int .i64 1]) ∧ Fs B w0 p r ts W' ∧ FrK W p r W' := by
  have HM := Aside0.mk h
  have HR := Aside0.mk hr
  have HK := Aside0.mk (FrK.refl W p r)
  clear h hr
  go_enter Try.func37, Try.ntmps37
  go_wp2_with (go_at_call 28; refine (frames_Run.calls _ 0 _ (by rw [prog_run, HR.out])).mono ?_; rintro e w1 ⟨rfl, hd⟩; replace HM := Aside0.mk (fs_same HM.out (drawn_grown hd)); replace HK := Aside0.mk (HK.out.trans (FrK.of_grown (drawn_grown hd))); clear hd)
  go_ret2
  exact ⟨rfl, HM.out, HK.out⟩
theorem fs_Take {B w0 p r ts W} (h : Fs B w0 p r ts W) (size : Int) (n : Nat) (hr : runOf size = n) (hn : 1 ≤ n) (hn2 : n ≤ 512) : Calls Try.prog 37 #[.pointer (some ⟨p, 0, none⟩), .int .i64 size] W (Took B w0 W p r ts n n) := by
  have HM := Aside0.mk h
  have HR := Aside0.mk hr
  have HK := Aside0.mk (FrK.refl W p r)
  have hz : ((n : Int) == 0) = false := by rw [beq_eq_false_iff_ne]; omega
  clear h hr
  go_enter Try.func37, Try.ntmps37
  go_wp2_with (first | (go_at_call 28; refine (frames_Run.calls _ (n : Int) _ (by rw [prog_run, HR.out])).mono ?_; rintro e w1 ⟨rfl, hd⟩; replace HM := Aside0.mk (fs_same HM.out (drawn_grown hd)); replace HK := Aside0.mk (HK.out.trans (FrK.of_grown (drawn_grown hd))); clear hd) | (go_at_call 56; refine (fs_take HM.out n n hn hn (by omega)).mono ?_; rintro e w2 ⟨hk, (⟨rfl, hf, hx⟩ | ⟨x, rfl, hf, hx⟩)⟩ <;> replace HK := Aside0.mk (HK.out.trans hk) <;> have HF := Aside0.mk hf <;> have HX := Aside0.mk hx <;> clear hk hf hx))
  · go_ret2
    exact ⟨HK.out, .inl ⟨rfl, HF.out, HX.out⟩⟩
  · go_ret2
    exact ⟨HK.out, .inr ⟨x, rfl, HF.out, HX.out⟩⟩
theorem fs_Many0 {B w0 p r ts W} (h : Fs B w0 p r ts W) (n : Int) (hr : n < 1) : Calls Try.prog 39 #[.pointer (some ⟨p, 0, none⟩), .int .i64 n] W fun e W' => e = .returned (.tuple #[.int .i64 0, .int .i64 1]) ∧ Fs B w0 p r ts W' ∧ FrK W p r W' := by
  have HM := Aside0.mk h
  have HK := Aside0.mk (FrK.refl W p r)
  clear h
  go_enter Try.func39, Try.ntmps39
  go_wp2
  go_ret2
  exact ⟨rfl, HM.out, HK.out⟩
theorem fs_Many {B w0 p r ts W} (h : Fs B w0 p r ts W) (n : Nat) (hn : 1 ≤ n) : Calls Try.prog 39 #[.pointer (some ⟨p, 0, none⟩), .int .i64 n] W (Took B w0 W p r ts n 1) := by
  have HM := Aside0.mk h
  have HK := Aside0.mk (FrK.refl W p r)
  have hn' : ¬ (n : Int) < 1 := by omega
  clear h
  go_enter Try.func39, Try.ntmps39
  go_wp2_with (go_at_call 56; refine (fs_take HM.out n 1 hn (by omega) (by omega)).mono ?_; rintro e w2 ⟨hk, (⟨rfl, hf, hx⟩ | ⟨x, rfl, hf, hx⟩)⟩ <;> replace HK := Aside0.mk (HK.out.trans hk) <;> have HF := Aside0.mk hf <;> have HX := Aside0.mk hx <;> clear hk hf hx)
  · go_ret2
    exact ⟨HK.out, .inl ⟨rfl, HF.out, HX.out⟩⟩
  · go_ret2
    exact ⟨HK.out, .inr ⟨x, rfl, HF.out, HX.out⟩⟩
/-- The first free run is one: what is found is told. -/
theorem first_eq {ts : List Bool} {n each x y : Nat} (h1 : First ts n each x) (h2 : First ts n each y) : x = y := by
  obtain ⟨i, rfl, a1, a2, a3⟩ := h1
  obtain ⟨j, rfl, b1, b2, b3⟩ := h2
  rcases Nat.lt_trichotomy i j with c | rfl | c
  · exact absurd a2 (b3 i c)
  · rfl
  · exact absurd b2 (a3 j c)
theorem took_at {B w0 W0 p r ts n each e W'} (h : Took B w0 W0 p r ts n each e W') {x : Nat} (hx : First ts n each x) : e = .returned (.tuple #[.int .i64 (x : Nat), .int .i64 0]) ∧ Fs B w0 p r (setN ts x true n) W' ∧ FrK W0 p r W' := by
  obtain ⟨hk, ⟨he, hf, hn⟩ | ⟨y, he, hf, hy⟩⟩ := h
  · obtain ⟨j, rfl, a1, a2, a3⟩ := hx
    exact absurd a2 (hn j a1)
  · obtain rfl := first_eq hx hy
    exact ⟨he, hf, hk⟩
instance (ts : List Bool) (a k : Nat) : Decidable (FreeIn ts a k) := by unfold FreeIn; exact inferInstance
theorem lives_calls (W : World) : Calls Try.prog 35 #[] W fun e W' => e = .returned (.bool true) ∧ W.grownBy W' none := by
  have f0 : First (List.replicate 20 false) 1 1 0 := ⟨0, by decide⟩
  have f1 : First (setN (List.replicate 20 false) 0 true 1) 8 8 8 := ⟨1, by decide⟩
  have f2 : First (setN (setN (List.replicate 20 false) 0 true 1) 8 true 8) 1 1 1 := ⟨1, by decide⟩
  have hc : cnt (setN (setN (setN (List.replicate 20 false) 0 true 1) 8 true 8) 1 true 1) = 10 := by decide
  have HF := Aside0.mk (And.intro f0 (And.intro f1 (And.intro f2 hc)))
  have HK := Aside0.mk (grown_refl W none)
  clear f0 f1 f2 hc
  go_enter Try.func35, Try.ntmps35
  go_wp2_with (go_at_call 27; refine (fs_new (Below.refl W.heap.size W) (Nat.le_refl _) 20 20 (by decide)).mono ?_; rintro e w1 ⟨p, r, rfl, hM, hr, hg⟩; have HM := Aside0.mk hM; have HL := Aside0.mk hr; have HG := Aside0.mk hg; clear hM hr hg)
  go_wp2_with fail
  refine (fs_Take HM.out 0 1 (by decide) (by omega) (by omega)).mono ?_
  intro e w2 ht
  obtain ⟨rfl, hM, hk⟩ := took_at ht HF.out.1
  replace HM := Aside0.mk hM
  have HK2 := Aside0.mk hk
  clear hM hk ht
  go_wp2_with fail
  refine (fs_Take HM.out 1 8 (by decide) (by omega) (by omega)).mono ?_
  intro e w3 ht
  obtain ⟨rfl, hM, hk⟩ := took_at ht HF.out.2.1
  replace HM := Aside0.mk hM
  replace HK2 := Aside0.mk (HK2.out.trans hk)
  clear hM hk ht
  go_wp2_with fail
  refine (fs_Take HM.out 0 1 (by decide) (by omega) (by omega)).mono ?_
  intro e w4 ht
  obtain ⟨rfl, hM, hk⟩ := took_at ht HF.out.2.2.1
  replace HM := Aside0.mk hM
  replace HK2 := Aside0.mk (HK2.out.trans hk)
  clear hM hk ht
  go_wp2_with fail
  refine (fs_free HM.out 10 HF.out.2.2.2).mono ?_
  rintro e w5 ⟨rfl, hM, hg⟩
  replace HM := Aside0.mk hM
  replace HK2 := Aside0.mk (HK2.out.trans (FrK.of_grown hg))
  clear hM hg
  go_wp2
  go_ret
  exact ⟨rfl, new_apart HG.out HK2.out HM.out HL.out⟩
end
end Go.Proofs.Ytlndljgoliepdaa.QFramesPlays
