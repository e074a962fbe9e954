/- SwapFails: a Change that fails leaves the TSB as it was, and the frames. -/
import Derived.Deep.Onto
import Derived.Test.YtjnffegjpkbjmaaGreatSx4
import Derived.Test.YtjnffegjpkbjmaaGreatQTsbPlaysx24
/- merged: YtjnffegjpkbjmaaGreatTsO -/
/- merged: YtjnffegjpkbjmaaGreatTsLk -/
namespace Go.Proofs.YtjnffegjpkbjmaaGreat.Mem
open Go.RowKit Go.Maps Go.Shelf Go.Proofs.YtjnffegjpkbjmaaGreatW.PrintWords Go.Proofs.YtjnffegjpkbjmaaGreatW.PrintLast Go.Proofs.YtjnffegjpkbjmaaGreatW.PrintMore Go.Proofs.YtjnffegjpkbjmaaGreat.QTsbPlays Go.Proofs.YtjnffegjpkbjmaaGreat.Pure
attribute [local go_sem] Oper.semAt_some
set_option linter.unusedSimpArgs false
set_option linter.unusedVariables false
section
set_option maxHeartbeats 2000000
set_option maxRecDepth 100000
/-- What stands between two rounds of Locked. -/
structure LK (B : Nat) (w0 W0 : World) (p mb pt s1 s3 : Nat) (sz : Int) (n : Nat) (D : DataW Unit) (base N s : Nat) (grade : Int) (c : Nat) (W : World) : Prop where
  mem : Mem B w0 p mb sz n D W
  row : W.heap[pt]? = some (.cells (TCs p base N s grade) 119 (0, 0))
  box : W.heap[s1]? = some (.cells #[.pointer (some ⟨pt, 0, none⟩)] 44 (0, 0))
  out : W.heap[s3]? = some (.cells #[.int .i64 (c : Int)] 3 (0, 0))
  gr : W0.grownBy W none
theorem LK.kept {B w0 W0 p mb pt s1 s3 sz n D base N s grade c W W' row} (h : LK B w0 W0 p mb pt s1 s3 sz n D base N s grade c W) (hg : W.grownBy W' row) (hr : ∀ j, row = some j → mb < j ∧ p < j ∧ pt < j ∧ s1 < j ∧ s3 < j ∧ W0.heap.size ≤ j ∧ B ≤ j) : LK B w0 W0 p mb pt s1 s3 sz n D base N s grade c W' := by
  refine ⟨h.mem.kept hg (fun e => by have := (hr _ e.symm).1; omega) (fun e => by have := (hr _ e.symm).2.1; omega) (fun k e => (hr k e).2.2.2.2.2.2), (hg.block pt (blk_lt h.row) (fun e => by have := (hr _ e.symm).2.2.1; omega)).trans h.row, (hg.block s1 (blk_lt h.box) (fun e => by have := (hr _ e.symm).2.2.2.1; omega)).trans h.box, (hg.block s3 (blk_lt h.out) (fun e => by have := (hr _ e.symm).2.2.2.2.1; omega)).trans h.out, ?_⟩
  cases row with
  | none => exact grown_two h.gr hg
  | some j => exact grown_loc h.gr hg (hr j rfl).2.2.2.2.2.1
theorem LK.same {B w0 W0 p mb pt s1 s3 sz n D base N s grade c W W'} (h : LK B w0 W0 p mb pt s1 s3 sz n D base N s grade c W) (hg : W.grownBy W' none) : LK B w0 W0 p mb pt s1 s3 sz n D base N s grade c W' := h.kept hg (fun j e => by cases e)
/-- The count's box is written. -/
theorem LK.put {B w0 W0 p mb pt s1 s3 sz n D base N s grade c W} (h : LK B w0 W0 p mb pt s1 s3 sz n D base N s grade c W) (c' : Nat) (hB : B ≤ s3) (hW : W0.heap.size ≤ s3) : LK B w0 W0 p mb pt s1 s3 sz n D base N s grade c' (W.setCell ⟨s3, 0, none⟩ (.int .i64 (c' : Int))) ∧ W.grownBy (W.setCell ⟨s3, 0, none⟩ (.int .i64 (c' : Int))) (some s3) := by
  have hg := grown_cellq W ⟨s3, 0, none⟩ (.int .i64 (c' : Int))
  have hk : ∀ k, some s3 = some k → ∃ cs, W.heap[k]? = some (.cells cs 3 (0, 0)) := fun k e => by cases e; exact ⟨_, h.out⟩
  exact ⟨⟨h.mem.keptR hg hk (by decide) (fun k e => by obtain rfl : s3 = k := Option.some.inj e; exact hB), blk_keptR h.row hg hk (by decide), blk_keptR h.box hg hk (by decide), blk_put h.out 0 _ rfl, below_grownW h.gr hg (fun k e => by obtain rfl : s3 = k := Option.some.inj e; exact hW)⟩, hg⟩
end
end Go.Proofs.YtjnffegjpkbjmaaGreat.Mem
/- merged: YtjnffegjpkbjmaaGreatTsLR -/
namespace Go.Proofs.YtjnffegjpkbjmaaGreat.Mem
open Go.RowKit Go.Maps Go.Proofs.YtjnffegjpkbjmaaGreatW.PrintWords Go.Proofs.YtjnffegjpkbjmaaGreatW.PrintLast Go.Proofs.YtjnffegjpkbjmaaGreatW.PrintMore Go.Proofs.YtjnffegjpkbjmaaGreat.QTsbPlays Go.Proofs.YtjnffegjpkbjmaaGreat.Pure
set_option linter.unusedSimpArgs false
set_option linter.unusedVariables false
section
set_option maxHeartbeats 1000000
set_option maxRecDepth 100000
/-- An entry as the lists have it. -/
abbrev geR (g : GE) : Ent := ⟨g.s, g.c, g.v, g.p, ⟨g.w, g.pr, g.x, g.l, g.g, g.q⟩, true⟩
theorem flat_len : ∀ gs : List GE, (flatG gs).length = gs.length * 11
  | [] => rfl
  | g :: gs => by
    show ((geA g).toList ++ flatG gs).length = _
    rw [List.length_append, flat_len gs]
    simp only [List.length_cons]
    show 11 + _ = _
    omega
theorem flat_seg : ∀ (gs : List GE) (j : Nat) (g : GE), gs[j]? = some g → ((flatG gs).drop (j * 11)).take 11 = (geA g).toList
  | [], j, g, h => by simp at h
  | x :: gs, 0, g, h => by
    obtain rfl : x = g := by simpa using h
    show (((geA x).toList ++ flatG gs).drop (0 * 11)).take 11 = _
    rw [Nat.zero_mul, List.drop_zero]
    exact List.take_left' rfl
  | x :: gs, j + 1, g, h => by
    have h2 : gs[j]? = some g := by simpa using h
    show (((geA x).toList ++ flatG gs).drop ((j + 1) * 11)).take 11 = _
    have e : (j + 1) * 11 = (geA x).toList.length + j * 11 := by show _ = 11 + _; omega
    rw [e, ← List.drop_drop, List.drop_left']
    · exact flat_seg gs j g h2
    · rfl
theorem list_R {W : World} {base : Nat} {v : Value} {gs : List GE} (h : W.ownsRow base 41 11 v gs.length (flatG gs)) : Kd.R k41 41 W base (fun _ => True) v (gs.map geR) := by
  refine ⟨fun _ _ => trivial, flatG gs, ?_, ?_, fun j p hp => ?_⟩
  · rw [List.length_map]; exact h
  · rw [List.length_map]; exact flat_len gs
  · rw [List.getElem?_map, Option.map_eq_some_iff] at hp
    obtain ⟨g, hg, rfl⟩ := hp
    show k41.M W base _ (geR g) (((flatG gs).drop (j * 11)).take 11)
    rw [flat_seg gs j g hg]
    exact k41_mkM _ _ _ (geR g)
theorem q_list {B : Nat} {w0 W : World} {p mb : Nat} {sz : Int} {n : Nat} {D : DataW Unit} {pt base N s : Nat} {grade : Int} {ws : Nat → Wd} (b : TB base N s sz) (h : Mem B w0 p mb sz n D W) (hD : Holds D base N s ws) (kt : W.heap[pt]? = some (.cells (TCs p base N s grade) 119 (0, 0))) :
    Calls Tryz.prog 11 #[.pointer (some ⟨pt, 0, none⟩)] W fun e W' => ∃ v, e = .returned v ∧ Kd.R k41 41 W' W.heap.size (fun _ => True) v ((listW N s ws).map geR) ∧ W.grownBy W' none := by
  refine (list_calls b h hD kt).mono ?_
  rintro e W' ⟨v, rfl, ho, hg⟩
  exact ⟨v, rfl, list_R ho, hg⟩
end
end Go.Proofs.YtjnffegjpkbjmaaGreat.Mem
/- merged: YtjnffegjpkbjmaaGreatTsDc -/
namespace Go.Proofs.YtjnffegjpkbjmaaGreat.Mem
open Go.RowKit Go.Maps Go.Shelf Go.Proofs.YtjnffegjpkbjmaaGreatW.PrintWords Go.Proofs.YtjnffegjpkbjmaaGreatW.PrintLast Go.Proofs.YtjnffegjpkbjmaaGreatW.PrintMore Go.Proofs.YtjnffegjpkbjmaaGreat.QTsbPlays Go.Proofs.YtjnffegjpkbjmaaGreat.Pure
attribute [local go_sem] Oper.semAt_some
set_option linter.unusedSimpArgs false
set_option linter.unusedVariables false
section
set_option maxHeartbeats 2000000
set_option maxRecDepth 100000
/-- A place is dropped. -/
theorem Holds.drop {D base N s ws} (h : Holds D base N s ws) (hb : base % 16 = 0) {i : Nat} (hi : i < N) : Holds (st (st D (((base + 16 * i : Nat) : Int) / 8) 9223372036854775807) (((base + 16 * i : Nat) : Int) / 8 + 1) 0) base N s (setW ws i (BADW, 0)) := by
  have h1 := (h.setTag hb hi (t := BADW) (by decide)).setData hb hi (d := 0) (by decide) (.inl rfl)
  rw [setW_two, setW_at] at h1
  exact h1
end
end Go.Proofs.YtjnffegjpkbjmaaGreat.Mem
namespace Go.Proofs.YtjnffegjpkbjmaaGreat.Mem
open Go.RowKit Go.Maps Go.Proofs.YtjnffegjpkbjmaaGreatW.PrintWords Go.Proofs.YtjnffegjpkbjmaaGreatW.PrintLast Go.Proofs.YtjnffegjpkbjmaaGreatW.PrintMore Go.Proofs.YtjnffegjpkbjmaaGreat.QTsbPlays Go.Proofs.YtjnffegjpkbjmaaGreat.Pure
set_option linter.unusedSimpArgs false
set_option linter.unusedVariables false
section
set_option maxHeartbeats 1000000
set_option maxRecDepth 100000
def listO (N : Nat) (os : Nat → Option GE) : List GE := (List.range N).filterMap os
theorem filterMap_eq {α β : Type} (f g : α → Option β) : ∀ l : List α, (∀ x ∈ l, f x = g x) → l.filterMap f = l.filterMap g
  | [], _ => rfl
  | x :: l, h => by
    rw [List.filterMap_cons, List.filterMap_cons, h x (by simp), filterMap_eq f g l (fun y hy => h y (by simp [hy]))]
theorem own_O {N s : Nat} {sz : Int} {base : Nat} (b : TB base N s sz) {os : Nat → Option GE} (h : OKO N s os) {i : Nat} (hi : i < N) : ownW N s i (WO os i) = os i := by
  cases ho : os i with
  | none =>
    have e : WO os i = (BADW, 0) := by unfold WO; rw [ho]; rfl
    rw [e]
    exact ownW_bad N s i 0
  | some g =>
    obtain ⟨h1, h2, h3⟩ := h i hi g ho
    have e : WO os i = (g.tag, g.data) := by unfold WO; rw [ho]; rfl
    rw [e]
    subst h2
    have hq := b.hq
    have := ownW_ge h1 hq b.h1
    rw [h3] at this
    exact this
theorem listW_O {N s : Nat} {sz : Int} {base : Nat} (b : TB base N s sz) {os : Nat → Option GE} (h : OKO N s os) : listW N s (WO os) = listO N os :=
  filterMap_eq _ _ _ (fun i hi => own_O b h (List.mem_range.1 hi))
section
variable {B : Nat} {w0 W : World} {p mb pt : Nat} {sz : Int} {base N s n : Nat} {grade : Int} {os : Nat → Option GE}
theorem o_list (b : TB base N s sz) (h : TQ B w0 p mb pt sz base N s grade n os W) :
    Calls Tryz.prog 11 #[.pointer (some ⟨pt, 0, none⟩)] W fun e W' => ∃ v, e = .returned v ∧ Kd.R k41 41 W' W.heap.size (fun _ => True) v ((listO N os).map geS) ∧ W.grownBy W' none := by
  obtain ⟨D, hM, hD⟩ := h.mem
  have := q_list b hM hD h.row
  rw [listW_O b h.ok] at this
  exact this
theorem list_le (N : Nat) (os : Nat → Option GE) : (listO N os).length ≤ N := by
  have := List.length_filterMap_le os (List.range N)
  rw [List.length_range] at this
  exact this
end
end
end Go.Proofs.YtjnffegjpkbjmaaGreat.Mem
/- merged: YtjnffegjpkbjmaaGreatSx5 -/
namespace Go.Proofs.YtjnffegjpkbjmaaGreat.Mem
open Go.Proofs.YtjnffegjpkbjmaaGreat.QFramesPlays (Fs Fr FrK Took fs_Many fs_new fs_list fs_free took_at setN cnt First FreeIn)
open Go.RowKit Go.Maps Go.Proofs.YtjnffegjpkbjmaaGreatW.PrintWords Go.Proofs.YtjnffegjpkbjmaaGreatW.PrintLast Go.Proofs.YtjnffegjpkbjmaaGreatW.PrintMore Go.Proofs.YtjnffegjpkbjmaaGreat.QTsbPlays Go.Proofs.YtjnffegjpkbjmaaGreat.Pure
set_option linter.unusedSimpArgs false
set_option linter.unusedVariables false
section
set_option maxHeartbeats 2000000
set_option maxRecDepth 100000
theorem took_not {B : Nat} {w0 W0 W' : World} {p r n each : Nat} {ts : List Bool} {e : Ending} (h : Took B w0 W0 p r ts n each e W') (hn : ∀ x, ¬ First ts n each x) : e = .returned (.tuple #[.int .i64 0, .int .i64 6]) ∧ Fs B w0 p r ts W' ∧ FrK W0 p r W' := by
  obtain ⟨hk, ⟨he, hf, _⟩ | ⟨y, he, hf, hy⟩⟩ := h
  · exact ⟨he, hf, hk⟩
  · exact absurd hy (hn y)
theorem TQ.frk {B : Nat} {w0 W W' : World} {p mb pt : Nat} {sz : Int} {base N s n : Nat} {grade : Int} {os : Nat → Option GE} {pf rf : Nat} {ts : List Bool} (h : TQ B w0 p mb pt sz base N s grade n os W) (hF : Fs B w0 pf rf ts W) (hk : FrK W pf rf W') : TQ B w0 p mb pt sz base N s grade n os W' := by
  obtain ⟨D, hM, hD⟩ := h.mem
  have e1 : pt ≠ pf := by rintro rfl; have := hF.row; rw [h.row] at this; injection this with this; injection this with _ a; exact absurd a (by decide)
  have e2 : pt ≠ rf := by rintro rfl; have := hF.bits; rw [h.row] at this; injection this with this; injection this with _ a; exact absurd a (by decide)
  exact ⟨⟨D, hM.frk hF hk, hD⟩, (hk.block pt (blk_lt h.row) e1 e2).trans h.row, h.ok⟩
theorem blk_frk {B g' pf rf : Nat} {w0 W W1 : World} {ts : List Bool} {cs : Array Value} {t : TypeId} (hb : W.heap[g']? = some (.cells cs t (0, 0))) (h1 : t ≠ 89) (h2 : t ≠ 4) (hF : Fs B w0 pf rf ts W) (hk : FrK W pf rf W1) : W1.heap[g']? = some (.cells cs t (0, 0)) := by
  have e1 : g' ≠ pf := by rintro rfl; have := hF.row; rw [hb] at this; injection this with this; injection this with _ a; exact h1 a
  have e2 : g' ≠ rf := by rintro rfl; have := hF.bits; rw [hb] at this; injection this with this; injection this with _ a; exact h2 a
  exact (hk.block g' (blk_lt hb) e1 e2).trans hb
/-- No frame is free. -/
def Full (ts : List Bool) : Prop := ∀ i, i < ts.length → ts.getD i false = true
theorem full_first {ts : List Bool} (h : Full ts) {n : Nat} (hn : 1 ≤ n) : ∀ x, ¬ First ts n 1 x := by
  rintro x ⟨j, rfl, h1, h2, _⟩
  obtain ⟨a, b⟩ := h2 0 hn
  rw [h _ a] at b
  cases b
theorem full_all (n : Nat) (h1 : 1 ≤ n) (h2 : n ≤ 8) : Full (setN (List.replicate n false) 0 true n) ∧ cnt (setN (List.replicate n false) 0 true n) = 0 := by
  have hn : n = 1 ∨ n = 2 ∨ n = 3 ∨ n = 4 ∨ n = 5 ∨ n = 6 ∨ n = 7 ∨ n = 8 := by omega
  rcases hn with rfl | rfl | rfl | rfl | rfl | rfl | rfl | rfl <;> exact ⟨by unfold Full; decide, by decide⟩
def wantOf (s : Nat) (other : Int) : Int := if frsW (s : Int) other = 0 then 1 else 6
theorem swfail_calls {B : Nat} {w0 W : World} {pm pf rf : Nat} {ts : List Bool} (hF : Fs B w0 pf rf ts W) (hfu : Full ts) (s : Nat) (other : Int) :
    Calls Tryz.prog 27 #[.pointer (some ⟨pm, 0, none⟩), .pointer (some ⟨pf, 0, none⟩), .int .i64 (s : Int), .int .i64 other] W fun e W' => e = .returned (.tuple #[.pointer none, .int .i64 (wantOf s other)]) ∧ Fs B w0 pf rf ts W' ∧ FrK W pf rf W' := by
  have HF := Aside0.mk hF
  have HFU := Aside0.mk hfu
  have HPF := Aside0.mk (Pure.pFrames (s : Int) other)
  obtain ⟨fr, hfr⟩ : ∃ z, z = frsW (s : Int) other := ⟨_, rfl⟩
  rw [← hfr] at HPF
  have HW := Aside0.mk (show wantOf s other = if fr = 0 then 1 else 6 by rw [hfr]; rfl)
  clear hF hfu hfr
  go_enter Tryz.func27, Tryz.ntmps27
  go_wp2_with fail
  refine (swap_Frames.calls _ _ _ _ HPF.out).mono ?_
  rintro x0 w1 ⟨rfl, hd⟩
  have hg := drawn_grown hd
  replace HF := Aside0.mk (HF.out.same hg)
  have HK := Aside0.mk (QFramesPlays.FrK.of_grown (p := pf) (r := rf) hg)
  clear hd hg
  by_cases h0 : fr = 0
  · subst h0
    go_wp2_with fail
    exact bodyPost_ret (v := .tuple #[.pointer none, .int .i64 1]) (by simp [results, Tryz.f27]) rfl ⟨by rw [HW.out]; rfl, HF.out, HK.out⟩
  · have hfz : ((fr : Int) == 0) = false := by simpa using h0
    have hf1 : 1 ≤ fr := by omega
    have HW6 := Aside0.mk (show wantOf s other = 6 by rw [HW.out, if_neg h0])
    clear h0
    go_wp2_with fail
    refine (fs_Many HF.out fr hf1).mono ?_
    rintro x0 w2 hT
    obtain ⟨rfl, hF2, hK⟩ := took_not hT (full_first HFU.out hf1)
    replace HK := Aside0.mk (HK.out.trans hK)
    replace HF := Aside0.mk hF2
    clear hT hF2 hK hfz hf1
    go_wp2_with fail
    exact bodyPost_ret (v := .tuple #[.pointer none, .int .i64 6]) (by simp [results, Tryz.f27]) rfl ⟨by rw [HW6.out], HF.out, HK.out⟩
theorem chfail_calls {B : Nat} {w0 W : World} {pm pf rf pt : Nat} {ts : List Bool} (hF : Fs B w0 pf rf ts W) (hfu : Full ts) (s : Nat) (other : Int) :
    Calls Tryz.prog 12 #[.pointer (some ⟨pm, 0, none⟩), .pointer (some ⟨pf, 0, none⟩), .pointer (some ⟨pt, 0, none⟩), .int .i64 (s : Int), .int .i64 other] W fun e W' => e = .returned (.tuple #[.pointer none, .int .i64 0, .int .i64 (wantOf s other)]) ∧ Fs B w0 pf rf ts W' ∧ FrK W pf rf W' := by
  have HF := Aside0.mk hF
  have HFU := Aside0.mk hfu
  have hw : (wantOf s other != 0) = true := by unfold wantOf; split <;> rfl
  clear hF hfu
  go_enter Tryz.func12, Tryz.ntmps12
  go_wp2_with fail
  refine (swfail_calls HF.out HFU.out s other).mono ?_
  rintro x0 w1 ⟨rfl, hF, hK⟩
  have HF2 := Aside0.mk hF
  have HK := Aside0.mk hK
  clear hF hK
  obtain ⟨wt, hwt⟩ : ∃ z, z = wantOf s other := ⟨_, rfl⟩
  rw [← hwt] at hw ⊢
  have HWT := Aside0.mk hwt
  clear hwt
  go_wp2_with fail
  exact bodyPost_ret (v := .tuple #[.pointer none, .int .i64 0, .int .i64 wt]) (by simp [results, Tryz.f12]) rfl ⟨by rw [HWT.out], HF2.out, HK.out⟩
end
end Go.Proofs.YtjnffegjpkbjmaaGreat.Mem
namespace Go.Proofs.YtjnffegjpkbjmaaGreat.Mem
open Go.Proofs.YtjnffegjpkbjmaaGreat.QFramesPlays (Fs Fr FrK Took fs_Many fs_new fs_list fs_free took_at setN cnt fs_same)
open Go.RowKit Go.Maps Go.Proofs.YtjnffegjpkbjmaaGreatW.PrintWords Go.Proofs.YtjnffegjpkbjmaaGreatW.PrintLast Go.Proofs.YtjnffegjpkbjmaaGreatW.PrintMore Go.Proofs.YtjnffegjpkbjmaaGreat.QTsbPlays Go.Proofs.YtjnffegjpkbjmaaGreat.Pure
set_option linter.unusedSimpArgs false
set_option linter.unusedVariables false
section
set_option maxHeartbeats 2000000
set_option maxRecDepth 100000
theorem same_l (l : List Ent) (hl : l.length ≤ 1000000) : ∀ m i k, i + m = l.length → m + 1 ≤ k → lookasideref06_Same.l0 k l l (i : Int) = some true
  | 0, i, k, h, hk => by
    obtain ⟨k, rfl⟩ : ∃ m, k = m + 1 := ⟨k - 1, by omega⟩
    rw [lookasideref06_Same.l0, if_neg (by omega)]
  | m + 1, i, k, h, hk => by
    obtain ⟨k, rfl⟩ : ∃ m, k = m + 1 := ⟨k - 1, by omega⟩
    have ih := same_l l hl m (i + 1) k (by omega) (by omega)
    have hw : wrap64 ((i : Int) + 1) = ((i + 1 : Nat) : Int) := by unfold wrap64; omega
    rw [lookasideref06_Same.l0, if_pos (by omega), if_pos (by omega), if_pos (by omega), if_neg (by simp), hw]
    exact ih
theorem same_f (l : List Ent) (hl : l.length ≤ 1000000) : lookasideref06_Same.f (l.length + 1) l l = some true := by
  unfold lookasideref06_Same.f
  rw [if_pos rfl]
  exact same_l l hl l.length 0 _ (by omega) (Nat.le_refl _)
theorem want_cases (s : Nat) (other : Int) : (frsW (s : Int) other = 0 ∧ wantOf s other = 1) ∨ (¬ frsW (s : Int) other = 0 ∧ wantOf s other = 6) := by
  unfold wantOf
  by_cases h : frsW (s : Int) other = 0
  · exact .inl ⟨h, if_pos h⟩
  · exact .inr ⟨h, if_neg h⟩
noncomputable def sfails14_T : Bool × List (List Nat × List Nat) := rtab .any (opsOf Tryz.f3 14)
theorem sfails14_tab : rtab .any (opsOf Tryz.f3 14) = sfails14_T := rfl
theorem swapFails_calls (size grade : Int) (x : Option Addr) (len cap0 : Nat) (other : Int) (W : World) (hs : (Lit.int .i64 size).wf = true) (hg : (Lit.int .i64 grade).wf = true) (hl : Ents W x len ∧ len ≤ maxLen) (ho : (Lit.int .i64 other).wf = true) :
    Calls Tryz.prog 3 #[.int .i64 size, .int .i64 grade, .slice x len cap0, .int .i64 other] W fun e W' => e = .returned (.bool true) ∧ Below W.heap.size W W' := by
  have HEN := Aside0.mk hl.1
  have hlm : len ≤ 9223372036854775807 := hl.2
  have HG := Aside0.mk (grown_refl W none)
  clear hs hg hl ho
  go_enter Tryz.func3, Tryz.ntmps3
  go_wp2_with fail
  refine (lookasideref08_Around.calls size 4 _ _ (rAround4 size)).mono ?_
  rintro x0 w3 ⟨rfl, hd⟩
  replace HG := Aside0.mk (grown_two HG.out (drawn_grown hd))
  clear hd
  go_wp2_with fail
  refine (lookasideref08_Around.calls grade 4 _ _ (rAround4 grade)).mono ?_
  rintro x0 w4 ⟨rfl, hd⟩
  replace HG := Aside0.mk (grown_two HG.out (drawn_grown hd))
  clear hd
  have hs4 := ar4_lt size
  have hg4 := ar4_lt grade
  generalize ar4 size = s at hs4 ⊢
  generalize ar4 grade = g at hg4 ⊢
  have HSG := Aside0.mk (And.intro hs4 hg4)
  have hin := frs_in s g hs4 hg4
  have HPF := Aside0.mk (Pure.pFrames (s : Int) (g : Int))
  obtain ⟨fr, hfr⟩ : ∃ z, z = frsW (s : Int) (g : Int) := ⟨_, rfl⟩
  rw [← hfr] at hin HPF
  have HFR := Aside0.mk hfr
  have HIN := Aside0.mk hin
  have HTB := Aside0.mk (show TB 0 (plcs s g) s ((fr * 8192 : Nat) : Int) by
    have h2 := plcs_le s g hs4 hg4
    exact ⟨hs4, h2.1, h2.2, by decide, by omega, by omega, plcs_mod s g hs4 hg4⟩)
  clear hs4 hg4 hin hfr
  go_wp2_with fail
  refine (swap_Frames.calls _ _ _ _ HPF.out).mono ?_
  rintro x0 wb ⟨rfl, hd⟩
  replace HG := Aside0.mk (grown_two HG.out (drawn_grown hd))
  clear hd
  go_wp2_with fail
  refine (begin13F_calls fr (by have := HIN.out; omega) _).mono ?_
  rintro x0 w5 ⟨h, pm, mb, pf, rf, rfl, hh, hM, hF, hhb, hg⟩
  have HM := Aside0.mk hM
  have HF := Aside0.mk hF
  have HB := Aside0.mk hh
  have HHB := Aside0.mk hhb
  clear hh hM hF hhb hg HPF
  go_wp2_with fail
  refine (wmakeF_calls ⟨[], rfl⟩ HM.out HF.out HB.out HHB.out s g HSG.out.1 HSG.out.2 (by decide) (by rw [← HFR.out]; exact Nat.le_refl _) (by have := HIN.out; omega)).mono ?_
  rintro x0 w7 ⟨rfl, pt, lb, sb, cap, cap5, v3, lcs, scs, A, c, hh, hl, hl0, hs, h5, hsb, hR, hT, hF⟩
  have HG4 := HG
  have HB2 := Aside0.mk hh
  have HL := Aside0.mk hl
  have HL0 := Aside0.mk hl0
  have hs5 : 5 ≤ scs.size := by
    have e := congrArg List.length h5
    simp at e
    omega
  have hix : ∀ i, i < 5 → scs[i]? = [Value.int .i64 (s : Int), .int .i64 (plcs s g : Int), .slice A 0 c, .int .i64 0, .int .i64 (g : Int)][i]? := fun i hi => by
    have e := congrArg (fun l => l[i]?) h5
    simp only [List.getElem?_take] at e
    rw [if_pos hi] at e
    rw [← e]
    simp
  have HS := Aside0.mk (show w7.heap[sb]? = some (.cells scs 66 (0, 0)) ∧ 5 ≤ scs.size ∧ scs[0]? = some (.int .i64 (s : Int)) ∧ scs[1]? = some (.int .i64 (plcs s g : Int)) ∧ scs[2]? = some (.slice A (List.length ([] : List (S141))) c) from ⟨hs, hs5, hix 0 (by decide), hix 1 (by decide), hix 2 (by decide)⟩)
  have HSB := Aside0.mk hsb
  have HR := Aside0.mk (show Kd.R k141 141 w7 wb.heap.size (fun _ => True) (.slice A (List.length ([] : List (S141))) c) [] from hR)
  rw [Nat.zero_add] at hT
  have HT := Aside0.mk hT
  have HF2 := Aside0.mk (show Fs wb.heap.size wb pf rf (setN (List.replicate fr false) 0 true fr) w7 by have := hF; rw [← HFR.out] at this; exact this)
  have hfu := full_all fr HIN.out.1 HIN.out.2.1
  have HFU := Aside0.mk hfu
  obtain ⟨ts, hts⟩ : ∃ z, z = setN (List.replicate fr false) 0 true fr := ⟨_, rfl⟩
  rw [← hts] at HF2 HFU
  clear hh hl hl0 hs h5 hsb hR hT hF hs5 hix HM HF HB HHB HFR hfu hts
  have hN0 : plcs s g ≤ 4096 := HTB.out.hN
  generalize plcs s g = N at HTB HS HT HIN hN0 ⊢
  obtain ⟨q0, q1, q2, q3, q4, q5⟩ := cz6 HB2.out
  go_wp2_with fail
  clear q0 q1 q2 q3 q4 q5
  go_loopw [11] (fun v11 wr => ∃ (k : Nat) (os : Nat → Option GE) (l : List (S141)) (A : Option Addr) (c : Nat) (scs : Array Value), v11 = .int .i64 k ∧ k ≤ len ∧ k ≤ 8 ∧ l.length ≤ 3 * k ∧ Aside0 (wr.heap[h]? = some (.cells #[.pointer (some ⟨pm, 0, none⟩), .pointer (some ⟨pf, 0, none⟩), .slice (some ⟨lb, 0, none⟩) 1 cap, .int .i64 (fr : Int), v3, .slice (some ⟨sb, 0, none⟩) 1 cap5] 35 (0, 0))) ∧ Aside0 (wr.heap[lb]? = some (.cells lcs 44 (0, 0))) ∧ Aside0 (wr.heap[sb]? = some (.cells scs 66 (0, 0)) ∧ 5 ≤ scs.size ∧ scs[0]? = some (.int .i64 (s : Int)) ∧ scs[1]? = some (.int .i64 (N : Int)) ∧ scs[2]? = some (.slice A l.length c)) ∧ Aside0 (Kd.R k141 141 wr wb.heap.size (fun _ => True) (.slice A l.length c) l) ∧ Aside0 (TQ wb.heap.size wb pm mb pt ((fr * 8192 : Nat) : Int) 0 N s (g : Int) (2 * N + 3 * k) (os) wr) ∧ Aside0 (Fs wb.heap.size wb pf rf ts wr)) (fun v11 _ => 8 - (intOf v11).toNat)
  case atStart => exact ⟨0, fun _ => none, [], A, c, scs, rfl, by omega, by omega, by simp, HB2, HL, HS, HR, HT, HF2⟩
  case round =>
    clear HB2 HL HS HR HT HF2
    obtain ⟨k, os, l, A, c, scs, rfl, hk, hkm, hll, HB, HL, HS, HR, HT, HF⟩ := hrel
    by_cases hlk : k < len ∧ k < 8
    · have h1' : (k : Int) < (len : Int) := by omega
      have h2' : (k : Int) < 8 := by omega
      have h0' : (0 : Int) ≤ (k : Int) := by omega
      obtain ⟨D0, hM0, _⟩ := HT.out.mem
      have HGW := Aside0.mk (grown_two HG4.out (below_grown hM0.below))
      clear hM0
      obtain ⟨y, e, rfl, HEW0⟩ := HEN.out.at k hlk.1
      have HEW := Aside0.mk HEW0.wf
      have HE2 := HEW0.grown HGW.out
      clear HEW0 HGW
      obtain ⟨_, c0, c1, c2, c3, c4, c5, c6, c7, c8, c9, c10⟩ := HE2
      go_wp2_with fail
      refine (does3_calls HTB.out HB.out HL.out HL0.out HS.out.1 HS.out.2.1 HS.out.2.2.1 HS.out.2.2.2.1 HS.out.2.2.2.2 HSB.out HR.out (by omega) HT.out HF.out (by omega) e HEW.out).mono ?_
      rintro x0 w8 ⟨rfl, scs2, A2, c2', l2, hh, hl, hs, h5, s0, s1, s2, hR, hll2, hT, hF⟩
      have HB3 := Aside0.mk hh
      have HL3 := Aside0.mk hl
      have HS3 := Aside0.mk (And.intro hs (And.intro h5 (And.intro s0 (And.intro s1 s2))))
      have HR3 := Aside0.mk hR
      have HT3 := Aside0.mk (show TQ wb.heap.size wb pm mb pt ((fr * 8192 : Nat) : Int) 0 N s (g : Int) (2 * N + 3 * (k + 1)) (setO os (plcOf N (s : Int) (geE s e).v) (some (geE s e))) w8 from hT)
      have HF3 := Aside0.mk hF
      clear hh hl hs h5 s0 s1 s2 hR hT hF c0 c1 c2 c3 c4 c5 c6 c7 c8 c9 c10 HB HL HS HR HT HF
      go_wp2_with fail
      go_roundw
      case rel => exact ⟨k + 1, _, l2, A2, c2', scs2, by go_num, by omega, by omega, by omega, HB3, HL3, HS3, HR3, HT3, HF3⟩
      case measure => simp [intOf]; omega
    · have HKK := Aside0.mk hkm
      have hkk : ((k : Int) < (len : Int) ∧ ¬ (k : Int) < 8) ∨ ¬ (k : Int) < (len : Int) := by omega
      clear hk hkm hlk hll HS HR HSB
      rcases hkk with ⟨h1', h2'⟩ | h1'
      all_goals
        obtain ⟨q0, q1, q2, q3, q4, q5⟩ := cz6 HB.out
        have x0 := (blk_cell HL.out 0).trans HL0.out
        go_wp2_with fail
        refine (o_list HTB.out HT.out).mono ?_
        rintro xq w9 ⟨v, rfl, hR, hg⟩
        have hle := list_le N os
        obtain ⟨ls, hls⟩ : ∃ z, z = (listO N os).map geS := ⟨_, rfl⟩
        rw [← hls] at hR
        obtain ⟨A5, c5, rfl⟩ := Kd.R_slice hR
        have HLB := Aside0.mk (show ls.length ≤ 1000000 by rw [hls, List.length_map]; omega)
        have HLS := Aside0.mk hls.symm
        have HV := Aside0.mk (Kd.R_lower hR HT.out.below0)
        replace HB := Aside0.mk (blk_grown HB.out hg)
        replace HL := Aside0.mk (blk_grown HL.out hg)
        replace HT := Aside0.mk (HT.out.same hg)
        replace HF := Aside0.mk (HF.out.same hg)
        clear hR hg hle hls
        clear q0 q1 q2 q3 q4 q5 x0
        go_upto_region 14 with fail
        have hg := grown_drew w9 none
        replace HV := Aside0.mk (Kd.R_grown HV.out hg (by simp))
        replace HB := Aside0.mk (blk_grown HB.out hg)
        replace HL := Aside0.mk (blk_grown HL.out hg)
        replace HT := Aside0.mk (HT.out.same hg)
        replace HF := Aside0.mk (HF.out.same hg)
        clear hg
        refine start_ (n := 24) (S := fun w' => w'.heap[h]? = some (.cells #[.pointer (some ⟨pm, 0, none⟩), .pointer (some ⟨pf, 0, none⟩), .slice (some ⟨lb, 0, none⟩) 1 cap, .int .i64 (fr : Int), v3, .slice (some ⟨sb, 0, none⟩) 1 cap5] 35 (0, 0)) ∧ w'.heap[lb]? = some (.cells lcs 44 (0, 0))) (ds := []) #[false, false, false, false, false, false, false, false, false, false, false, false, false, false, false, false, false, false, false, false, false, false, false, false] (by kernel_rfl) rfl rfl ⟨HB.out, HL.out⟩ (fun hHeld => ?_)
        refine with_tab sfails14_tab (fun HT_ => ?_)
        refine pure_ (i := 0) (N := some 66) (v := ?_) (a' := ?_) #[true, false, false, false, false, false, false, false, false, false, false, false, false, false, false, false, false, false, false, false, false, false, false, false] rfl rfl (any_of HT_.out (by kernel_rfl)) (fun _ _ _ h => h) (Or.inl ⟨by rfl, ?_⟩) ?_ ?_
        rotate_left
        · intro w'
          go_simp
          with_reducible rfl
        rotate_left
        · simp only [Act.put, List.setIfInBounds_toArray, List.set_cons_zero, List.set_cons_succ, i64_w, i32_w]
          rfl
        refine pure_ (i := 1) (N := some 67) (v := ?_) (a' := ?_) #[true, true, false, false, false, false, false, false, false, false, false, false, false, false, false, false, false, false, false, false, false, false, false, false] rfl rfl (any_of HT_.out (by kernel_rfl)) (fun _ _ _ h => h) (Or.inl ⟨by rfl, ?_⟩) ?_ ?_
        rotate_left
        · intro w'
          go_simp
          with_reducible rfl
        rotate_left
        · simp only [Act.put, List.setIfInBounds_toArray, List.set_cons_zero, List.set_cons_succ, i64_w, i32_w]
          rfl
        refine pure_ (i := 2) (N := some 68) (v := ?_) (a' := ?_) #[true, true, true, false, false, false, false, false, false, false, false, false, false, false, false, false, false, false, false, false, false, false, false, false] rfl rfl (any_of HT_.out (by kernel_rfl)) (fun _ _ _ h => h) (Or.inl ⟨by rfl, ?_⟩) ?_ ?_
        rotate_left
        · intro w'
          go_simp
          with_reducible rfl
        rotate_left
        · simp only [Act.put, List.setIfInBounds_toArray, List.set_cons_zero, List.set_cons_succ, i64_w, i32_w]
          rfl
        refine pure_ (i := 4) (N := some 70) (v := ?_) (a' := ?_) #[true, true, true, false, true, false, false, false, false, false, false, false, false, false, false, false, false, false, false, false, false, false, false, false] rfl rfl (any_of HT_.out (by kernel_rfl)) (fun _ _ _ h => h) (Or.inl ⟨by rfl, ?_⟩) ?_ ?_
        rotate_left
        · intro w'
          go_simp
          with_reducible rfl
        rotate_left
        · simp only [Act.put, List.setIfInBounds_toArray, List.set_cons_zero, List.set_cons_succ, i64_w, i32_w]
          rfl
        refine pure_ (i := 5) (N := some 71) (v := ?_) (a' := ?_) #[true, true, true, false, true, true, false, false, false, false, false, false, false, false, false, false, false, false, false, false, false, false, false, false] rfl rfl (any_of HT_.out (by kernel_rfl)) (fun _ _ _ h => h) (Or.inl ⟨by rfl, ?_⟩) ?_ ?_
        rotate_left
        · intro w'
          go_simp
          with_reducible rfl
        rotate_left
        · simp only [Act.put, List.setIfInBounds_toArray, List.set_cons_zero, List.set_cons_succ, i64_w, i32_w]
          rfl
        refine pure_ (i := 6) (N := some 72) (v := ?_) (a' := ?_) #[true, true, true, false, true, true, true, false, false, false, false, false, false, false, false, false, false, false, false, false, false, false, false, false] rfl rfl (any_of HT_.out (by kernel_rfl)) (fun _ _ _ h => h) (Or.inl ⟨by rfl, ?_⟩) ?_ ?_
        rotate_left
        · intro w'
          go_simp
          with_reducible rfl
        rotate_left
        · simp only [Act.put, List.setIfInBounds_toArray, List.set_cons_zero, List.set_cons_succ, i64_w, i32_w]
          rfl
        refine pure_ (i := 8) (N := some 74) (v := ?_) (a' := ?_) #[true, true, true, false, true, true, true, false, true, false, false, false, false, false, false, false, false, false, false, false, false, false, false, false] rfl rfl (any_of HT_.out (by kernel_rfl)) (fun _ _ _ h => h) (Or.inl ⟨by rfl, ?_⟩) ?_ ?_
        rotate_left
        · intro w'
          go_simp
          with_reducible rfl
        rotate_left
        · simp only [Act.put, List.setIfInBounds_toArray, List.set_cons_zero, List.set_cons_succ, i64_w, i32_w]
          rfl
        refine pure_ (i := 9) (N := some 75) (v := ?_) (a' := ?_) #[true, true, true, false, true, true, true, false, true, true, false, false, false, false, false, false, false, false, false, false, false, false, false, false] rfl rfl (any_of HT_.out (by kernel_rfl)) (fun _ _ _ h => h) (Or.inl ⟨by rfl, ?_⟩) ?_ ?_
        rotate_left
        · intro w'
          go_simp
          with_reducible rfl
        rotate_left
        · simp only [Act.put, List.setIfInBounds_toArray, List.set_cons_zero, List.set_cons_succ, i64_w, i32_w]
          rfl
        refine pure_ (i := 10) (N := some 76) (v := ?_) (a' := ?_) #[true, true, true, false, true, true, true, false, true, true, true, false, false, false, false, false, false, false, false, false, false, false, false, false] rfl rfl (any_of HT_.out (by kernel_rfl)) (fun _ _ _ h => h) (Or.inl ⟨by rfl, ?_⟩) ?_ ?_
        rotate_left
        · intro w'
          go_simp
          with_reducible rfl
        rotate_left
        · simp only [Act.put, List.setIfInBounds_toArray, List.set_cons_zero, List.set_cons_succ, i64_w, i32_w]
          rfl
        refine pure_ (i := 14) (N := some 80) (v := ?_) (a' := ?_) #[true, true, true, false, true, true, true, false, true, true, true, false, false, false, true, false, false, false, false, false, false, false, false, false] rfl rfl (any_of HT_.out (by kernel_rfl)) (fun _ _ _ h => h) (Or.inl ⟨by rfl, ?_⟩) ?_ ?_
        rotate_left
        · intro w'
          go_simp
          with_reducible rfl
        rotate_left
        · simp only [Act.put, List.setIfInBounds_toArray, List.set_cons_zero, List.set_cons_succ, i64_w, i32_w]
          rfl
        refine pure_ (i := 15) (N := some 81) (v := ?_) (a' := ?_) #[true, true, true, false, true, true, true, false, true, true, true, false, false, false, true, true, false, false, false, false, false, false, false, false] rfl rfl (any_of HT_.out (by kernel_rfl)) (fun _ _ _ h => h) (Or.inl ⟨by rfl, ?_⟩) ?_ ?_
        rotate_left
        · intro w'
          go_simp
          with_reducible rfl
        rotate_left
        · simp only [Act.put, List.setIfInBounds_toArray, List.set_cons_zero, List.set_cons_succ, i64_w, i32_w]
          rfl
        refine take_ (i := 3) (N := some 69) (v := .pointer (some ⟨pm, 0, none⟩)) (a' := ?_) #[true, true, true, true, true, true, true, false, true, true, true, false, false, false, true, true, false, false, false, false, false, false, false, false] rfl rfl (take_of HT_.out (by kernel_rfl)) (fun _ _ _ h => h) (Or.inl ⟨by rfl, ?_⟩) hHeld ?_ ?_
        · rintro w' ⟨s1, s2⟩
          obtain ⟨q0, q1, q2, q3, q4, q5⟩ := cz6 s1
          go_simp
        rotate_left
        · simp only [Act.put, List.setIfInBounds_toArray, List.set_cons_zero, List.set_cons_succ, i64_w, i32_w]
          rfl
        refine take_ (i := 7) (N := some 73) (v := .pointer (some ⟨pf, 0, none⟩)) (a' := ?_) #[true, true, true, true, true, true, true, true, true, true, true, false, false, false, true, true, false, false, false, false, false, false, false, false] rfl rfl (take_of HT_.out (by kernel_rfl)) (fun _ _ _ h => h) (Or.inl ⟨by rfl, ?_⟩) hHeld ?_ ?_
        · rintro w' ⟨s1, s2⟩
          obtain ⟨q0, q1, q2, q3, q4, q5⟩ := cz6 s1
          go_simp
        rotate_left
        · simp only [Act.put, List.setIfInBounds_toArray, List.set_cons_zero, List.set_cons_succ, i64_w, i32_w]
          rfl
        refine take_ (i := 11) (N := some 77) (v := .slice (some ⟨lb, 0, none⟩) 1 cap) (a' := ?_) #[true, true, true, true, true, true, true, true, true, true, true, true, false, false, true, true, false, false, false, false, false, false, false, false] rfl rfl (take_of HT_.out (by kernel_rfl)) (fun _ _ _ h => h) (Or.inl ⟨by rfl, ?_⟩) hHeld ?_ ?_
        · rintro w' ⟨s1, s2⟩
          obtain ⟨q0, q1, q2, q3, q4, q5⟩ := cz6 s1
          go_simp
        rotate_left
        · simp only [Act.put, List.setIfInBounds_toArray, List.set_cons_zero, List.set_cons_succ, i64_w, i32_w]
          rfl
        refine pure_ (i := 12) (N := some 78) (v := ?_) (a' := ?_) #[true, true, true, true, true, true, true, true, true, true, true, true, true, false, true, true, false, false, false, false, false, false, false, false] rfl rfl (any_of HT_.out (by kernel_rfl)) (fun _ _ _ h => h) (Or.inl ⟨by rfl, ?_⟩) ?_ ?_
        rotate_left
        · intro w'
          go_simp
          with_reducible rfl
        rotate_left
        · simp only [Act.put, List.setIfInBounds_toArray, List.set_cons_zero, List.set_cons_succ, i64_w, i32_w]
          rfl
        refine take_ (i := 13) (N := some 79) (v := .pointer (some ⟨pt, 0, none⟩)) (a' := ?_) #[true, true, true, true, true, true, true, true, true, true, true, true, true, true, true, true, false, false, false, false, false, false, false, false] rfl rfl (take_of HT_.out (by kernel_rfl)) (fun _ _ _ h => h) (Or.inl ⟨by rfl, ?_⟩) hHeld ?_ ?_
        · rintro w' ⟨s1, s2⟩
          have x0 := (blk_cell s2 0).trans HL0.out
          go_simp
        rotate_left
        · simp only [Act.put, List.setIfInBounds_toArray, List.set_cons_zero, List.set_cons_succ, i64_w, i32_w]
          rfl
        refine one_ (i := 16) (N := some 82) #[true, true, true, true, true, true, true, true, true, true, true, true, true, true, true, true, true, false, false, false, false, false, false, false] rfl rfl (one_of HT_.out (by kernel_rfl)) (by decide) (fun K hK => ?_)
        refine goes_ Tryz.func12 (by kernel_rfl) rfl #[.pointer (some ⟨pm, 0, none⟩), .pointer (some ⟨pf, 0, none⟩), .pointer (some ⟨pt, 0, none⟩), .int .i64 (s : Int), .int .i64 other] (by rfl) rfl rfl (by (try simp only [List.map_toArray, List.map_cons, List.map_nil]); first | done | rfl) ?_
        refine (chfail_calls HF.out HFU.out.1 s other).mono ?_
        rintro x0 wn ⟨rfl, hF2, hk⟩
        replace HV := Aside0.mk (R_make HV.out HF.out (by decide) (by decide) hk)
        replace HB := Aside0.mk (blk_frk HB.out (by decide) (by decide) HF.out hk)
        replace HL := Aside0.mk (blk_frk HL.out (by decide) (by decide) HF.out hk)
        replace HT := Aside0.mk (HT.out.frk HF.out hk)
        replace HF := Aside0.mk hF2
        have hs : wn.heap[h]? = some (.cells #[.pointer (some ⟨pm, 0, none⟩), .pointer (some ⟨pf, 0, none⟩), .slice (some ⟨lb, 0, none⟩) 1 cap, .int .i64 (fr : Int), v3, .slice (some ⟨sb, 0, none⟩) 1 cap5] 35 (0, 0)) ∧ wn.heap[lb]? = some (.cells lcs 44 (0, 0)) := ⟨HB.out, HL.out⟩
        clear hF2 hk
        refine ⟨_, rfl, ?_⟩
        refine hK.out _ _ hs (fun hHeld => ?_)
        clear hK K
        refine norm_ (a' := ?_) ?_ ?_
        rotate_left
        · show Act.put _ (some 82) _ = _
          simp only [Act.put, List.setIfInBounds_toArray, List.set_cons_zero, List.set_cons_succ, i64_w, i32_w]
          rfl
        refine pure_ (i := 17) (N := some 65) (v := ?_) (a' := ?_) #[true, true, true, true, true, true, true, true, true, true, true, true, true, true, true, true, true, true, false, false, false, false, false, false] rfl rfl (any_of HT_.out (by kernel_rfl)) (fun _ _ _ h => h) (Or.inl ⟨by rfl, ?_⟩) ?_ ?_
        rotate_left
        · intro w'
          go_simp
          with_reducible rfl
        rotate_left
        · simp only [Act.put, List.setIfInBounds_toArray, List.set_cons_zero, List.set_cons_succ, i64_w, i32_w]
          rfl
        refine pure_ (i := 18) (N := some 83) (v := ?_) (a' := ?_) #[true, true, true, true, true, true, true, true, true, true, true, true, true, true, true, true, true, true, true, false, false, false, false, false] rfl rfl (any_of HT_.out (by kernel_rfl)) (fun _ _ _ h => h) (Or.inl ⟨by rfl, ?_⟩) ?_ ?_
        rotate_left
        · intro w'
          go_simp
          with_reducible rfl
        rotate_left
        · simp only [Act.put, List.setIfInBounds_toArray, List.set_cons_zero, List.set_cons_succ, i64_w, i32_w]
          rfl
        refine pure_ (i := 19) (N := some 84) (v := ?_) (a' := ?_) #[true, true, true, true, true, true, true, true, true, true, true, true, true, true, true, true, true, true, true, true, false, false, false, false] rfl rfl (any_of HT_.out (by kernel_rfl)) (fun _ _ _ h => h) (Or.inl ⟨by rfl, ?_⟩) ?_ ?_
        rotate_left
        · intro w'
          go_simp
          with_reducible rfl
        rotate_left
        · simp only [Act.put, List.setIfInBounds_toArray, List.set_cons_zero, List.set_cons_succ, i64_w, i32_w]
          rfl
        refine pure_ (i := 20) (N := some 85) (v := ?_) (a' := ?_) #[true, true, true, true, true, true, true, true, true, true, true, true, true, true, true, true, true, true, true, true, true, false, false, false] rfl rfl (any_of HT_.out (by kernel_rfl)) (fun _ _ _ h => h) (Or.inl ⟨by rfl, ?_⟩) ?_ ?_
        rotate_left
        · intro w'
          go_simp
          with_reducible rfl
        rotate_left
        · simp only [Act.put, List.setIfInBounds_toArray, List.set_cons_zero, List.set_cons_succ, i64_w, i32_w]
          rfl
        refine pure_ (i := 21) (N := some 13) (v := ?_) (a' := ?_) #[true, true, true, true, true, true, true, true, true, true, true, true, true, true, true, true, true, true, true, true, true, true, false, false] rfl rfl (any_of HT_.out (by kernel_rfl)) (fun _ _ _ h => h) (Or.inl ⟨by rfl, ?_⟩) ?_ ?_
        rotate_left
        · intro w'
          go_simp
          with_reducible rfl
        rotate_left
        · simp only [Act.put, List.setIfInBounds_toArray, List.set_cons_zero, List.set_cons_succ, i64_w, i32_w]
          rfl
        refine pure_ (i := 22) (N := some 14) (v := ?_) (a' := ?_) #[true, true, true, true, true, true, true, true, true, true, true, true, true, true, true, true, true, true, true, true, true, true, true, false] rfl rfl (any_of HT_.out (by kernel_rfl)) (fun _ _ _ h => h) (Or.inl ⟨by rfl, ?_⟩) ?_ ?_
        rotate_left
        · intro w'
          go_simp
          with_reducible rfl
        rotate_left
        · simp only [Act.put, List.setIfInBounds_toArray, List.set_cons_zero, List.set_cons_succ, i64_w, i32_w]
          rfl
        refine pure_ (i := 23) (N := some 15) (v := ?_) (a' := ?_) #[true, true, true, true, true, true, true, true, true, true, true, true, true, true, true, true, true, true, true, true, true, true, true, true] rfl rfl (any_of HT_.out (by kernel_rfl)) (fun _ _ _ h => h) (Or.inl ⟨by rfl, ?_⟩) ?_ ?_
        rotate_left
        · intro w'
          go_simp
          with_reducible rfl
        rotate_left
        · simp only [Act.put, List.setIfInBounds_toArray, List.set_cons_zero, List.set_cons_succ, i64_w, i32_w]
          rfl
        refine done_ (done_of HT_.out (by kernel_rfl)) ?_
        clear hHeld
        rcases want_cases s other with ⟨h0, hw⟩ | ⟨h0, hw⟩
        case' inl =>
          have HRF := Aside0.mk (show lookasideref13_Frames.f 40 (s : Int) other = some ((0 : Nat) : Int) by rw [Pure.rFrames, h0])
          rw [hw]
          clear h0 hw
          go_wp2_with fail
          refine (lookasideref13_Frames.calls 40 _ _ _ _ HRF.out).mono ?_
          rintro xq w10 ⟨rfl, hb⟩
        case' inr =>
          have HRF := Aside0.mk (Pure.rFrames (s : Int) other)
          have hz : ((frsW (s : Int) other : Int) == 0) = false := by simpa using h0
          rw [hw]
          clear h0 hw
          generalize frsW (s : Int) other = fo at HRF hz
          go_wp2_with fail
          refine (lookasideref13_Frames.calls 40 _ _ _ _ HRF.out).mono ?_
          rintro xq w10 ⟨rfl, hb⟩
        all_goals
          have hg := below_grown hb
          replace HV := Aside0.mk (Kd.R_grown HV.out hg (by simp))
          replace HB := Aside0.mk (blk_grown HB.out hg)
          replace HL := Aside0.mk (blk_grown HL.out hg)
          replace HT := Aside0.mk (HT.out.same hg)
          replace HF := Aside0.mk (HF.out.same hg)
          clear hb hg
          obtain ⟨q0, q1, q2, q3, q4, q5⟩ := cz6 HB.out
          have x0 := (blk_cell HL.out 0).trans HL0.out
          go_wp2_with fail
          refine (o_list HTB.out HT.out).mono ?_
          rintro xq w11 ⟨v2, rfl, hR, hg⟩
          rw [HLS.out] at hR
          obtain ⟨A6, c6, rfl⟩ := Kd.R_slice hR
          have HV2 := Aside0.mk (Kd.R_lower hR HT.out.below0)
          replace HV := Aside0.mk (Kd.R_grown HV.out hg (by simp))
          replace HB := Aside0.mk (blk_grown HB.out hg)
          replace HL := Aside0.mk (blk_grown HL.out hg)
          replace HT := Aside0.mk (HT.out.same hg)
          replace HF := Aside0.mk (HF.out.same hg)
          clear hR hg
          clear q0 q1 q2 q3 q4 q5 x0
          go_wp2_with fail
          refine (lookasideref06_Same.calls (ls.length + 1) A6 c6 ls A5 c5 ls true _ (Kd.R_reads' HV2.out).2.2 (Kd.R_reads' HV2.out).2.1 (Kd.R_reads' HV.out).2.2 (Kd.R_reads' HV.out).2.1 (same_f ls HLB.out)).mono ?_
          rintro xq w12 ⟨rfl, hd⟩
          have hg := drawn_grown hd
          replace HV := Aside0.mk (Kd.R_grown HV.out hg (by simp))
          replace HB := Aside0.mk (blk_grown HB.out hg)
          replace HL := Aside0.mk (blk_grown HL.out hg)
          replace HT := Aside0.mk (HT.out.same hg)
          replace HF := Aside0.mk (HF.out.same hg)
          clear hd hg HV2
          obtain ⟨q0, q1, q2, q3, q4, q5⟩ := cz6 HB.out
          have x0 := (blk_cell HL.out 0).trans HL0.out
          go_wp2_with fail
          refine (fs_free HF.out 0 HFU.out.2).mono ?_
          rintro xq w13 ⟨rfl, hF, hg⟩
          replace HT := Aside0.mk (HT.out.same hg)
          clear hF hg HF HV HB HL
          clear q0 q1 q2 q3 q4 q5 x0
          go_wp2_with fail
          refine (lives13 _).mono ?_
          rintro xq w14 ⟨rfl, hg⟩
          replace HT := Aside0.mk (HT.out.same hg)
          clear hg
          obtain ⟨D0, hM0, _⟩ := HT.out.mem
          have HGW := Aside0.mk (grown_two HG4.out (below_grown hM0.below))
          clear hM0
          go_wp2_with fail
          go_ret
          exact ⟨rfl, below_og HGW.out⟩
end
end Go.Proofs.YtjnffegjpkbjmaaGreat.Mem
