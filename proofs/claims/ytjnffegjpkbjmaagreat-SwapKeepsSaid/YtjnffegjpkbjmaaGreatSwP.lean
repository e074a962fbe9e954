/- How many frames a TSB has; the document's Make over frames that are all free; plainly. -/
import Derived.RangeFuncFrom
import Derived.Test.YtjnffegjpkbjmaaGreatFr5
import Derived.Test.YtjnffegjpkbjmaaGreatPureTsb
import Derived.Test.YtjnffegjpkbjmaaGreatQTsbPlaysx41
/- merged: YtjnffegjpkbjmaaGreatFr6 -/
namespace Go.Proofs.YtjnffegjpkbjmaaGreat.QFramesPlays
open Go.Proofs.YtjnffegjpkbjmaaGreat.QTsbPlays
open Go.RowKit Go.Shelf Go.Proofs.YtjnffegjpkbjmaaGreatW.PrintWords Go.Proofs.YtjnffegjpkbjmaaGreatW.PrintLast Go.Proofs.YtjnffegjpkbjmaaGreatW.PrintMore
attribute [local go_sem] Oper.semAt_some
set_option linter.unusedSimpArgs false
set_option linter.unusedVariables false
section
set_option maxHeartbeats 1000000
set_option maxRecDepth 100000
theorem fr_runs (W : World) (p n each : Value) (hp : ∃ x, p = .pointer x) (hn : ∃ x, n = .int .i64 x) (he : ∃ x, each = .int .i64 x) : Calls Tryz.prog 88 #[p, n, each] W fun e W' => ∃ b1 b2 b3, e = .returned (.func (.func 114) #[] #[.pointer (some ⟨b1, 0, none⟩), .pointer (some ⟨b2, 0, none⟩), .pointer (some ⟨b3, 0, none⟩)]) ∧ W'.cell? ⟨b1, 0, none⟩ = some p ∧ W'.cell? ⟨b2, 0, none⟩ = some n ∧ W'.cell? ⟨b3, 0, none⟩ = some each ∧ Below W.heap.size W W' := by
  obtain ⟨x, rfl⟩ := hp
  obtain ⟨y, rfl⟩ := hn
  obtain ⟨z, rfl⟩ := he
  go_enter Tryz.func88, Tryz.ntmps88
  go_wp2
  go_ret
  exact ⟨_, _, _, rfl, by go_simp, by go_simp, by go_simp, below_alloc (below_alloc (below_alloc (Below.refl _ _) _) _) _⟩
/-- What holds in the loop of take. -/
structure TK (B : Nat) (w0 W0 : World) (p r s m : Nat) (ts : List Bool) (free : Int) (a b : Value) (W : World) : Prop where
  fr : Fr B w0 p r ts free W
  k : FrK W0 p r W
  cs : W.heap[s]? = some (.cells #[.pointer (some ⟨p, 0, none⟩)] 28 (0, 0))
  cn : W.heap[s + 1]? = some (.cells #[.int .i64 m] 3 (0, 0))
  ca : W.heap[s + 2]? = some (.cells #[a] 3 (0, 0))
  cb : W.heap[s + 3]? = some (.cells #[b] 46 (0, 0))
  lo : p < s
  le : W0.heap.size ≤ s
theorem TK.kept {B w0 W0 p r s m ts free a b W row W'} (h : TK B w0 W0 p r s m ts free a b W) (hg : W.grownBy W' row) (hr : ∀ r', row = some r' → s + 3 < r') : TK B w0 W0 p r s m ts free a b W' := by
  have hrp := h.fr.rp
  have hlo := h.lo
  have hle := h.le
  have hB := h.fr.hr
  have ne : ∀ k, k ≤ s + 3 → some k ≠ row := fun k hk e => by
    have := hr k e.symm
    omega
  have bl : ∀ k, k ≤ s + 3 → W'.heap[k]? = W.heap[k]? := fun k hk => hg.block k (by have := blk_lt h.cb; omega) (ne k hk)
  refine ⟨h.fr.kept hg (ne p (by omega)) (ne r (by omega)) (fun k e => by have := hr k e; omega), ⟨hg.os.trans h.k.os, hg.tape.trans h.k.tape, hg.output.trans h.k.output, Nat.le_trans h.k.size hg.size, fun k hk h1 h2 => (bl k (by omega)).trans (h.k.block k hk h1 h2)⟩, (bl s (by omega)).trans h.cs, (bl _ (by omega)).trans h.cn, (bl _ (by omega)).trans h.ca, (bl _ (by omega)).trans h.cb, hlo, hle⟩
theorem TK.below {B w0 W0 p r s m ts free a b W W'} (h : TK B w0 W0 p r s m ts free a b W) (hb : Below W.heap.size W W') : TK B w0 W0 p r s m ts free a b W' := h.kept (row := none) ⟨hb.os, hb.tape, hb.output, hb.size, fun k hk _ => hb.block k hk⟩ (fun r' e => by cases e)
theorem TK.turn {B w0 W0 p r s m ts free a b W ts' free' W'} (h : TK B w0 W0 p r s m ts free a b W) (hf : Fr B w0 p r ts' free' W') (hk : FrK W p r W') : TK B w0 W0 p r s m ts' free' a b W' := by
  have hrp := h.fr.rp
  have hlo := h.lo
  have bl : ∀ k, s ≤ k → k ≤ s + 3 → W'.heap[k]? = W.heap[k]? := fun k h1 hk' => hk.block k (by have := blk_lt h.cb; omega) (by omega) (by omega)
  exact ⟨hf, h.k.trans hk, (bl s (by omega) (by omega)).trans h.cs, (bl _ (by omega) (by omega)).trans h.cn, (bl _ (by omega) (by omega)).trans h.ca, (bl _ (by omega) (by omega)).trans h.cb, hlo, h.le⟩
theorem grown_cell (W : World) (x : Addr) (v : Value) : W.grownBy (W.setCell x v) (some x.block) := ⟨rfl, rfl, rfl, by simp [World.setCell], fun k _ hk => Below.heap_setCell W x v k (fun e => hk (by rw [e]))⟩
theorem TK.setA {B w0 W0 p r s m ts free a b W} (h : TK B w0 W0 p r s m ts free a b W) (v : Value) : TK B w0 W0 p r s m ts free v b (W.setCell ⟨s + 1 + 1, 0, none⟩ v) := by
  have hrp := h.fr.rp
  have hlo := h.lo
  have hg := grown_cell W ⟨s + 1 + 1, 0, none⟩ v
  have bl : ∀ k, k ≠ s + 2 → k ≤ s + 3 → (W.setCell ⟨s + 1 + 1, 0, none⟩ v).heap[k]? = W.heap[k]? := fun k h1 h2 => Below.heap_setCell W _ v k (by simpa using h1)
  exact ⟨h.fr.kept hg (by simp; omega) (by simp; omega) (fun k e => by cases e; have := h.fr.hr; simp; omega), ⟨hg.os.trans h.k.os, hg.tape.trans h.k.tape, hg.output.trans h.k.output, Nat.le_trans h.k.size hg.size, fun k hk h1 h2 => (bl k (by have := h.le; omega) (by have := h.le; omega)).trans (h.k.block k hk h1 h2)⟩, (bl _ (by omega) (by omega)).trans h.cs, (bl _ (by omega) (by omega)).trans h.cn, blk_set h.ca 0 v, (bl _ (by omega) (by omega)).trans h.cb, hlo, h.le⟩
theorem TK.setB {B w0 W0 p r s m ts free a b W} (h : TK B w0 W0 p r s m ts free a b W) (v : Value) : TK B w0 W0 p r s m ts free a v (W.setCell ⟨s + 1 + 1 + 1, 0, none⟩ v) := by
  have hrp := h.fr.rp
  have hlo := h.lo
  have hg := grown_cell W ⟨s + 1 + 1 + 1, 0, none⟩ v
  have bl : ∀ k, k ≠ s + 3 → k ≤ s + 3 → (W.setCell ⟨s + 1 + 1 + 1, 0, none⟩ v).heap[k]? = W.heap[k]? := fun k h1 h2 => Below.heap_setCell W _ v k (by simpa using h1)
  exact ⟨h.fr.kept hg (by simp; omega) (by simp; omega) (fun k e => by cases e; have := h.fr.hr; simp; omega), ⟨hg.os.trans h.k.os, hg.tape.trans h.k.tape, hg.output.trans h.k.output, Nat.le_trans h.k.size hg.size, fun k hk h1 h2 => (bl k (by have := h.le; omega) (by have := h.le; omega)).trans (h.k.block k hk h1 h2)⟩, (bl _ (by omega) (by omega)).trans h.cs, (bl _ (by omega) (by omega)).trans h.cn, (bl _ (by omega) (by omega)).trans h.ca, blk_set h.cb 0 v, hlo, h.le⟩
theorem TK.others {B w0 W0 p r s m ts free a b W W'} (h : TK B w0 W0 p r s m ts free a b W) (hk : FrK W p r W') : KeepsOthers W W' := ⟨hk.size, fun k o ho hc => by
  refine (hk.block k (Array.getElem?_eq_some_iff.1 ho).1 (fun e => ?_) (fun e => ?_)).trans ho
  · subst e; rw [h.fr.row] at ho; cases ho; cases hc
  · subst e; rw [h.fr.bits] at ho; cases ho; cases hc⟩
/-- The end of take: the block of deferred calls is turned once more. -/
theorem TK.end {B w0 W0 p r s m ts free a b W} (h : TK B w0 W0 p r s m ts free a b W) (D : Nat) (o : Obj) (hD : s + 3 < D) : TK B w0 W0 p r s m ts free a b (W.putObj D o) := h.kept (grownBy_putObj' W D o) (fun r' e => by cases e; exact hD)
theorem TK.own {B w0 W0 p r s m ts free} (B0 : Nat) (hB : s + 3 < B0) {β : Type} (pr : β → Prop) (a b : β → Value) : OwnFrom B0 (fun x W => pr x ∧ TK B w0 W0 p r s m ts free (a x) (b x) W) := fun x W W' row hs hg hr => ⟨hs.1, hs.2.kept hg (fun r' e => by have := (hr r' e).1; omega)⟩
theorem tk_begin {B w0 W p r ts free} (h : Fr B w0 p r ts free W) (n : Nat) {s : Nat} (hs : s = W.heap.size) : TK B w0 W p r s n ts free (.int .i64 0) (.int .i64 0) ((((W.alloc (.cells #[.pointer (some ⟨p, 0, none⟩)] 28)).alloc (.cells #[.int .i64 n] 3)).alloc (.cells #[.int .i64 0] 3)).alloc (.cells #[.int .i64 0] 46)) := by
  subst hs
  have hg : ∀ (A : World) (o : Obj), A.grownBy (A.alloc o) none := fun A o => World.grownBy_alloc A o none
  have hg4 := grown_two (grown_two (grown_two (hg W (.cells #[.pointer (some ⟨p, 0, none⟩)] 28)) (hg _ (.cells #[.int .i64 n] 3))) (hg _ (.cells #[.int .i64 0] 3))) (hg _ (.cells #[.int .i64 0] 46))
  have nw : ∀ (A : World) (o : Obj) (k : Nat), k = A.heap.size → (A.alloc o).heap[k]? = some o := fun A o k e => by subst e; exact World.alloc_heap_new A o
  have ol : ∀ (A : World) (o o' : Obj) (k : Nat), A.heap[k]? = some o' → (A.alloc o).heap[k]? = some o' := fun A o o' k e => (Below.heap_alloc A o k (Array.getElem?_eq_some_iff.1 e).1).trans e
  exact ⟨h.same hg4, FrK.of_grown hg4, ol _ _ _ _ (ol _ _ _ _ (ol _ _ _ _ (nw _ _ _ rfl))), ol _ _ _ _ (ol _ _ _ _ (nw _ _ _ (by simp))), ol _ _ _ _ (nw _ _ _ (by simp)), nw _ _ _ (by simp), h.lt, Nat.le_refl _⟩
/-- Behind take. -/
def TookOr (B : Nat) (w0 W0 : World) (p r : Nat) (ts : List Bool) (free : Int) (n each : Nat) (e : Ending) (W' : World) : Prop :=
  FrK W0 p r W' ∧ ((e = .returned (.tuple #[.int .i64 0, .int .i64 6]) ∧ Fr B w0 p r ts free W' ∧ ∀ j, j * each + n ≤ ts.length → ¬ FreeIn ts (j * each) n) ∨
    ∃ x, e = .returned (.tuple #[.int .i64 (x : Nat), .int .i64 0]) ∧ Fr B w0 p r (setN ts x true n) (free - n) W' ∧ First ts n each x)
theorem fr_take {B w0 p r ts free W} (h : Fr B w0 p r ts free W) (n each : Nat) (hn : 1 ≤ n) (he : 1 ≤ each) (he2 : each ≤ 70000) (hf0 : 0 ≤ free) (hf1 : free ≤ 65536) :
    Calls Tryz.prog 57 #[.pointer (some ⟨p, 0, none⟩), .int .i64 n, .int .i64 each] W (TookOr B w0 W p r ts free n each) := by
  have HM := Aside0.mk h
  have hl := h.len
  clear h
  refine (callsIn_wide (n := 4)).1 ?_
  refine callsIn_of_wp_marks Tryz.func57 rfl trivial ?_ rfl
  simp only [Tryz.ntmps57, List.size_toArray, List.length_cons, List.length_nil, Nat.reduceAdd, Nat.reduceSub, Array.replicate_succ, Array.replicate_zero, List.push_toArray, List.append_toArray, List.nil_append, List.cons_append]
  obtain ⟨s, hs⟩ : ∃ s, s = W.heap.size := ⟨_, rfl⟩
  have HT0 := Aside0.mk (tk_begin HM.out n hs)
  have hm := Aside0.mk hs
  clear hs
  gi_wp2_with (refine ⟨trivial, ?_⟩; gi_at_call 88; refine (callsIn_wide.2 (fr_runs _ _ _ _ ⟨_, rfl⟩ ⟨_, rfl⟩ ⟨_, rfl⟩)).mono ?_; rintro e w5 ⟨b1, b2, b3, rfl, j1, j2, j3, hb⟩; have HT := Aside0.mk (HT0.out.below hb); clear hb HT0)
  have hsz : s + 3 < w5.heap.size := blk_lt HT.out.cb
  rw [← hm.out]
  refine wpIn_rangeFunc_ownF rfl (by omega) (gf := 114) (lb := #[.pointer (some ⟨b1, 0, none⟩), .pointer (some ⟨b2, 0, none⟩), .pointer (some ⟨b3, 0, none⟩)]) rfl trivial (enters_of Tryz.func114 (by kernel_rfl) rfl)
    (runs_stops HT.out.fr b1 b2 b3 n each hn he he2 j1 j2 j3) belowK_t (belowK_b (Nat.le_refl _)) (Below.refl _ _) (fun _ => rfl)
    (fun pre W2 => pre = [] ∧ TK B w0 W p r s n ts free (.int .i64 0) (.int .i64 0) W2)
    (fun c pre W2 => ∃ x : Nat, (c = .ret ∧ ∃ hx, pre = [⟨x, hx⟩]) ∧ TK B w0 W p r s n (setN ts x true n) (free - n) (.int .i64 (x : Nat)) (.int .i64 0) W2)
    (fun x A C row hs hg hr => ⟨hs.1, hs.2.kept hg (fun r' e => by have := (hr r' e).1; omega)⟩)
    (fun c x A C row hs hg hr => ⟨hs.choose, hs.choose_spec.1, hs.choose_spec.2.kept hg (fun r' e => by have := (hr r' e).1; omega)⟩)
    ⟨rfl, HT.out⟩
    (fun x => { tmps := #[.pointer (some ⟨p, 0, none⟩), .int .i64 n, .int .i64 each, .pointer (some ⟨s, 0, none⟩), .pointer (some ⟨s + 1, 0, none⟩), undef, .pointer (some ⟨s + 1 + 1, 0, none⟩), .pointer (some ⟨s + 1 + 1 + 1, 0, none⟩), .int .i64 (x.1 : Nat), .pointer (some ⟨p, 0, none⟩), .int .i64 n, .int .i64 each, .func (.func 114) #[] #[.pointer (some ⟨b1, 0, none⟩), .pointer (some ⟨b2, 0, none⟩), .pointer (some ⟨b3, 0, none⟩)], .int .i64 (x.1 : Nat), undef, undef, undef, undef, undef], defers := [] }) ?assign ?body ?done ?stop
  case assign =>
    intro l x W2 K hK
    gi_wp2
    exact hK
  case body =>
    rintro l pre ⟨x, hx⟩ W2 ⟨rfl, hT⟩ _
    have HT2 := Aside0.mk hT
    have d1 : W2.cell? ⟨s, 0, none⟩ = some (.pointer (some ⟨p, 0, none⟩)) := (blk_cell hT.cs 0).trans rfl
    have d2 : W2.cell? ⟨s + 1, 0, none⟩ = some (.int .i64 n) := (blk_cell hT.cn 0).trans rfl
    clear hT
    gi_wp2_with (refine ⟨trivial, ?_⟩; gi_at_call 80; refine (CallsIn.inRound l (callsIn_wide.2 (fr_turn HT2.out.fr x n true hx hf0 hf1))).mono ?_; rintro e w6 ⟨rfl, hM, hg⟩; have HT3 := Aside0.mk (HT2.out.turn hM hg); have HO := Aside0.mk (HT2.out.others hg); have c6 : w6.cell? ⟨s + 1 + 1, 0, none⟩ = some (.int .i64 0) := (blk_cell HT3.out.ca 0).trans rfl; have c7 : w6.cell? ⟨s + 1 + 1 + 1, 0, none⟩ = some (.int .i64 0) := (blk_cell HT3.out.cb 0).trans rfl; have f6 : w6.frozen? ⟨s + 1 + 1, 0, none⟩ = false := blk_frozen HT3.out.ca 0; have f7 : w6.frozen? ⟨s + 1 + 1 + 1, 0, none⟩ = false := blk_frozen HT3.out.cb 0; clear hM hg)
    exact ⟨HO.out.trans ((KeepsOthers.setCell _ _ _).trans (KeepsOthers.setCell _ _ _)), x, ⟨rfl, hx, rfl⟩, (HT3.out.setA _).setB _⟩
  case done =>
    rintro D ys W2 hD hS ⟨rfl, hT⟩ hK
    have HT2 := Aside0.mk hT
    have c6 : W2.cell? ⟨s + 1 + 1, 0, none⟩ = some (.int .i64 0) := (blk_cell hT.ca 0).trans rfl
    have c7 : W2.cell? ⟨s + 1 + 1 + 1, 0, none⟩ = some (.int .i64 0) := (blk_cell hT.cb 0).trans rfl
    have f6 : W2.frozen? ⟨s + 1 + 1, 0, none⟩ = false := blk_frozen hT.ca 0
    have f7 : W2.frozen? ⟨s + 1 + 1 + 1, 0, none⟩ = false := blk_frozen hT.cb 0
    clear hT
    gi_wp2
    have HT3 := Aside0.mk ((HT2.out.setA (.int .i64 0)).setB (.int .i64 6))
    have hK' := ((KeepsOthers.setCell W2 ⟨s + 1 + 1, 0, none⟩ (.int .i64 0)).trans (KeepsOthers.setCell _ ⟨s + 1 + 1 + 1, 0, none⟩ (.int .i64 6))).same D _ hK rfl
    refine ⟨by simp, .inl ⟨_, _, rfl, run_takeDeferred hK', ?_⟩⟩
    have HT4 := Aside0.mk (HT3.out.end D (.deferred none) (by omega))
    have d6 := (blk_cell HT4.out.ca 0).trans rfl
    have d7 := (blk_cell HT4.out.cb 0).trans rfl
    refine ⟨.tuple #[.int .i64 0, .int .i64 6], ?_, HT4.out.k, .inl ⟨rfl, HT4.out.fr, hS rfl⟩⟩
    simp [results, Tryz.f57, go_sem, d6, d7]
  case stop =>
    rintro D c pre W2 hD hS ⟨x, ⟨rfl, hx, rfl⟩, hT⟩ hK
    have HT2 := Aside0.mk hT
    clear hT
    gi_wp2
    refine ⟨by simp, .inl ⟨_, _, rfl, run_takeDeferred hK, ?_⟩⟩
    have HT4 := Aside0.mk (HT2.out.end D (.deferred none) (by omega))
    have d6 := (blk_cell HT4.out.ca 0).trans rfl
    have d7 := (blk_cell HT4.out.cb 0).trans rfl
    refine ⟨.tuple #[.int .i64 (x : Nat), .int .i64 0], ?_, HT4.out.k, .inr ⟨x, rfl, HT4.out.fr, hS _ _ rfl⟩⟩
    simp [results, Tryz.f57, go_sem, d6, d7]
end
end Go.Proofs.YtjnffegjpkbjmaaGreat.QFramesPlays
/- merged: YtjnffegjpkbjmaaGreatFr7 -/
/- merged: YtjnffegjpkbjmaaGreatFrPure -/
namespace Go.Proofs.YtjnffegjpkbjmaaGreat.QFramesPlays
open Go.Proofs.YtjnffegjpkbjmaaGreat.QTsbPlays
open Go.RowKit Go.Proofs.YtjnffegjpkbjmaaGreatW.PrintWords Go.Proofs.YtjnffegjpkbjmaaGreatW.PrintLast Go.Proofs.YtjnffegjpkbjmaaGreatW.PrintMore
set_option maxRecDepth 100000
end Go.Proofs.YtjnffegjpkbjmaaGreat.QFramesPlays
namespace Go.Proofs.YtjnffegjpkbjmaaGreat.QFramesPlays
open Go.Proofs.YtjnffegjpkbjmaaGreat.QTsbPlays
open Go.RowKit Go.Proofs.YtjnffegjpkbjmaaGreatW.PrintWords Go.Proofs.YtjnffegjpkbjmaaGreatW.PrintLast Go.Proofs.YtjnffegjpkbjmaaGreatW.PrintMore
set_option linter.unusedSimpArgs false
set_option linter.unusedVariables false
section
set_option maxHeartbeats 1000000
set_option maxRecDepth 100000
theorem below_grown {W W1 : World} (h : Below W.heap.size W W1) : W.grownBy W1 none := ⟨h.os, h.tape, h.output, h.size, fun k hk _ => h.block k hk⟩
theorem drawn_grown {W W1 : World} (h : Drawn0 W W1) : W.grownBy W1 none := by
  obtain ⟨n, rfl⟩ := h
  exact ⟨rfl, rfl, rfl, Nat.le_refl _, fun _ _ _ => rfl⟩
/-- How many are free. -/
def cnt (ts : List Bool) : Int := (ts.count false : Nat)
theorem cnt_le (ts : List Bool) : 0 ≤ cnt ts ∧ cnt ts ≤ ts.length := by
  unfold cnt
  have := List.count_le_length (a := false) (l := ts)
  omega
theorem setN_at (ts : List Bool) (a : Nat) (b : Bool) (k i : Nat) (h : a + k ≤ ts.length) : (setN ts a b k).getD i false = if a ≤ i ∧ i < a + k then b else ts.getD i false := by
  induction k with
  | zero =>
    rw [if_neg (by omega)]
    rfl
  | succ k ih =>
    have ih := ih (by omega)
    show ((setN ts a b k).set (a + k) b).getD i false = _
    by_cases e : i = a + k
    · subst e
      rw [if_pos (by omega)]
      simp [List.getD, setN_len, show a + k < ts.length by omega]
    · rw [show ((setN ts a b k).set (a + k) b).getD i false = (setN ts a b k).getD i false by simp [List.getD, List.getElem?_set_ne (Ne.symm e)], ih]
      by_cases c : a ≤ i ∧ i < a + k
      · rw [if_pos c, if_pos (by omega)]
      · rw [if_neg c, if_neg (by omega)]
theorem cnt_set (ts : List Bool) (i : Nat) (b : Bool) (hi : i < ts.length) (hb : ts.getD i false = !b) : cnt (ts.set i b) = cnt ts + (if b then -1 else 1) := by
  unfold cnt
  rw [List.count_set hi]
  have e : ts[i] = !b := by rw [← hb]; simp [List.getD, hi]
  rw [e]
  cases b with
  | true =>
    have : 0 < ts.count false := List.count_pos_iff.2 (by have : ts[i] = false := e; rw [← this]; exact List.getElem_mem hi)
    simp
    omega
  | false => simp
theorem cnt_setN (ts : List Bool) (a : Nat) (b : Bool) (k : Nat) (h : a + k ≤ ts.length) (hb : ∀ i, i < k → ts.getD (a + i) false = !b) : cnt (setN ts a b k) = cnt ts + (if b then -(k : Int) else k) := by
  induction k with
  | zero => cases b <;> simp [setN]
  | succ k ih =>
    have ih := ih (by omega) (fun i hi => hb i (by omega))
    show cnt ((setN ts a b k).set (a + k) b) = _
    rw [cnt_set _ _ _ (by rw [setN_len]; omega) (by rw [setN_at _ _ _ _ _ (by omega), if_neg (by omega)]; exact hb k (by omega)), ih]
    cases b <;> simp <;> omega
theorem cnt_take {ts : List Bool} {x n : Nat} (hl : x + n ≤ ts.length) (hf : FreeIn ts x n) : cnt (setN ts x true n) = cnt ts - n := by
  rw [cnt_setN ts x true n hl (fun i hi => (hf i hi).2)]
  simp
  omega
theorem cnt_give {ts : List Bool} {x n : Nat} (hl : x + n ≤ ts.length) (hf : AllIn ts x n) : cnt (setN ts x false n) = cnt ts + n := by
  rw [cnt_setN ts x false n hl (fun i hi => hf i hi)]
  simp
/-- Frames, of which so many are free as are. -/
abbrev Fs (B : Nat) (w0 : World) (p r : Nat) (ts : List Bool) (W : World) : Prop := Fr B w0 p r ts (cnt ts) W
/-- Behind a taking of a run. -/
def Took (B : Nat) (w0 W0 : World) (p r : Nat) (ts : List Bool) (n each : Nat) (e : Ending) (W' : World) : Prop :=
  FrK W0 p r W' ∧ ((e = .returned (.tuple #[.int .i64 0, .int .i64 6]) ∧ Fs B w0 p r ts W' ∧ ∀ j, j * each + n ≤ ts.length → ¬ FreeIn ts (j * each) n) ∨
    ∃ x, e = .returned (.tuple #[.int .i64 (x : Nat), .int .i64 0]) ∧ Fs B w0 p r (setN ts x true n) W' ∧ First ts n each x)
theorem fs_take {B w0 p r ts W} (h : Fs B w0 p r ts W) (n each : Nat) (hn : 1 ≤ n) (he : 1 ≤ each) (he2 : each ≤ 70000) :
    Calls Tryz.prog 57 #[.pointer (some ⟨p, 0, none⟩), .int .i64 n, .int .i64 each] W (Took B w0 W p r ts n each) := by
  have hc := cnt_le ts
  have hl := h.len
  refine (fr_take h n each hn he he2 hc.1 (by omega)).mono fun e W' ⟨hk, hh⟩ => ⟨hk, ?_⟩
  rcases hh with hh | ⟨x, he, hf, hx⟩
  · exact .inl hh
  · refine .inr ⟨x, he, ?_, hx⟩
    obtain ⟨j, rfl, h1, h2, h3⟩ := hx
    unfold Fs
    rw [cnt_take h1 h2]
    exact hf
theorem fs_same {B w0 p r ts W W'} (h : Fs B w0 p r ts W) (hg : W.grownBy W' none) : Fs B w0 p r ts W' := h.same hg
theorem fs_free {B w0 p r ts W} (h : Fs B w0 p r ts W) (x : Int) (hx : cnt ts = x) : Calls Tryz.prog 15 #[.pointer (some ⟨p, 0, none⟩)] W fun e W' => e = .returned (.int .i64 x) ∧ Fs B w0 p r ts W' ∧ W.grownBy W' none := by
  subst hx
  exact (frames_Frames_Free.calls p ts (cnt ts) _ _ (trunc W p) W h.isS (trunc_below h.lt) rfl).mono fun e W' z => ⟨z.1, h.same (h.after0 z.2.1 z.2.2.1 z.2.2.2), h.after0 z.2.1 z.2.2.1 z.2.2.2⟩
theorem fs_list {B w0 p r ts W} (h : Fs B w0 p r ts W) (k : Nat) (x : List Int) (hf : frames_Frames_List.f k ts (cnt ts) = some (x, cnt ts)) :
    Calls Tryz.prog 41 #[.pointer (some ⟨p, 0, none⟩)] W fun e W' => (∃ v0, e = .returned v0 ∧ Kd.R (Kd.int .i64) 3 W' W.heap.size (fun _ => True) v0 x) ∧ Fs B w0 p r ts W' ∧ W.grownBy W' none :=
  (frames_Frames_List.calls k p ts (cnt ts) x _ (trunc W p) W h.isS (trunc_below h.lt) hf).mono fun e W' ⟨v0, he, hr, hi, hb, hk⟩ => ⟨⟨v0, he, hr⟩, h.same (h.after0 hi hb hk), h.after0 hi hb hk⟩
theorem cnt_new (m : Nat) : cnt (List.replicate m false) = m := by
  unfold cnt
  simp
theorem fs_new {B w0 W} (hb : Below B w0 W) (hB : B ≤ W.heap.size) (n : Int) (m : Nat) (hm : mn (mx n 0) 65536 = m) :
    Calls Tryz.prog 22 #[.int .i64 n] W fun e W' => ∃ p r, e = .returned (.pointer (some ⟨p, 0, none⟩)) ∧ Fs B w0 p r (List.replicate m false) W' ∧ W.heap.size ≤ r ∧ W.grownBy W' none := by
  have h1 : m ≤ 65536 := by
    unfold mn at hm
    split at hm <;> omega
  refine (fr_new hb hB n _ m rfl hm (by omega) (by omega)).mono fun e W' z => ⟨_, _, z.1, ?_, Nat.le_refl _, z.2.2⟩
  unfold Fs
  rw [cnt_new]
  have := z.2.1
  rw [Int.toNat_natCast] at this
  exact this
theorem fs_Many {B w0 p r ts W} (h : Fs B w0 p r ts W) (n : Nat) (hn : 1 ≤ n) : Calls Tryz.prog 29 #[.pointer (some ⟨p, 0, none⟩), .int .i64 n] W (Took B w0 W p r ts n 1) := by
  have HM := Aside0.mk h
  have HK := Aside0.mk (FrK.refl W p r)
  have hn' : ¬ (n : Int) < 1 := by omega
  clear h
  go_enter Tryz.func29, Tryz.ntmps29
  go_wp2_with (go_at_call 57; refine (fs_take HM.out n 1 hn (by omega) (by omega)).mono ?_; rintro e w2 ⟨hk, (⟨rfl, hf, hx⟩ | ⟨x, rfl, hf, hx⟩)⟩ <;> replace HK := Aside0.mk (HK.out.trans hk) <;> have HF := Aside0.mk hf <;> have HX := Aside0.mk hx <;> clear hk hf hx)
  · go_ret2
    exact ⟨HK.out, .inl ⟨rfl, HF.out, HX.out⟩⟩
  · go_ret2
    exact ⟨HK.out, .inr ⟨x, rfl, HF.out, HX.out⟩⟩
/-- The first free run is one: what is found is told. -/
theorem first_eq {ts : List Bool} {n each x y : Nat} (h1 : First ts n each x) (h2 : First ts n each y) : x = y := by
  obtain ⟨i, rfl, a1, a2, a3⟩ := h1
  obtain ⟨j, rfl, b1, b2, b3⟩ := h2
  rcases Nat.lt_trichotomy i j with c | rfl | c
  · exact absurd a2 (b3 i c)
  · rfl
  · exact absurd b2 (a3 j c)
theorem took_at {B w0 W0 p r ts n each e W'} (h : Took B w0 W0 p r ts n each e W') {x : Nat} (hx : First ts n each x) : e = .returned (.tuple #[.int .i64 (x : Nat), .int .i64 0]) ∧ Fs B w0 p r (setN ts x true n) W' ∧ FrK W0 p r W' := by
  obtain ⟨hk, ⟨he, hf, hn⟩ | ⟨y, he, hf, hy⟩⟩ := h
  · obtain ⟨j, rfl, a1, a2, a3⟩ := hx
    exact absurd a2 (hn j a1)
  · obtain rfl := first_eq hx hy
    exact ⟨he, hf, hk⟩
instance (ts : List Bool) (a k : Nat) : Decidable (FreeIn ts a k) := by unfold FreeIn; exact inferInstance
end
end Go.Proofs.YtjnffegjpkbjmaaGreat.QFramesPlays
/- merged: YtjnffegjpkbjmaaGreatTsP3 -/
set_option linter.unusedVariables false
set_option linter.unusedSimpArgs false
namespace Go.Proofs.YtjnffegjpkbjmaaGreat.Pure
open Go.RowKit Go.Proofs.YtjnffegjpkbjmaaGreat.QTsbPlays Go.Proofs.YtjnffegjpkbjmaaGreatW.PrintWords Go.Proofs.YtjnffegjpkbjmaaGreatW.PrintLast Go.Proofs.YtjnffegjpkbjmaaGreatW.PrintMore
/-- How many places, at whatever size and grade. -/
def plcW (s g : Int) : Nat := if okSize s ∧ 0 ≤ g ∧ g < 4 then plcs s.toNat g.toNat else 0
theorem pPlacesA (s g : Int) : tsb_Places.f s g = some (plcW s g : Int) := by
  by_cases h : okSize s ∧ 0 ≤ g ∧ g < 4
  · obtain ⟨h1, h2, h3⟩ := h
    have h1' := h1
    unfold okSize at h1'
    have e := pPlaces s.toNat g.toNat (by omega) (by omega)
    rw [show ((s.toNat : Nat) : Int) = s by omega, show ((g.toNat : Nat) : Int) = g by omega] at e
    rw [e]
    unfold plcW
    rw [if_pos ⟨h1, h2, h3⟩]
  · unfold plcW
    rw [if_neg h]
    unfold tsb_Places.f
    rw [pMay, Option.bind_some]
    by_cases h1 : okSize s
    · rw [if_pos (decide_eq_true h1)]
      by_cases h2 : g < 0
      · rw [if_pos h2]; rfl
      · rw [if_neg h2, if_pos (by have : ¬ g < 4 := fun h3 => h ⟨h1, by omega, h3⟩; omega)]; rfl
    · rw [if_neg (by simpa using h1)]; rfl
theorem rPlacesA (s g : Int) : lookasideref10_Places.f s g = some (plcW s g : Int) := by
  by_cases h : okSize s ∧ 0 ≤ g ∧ g < 4
  · obtain ⟨h1, h2, h3⟩ := h
    have h1' := h1
    unfold okSize at h1'
    have e := rPlaces s.toNat g.toNat (by omega) (by omega)
    rw [show ((s.toNat : Nat) : Int) = s by omega, show ((g.toNat : Nat) : Int) = g by omega] at e
    rw [e]
    unfold plcW
    rw [if_pos ⟨h1, h2, h3⟩]
  · unfold plcW
    rw [if_neg h]
    unfold lookasideref10_Places.f
    rw [rMay, Option.bind_some]
    by_cases h1 : okSize s
    · rw [if_pos (decide_eq_true h1)]
      by_cases h2 : g < 0
      · rw [if_pos h2]; rfl
      · rw [if_neg h2, if_pos (by have : ¬ g < 4 := fun h3 => h ⟨h1, by omega, h3⟩; omega)]; rfl
    · rw [if_neg (by simpa using h1)]; rfl
theorem plcW_le (s g : Int) : plcW s g ≤ 4096 := by
  unfold plcW
  split
  · rename_i h
    have h1 := h.1
    unfold okSize at h1
    exact (plcs_le s.toNat g.toNat (by omega) (by omega)).2
  · omega
end Go.Proofs.YtjnffegjpkbjmaaGreat.Pure
/- merged: YtjnffegjpkbjmaaGreatQTsbPlaysx42 -/
namespace Go.Proofs.YtjnffegjpkbjmaaGreat.QTsbPlays
open Go.RowKit Go.Proofs.YtjnffegjpkbjmaaGreatW.PrintWords Go.Proofs.YtjnffegjpkbjmaaGreatW.PrintLast Go.Proofs.YtjnffegjpkbjmaaGreatW.PrintMore
attribute [local go_sem] max2_int min2_int max_two min_two max_three min_three max_four min_four   -- for this text's walks alone
set_option linter.unusedVariables false
set_option linter.unusedSimpArgs false
/-! ### lookasideref13_Make: function 26 -/
end Go.Proofs.YtjnffegjpkbjmaaGreat.QTsbPlays
set_option linter.unusedVariables false
set_option linter.unusedSimpArgs false
namespace Go.Proofs.YtjnffegjpkbjmaaGreat.Pure
open Go.RowKit Go.Proofs.YtjnffegjpkbjmaaGreat.QTsbPlays Go.Proofs.YtjnffegjpkbjmaaGreatW.PrintWords Go.Proofs.YtjnffegjpkbjmaaGreatW.PrintLast Go.Proofs.YtjnffegjpkbjmaaGreatW.PrintMore
open Go.Proofs.YtjnffegjpkbjmaaGreat.QFramesPlays (setN cnt First FreeIn)
def frsW (s g : Int) : Nat := (16 * plcW s g + 8191) / 8192
theorem swBytes : swap_bytes.f = some 8192 := by decide +kernel
theorem pFrames (s g : Int) : swap_Frames.f s g = some (frsW s g : Int) := by
  unfold swap_Frames.f frsW
  rw [pPlacesA, swBytes]
  have h := plcW_le s g
  generalize plcW s g = p at h
  simp only [Option.bind_some]
  rw [if_neg (by decide)]
  have e1 : wrap64 (16 * (p : Int)) = ((16 * p : Nat) : Int) := by unfold wrap64; omega
  rw [e1]
  have e2 : wrap64 (((16 * p : Nat) : Int) + 8192) = ((16 * p + 8192 : Nat) : Int) := by unfold wrap64; omega
  rw [e2]
  have e3 : wrap64 (((16 * p + 8192 : Nat) : Int) - 1) = ((16 * p + 8191 : Nat) : Int) := by unfold wrap64; omega
  rw [e3, show (8192 : Int) = ((8192 : Nat) : Int) from rfl, ← Int.ofNat_tdiv]
  refine congrArg some ?_
  have : (16 * p + 8191) / 8192 ≤ 100000 := by omega
  unfold wrap64; omega
theorem rFrames_l : ∀ (k : Nat) (n : Int) (c : Nat), -8192 ≤ n → n ≤ 8192 * k → n ≤ 65536 → c + k ≤ 100 → lookasideref13_Frames.l0 (k + 1) n (c : Int) = some ((c : Int) + (if n > 0 then (n + 8191) / 8192 else 0))
  | 0, n, c, h1, h2, h3, h4 => by
    rw [lookasideref13_Frames.l0, if_neg (by omega), if_neg (by omega)]; simp
  | k + 1, n, c, h1, h2, h3, h4 => by
    rw [lookasideref13_Frames.l0]
    by_cases hn : n > 0
    · have e1 : wrap64 (n - 8192) = n - 8192 := by unfold wrap64; omega
      have e2 : wrap64 ((c : Int) + 1) = ((c + 1 : Nat) : Int) := by unfold wrap64; omega
      rw [if_pos hn, if_pos hn, e1, e2, rFrames_l k (n - 8192) (c + 1) (by omega) (by omega) (by omega) (by omega)]
      congr 1
      split <;> omega
    · rw [if_neg hn, if_neg hn]; simp
theorem rFrames (s g : Int) : lookasideref13_Frames.f 40 s g = some (frsW s g : Int) := by
  unfold lookasideref13_Frames.f frsW
  rw [rPlacesA]
  have h := plcW_le s g
  generalize plcW s g = p at h
  have e1 : wrap64 (16 * (p : Int)) = ((16 * p : Nat) : Int) := by unfold wrap64; omega
  rw [Option.bind_some, e1]
  have := rFrames_l 39 ((16 * p : Nat) : Int) 0 (by omega) (by omega) (by omega) (by omega)
  rw [show ((0 : Nat) : Int) = 0 from rfl] at this
  rw [this]
  congr 1
  split <;> omega
theorem plcW_nat (s g : Nat) (hs : s < 4) (hg : g < 4) : plcW (s : Int) (g : Int) = plcs s g := by
  unfold plcW
  rw [if_pos (by unfold okSize; omega)]
  simp
theorem frs_in (s g : Nat) (hs : s < 4) (hg : g < 4) : 1 ≤ frsW s g ∧ frsW s g ≤ 8 ∧ 16 * plcs s g ≤ frsW s g * 8192 ∧ (frsW s g - 1) * 8192 < 16 * plcs s g := by
  unfold frsW
  rw [plcW_nat s g hs hg]
  have := plcs_le s g hs hg
  omega
def upto (n : Nat) : List Int := (List.range n).map (fun i : Nat => (i : Int))
theorem first_all {F n : Nat} (h : n ≤ F) : First (List.replicate F false) n 1 0 := ⟨0, rfl, by simpa using h, fun i hi => ⟨by simp; omega, by simp [List.getD, List.getElem?_replicate]; split <;> rfl⟩, fun j hj => absurd hj (Nat.not_lt_zero _)⟩
end Go.Proofs.YtjnffegjpkbjmaaGreat.Pure
