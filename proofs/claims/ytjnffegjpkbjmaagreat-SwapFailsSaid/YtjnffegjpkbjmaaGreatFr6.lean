/- take: the first run that is free is taken, or none is; at whatever numbers. -/
import Derived.RangeFuncFrom
import Derived.Test.YtjnffegjpkbjmaaGreatFr5
namespace Go.Proofs.YtjnffegjpkbjmaaGreat.QFramesPlays
open Go.Proofs.YtjnffegjpkbjmaaGreat.QTsbPlays
open Go.RowKit Go.Shelf Go.Proofs.YtjnffegjpkbjmaaGreatW.PrintWords Go.Proofs.YtjnffegjpkbjmaaGreatW.PrintLast Go.Proofs.YtjnffegjpkbjmaaGreatW.PrintMore
attribute [local go_sem] Oper.semAt_some
set_option linter.unusedSimpArgs false
set_option linter.unusedVariables false
section
set_option maxHeartbeats 1000000
set_option maxRecDepth 100000
theorem fr_runs (W : World) (p n each : Value) (hp : ∃ x, p = .pointer x) (hn : ∃ x, n = .int .i64 x) (he : ∃ x, each = .int .i64 x) : Calls Tryz.prog 88 #[p, n, each] W fun e W' => ∃ b1 b2 b3, e = .returned (.func (.func 114) #[] #[.pointer (some ⟨b1, 0, none⟩), .pointer (some ⟨b2, 0, none⟩), .pointer (some ⟨b3, 0, none⟩)]) ∧ W'.cell? ⟨b1, 0, none⟩ = some p ∧ W'.cell? ⟨b2, 0, none⟩ = some n ∧ W'.cell? ⟨b3, 0, none⟩ = some each ∧ Below W.heap.size W W' := by
  obtain ⟨x, rfl⟩ := hp
  obtain ⟨y, rfl⟩ := hn
  obtain ⟨z, rfl⟩ := he
  go_enter Tryz.func88, Tryz.ntmps88
  go_wp2
  go_ret
  exact ⟨_, _, _, rfl, by go_simp, by go_simp, by go_simp, below_alloc (below_alloc (below_alloc (Below.refl _ _) _) _) _⟩
/-- What holds in the loop of take. -/
structure TK (B : Nat) (w0 W0 : World) (p r s m : Nat) (ts : List Bool) (free : Int) (a b : Value) (W : World) : Prop where
  fr : Fr B w0 p r ts free W
  k : FrK W0 p r W
  cs : W.heap[s]? = some (.cells #[.pointer (some ⟨p, 0, none⟩)] 28 (0, 0))
  cn : W.heap[s + 1]? = some (.cells #[.int .i64 m] 3 (0, 0))
  ca : W.heap[s + 2]? = some (.cells #[a] 3 (0, 0))
  cb : W.heap[s + 3]? = some (.cells #[b] 46 (0, 0))
  lo : p < s
  le : W0.heap.size ≤ s
theorem TK.kept {B w0 W0 p r s m ts free a b W row W'} (h : TK B w0 W0 p r s m ts free a b W) (hg : W.grownBy W' row) (hr : ∀ r', row = some r' → s + 3 < r') : TK B w0 W0 p r s m ts free a b W' := by
  have hrp := h.fr.rp
  have hlo := h.lo
  have hle := h.le
  have hB := h.fr.hr
  have ne : ∀ k, k ≤ s + 3 → some k ≠ row := fun k hk e => by
    have := hr k e.symm
    omega
  have bl : ∀ k, k ≤ s + 3 → W'.heap[k]? = W.heap[k]? := fun k hk => hg.block k (by have := blk_lt h.cb; omega) (ne k hk)
  refine ⟨h.fr.kept hg (ne p (by omega)) (ne r (by omega)) (fun k e => by have := hr k e; omega), ⟨hg.os.trans h.k.os, hg.tape.trans h.k.tape, hg.output.trans h.k.output, Nat.le_trans h.k.size hg.size, fun k hk h1 h2 => (bl k (by omega)).trans (h.k.block k hk h1 h2)⟩, (bl s (by omega)).trans h.cs, (bl _ (by omega)).trans h.cn, (bl _ (by omega)).trans h.ca, (bl _ (by omega)).trans h.cb, hlo, hle⟩
theorem TK.below {B w0 W0 p r s m ts free a b W W'} (h : TK B w0 W0 p r s m ts free a b W) (hb : Below W.heap.size W W') : TK B w0 W0 p r s m ts free a b W' := h.kept (row := none) ⟨hb.os, hb.tape, hb.output, hb.size, fun k hk _ => hb.block k hk⟩ (fun r' e => by cases e)
theorem TK.turn {B w0 W0 p r s m ts free a b W ts' free' W'} (h : TK B w0 W0 p r s m ts free a b W) (hf : Fr B w0 p r ts' free' W') (hk : FrK W p r W') : TK B w0 W0 p r s m ts' free' a b W' := by
  have hrp := h.fr.rp
  have hlo := h.lo
  have bl : ∀ k, s ≤ k → k ≤ s + 3 → W'.heap[k]? = W.heap[k]? := fun k h1 hk' => hk.block k (by have := blk_lt h.cb; omega) (by omega) (by omega)
  exact ⟨hf, h.k.trans hk, (bl s (by omega) (by omega)).trans h.cs, (bl _ (by omega) (by omega)).trans h.cn, (bl _ (by omega) (by omega)).trans h.ca, (bl _ (by omega) (by omega)).trans h.cb, hlo, h.le⟩
theorem grown_cell (W : World) (x : Addr) (v : Value) : W.grownBy (W.setCell x v) (some x.block) := ⟨rfl, rfl, rfl, by simp [World.setCell], fun k _ hk => Below.heap_setCell W x v k (fun e => hk (by rw [e]))⟩
theorem TK.setA {B w0 W0 p r s m ts free a b W} (h : TK B w0 W0 p r s m ts free a b W) (v : Value) : TK B w0 W0 p r s m ts free v b (W.setCell ⟨s + 1 + 1, 0, none⟩ v) := by
  have hrp := h.fr.rp
  have hlo := h.lo
  have hg := grown_cell W ⟨s + 1 + 1, 0, none⟩ v
  have bl : ∀ k, k ≠ s + 2 → k ≤ s + 3 → (W.setCell ⟨s + 1 + 1, 0, none⟩ v).heap[k]? = W.heap[k]? := fun k h1 h2 => Below.heap_setCell W _ v k (by simpa using h1)
  exact ⟨h.fr.kept hg (by simp; omega) (by simp; omega) (fun k e => by cases e; have := h.fr.hr; simp; omega), ⟨hg.os.trans h.k.os, hg.tape.trans h.k.tape, hg.output.trans h.k.output, Nat.le_trans h.k.size hg.size, fun k hk h1 h2 => (bl k (by have := h.le; omega) (by have := h.le; omega)).trans (h.k.block k hk h1 h2)⟩, (bl _ (by omega) (by omega)).trans h.cs, (bl _ (by omega) (by omega)).trans h.cn, blk_set h.ca 0 v, (bl _ (by omega) (by omega)).trans h.cb, hlo, h.le⟩
theorem TK.setB {B w0 W0 p r s m ts free a b W} (h : TK B w0 W0 p r s m ts free a b W) (v : Value) : TK B w0 W0 p r s m ts free a v (W.setCell ⟨s + 1 + 1 + 1, 0, none⟩ v) := by
  have hrp := h.fr.rp
  have hlo := h.lo
  have hg := grown_cell W ⟨s + 1 + 1 + 1, 0, none⟩ v
  have bl : ∀ k, k ≠ s + 3 → k ≤ s + 3 → (W.setCell ⟨s + 1 + 1 + 1, 0, none⟩ v).heap[k]? = W.heap[k]? := fun k h1 h2 => Below.heap_setCell W _ v k (by simpa using h1)
  exact ⟨h.fr.kept hg (by simp; omega) (by simp; omega) (fun k e => by cases e; have := h.fr.hr; simp; omega), ⟨hg.os.trans h.k.os, hg.tape.trans h.k.tape, hg.output.trans h.k.output, Nat.le_trans h.k.size hg.size, fun k hk h1 h2 => (bl k (by have := h.le; omega) (by have := h.le; omega)).trans (h.k.block k hk h1 h2)⟩, (bl _ (by omega) (by omega)).trans h.cs, (bl _ (by omega) (by omega)).trans h.cn, (bl _ (by omega) (by omega)).trans h.ca, blk_set h.cb 0 v, hlo, h.le⟩
theorem TK.others {B w0 W0 p r s m ts free a b W W'} (h : TK B w0 W0 p r s m ts free a b W) (hk : FrK W p r W') : KeepsOthers W W' := ⟨hk.size, fun k o ho hc => by
  refine (hk.block k (Array.getElem?_eq_some_iff.1 ho).1 (fun e => ?_) (fun e => ?_)).trans ho
  · subst e; rw [h.fr.row] at ho; cases ho; cases hc
  · subst e; rw [h.fr.bits] at ho; cases ho; cases hc⟩
/-- The end of take: the block of deferred calls is turned once more. -/
theorem TK.end {B w0 W0 p r s m ts free a b W} (h : TK B w0 W0 p r s m ts free a b W) (D : Nat) (o : Obj) (hD : s + 3 < D) : TK B w0 W0 p r s m ts free a b (W.putObj D o) := h.kept (grownBy_putObj' W D o) (fun r' e => by cases e; exact hD)
theorem TK.own {B w0 W0 p r s m ts free} (B0 : Nat) (hB : s + 3 < B0) {β : Type} (pr : β → Prop) (a b : β → Value) : OwnFrom B0 (fun x W => pr x ∧ TK B w0 W0 p r s m ts free (a x) (b x) W) := fun x W W' row hs hg hr => ⟨hs.1, hs.2.kept hg (fun r' e => by have := (hr r' e).1; omega)⟩
theorem tk_begin {B w0 W p r ts free} (h : Fr B w0 p r ts free W) (n : Nat) {s : Nat} (hs : s = W.heap.size) : TK B w0 W p r s n ts free (.int .i64 0) (.int .i64 0) ((((W.alloc (.cells #[.pointer (some ⟨p, 0, none⟩)] 28)).alloc (.cells #[.int .i64 n] 3)).alloc (.cells #[.int .i64 0] 3)).alloc (.cells #[.int .i64 0] 46)) := by
  subst hs
  have hg : ∀ (A : World) (o : Obj), A.grownBy (A.alloc o) none := fun A o => World.grownBy_alloc A o none
  have hg4 := grown_two (grown_two (grown_two (hg W (.cells #[.pointer (some ⟨p, 0, none⟩)] 28)) (hg _ (.cells #[.int .i64 n] 3))) (hg _ (.cells #[.int .i64 0] 3))) (hg _ (.cells #[.int .i64 0] 46))
  have nw : ∀ (A : World) (o : Obj) (k : Nat), k = A.heap.size → (A.alloc o).heap[k]? = some o := fun A o k e => by subst e; exact World.alloc_heap_new A o
  have ol : ∀ (A : World) (o o' : Obj) (k : Nat), A.heap[k]? = some o' → (A.alloc o).heap[k]? = some o' := fun A o o' k e => (Below.heap_alloc A o k (Array.getElem?_eq_some_iff.1 e).1).trans e
  exact ⟨h.same hg4, FrK.of_grown hg4, ol _ _ _ _ (ol _ _ _ _ (ol _ _ _ _ (nw _ _ _ rfl))), ol _ _ _ _ (ol _ _ _ _ (nw _ _ _ (by simp))), ol _ _ _ _ (nw _ _ _ (by simp)), nw _ _ _ (by simp), h.lt, Nat.le_refl _⟩
/-- Behind take. -/
def TookOr (B : Nat) (w0 W0 : World) (p r : Nat) (ts : List Bool) (free : Int) (n each : Nat) (e : Ending) (W' : World) : Prop :=
  FrK W0 p r W' ∧ ((e = .returned (.tuple #[.int .i64 0, .int .i64 6]) ∧ Fr B w0 p r ts free W' ∧ ∀ j, j * each + n ≤ ts.length → ¬ FreeIn ts (j * each) n) ∨
    ∃ x, e = .returned (.tuple #[.int .i64 (x : Nat), .int .i64 0]) ∧ Fr B w0 p r (setN ts x true n) (free - n) W' ∧ First ts n each x)
theorem fr_take {B w0 p r ts free W} (h : Fr B w0 p r ts free W) (n each : Nat) (hn : 1 ≤ n) (he : 1 ≤ each) (he2 : each ≤ 70000) (hf0 : 0 ≤ free) (hf1 : free ≤ 65536) :
    Calls Tryz.prog 57 #[.pointer (some ⟨p, 0, none⟩), .int .i64 n, .int .i64 each] W (TookOr B w0 W p r ts free n each) := by
  have HM := Aside0.mk h
  have hl := h.len
  clear h
  refine (callsIn_wide (n := 4)).1 ?_
  refine callsIn_of_wp_marks Tryz.func57 rfl trivial ?_ rfl
  simp only [Tryz.ntmps57, List.size_toArray, List.length_cons, List.length_nil, Nat.reduceAdd, Nat.reduceSub, Array.replicate_succ, Array.replicate_zero, List.push_toArray, List.append_toArray, List.nil_append, List.cons_append]
  obtain ⟨s, hs⟩ : ∃ s, s = W.heap.size := ⟨_, rfl⟩
  have HT0 := Aside0.mk (tk_begin HM.out n hs)
  have hm := Aside0.mk hs
  clear hs
  gi_wp2_with (refine ⟨trivial, ?_⟩; gi_at_call 88; refine (callsIn_wide.2 (fr_runs _ _ _ _ ⟨_, rfl⟩ ⟨_, rfl⟩ ⟨_, rfl⟩)).mono ?_; rintro e w5 ⟨b1, b2, b3, rfl, j1, j2, j3, hb⟩; have HT := Aside0.mk (HT0.out.below hb); clear hb HT0)
  have hsz : s + 3 < w5.heap.size := blk_lt HT.out.cb
  rw [← hm.out]
  refine wpIn_rangeFunc_ownF rfl (by omega) (gf := 114) (lb := #[.pointer (some ⟨b1, 0, none⟩), .pointer (some ⟨b2, 0, none⟩), .pointer (some ⟨b3, 0, none⟩)]) rfl trivial (enters_of Tryz.func114 (by kernel_rfl) rfl)
    (runs_stops HT.out.fr b1 b2 b3 n each hn he he2 j1 j2 j3) belowK_t (belowK_b (Nat.le_refl _)) (Below.refl _ _) (fun _ => rfl)
    (fun pre W2 => pre = [] ∧ TK B w0 W p r s n ts free (.int .i64 0) (.int .i64 0) W2)
    (fun c pre W2 => ∃ x : Nat, (c = .ret ∧ ∃ hx, pre = [⟨x, hx⟩]) ∧ TK B w0 W p r s n (setN ts x true n) (free - n) (.int .i64 (x : Nat)) (.int .i64 0) W2)
    (fun x A C row hs hg hr => ⟨hs.1, hs.2.kept hg (fun r' e => by have := (hr r' e).1; omega)⟩)
    (fun c x A C row hs hg hr => ⟨hs.choose, hs.choose_spec.1, hs.choose_spec.2.kept hg (fun r' e => by have := (hr r' e).1; omega)⟩)
    ⟨rfl, HT.out⟩
    (fun x => { tmps := #[.pointer (some ⟨p, 0, none⟩), .int .i64 n, .int .i64 each, .pointer (some ⟨s, 0, none⟩), .pointer (some ⟨s + 1, 0, none⟩), undef, .pointer (some ⟨s + 1 + 1, 0, none⟩), .pointer (some ⟨s + 1 + 1 + 1, 0, none⟩), .int .i64 (x.1 : Nat), .pointer (some ⟨p, 0, none⟩), .int .i64 n, .int .i64 each, .func (.func 114) #[] #[.pointer (some ⟨b1, 0, none⟩), .pointer (some ⟨b2, 0, none⟩), .pointer (some ⟨b3, 0, none⟩)], .int .i64 (x.1 : Nat), undef, undef, undef, undef, undef], defers := [] }) ?assign ?body ?done ?stop
  case assign =>
    intro l x W2 K hK
    gi_wp2
    exact hK
  case body =>
    rintro l pre ⟨x, hx⟩ W2 ⟨rfl, hT⟩ _
    have HT2 := Aside0.mk hT
    have d1 : W2.cell? ⟨s, 0, none⟩ = some (.pointer (some ⟨p, 0, none⟩)) := (blk_cell hT.cs 0).trans rfl
    have d2 : W2.cell? ⟨s + 1, 0, none⟩ = some (.int .i64 n) := (blk_cell hT.cn 0).trans rfl
    clear hT
    gi_wp2_with (refine ⟨trivial, ?_⟩; gi_at_call 80; refine (CallsIn.inRound l (callsIn_wide.2 (fr_turn HT2.out.fr x n true hx hf0 hf1))).mono ?_; rintro e w6 ⟨rfl, hM, hg⟩; have HT3 := Aside0.mk (HT2.out.turn hM hg); have HO := Aside0.mk (HT2.out.others hg); have c6 : w6.cell? ⟨s + 1 + 1, 0, none⟩ = some (.int .i64 0) := (blk_cell HT3.out.ca 0).trans rfl; have c7 : w6.cell? ⟨s + 1 + 1 + 1, 0, none⟩ = some (.int .i64 0) := (blk_cell HT3.out.cb 0).trans rfl; have f6 : w6.frozen? ⟨s + 1 + 1, 0, none⟩ = false := blk_frozen HT3.out.ca 0; have f7 : w6.frozen? ⟨s + 1 + 1 + 1, 0, none⟩ = false := blk_frozen HT3.out.cb 0; clear hM hg)
    exact ⟨HO.out.trans ((KeepsOthers.setCell _ _ _).trans (KeepsOthers.setCell _ _ _)), x, ⟨rfl, hx, rfl⟩, (HT3.out.setA _).setB _⟩
  case done =>
    rintro D ys W2 hD hS ⟨rfl, hT⟩ hK
    have HT2 := Aside0.mk hT
    have c6 : W2.cell? ⟨s + 1 + 1, 0, none⟩ = some (.int .i64 0) := (blk_cell hT.ca 0).trans rfl
    have c7 : W2.cell? ⟨s + 1 + 1 + 1, 0, none⟩ = some (.int .i64 0) := (blk_cell hT.cb 0).trans rfl
    have f6 : W2.frozen? ⟨s + 1 + 1, 0, none⟩ = false := blk_frozen hT.ca 0
    have f7 : W2.frozen? ⟨s + 1 + 1 + 1, 0, none⟩ = false := blk_frozen hT.cb 0
    clear hT
    gi_wp2
    have HT3 := Aside0.mk ((HT2.out.setA (.int .i64 0)).setB (.int .i64 6))
    have hK' := ((KeepsOthers.setCell W2 ⟨s + 1 + 1, 0, none⟩ (.int .i64 0)).trans (KeepsOthers.setCell _ ⟨s + 1 + 1 + 1, 0, none⟩ (.int .i64 6))).same D _ hK rfl
    refine ⟨by simp, .inl ⟨_, _, rfl, run_takeDeferred hK', ?_⟩⟩
    have HT4 := Aside0.mk (HT3.out.end D (.deferred none) (by omega))
    have d6 := (blk_cell HT4.out.ca 0).trans rfl
    have d7 := (blk_cell HT4.out.cb 0).trans rfl
    refine ⟨.tuple #[.int .i64 0, .int .i64 6], ?_, HT4.out.k, .inl ⟨rfl, HT4.out.fr, hS rfl⟩⟩
    simp [results, Tryz.f57, go_sem, d6, d7]
  case stop =>
    rintro D c pre W2 hD hS ⟨x, ⟨rfl, hx, rfl⟩, hT⟩ hK
    have HT2 := Aside0.mk hT
    clear hT
    gi_wp2
    refine ⟨by simp, .inl ⟨_, _, rfl, run_takeDeferred hK, ?_⟩⟩
    have HT4 := Aside0.mk (HT2.out.end D (.deferred none) (by omega))
    have d6 := (blk_cell HT4.out.ca 0).trans rfl
    have d7 := (blk_cell HT4.out.cb 0).trans rfl
    refine ⟨.tuple #[.int .i64 (x : Nat), .int .i64 0], ?_, HT4.out.k, .inr ⟨x, rfl, HT4.out.fr, hS _ _ rfl⟩⟩
    simp [results, Tryz.f57, go_sem, d6, d7]
end
end Go.Proofs.YtjnffegjpkbjmaaGreat.QFramesPlays
