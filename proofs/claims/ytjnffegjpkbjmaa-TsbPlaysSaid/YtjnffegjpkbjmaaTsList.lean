/- A TSB's entries, place by place. -/
import Derived.Test.YtjnffegjpkbjmaaTsOwn
import Derived.RangeFuncNested
import Derived.RangeFuncBound
import Derived.RangeFuncCalls
import Derived.RangeFuncLeaves
import Derived.RangeFuncWrites
import Derived.Shelf.Abstract
import Derived.Shelf.RegionOpen
import Derived.WalkKit
import Derived.OwnWalkIn
import Derived.TacticsInMore
import Derived.LoopNIn
import Derived.LoopIn
import Derived.Deep.Onto
/- merged: YtjnffegjpkbjmaaTsE1 -/
namespace Go.Proofs.Ytjnffegjpkbjmaa.Mem
open Go.RowKit Go.Maps Go.Shelf Go.Proofs.YtjnffegjpkbjmaaW.PrintWords Go.Proofs.YtjnffegjpkbjmaaW.PrintLast Go.Proofs.YtjnffegjpkbjmaaW.PrintMore
attribute [local go_sem] Oper.semAt_some
set_option linter.unusedSimpArgs false
set_option linter.unusedVariables false
section
set_option maxHeartbeats 1000000
set_option maxRecDepth 100000
/-- What a round keeps: all that lay below, but some blocks. -/
def KeptX (n0 : Nat) (X : Nat → Prop) (A B : World) : Prop := A.heap.size ≤ B.heap.size ∧ ∀ k, k < n0 → k < A.heap.size → ¬ X k → B.heap[k]? = A.heap[k]?
theorem KeptX.t {n0 : Nat} {X : Nat → Prop} {A B C : World} (h : KeptX n0 X A B) (k : KeptX n0 X B C) : KeptX n0 X A C := ⟨Nat.le_trans h.1 k.1, fun i hi hA hn => (k.2 i hi (Nat.lt_of_lt_of_le hA h.1) hn).trans (h.2 i hi hA hn)⟩
theorem KeptX.b {n0 : Nat} {X : Nat → Prop} {w : World} (hn : n0 ≤ w.heap.size) (W : World) (l : Nat) (o o' : Obj) (hl : w.heap.size ≤ l) (h : W.heap[l]? = some o) (_ : o.isCells = false) (_ : o.isWalk = false) : KeptX n0 X W (W.putObj l o') :=
 ⟨(grownBy_putObj' W l o').size, fun k hk hA _ => (grownBy_putObj' W l o').block k hA (fun e => by have := Option.some.inj e; omega)⟩
theorem KeptX.g {n0 : Nat} {X : Nat → Prop} {A B : World} {row : Option Nat} (h : A.grownBy B row) (hX : ∀ k, row = some k → X k ∨ n0 ≤ k) : KeptX n0 X A B :=
 ⟨h.size, fun k hk hA hn => h.block k hA (fun e => by rcases hX k e.symm with a | a; exact hn a; omega)⟩
theorem each_stopsX {w : World} {n0 pt b1 p : Nat} {X : Nat → Prop} {base : Int} {N : Nat} {size grade : Int} (hN : N ≤ 70000) (hb : 0 ≤ base) (hb2 : base ≤ 2199023255552) (hp : pt < n0) (hb1 : b1 < n0) (hpm : ¬ X pt) (hbm : ¬ X b1) (hn : n0 ≤ w.heap.size)
  (kt : w.heap[pt]? = some (.cells (TCs p base N size grade) 95 (0, 0))) (k1 : w.heap[b1]? = some (.cells #[.pointer (some ⟨pt, 0, none⟩)] 36 (0, 0))) :
  SeqStopsK Fence.wide 3 Try.prog 105 #[.pointer (some ⟨b1, 0, none⟩)] (fun x : Pl N => #[.int .u64 (base + 16 * (x.1 : Nat))]) (KeptX n0 X) (fun xs => xs.map (·.1) = List.range N) (fun _ => True) N w := by
 intro l J Jx W hW hJ hJx hY h0
 refine callsIn_of_wp Try.func105 rfl trivial ?_ rfl
 simp only [Try.ntmps105, List.size_toArray, List.length_cons, List.length_nil, Nat.reduceAdd, Nat.reduceSub, Array.replicate_succ, Array.replicate_zero, List.push_toArray, List.append_toArray, List.nil_append, List.cons_append]
 have HY := Aside0.mk hY
 have HT := Aside0.mk ((hW.block pt (by omega)).trans kt)
 have HB := Aside0.mk ((hW.block b1 (by omega)).trans k1)
 have HJ0 := Aside0.mk h0
 clear hY h0 kt k1 hW hJ hJx
 have q0 := cz1 HB.out
 obtain ⟨y0, y1, y2, y3, y4⟩ := cz5 HT.out
 gi_wp2
 gi_loopw [8] (fun v8 wr => ∃ (i : Nat) (pre : List (Pl N)), v8 = .int .i64 i ∧ i ≤ N ∧ Aside0 (pre.map (·.1) = List.range i) ∧ Aside0 (wr.heap[pt]? = some (.cells (TCs p base N size grade) 95 (0, 0))) ∧ Aside0 (wr.heap[b1]? = some (.cells #[.pointer (some ⟨pt, 0, none⟩)] 36 (0, 0))) ∧ Aside0 (J pre wr)) (fun v8 _ => N - (intOf v8).toNat)
 case atStart => exact ⟨0, [], rfl, by omega, ⟨rfl⟩, HT, HB, HJ0⟩
 case round =>
  clear HT HB HJ0 q0 y0 y1 y2 y3 y4
  obtain ⟨i, pre, rfl, hi, HL, HT, HB, HJ0⟩ := hrel
  by_cases h1 : i < N
  ·have h1' : (i : Int) < (N : Int) := by omega
   have hlen : pre.length < N := by have := congrArg List.length HL.out; simp at this; omega
   obtain ⟨fn, tmps, assign, body, hy, hR⟩ := HY.out pre ⟨i, h1⟩ wr HJ0.out hlen
   dsimp only at hy
   have HR := Aside0.mk hR
   clear hR
   have q0 := cz1 HB.out
   obtain ⟨y0, y1, y2, y3, y4⟩ := cz5 HT.out
   have hw1 : IntKind.i64.wrap (16 * (i : Int)) = 16 * (i : Int) := IntWalk.i64_in _ (by omega)
   have hw2 : IntKind.u64.wrap (16 * (i : Int)) = 16 * (i : Int) := by rw [IntKind.wrap_u64]; omega
   have hw3 : IntKind.u64.wrap (base + 16 * (i : Int)) = base + 16 * (i : Int) := by rw [IntKind.wrap_u64]; omega
   gi_wp2
   refine HR.out.mono ?_
   rintro e W3 (⟨rfl, hJ3, hk3⟩ | ⟨rfl, hJx3⟩)
   ·have HT3 := Aside0.mk ((hk3.2 pt hp (blk_lt HT.out) hpm).trans HT.out)
    have HB3 := Aside0.mk ((hk3.2 b1 hb1 (blk_lt HB.out) hbm).trans HB.out)
    have HJ3 := Aside0.mk hJ3
    clear hJ3 hk3
    gi_wp2
    go_roundw
    case rel => exact ⟨i + 1, pre ++ [⟨i, h1⟩], by go_num, by omega, ⟨by simp [HL.out, List.range_succ]⟩, HT3, HB3, HJ3⟩
    case measure => simp [intOf]; omega
   ·gi_wp2
    refine bodyPost_ret (results_none rfl _ _ _) rfl ?_
    exact ⟨⟨_, rfl⟩, .inr ⟨_, trivial, hJx3⟩⟩
  ·obtain rfl : i = N := by omega
   gi_wp2
   go_end0
   exact ⟨⟨_, rfl⟩, .inl ⟨pre, HL.out, HJ0.out⟩⟩
end
end Go.Proofs.Ytjnffegjpkbjmaa.Mem
namespace Go.Proofs.Ytjnffegjpkbjmaa.Mem
open Go.RowKit Go.Maps Go.Shelf Go.Proofs.YtjnffegjpkbjmaaW.PrintWords Go.Proofs.YtjnffegjpkbjmaaW.PrintLast Go.Proofs.YtjnffegjpkbjmaaW.PrintMore Go.Proofs.Ytjnffegjpkbjmaa.QTsbPlays Go.Proofs.Ytjnffegjpkbjmaa.Pure
attribute [local go_sem] Oper.semAt_some
set_option linter.unusedSimpArgs false
set_option linter.unusedVariables false
section
set_option maxHeartbeats 2000000
set_option maxRecDepth 100000
theorem each_calls2 (W : World) (v : Value) (hv : ∃ x, v = .pointer x) : Calls Try.prog 71 #[v] W fun e W' => ∃ b1, e = .returned (.func (.func 105) #[] #[.pointer (some ⟨b1, 0, none⟩)]) ∧ W'.heap[b1]? = some (.cells #[v] 36 (0, 0)) ∧ W.heap.size ≤ b1 ∧ W.grownBy W' none := each_calls W v hv
/-- The entries of these places. -/
def listX (N s : Nat) (ws : Nat → Wd) (is : List Nat) : List GE := is.filterMap (fun i => ownW N s i (ws i))
def listW (N s : Nat) (ws : Nat → Wd) : List GE := listX N s ws (List.range N)
theorem listX_snoc (N s : Nat) (ws : Nat → Wd) (is : List Nat) (i : Nat) : listX N s ws (is ++ [i]) = listX N s ws is ++ (match ownW N s i (ws i) with | some g => [g] | none => []) := by
 unfold listX
 rw [List.filterMap_append]
 congr 1
 cases h : ownW N s i (ws i) <;> simp [h]
theorem listX_len (N s : Nat) (ws : Nat → Wd) (is : List Nat) : (listX N s ws is).length ≤ is.length := List.length_filterMap_le _ _
def flatG (gs : List GE) : List Value := gs.flatMap (fun g => (geA g).toList)
theorem flatG_snoc (gs : List GE) (g : GE) : flatG (gs ++ [g]) = flatG gs ++ (geA g).toList := by unfold flatG; simp
/-- What stands between two rounds of List. -/
structure LL (B : Nat) (w0 W0 : World) (p mb pt s1 s3 ob : Nat) (sz : Int) (n : Nat) (D : DataW Unit) (base N s : Nat) (grade : Int) (gs : List GE) (W : World) : Prop where
 mem : Mem B w0 p mb sz n D W
 row : W.heap[pt]? = some (.cells (TCs p base N s grade) 95 (0, 0))
 box : W.heap[s1]? = some (.cells #[.pointer (some ⟨pt, 0, none⟩)] 36 (0, 0))
 out : ∃ v, W.heap[s3]? = some (.cells #[v] 41 (0, 0)) ∧ W.ownsRow ob 50 11 v gs.length (flatG gs)
 gr : W0.grownBy W none
 sb : ob ≤ W.heap.size
theorem row_typed {w : World} {base : Nat} {e : TypeId} {size : Nat} {v : Value} {n : Nat} {xs : List Value} (h : w.ownsRow base e size v n xs) : ∀ k, v.ownBlock = some k → base ≤ k ∧ ∃ cs, w.heap[k]? = some (.cells cs e (0, 0)) := by
 rcases h.2 with ⟨rfl, _⟩ | ⟨g, cap, cur, rfl, hb, hh, _⟩
 ·intro k hk; cases hk
 ·intro k hk
  obtain rfl := Option.some.inj hk
  exact ⟨hb, _, hh⟩
theorem LL.kept {B w0 W0 p mb pt s1 s3 ob sz n D base N s grade gs W W' row} (h : LL B w0 W0 p mb pt s1 s3 ob sz n D base N s grade gs W) (hg : W.grownBy W' row) (hr : ∀ j, row = some j → mb < j ∧ p < j ∧ pt < j ∧ s1 < j ∧ s3 < j ∧ W0.heap.size ≤ j ∧ B ≤ j ∧ ∀ cs t, W.heap[j]? ≠ some (.cells cs t (0, 0))) : LL B w0 W0 p mb pt s1 s3 ob sz n D base N s grade gs W' := by
 obtain ⟨v, hv, ho⟩ := h.out
 refine ⟨h.mem.kept hg (fun e => by have := (hr _ e.symm).1; omega) (fun e => by have := (hr _ e.symm).2.1; omega) (fun k e => (hr k e).2.2.2.2.2.2.1), (hg.block pt (blk_lt h.row) (fun e => by have := (hr _ e.symm).2.2.1; omega)).trans h.row, (hg.block s1 (blk_lt h.box) (fun e => by have := (hr _ e.symm).2.2.2.1; omega)).trans h.box, ⟨v, (hg.block s3 (blk_lt hv) (fun e => by have := (hr _ e.symm).2.2.2.2.1; omega)).trans hv, ?_⟩, ?_, Nat.le_trans h.sb hg.size⟩
 ·refine ho.kept hg ?_
  cases hb : v.ownBlock with
  | none => exact .inl rfl
  | some k =>
   refine .inr (fun e => ?_)
   obtain ⟨_, cs, hc⟩ := row_typed ho k hb
   exact (hr k e.symm).2.2.2.2.2.2.2 cs _ hc
 ·cases row with
  | none => exact grown_two h.gr hg
  | some j => exact grown_loc h.gr hg (hr j rfl).2.2.2.2.2.1
theorem blk_keptR {W W' : World} {o : Option Nat} {g : Nat} {cs : Array Value} {t t' : TypeId} (hb : W.heap[g]? = some (.cells cs t' (0, 0))) (hg : W.grownBy W' o) (hk : ∀ k, o = some k → ∃ cs, W.heap[k]? = some (.cells cs t (0, 0))) (ht : t ≠ t') : W'.heap[g]? = some (.cells cs t' (0, 0)) :=
 (hg.block g (blk_lt hb) (fun e => by obtain ⟨c, hc⟩ := hk g e.symm; rw [hb] at hc; injection hc with hc; injection hc with _ a; exact ht a.symm)).trans hb
theorem Mem.keptR {B w0 p mb sz n D W} {W' : World} {o : Option Nat} {t : TypeId} (h : Mem B w0 p mb sz n D W) (hg : W.grownBy W' o) (hk : ∀ k, o = some k → ∃ cs, W.heap[k]? = some (.cells cs t (0, 0))) (ht : t ≠ 115) (hB : ∀ k, o = some k → B ≤ k) : Mem B w0 p mb sz n D W' :=
 h.kept hg (fun e => by obtain ⟨c, hc⟩ := hk mb e.symm; exact h.nb mb c t hc rfl) (fun e => by obtain ⟨c, hc⟩ := hk p e.symm; rw [h.row] at hc; injection hc with hc; injection hc with _ a; exact ht a.symm) hB
theorem row_succ {W : World} {base : Nat} {e : TypeId} {size : Nat} {v : Value} {k : Nat} {xs : List Value} (h : W.ownsRow base e size v (k + 1) xs) : ∃ g cap, v = .slice (some ⟨g, 0, none⟩) (k + 1) cap := by
 rcases h.2 with ⟨_, e⟩ | ⟨g, cap, cur, rfl, _⟩
 ·omega
 ·exact ⟨g, cap, rfl⟩
theorem keepsFrom_cells {B0 : Nat} {A B : World} {row : Option Nat} (hg : A.grownBy B row) (hr : ∀ j, row = some j → ∃ cs t, A.heap[j]? = some (.cells cs t (0, 0))) : KeepsFrom B0 A B :=
 ⟨hg.size, fun k o hB hk ho => (hg.block k (blk_lt hk) (fun e => by obtain ⟨cs, t, h⟩ := hr k e.symm; rw [hk] at h; cases h; cases ho)).trans hk⟩
theorem below_grownW {W W1 W2 : World} {o : Option Nat} (h : W.grownBy W1 none) (k : W1.grownBy W2 o) (ho : ∀ j, o = some j → W.heap.size ≤ j) : W.grownBy W2 none := by
 cases o with
 | none => exact grown_two h k
 | some j => exact grown_loc h k (ho j rfl)
theorem grown_cellq (W : World) (x : Addr) (v : Value) : W.grownBy (W.setCell x v) (some x.block) := ⟨rfl, rfl, rfl, by simp [World.setCell], fun k _ hk => Below.heap_setCell W x v k (fun e => hk (by rw [e]))⟩
theorem LL.same {B w0 W0 p mb pt s1 s3 ob sz n D base N s grade gs W W'} (h : LL B w0 W0 p mb pt s1 s3 ob sz n D base N s grade gs W) (hg : W.grownBy W' none) : LL B w0 W0 p mb pt s1 s3 ob sz n D base N s grade gs W' := h.kept hg (fun j e => by cases e)
theorem list_calls {B : Nat} {w0 W : World} {p mb : Nat} {sz : Int} {n : Nat} {D : DataW Unit} {pt base N s : Nat} {grade : Int} {ws : Nat → Wd} (b : TB base N s sz) (h : Mem B w0 p mb sz n D W) (hD : Holds D base N s ws) (kt : W.heap[pt]? = some (.cells (TCs p base N s grade) 95 (0, 0))) :
  Calls Try.prog 34 #[.pointer (some ⟨pt, 0, none⟩)] W fun e W' => ∃ v, e = .returned v ∧ W'.ownsRow W.heap.size 50 11 v (listW N s ws).length (flatG (listW N s ws)) ∧ W.grownBy W' none := by
 have HT := Aside0.mk kt
 have HBT := Aside0.mk b
 have HD := Aside0.mk hD
 have HK := Aside0.mk (show mb < W.heap.size ∧ p < W.heap.size ∧ pt < W.heap.size ∧ B ≤ W.heap.size ∧ pt ≠ mb from ⟨h.own.lt, h.lt, blk_lt kt, h.hB, h.nb _ _ _ kt⟩)
 have hN := b.hN
 have hsz := b.hsz
 have hz := b.hz
 have hA := grown_two (World.grownBy_alloc W (.cells #[.pointer (some ⟨pt, 0, none⟩)] 36) none) (World.grownBy_alloc (W.alloc (.cells #[.pointer (some ⟨pt, 0, none⟩)] 36)) (.cells #[.slice none 0 0] 41) none)
 have HB1 := Aside0.mk (blk_grown (heap_alloc_new W (.cells #[.pointer (some ⟨pt, 0, none⟩)] 36)) (World.grownBy_alloc (W.alloc (.cells #[.pointer (some ⟨pt, 0, none⟩)] 36)) (.cells #[.slice none 0 0] 41) none))
 have HB3 := Aside0.mk (heap_alloc_new (W.alloc (.cells #[.pointer (some ⟨pt, 0, none⟩)] 36)) (.cells #[.slice none 0 0] 41))
 rw [World.size_alloc] at HB3
 have HM0 := Aside0.mk (h.same hA)
 have HTA := Aside0.mk (blk_grown kt hA)
 have HAA := Aside0.mk hA
 clear h kt b hD hA
 refine (callsIn_wide (n := 4)).1 ?_
 refine callsIn_of_wp_marks Try.func34 rfl trivial ?_ rfl
 simp only [Try.ntmps34, List.size_toArray, List.length_cons, List.length_nil, Nat.reduceAdd, Nat.reduceSub, Array.replicate_succ, Array.replicate_zero, List.push_toArray, List.append_toArray, List.nil_append, List.cons_append]
 have q0 := cz1 HB1.out
 gi_wp2_with (refine ⟨trivial, ?_⟩; gi_at_call 71; refine (callsIn_wide.2 (each_calls2 _ _ ⟨_, rfl⟩)).mono ?_; rintro e w5 ⟨b1, rfl, hx1, hx2, hg⟩; have HL5 := Aside0.mk (show LL B w0 W p mb pt W.heap.size (W.heap.size + 1) w5.heap.size sz n D base N s grade [] w5 from ⟨HM0.out.same hg, blk_grown HTA.out hg, blk_grown HB1.out hg, ⟨_, blk_grown HB3.out hg, World.ownsRow_nil _ _ _ _⟩, grown_two HAA.out hg, Nat.le_refl _⟩); have HX := Aside0.mk (And.intro hx1 hx2); clear hx1 hx2 hg q0)
 obtain ⟨s1, hs1⟩ : ∃ z, z = W.heap.size := ⟨_, rfl⟩
 obtain ⟨s3, hs3⟩ : ∃ z, z = W.heap.size + 1 := ⟨_, rfl⟩
 have HSS := Aside0.mk (And.intro hs1 hs3)
 rw [← hs3, ← hs1] at HL5
 rw [← hs3, ← hs1]
 clear HB1 HB3 HM0 HTA HAA
 have HW5 := Aside0.mk (show s1 < w5.heap.size ∧ s3 < w5.heap.size ∧ b1 < w5.heap.size ∧ W.heap.size ≤ w5.heap.size ∧ b1 ≠ s3 ∧ pt ≠ s3 from by
  obtain ⟨v, hv, _⟩ := HL5.out.out
  have := HX.out.2
  rw [World.size_alloc, World.size_alloc] at this
  have := HK.out
  exact ⟨blk_lt HL5.out.box, blk_lt hv, blk_lt HX.out.1, HL5.out.gr.size, by omega, by omega⟩)
 clear hs1 hs3
 refine wpIn_rangeFunc_ownG rfl (by omega) (gf := 105) (lb := #[.pointer (some ⟨b1, 0, none⟩)]) rfl trivial (enters_of Try.func105 (by kernel_rfl) rfl)
  (each_stopsX (n0 := w5.heap.size) (X := fun k => k = s3) (p := p) (size := s) (grade := grade) (base := (base : Int)) (by omega) (by omega) (by omega) (blk_lt HL5.out.row) HW5.out.2.2.1 HW5.out.2.2.2.2.2 HW5.out.2.2.2.2.1 (Nat.le_refl _) HL5.out.row HX.out.1) KeptX.t (KeptX.b (Nat.le_refl _)) (Below.refl _ _) (fun _ => rfl)
  (fun (pre : List (Pl N)) W2 => LL B w0 W p mb pt s1 s3 w5.heap.size sz n D base N s grade (listX N s ws (pre.map (fun x : Pl N => x.1))) W2)
  (fun _ _ _ => False)
  (fun x A C row hs hg hr => hs.kept hg (fun j e => by have h1 := (hr j e).1; obtain ⟨o, h4, h5⟩ := (hr j e).2; have h2 := HK.out; have h3 := HW5.out; have h6 := HSS.out; exact ⟨by omega, by omega, by omega, by omega, by omega, by omega, by omega, fun cs t h => by rw [h4] at h; cases h; cases h5⟩))
  (fun _ _ _ _ _ hs _ _ => hs)
  (by simpa [listX] using HL5.out)
  (fun x => { tmps := #[.pointer (some ⟨pt, 0, none⟩), .pointer (some ⟨s1, 0, none⟩), .slice none 0 0, .pointer (some ⟨s3, 0, none⟩), .int .u64 ((base : Int) + 16 * (x.1 : Nat)), undef, undef, .pointer (some ⟨pt, 0, none⟩), .func (.func 105) #[] #[.pointer (some ⟨b1, 0, none⟩)], .int .u64 ((base : Int) + 16 * (x.1 : Nat)), undef, undef, undef, undef, undef, undef, undef, undef, undef, undef, undef, undef], defers := [] }) ?assign ?body ?done ?stop
 case assign =>
  intro l x W2 K hK
  gi_wp2
  exact hK
 case body =>
  rintro l pre ⟨i, hi⟩ W2 hC hlen
  have HC2 := Aside0.mk hC
  clear hC
  have hat : ((base : Int) + 16 * (i : Nat)) = ((base + 16 * i : Nat) : Int) := by omega
  have hown := own_calls HBT.out HC2.out.mem HD.out HC2.out.row i hi
  rw [← hat] at hown
  have HOWN := Aside0.mk hown
  clear hat hown
  have q0 := cz1 HC2.out.box
  have HSN := Aside0.mk (listX_snoc N s ws (pre.map (fun x : Pl N => x.1)) i)
  cases ho : ownW N s i (ws i) with
  | none =>
   rw [ho] at HOWN HSN
   gi_wp2_with fail
   refine ⟨trivial, ?_⟩
   refine (CallsIn.inRound l (callsIn_wide.2 HOWN.out)).mono ?_
   rintro e w6 ⟨hx, hg⟩
   obtain rfl : e = .returned (.tuple #[.agg #[.int .i64 0, .int .i64 0, .int .u64 0, .int .u64 0, .bool false, .bool false, .bool false, .bool false, .bool false, .bool false, .bool false], .bool false]) := hx
   clear q0
   have HC3 := Aside0.mk (HC2.out.same hg)
   have HG6 := Aside0.mk hg
   clear hg
   gi_wp2
   have hgA := grown_two HG6.out (World.grownBy_alloc w6 (.cells #[.int .i64 0, .int .i64 0, .int .u64 0, .int .u64 0, .bool false, .bool false, .bool false, .bool false, .bool false, .bool false, .bool false] 50) none)
   have hL : listX N s ws ((pre ++ [(⟨i, hi⟩ : Pl N)]).map (fun x : Pl N => x.1)) = listX N s ws (pre.map (fun x : Pl N => x.1)) := by
    rw [List.map_append]
    exact HSN.out.trans (List.append_nil _)
   refine ⟨KeepsFrom.of_grownBy hgA (fun j e => by cases e), KeptX.g hgA (fun k e => by cases e), ?_⟩
   show LL B w0 W p mb pt s1 s3 w5.heap.size sz n D base N s grade (listX N s ws ((pre ++ [(⟨i, hi⟩ : Pl N)]).map (fun x : Pl N => x.1))) _
   rw [hL]
   exact HC3.out.same (World.grownBy_alloc w6 (.cells #[.int .i64 0, .int .i64 0, .int .u64 0, .int .u64 0, .bool false, .bool false, .bool false, .bool false, .bool false, .bool false, .bool false] 50) none)
  | some g =>
   rw [ho] at HOWN HSN
   gi_wp2_with fail
   refine ⟨trivial, ?_⟩
   refine (CallsIn.inRound l (callsIn_wide.2 HOWN.out)).mono ?_
   rintro e w6 ⟨hx, hg⟩
   obtain rfl : e = .returned (.tuple #[.agg (geA g), .bool true]) := hx
   clear q0
   have HC3 := Aside0.mk (HC2.out.same hg)
   have HG6 := Aside0.mk hg
   clear hg
   obtain ⟨v, hv3, ho3⟩ := HC3.out.out
   have HV3 := Aside0.mk hv3
   have HO3 := Aside0.mk ho3
   clear hv3 ho3
   have hgA := World.grownBy_alloc w6 (.cells (geA g) 50) none
   have hgB := World.grownBy_alloc (w6.alloc (.cells (geA g) 50)) (.cells (geA g) 50) none
   have q3 := cz1 (blk_grown HV3.out hgA)
   have z5 := tte_Read.cz11 (heap_alloc_new w6 (.cells (geA g) 50))
   obtain ⟨z0, z1, z2, z3, z4, z5, z6, z7, z8, z9, z10⟩ := z5
   have HGA := Aside0.mk (grown_two hgA hgB)
   have HLB := Aside0.mk (heap_alloc_new (w6.alloc (.cells (geA g) 50)) (.cells (geA g) 50))
   rw [World.size_alloc] at HLB
   clear hgA hgB
   obtain ⟨i0, hi0, hzz⟩ := Option.map_eq_some_iff.1 info50
   simp only [Prod.mk.injEq] at hzz
   obtain ⟨hz0, hz1, hz2⟩ := hzz
   have HI0 := Aside0.mk (And.intro hi0 (And.intro hz0 (And.intro hz1 hz2)))
   clear hi0 hz0 hz1 hz2
   have HLEN := Aside0.mk (listX_len N s ws (pre.map (fun x : Pl N => x.1)))
   rw [List.length_map] at HLEN
   gi_wp2_with (gi_at_builtin; refine wpListIn_append_own _ rfl _ _ 41 rfl w5.heap.size 50 i0 (.agg #[.int .i64 0, .int .i64 0, .int .u64 0, .int .u64 0, .bool false, .bool false, .bool false, .bool false, .bool false, .bool false, .bool false]) 11 40 Try.underlying41 HI0.out.1 HI0.out.2.1 HI0.out.2.2.1 HI0.out.2.2.2 rfl (by decide) _ _ _ rfl (HO3.out.kept HGA.out (by cases v.ownBlock <;> simp)) ⟨w6.heap.size + 1, 0, none⟩ 1 1 (geA g).toList rfl rfl (fun j u hu => by rw [add_at, Nat.zero_add, blk_cell HLB.out j]; simpa using hu) (by simp [Value.oneCell']) (by unfold maxLen; have := HLEN.out; omega) (by have := HLEN.out; omega) (Nat.le_trans HC3.out.sb HGA.out.size) ?_; intro v1 w9 hown1 hg9 hnil9; obtain ⟨g1, c1, rfl⟩ := row_succ hown1; have HV9 := Aside0.mk ((hg9.block s3 (blk_lt (blk_grown HV3.out HGA.out)) (fun e => by obtain ⟨_, cs, hc⟩ := row_typed HO3.out s3 e.symm; rw [HV3.out] at hc; cases hc)).trans (blk_grown HV3.out HGA.out)); have HO9 := Aside0.mk hown1; have HG9 := Aside0.mk hg9; have qc := cz1 HV9.out; have qf := blk_frozen HV9.out 0; clear hown1 hg9 hnil9 q3 z0 z1 z2 z3 z4 z5 z6 z7 z8 z9 z10)
   clear qc qf
   have hW6 := grown_two HG6.out HGA.out
   have hk9 : ∀ k, v.ownBlock = some k → ∃ cs, ((w6.alloc (.cells (geA g) 50)).alloc (.cells (geA g) 50)).heap[k]? = some (.cells cs 50 (0, 0)) := fun k e => by obtain ⟨_, cs, hc⟩ := row_typed HO3.out k e; exact ⟨cs, blk_grown hc HGA.out⟩
   have hB9 : ∀ k, v.ownBlock = some k → B ≤ k := fun k e => by have := (row_typed HO3.out k e).1; have := HK.out; have := HW5.out; omega
   have hcell := grown_cellq w9 ⟨s3, 0, none⟩ (Value.slice (some ⟨g1, 0, none⟩) ((listX N s ws (pre.map (fun x : Pl N => x.1))).length + 1) c1)
   have hkc : ∀ k, some s3 = some k → ∃ cs, w9.heap[k]? = some (.cells cs 41 (0, 0)) := fun k e => by cases e; exact ⟨_, HV9.out⟩
   have hL : listX N s ws ((pre ++ [(⟨i, hi⟩ : Pl N)]).map (fun x : Pl N => x.1)) = listX N s ws (pre.map (fun x : Pl N => x.1)) ++ [g] := by
    rw [List.map_append]
    exact HSN.out
   have hm1 := (HC3.out.mem.same HGA.out).keptR HG9.out hk9 (by decide) hB9
   have hm2 := hm1.keptR hcell hkc (by decide) (fun k e => by obtain rfl : s3 = k := Option.some.inj e; have := HK.out; have := HSS.out; omega)
   have hr1 := blk_keptR (blk_keptR (blk_grown HC3.out.row HGA.out) HG9.out hk9 (by decide)) hcell hkc (by decide)
   have hr2 := blk_keptR (blk_keptR (blk_grown HC3.out.box HGA.out) HG9.out hk9 (by decide)) hcell hkc (by decide)
   have hg3 : W.grownBy w9 none := below_grownW (grown_two HC3.out.gr HGA.out) HG9.out (fun k e => by have := (row_typed HO3.out k e).1; have := HW5.out; omega)
   have hg4 := below_grownW hg3 hcell (fun k e => by obtain rfl : s3 = k := Option.some.inj e; have := HSS.out; omega)
   have hown : (w9.setCell ⟨s3, 0, none⟩ (Value.slice (some ⟨g1, 0, none⟩) ((listX N s ws (pre.map (fun x : Pl N => x.1))).length + 1) c1)).ownsRow w5.heap.size 50 11 (Value.slice (some ⟨g1, 0, none⟩) ((listX N s ws (pre.map (fun x : Pl N => x.1))).length + 1) c1) ((listX N s ws (pre.map (fun x : Pl N => x.1))).length + 1) (flatG (listX N s ws (pre.map (fun x : Pl N => x.1))) ++ (geA g).toList) := HO9.out.kept hcell (.inr (fun e => by obtain ⟨_, cs, hc⟩ := row_typed HO9.out s3 e; rw [HV9.out] at hc; injection hc with hc; injection hc with _ a; cases a))
   refine ⟨(KeepsFrom.of_grownBy hW6 (fun j e => by cases e)).trans ((keepsFrom_cells HG9.out (fun j e => by obtain ⟨cs, hc⟩ := hk9 j e; exact ⟨cs, _, hc⟩)).trans (KeepsFrom.of_grownBy hcell (fun j e => by cases e; exact HW5.out.2.1))), (KeptX.g hW6 (fun k e => by cases e)).t ((KeptX.g HG9.out (fun k e => .inr (row_typed HO3.out k e).1)).t (KeptX.g hcell (fun k e => by cases e; exact .inl rfl))), ?_⟩
   show LL B w0 W p mb pt s1 s3 w5.heap.size sz n D base N s grade (listX N s ws ((pre ++ [(⟨i, hi⟩ : Pl N)]).map (fun x : Pl N => x.1))) _
   rw [hL]
   refine ⟨hm2, hr1, hr2, ⟨_, blk_put HV9.out 0 _ rfl, ?_⟩, hg4, Nat.le_trans HC3.out.sb (Nat.le_trans HGA.out.size (Nat.le_trans HG9.out.size hcell.size))⟩
   rw [flatG_snoc, List.length_append]
   exact hown
 case done =>
  rintro E ys W2 hE hS hC hK
  obtain ⟨v, hv3, ho3⟩ := hC.out
  have HC2 := Aside0.mk hC
  have HV3 := Aside0.mk hv3
  have HO3 := Aside0.mk ho3
  clear hC hv3 ho3
  have q3 := cz1 HV3.out
  gi_wp2
  refine ⟨by simp, .inl ⟨_, _, rfl, run_takeDeferred hK, ?_⟩⟩
  have hgp := grownBy_putObj' W2 E (.deferred none)
  have hown := HO3.out.kept hgp (by
   cases hb : v.ownBlock with
   | none => exact .inl rfl
   | some k =>
    refine .inr (fun e => ?_)
    obtain rfl : k = E := Option.some.inj e
    obtain ⟨_, cs, hc⟩ := row_typed HO3.out k hb
    rw [hK] at hc
    cases hc)
  have hlw : listX N s ws (ys.map (fun x : Pl N => x.1)) = listW N s ws := by rw [show ys.map (fun x : Pl N => x.1) = List.range N from hS]; rfl
  have hown2 := hown.mono (show W.heap.size ≤ w5.heap.size by have := HW5.out; omega)
  rw [hlw] at hown2
  exact ⟨v, by simp [results, Try.f34, go_sem], v, rfl, hown2, below_grownW HC2.out.gr hgp (fun j e => by obtain rfl : E = j := Option.some.inj e; have := HW5.out; omega)⟩
 case stop =>
  rintro E c pre W2 hD _ h _
  exact h.elim
end
end Go.Proofs.Ytjnffegjpkbjmaa.Mem
-- halved
