/- A TSB's places by addresses. -/
import Derived.RangeFuncNested
import Derived.RangeFuncBound
import Derived.RangeFuncCalls
import Derived.RangeFuncLeaves
import Derived.Shelf.Abstract
import Derived.Shelf.RegionOpen
import Derived.WalkKit
import Derived.OwnWalkIn
import Derived.TacticsInMore
import Derived.LoopNIn
import Derived.LoopIn
import Derived.Test.YtjnffegjpkbjmaaMem1
import Derived.RangeFuncWrites
import Derived.Test.YtjnffegjpkbjmaaQTsbPlaysx20
/- merged: YtjnffegjpkbjmaaTs2 -/
/- merged: YtjnffegjpkbjmaaTs1 -/
namespace Go.Proofs.Ytjnffegjpkbjmaa.Mem
open Go.RowKit Go.Maps Go.Shelf Go.Proofs.YtjnffegjpkbjmaaW.PrintWords Go.Proofs.YtjnffegjpkbjmaaW.PrintLast Go.Proofs.YtjnffegjpkbjmaaW.PrintMore
attribute [local go_sem] Oper.semAt_some
set_option linter.unusedSimpArgs false
set_option linter.unusedVariables false
section
set_option maxHeartbeats 1000000
set_option maxRecDepth 100000
/-- A TSB's cells: its memory, its beginning, its places, its size, its grade. -/
abbrev TCs (p : Nat) (base : Int) (N : Nat) (size grade : Int) : Array Value := #[.pointer (some ⟨p, 0, none⟩), .int .u64 base, .int .i64 N, .int .i64 size, .int .i64 grade]
/-- What a round keeps: all that lay below, but the memory's map. -/
def KeptK (n0 mb : Nat) (A B : World) : Prop := A.heap.size ≤ B.heap.size ∧ ∀ k, k < n0 → k < A.heap.size → k ≠ mb → B.heap[k]? = A.heap[k]?
theorem KeptK.t {n0 mb : Nat} {A B C : World} (h : KeptK n0 mb A B) (k : KeptK n0 mb B C) : KeptK n0 mb A C := ⟨Nat.le_trans h.1 k.1, fun i hi hA hn => (k.2 i hi (Nat.lt_of_lt_of_le hA h.1) hn).trans (h.2 i hi hA hn)⟩
theorem KeptK.b {n0 mb : Nat} {w : World} (hn : n0 ≤ w.heap.size) (W : World) (l : Nat) (o o' : Obj) (hl : w.heap.size ≤ l) (h : W.heap[l]? = some o) (_ : o.isCells = false) (_ : o.isWalk = false) : KeptK n0 mb W (W.putObj l o') :=
 ⟨(grownBy_putObj' W l o').size, fun k hk hA _ => (grownBy_putObj' W l o').block k hA (fun e => by have := Option.some.inj e; omega)⟩
theorem cz1 {W : World} {g : Nat} {t : TypeId} {a0 : Value} (h : W.heap[g]? = some (.cells #[a0] t (0, 0))) : W.cell? ⟨g, 0, none⟩ = some a0 := (blk_cell h 0).trans rfl
theorem cz5 {W : World} {g : Nat} {t : TypeId} {a0 a1 a2 a3 a4 : Value} (h : W.heap[g]? = some (.cells #[a0, a1, a2, a3, a4] t (0, 0))) : W.cell? ⟨g, 0, none⟩ = some a0 ∧ W.cell? ⟨g, 1, none⟩ = some a1 ∧ W.cell? ⟨g, 2, none⟩ = some a2 ∧ W.cell? ⟨g, 3, none⟩ = some a3 ∧ W.cell? ⟨g, 4, none⟩ = some a4 := ⟨(blk_cell h 0).trans rfl, (blk_cell h 1).trans rfl, (blk_cell h 2).trans rfl, (blk_cell h 3).trans rfl, (blk_cell h 4).trans rfl⟩
abbrev Pl (N : Nat) := { i : Nat // i < N }
theorem each_stops {w : World} {n0 mb pt b1 p : Nat} {base : Int} {N : Nat} {size grade : Int} (hN : N ≤ 70000) (hb : 0 ≤ base) (hb2 : base ≤ 2199023255552) (hp : pt < n0) (hb1 : b1 < n0) (hpm : pt ≠ mb) (hbm : b1 ≠ mb) (hn : n0 ≤ w.heap.size)
  (kt : w.heap[pt]? = some (.cells (TCs p base N size grade) 95 (0, 0))) (k1 : w.heap[b1]? = some (.cells #[.pointer (some ⟨pt, 0, none⟩)] 36 (0, 0))) :
  SeqStopsK Fence.wide 3 Try.prog 105 #[.pointer (some ⟨b1, 0, none⟩)] (fun x : Pl N => #[.int .u64 (base + 16 * (x.1 : Nat))]) (KeptK n0 mb) (fun xs => xs.map (·.1) = List.range N) (fun _ => True) N w := by
 intro l J Jx W hW hJ hJx hY h0
 refine callsIn_of_wp Try.func105 rfl trivial ?_ rfl
 simp only [Try.ntmps105, List.size_toArray, List.length_cons, List.length_nil, Nat.reduceAdd, Nat.reduceSub, Array.replicate_succ, Array.replicate_zero, List.push_toArray, List.append_toArray, List.nil_append, List.cons_append]
 have HY := Aside0.mk hY
 have HT := Aside0.mk ((hW.block pt (by omega)).trans kt)
 have HB := Aside0.mk ((hW.block b1 (by omega)).trans k1)
 have HJ0 := Aside0.mk h0
 clear hY h0 kt k1 hW hJ hJx
 have q0 := cz1 HB.out
 obtain ⟨y0, y1, y2, y3, y4⟩ := cz5 HT.out
 gi_wp2
 gi_loopw [8] (fun v8 wr => ∃ (i : Nat) (pre : List (Pl N)), v8 = .int .i64 i ∧ i ≤ N ∧ Aside0 (pre.map (·.1) = List.range i) ∧ Aside0 (wr.heap[pt]? = some (.cells (TCs p base N size grade) 95 (0, 0))) ∧ Aside0 (wr.heap[b1]? = some (.cells #[.pointer (some ⟨pt, 0, none⟩)] 36 (0, 0))) ∧ Aside0 (J pre wr)) (fun v8 _ => N - (intOf v8).toNat)
 case atStart => exact ⟨0, [], rfl, by omega, ⟨rfl⟩, HT, HB, HJ0⟩
 case round =>
  clear HT HB HJ0 q0 y0 y1 y2 y3 y4
  obtain ⟨i, pre, rfl, hi, HL, HT, HB, HJ0⟩ := hrel
  by_cases h1 : i < N
  ·have h1' : (i : Int) < (N : Int) := by omega
   have hlen : pre.length < N := by have := congrArg List.length HL.out; simp at this; omega
   obtain ⟨fn, tmps, assign, body, hy, hR⟩ := HY.out pre ⟨i, h1⟩ wr HJ0.out hlen
   dsimp only at hy
   have HR := Aside0.mk hR
   clear hR
   have q0 := cz1 HB.out
   obtain ⟨y0, y1, y2, y3, y4⟩ := cz5 HT.out
   have hw1 : IntKind.i64.wrap (16 * (i : Int)) = 16 * (i : Int) := IntWalk.i64_in _ (by omega)
   have hw2 : IntKind.u64.wrap (16 * (i : Int)) = 16 * (i : Int) := by rw [IntKind.wrap_u64]; omega
   have hw3 : IntKind.u64.wrap (base + 16 * (i : Int)) = base + 16 * (i : Int) := by rw [IntKind.wrap_u64]; omega
   gi_wp2
   refine HR.out.mono ?_
   rintro e W3 (⟨rfl, hJ3, hk3⟩ | ⟨rfl, hJx3⟩)
   ·have HT3 := Aside0.mk ((hk3.2 pt hp (blk_lt HT.out) hpm).trans HT.out)
    have HB3 := Aside0.mk ((hk3.2 b1 hb1 (blk_lt HB.out) hbm).trans HB.out)
    have HJ3 := Aside0.mk hJ3
    clear hJ3 hk3
    gi_wp2
    go_roundw
    case rel => exact ⟨i + 1, pre ++ [⟨i, h1⟩], by go_num, by omega, ⟨by simp [HL.out, List.range_succ]⟩, HT3, HB3, HJ3⟩
    case measure => simp [intOf]; omega
   ·gi_wp2
    refine bodyPost_ret (results_none rfl _ _ _) rfl ?_
    exact ⟨⟨_, rfl⟩, .inr ⟨_, trivial, hJx3⟩⟩
  ·obtain rfl : i = N := by omega
   gi_wp2
   go_end0
   exact ⟨⟨_, rfl⟩, .inl ⟨pre, HL.out, HJ0.out⟩⟩
end
end Go.Proofs.Ytjnffegjpkbjmaa.Mem
namespace Go.Proofs.Ytjnffegjpkbjmaa.Mem
open Go.RowKit Go.Maps Go.Shelf Go.Proofs.YtjnffegjpkbjmaaW.PrintWords Go.Proofs.YtjnffegjpkbjmaaW.PrintLast Go.Proofs.YtjnffegjpkbjmaaW.PrintMore
set_option linter.unusedSimpArgs false
set_option linter.unusedVariables false
section
set_option maxHeartbeats 1000000
set_option maxRecDepth 100000
theorem bad_calls (W : World) : Calls Try.prog 64 #[] W fun e W' => e = .returned (.int .u64 9223372036854775807) ∧ W.grownBy W' none := by
 go_enter Try.func64, Try.ntmps64
 go_wp2
 go_ret
 exact ⟨rfl, grown_refl _ _⟩
theorem Mem.nb {B w0 p mb sz n D W} (h : Mem B w0 p mb sz n D W) (b : Nat) (cs : Array Value) (t : TypeId) (hb : W.heap[b]? = some (.cells cs t (0, 0))) : b ≠ mb := by
 rintro rfl
 obtain ⟨es, clock, hm, _⟩ := h.own
 rw [hm] at hb
 cases hb
theorem blk_grown {W W' : World} {g : Nat} {o : Obj} (h : W.heap[g]? = some o) (hg : W.grownBy W' none) : W'.heap[g]? = some o := (hg.block g (blk_lt h) (by simp)).trans h
theorem grown_but {W W1 : World} (h : W.grownBy W1 none) (row : Option Nat) : W.grownBy W1 row := ⟨h.os, h.tape, h.output, h.size, fun i hi _ => h.block i hi (by simp)⟩
noncomputable def drop0_T : Bool × List (List Nat × List Nat) := rtab .any (opsOf Try.f78 0)
theorem drop0_tab : rtab .any (opsOf Try.f78 0) = drop0_T := rfl
theorem drop_calls {B w0 p mb sz n D W pt} {base : Int} {N : Nat} {size grade : Int} (h : Mem B w0 p mb sz n D W) (kt : W.heap[pt]? = some (.cells (TCs p base N size grade) 95 (0, 0))) (a : Int) (ha : (Lit.int .u64 a).wf = true) (hn : n < 999999) (hc : mayOf sz a 16 16 = 0) :
  Calls Try.prog 78 #[.pointer (some ⟨pt, 0, none⟩), .int .u64 a] W fun e W' => e = .returned (.tuple #[]) ∧ Mem B w0 p mb sz (n + 2) (st (st D (a / 8) 9223372036854775807) (a / 8 + 1) 0) W' ∧ W.grownBy W' (some mb) := by
 have HM := Aside0.mk (h.same (grown_drew W none))
 have HG := Aside0.mk (grown_drew W (some mb))
 have HT := Aside0.mk (blk_grown kt (grown_drew W none))
 have HA := Aside0.mk ha
 have HN := Aside0.mk hn
 have HC := Aside0.mk hc
 clear h kt ha hn hc
 go_enter Try.func78, Try.ntmps78
 go_wp2_with fail
 refine start_ (n := 7) (S := fun w' => w'.heap[pt]? = some (.cells (TCs p base N size grade) 95 (0, 0))) (ds := []) #[false, false, false, false, false, false, false] (by kernel_rfl) rfl rfl HT.out (fun hHeld => ?_)
 refine with_tab drop0_tab (fun HT_ => ?_)
 refine pure_ (i := 0) (N := some 4) (v := ?_) (a' := ?_) #[true, false, false, false, false, false, false] rfl rfl (any_of HT_.out (by kernel_rfl)) (fun _ _ _ h => h) (Or.inl ⟨by rfl, ?_⟩) ?_ ?_
 rotate_left
 ·intro w'
  go_simp
  with_reducible rfl
 rotate_left
 ·simp only [ap_]
  rfl
 refine pure_ (i := 1) (N := some 5) (v := .pointer (some ⟨pt, 0, none⟩)) (a' := ?_) #[true, true, false, false, false, false, false] rfl rfl (any_of HT_.out (by kernel_rfl)) (fun _ _ _ h => h) (Or.inl ⟨by rfl, ?_⟩) ?_ ?_
 ·intro w'
  go_simp
 rotate_left
 ·simp only [ap_]
  rfl
 refine pure_ (i := 2) (N := some 6) (v := ?_) (a' := ?_) #[true, true, true, false, false, false, false] rfl rfl (any_of HT_.out (by kernel_rfl)) (fun _ _ _ h => h) (Or.inl ⟨by rfl, ?_⟩) ?_ ?_
 rotate_left
 ·intro w'
  go_simp
  with_reducible rfl
 rotate_left
 ·simp only [ap_]
  rfl
 refine pure_ (i := 4) (N := some 8) (v := ?_) (a' := ?_) #[true, true, true, false, true, false, false] rfl rfl (any_of HT_.out (by kernel_rfl)) (fun _ _ _ h => h) (Or.inl ⟨by rfl, ?_⟩) ?_ ?_
 rotate_left
 ·intro w'
  go_simp
  with_reducible rfl
 rotate_left
 ·simp only [ap_]
  rfl
 refine take_ (i := 3) (N := some 7) (v := .pointer (some ⟨p, 0, none⟩)) (a' := ?_) #[true, true, true, true, true, false, false] rfl rfl (take_of HT_.out (by kernel_rfl)) (fun _ _ _ h => h) (Or.inl ⟨by rfl, ?_⟩) hHeld ?_ ?_
 ·rintro w' s1
  obtain ⟨y0, y1, y2, y3, y4⟩ := cz5 s1
  go_simp
 rotate_left
 ·simp only [ap_]
  rfl
 refine one_ (i := 5) (N := some 9) #[true, true, true, true, true, true, false] rfl rfl (one_of HT_.out (by kernel_rfl)) (by decide) (fun K hK => ?_)
 refine goes_ Try.func64 (by kernel_rfl) rfl #[] (by rfl) rfl rfl (by (try simp only [List.map_toArray, List.map_cons, List.map_nil]); first | done | rfl) ?_
 refine (bad_calls _).mono ?_
 rintro x0 wn ⟨rfl, hg⟩
 have hs := blk_grown hHeld hg
 replace HM := Aside0.mk (HM.out.same hg)
 replace HG := Aside0.mk (grown_two HG.out (grown_but hg (some mb)))
 clear hg
 refine ⟨_, rfl, ?_⟩
 refine hK.out _ _ hs (fun hHeld => ?_)
 clear hK K
 refine norm_ (a' := ?_) ?_ ?_
 rotate_left
 ·show Act.put _ (some 9) _ = _
  simp only [ap_]
  rfl
 refine one_ (i := 6) (N := some 10) #[true, true, true, true, true, true, true] rfl rfl (one_of HT_.out (by kernel_rfl)) (by decide) (fun K hK => ?_)
 refine goes_ Try.func110 (by kernel_rfl) rfl #[.pointer (some ⟨p, 0, none⟩), .int .u64 a, .int .u64 9223372036854775807, .int .u64 0] (by rfl) rfl rfl (by (try simp only [List.map_toArray, List.map_cons, List.map_nil]); first | done | rfl) ?_
 refine (putPair_ok HM.out a HA.out 9223372036854775807 0 (by decide) (by decide) HN.out HC.out).mono ?_
 rintro x0 wn ⟨rfl, hM, hg⟩
 have hs : wn.heap[pt]? = some (.cells (TCs p base N size grade) 95 (0, 0)) := (hg.block pt (blk_lt hHeld) (fun e => HM.out.nb _ _ _ hHeld (Option.some.inj e))).trans hHeld
 replace HM := Aside0.mk hM
 replace HG := Aside0.mk (grown_two HG.out hg)
 clear hM hg
 refine ⟨_, rfl, ?_⟩
 refine hK.out _ _ hs (fun hHeld => ?_)
 clear hK K
 refine norm_ (a' := ?_) ?_ ?_
 rotate_left
 ·show Act.put _ (some 10) _ = _
  simp only [ap_]
  rfl
 refine done_ (done_of HT_.out (by kernel_rfl)) ?_
 go_wp2
 go_end0
 exact ⟨rfl, HM.out, HG.out⟩
end
end Go.Proofs.Ytjnffegjpkbjmaa.Mem
/- merged: YtjnffegjpkbjmaaTs3 -/
namespace Go.Proofs.Ytjnffegjpkbjmaa.Mem
open Go.RowKit Go.Maps Go.Shelf Go.Proofs.YtjnffegjpkbjmaaW.PrintWords Go.Proofs.YtjnffegjpkbjmaaW.PrintLast Go.Proofs.YtjnffegjpkbjmaaW.PrintMore
attribute [local go_sem] Oper.semAt_some
set_option linter.unusedSimpArgs false
set_option linter.unusedVariables false
section
set_option maxHeartbeats 1000000
set_option maxRecDepth 100000
theorem each_calls (W : World) (v : Value) (hv : ∃ x, v = .pointer x) : Calls Try.prog 71 #[v] W fun e W' => ∃ b1, e = .returned (.func (.func 105) #[] #[.pointer (some ⟨b1, 0, none⟩)]) ∧ W'.heap[b1]? = some (.cells #[v] 36 (0, 0)) ∧ W.heap.size ≤ b1 ∧ W.grownBy W' none := by
 obtain ⟨x, rfl⟩ := hv
 go_enter Try.func71, Try.ntmps71
 go_wp2
 go_ret
 exact ⟨_, rfl, heap_alloc_new W _, Nat.le_refl _, World.grownBy_alloc W _ none⟩
theorem grown_loc {W W1 W2 : World} {row : Option Nat} {j : Nat} (h : W.grownBy W1 row) (k : W1.grownBy W2 (some j)) (hj : W.heap.size ≤ j) : W.grownBy W2 row :=
 ⟨k.os.trans h.os, k.tape.trans h.tape, k.output.trans h.output, Nat.le_trans h.size k.size, fun i hi hn => (k.block i (Nat.lt_of_lt_of_le hi h.size) (fun e => by have := Option.some.inj e; omega)).trans (h.block i hi hn)⟩
/-- What a memory's map is where these places (by their numbers) have been cleared. -/
def clearD (D : DataW Unit) (base : Int) (xs : List Nat) : DataW Unit := xs.foldl (fun D i => st (st D ((base + 16 * (i : Nat)) / 8) 9223372036854775807) ((base + 16 * (i : Nat)) / 8 + 1) 0) D
theorem clearD_snoc (D : DataW Unit) (base : Int) (xs : List Nat) (i : Nat) : clearD D base (xs ++ [i]) = st (st (clearD D base xs) ((base + 16 * (i : Nat)) / 8) 9223372036854775807) ((base + 16 * (i : Nat)) / 8 + 1) 0 := by
 unfold clearD
 rw [List.foldl_append]
 rfl
/-- What stands between two rounds of Clear. -/
structure CL (B : Nat) (w0 W0 : World) (p mb pt s : Nat) (sz : Int) (m : Nat) (D : DataW Unit) (base : Int) (N : Nat) (size grade : Int) (W : World) : Prop where
 mem : Mem B w0 p mb sz m D W
 row : W.heap[pt]? = some (.cells (TCs p base N size grade) 95 (0, 0))
 box : W.heap[s]? = some (.cells #[.pointer (some ⟨pt, 0, none⟩)] 36 (0, 0))
 gr : W0.grownBy W (some mb)
theorem CL.kept {B w0 W0 p mb pt s sz m D base N size grade W W' row} (h : CL B w0 W0 p mb pt s sz m D base N size grade W) (hg : W.grownBy W' row) (hr : ∀ j, row = some j → mb < j ∧ p < j ∧ pt < j ∧ s < j ∧ W0.heap.size ≤ j ∧ B ≤ j) : CL B w0 W0 p mb pt s sz m D base N size grade W' := by
 refine ⟨h.mem.kept hg (fun e => by have := (hr _ e.symm).1; omega) (fun e => by have := (hr _ e.symm).2.1; omega) (fun k e => (hr k e).2.2.2.2.2), (hg.block pt (blk_lt h.row) (fun e => by have := (hr _ e.symm).2.2.1; omega)).trans h.row, (hg.block s (blk_lt h.box) (fun e => by have := (hr _ e.symm).2.2.2.1; omega)).trans h.box, ?_⟩
 cases row with
 | none => exact grown_two h.gr (grown_but hg _)
 | some j => exact grown_loc h.gr hg (hr j rfl).2.2.2.2.1
theorem CL.drop {B w0 W0 p mb pt s sz n D base N size grade W W'} {pre : List (Pl N)} {x : Pl N} (h : CL B w0 W0 p mb pt s sz (n + 2 * pre.length) (clearD D base (pre.map (·.1))) base N size grade W) (hM : Mem B w0 p mb sz (n + 2 * pre.length + 2) (st (st (clearD D base (pre.map (·.1))) ((base + 16 * (x.1 : Nat)) / 8) 9223372036854775807) ((base + 16 * (x.1 : Nat)) / 8 + 1) 0) W') (hg : W.grownBy W' (some mb)) :
  CL B w0 W0 p mb pt s sz (n + 2 * (pre ++ [x]).length) (clearD D base ((pre ++ [x]).map (·.1))) base N size grade W' := by
 refine ⟨?_, (hg.block pt (blk_lt h.row) (fun e => h.mem.nb _ _ _ h.row (Option.some.inj e))).trans h.row, (hg.block s (blk_lt h.box) (fun e => h.mem.nb _ _ _ h.box (Option.some.inj e))).trans h.box, grown_two h.gr hg⟩
 rw [List.map_append, List.map_cons, List.map_nil, clearD_snoc]
 simpa [Nat.mul_add, Nat.add_assoc] using hM
theorem tclear_calls {B w0 p mb sz n D W pt} {base : Int} {N : Nat} {size grade : Int} (h : Mem B w0 p mb sz n D W) (kt : W.heap[pt]? = some (.cells (TCs p base N size grade) 95 (0, 0))) (hN : N ≤ 70000) (hb : 0 ≤ base) (hb16 : base % 16 = 0) (hsz : base + 16 * N ≤ sz) (hz : sz ≤ 2199023255552) (hn : n ≤ 500000) :
  Calls Try.prog 45 #[.pointer (some ⟨pt, 0, none⟩)] W fun e W' => e = .returned (.tuple #[]) ∧ Mem B w0 p mb sz (n + 2 * N) (clearD D base (List.range N)) W' ∧ W.grownBy W' (some mb) := by
 have HM := Aside0.mk h
 have HT := Aside0.mk kt
 have HK := Aside0.mk (show mb < W.heap.size ∧ p < W.heap.size ∧ pt < W.heap.size ∧ B ≤ W.heap.size ∧ pt ≠ mb from ⟨h.own.lt, h.lt, blk_lt kt, h.hB, h.nb _ _ _ kt⟩)
 clear h kt
 refine (callsIn_wide (n := 4)).1 ?_
 refine callsIn_of_wp_marks Try.func45 rfl trivial ?_ rfl
 simp only [Try.ntmps45, List.size_toArray, List.length_cons, List.length_nil, Nat.reduceAdd, Nat.reduceSub, Array.replicate_succ, Array.replicate_zero, List.push_toArray, List.append_toArray, List.nil_append, List.cons_append]
 have HB := Aside0.mk (heap_alloc_new W (.cells #[.pointer (some ⟨pt, 0, none⟩)] 36))
 have HA := Aside0.mk (World.grownBy_alloc W (.cells #[.pointer (some ⟨pt, 0, none⟩)] 36) none)
 obtain ⟨s, hs⟩ : ∃ s, s = W.heap.size := ⟨_, rfl⟩
 have HS := Aside0.mk hs
 clear hs
 rw [← HS.out] at HB
 have q0 := cz1 HB.out
 gi_wp2_with (refine ⟨trivial, ?_⟩; gi_at_call 71; refine (callsIn_wide.2 (each_calls _ _ ⟨_, rfl⟩)).mono ?_; rintro e w5 ⟨b1, rfl, hx1, hx2, hg⟩; have HC := Aside0.mk (show CL B w0 W p mb pt s sz n D base N size grade w5 from ⟨(HM.out.same HA.out).same hg, blk_grown (blk_grown HT.out HA.out) hg, blk_grown HB.out hg, grown_but (grown_two HA.out hg) _⟩); have HX := Aside0.mk (And.intro hx1 hx2); clear hx1 hx2 hg)
 rw [← HS.out]
 have HW5 := Aside0.mk (show s < w5.heap.size ∧ b1 < w5.heap.size ∧ W.heap.size ≤ w5.heap.size ∧ b1 ≠ mb from ⟨blk_lt HC.out.box, blk_lt HX.out.1, HC.out.gr.size, HC.out.mem.nb _ _ _ HX.out.1⟩)
 refine wpIn_rangeFunc_ownG rfl (by omega) (gf := 105) (lb := #[.pointer (some ⟨b1, 0, none⟩)]) rfl trivial (enters_of Try.func105 (by kernel_rfl) rfl)
  (each_stops (n0 := w5.heap.size) (mb := mb) (p := p) (size := size) (grade := grade) hN hb (by omega) (blk_lt HC.out.row) HW5.out.2.1 HK.out.2.2.2.2 HW5.out.2.2.2 (Nat.le_refl _) HC.out.row HX.out.1) KeptK.t (KeptK.b (Nat.le_refl _)) (Below.refl _ _) (fun _ => rfl)
  (fun (pre : List (Pl N)) W2 => CL B w0 W p mb pt s sz (n + 2 * pre.length) (clearD D base (pre.map (fun x : Pl N => x.1))) base N size grade W2)
  (fun _ _ _ => False)
  (fun x A C row hs hg hr => hs.kept hg (fun j e => by have h1 := (hr j e).1; have h2 := HK.out; have h3 := HW5.out; exact ⟨by omega, by omega, by omega, by omega, by omega, by omega⟩))
  (fun _ _ _ _ _ hs _ _ => hs)
  (by simpa [clearD] using HC.out)
  (fun x => { tmps := #[.pointer (some ⟨pt, 0, none⟩), .pointer (some ⟨s, 0, none⟩), .int .u64 (base + 16 * (x.1 : Nat)), .pointer (some ⟨pt, 0, none⟩), .func (.func 105) #[] #[.pointer (some ⟨b1, 0, none⟩)], .int .u64 (base + 16 * (x.1 : Nat)), undef, undef, undef], defers := [] }) ?assign ?body ?done ?stop
 case assign =>
  intro l x W2 K hK
  gi_wp2
  exact hK
 case body =>
  rintro l pre ⟨i, hi⟩ W2 hC hlen
  have HC2 := Aside0.mk hC
  clear hC
  have q0 := cz1 HC2.out.box
  have HWA := Aside0.mk (show (Lit.int .u64 (base + 16 * (i : Nat))).wf = true from WalkArith.wf_u64 (by omega))
  have HMY := Aside0.mk (show mayOf sz (base + 16 * (i : Nat)) 16 16 = 0 by unfold mayOf; rw [if_neg (by omega), if_neg (by omega)])
  gi_wp2_with (refine ⟨trivial, ?_⟩; gi_at_call 78; refine (CallsIn.inRound l (callsIn_wide.2 (drop_calls HC2.out.mem HC2.out.row (base + 16 * (i : Nat)) HWA.out (by omega) HMY.out))).mono ?_; rintro e w6 ⟨rfl, hM, hg⟩; have HC3 := Aside0.mk (HC2.out.drop (x := ⟨i, hi⟩) hM hg); have HO := Aside0.mk (KeepsFrom.of_grownBy (B := w5.heap.size) hg (fun j e => by cases e; have := HK.out; have := HW5.out; omega)); have HKK := Aside0.mk (show KeptK w5.heap.size mb W2 w6 from ⟨hg.size, fun k _ hlt hne => hg.block k hlt (fun e => hne (Option.some.inj e))⟩); clear hM hg)
  exact ⟨HO.out, HKK.out, HC3.out⟩
 case done =>
  rintro E ys W2 hD hS hC hK
  have HC2 := Aside0.mk hC
  clear hC
  gi_wp2
  refine ⟨by simp, .inl ⟨_, _, rfl, run_takeDeferred hK, ?_⟩⟩
  have HC4 := HC2.out.kept (grownBy_putObj' W2 E (.deferred none)) (fun j e => by cases e; have h2 := HK.out; have h3 := HW5.out; exact ⟨by omega, by omega, by omega, by omega, by omega, by omega⟩)
  have hl : ys.length = N := by have := congrArg List.length hS; simpa using this
  rw [hS, hl] at HC4
  exact ⟨_, results_none rfl _ _ _, rfl, HC4.mem, HC4.gr⟩
 case stop =>
  rintro E c pre W2 hD _ h _
  exact h.elim
end
end Go.Proofs.Ytjnffegjpkbjmaa.Mem
/- merged: YtjnffegjpkbjmaaTs4 -/
namespace Go.Proofs.Ytjnffegjpkbjmaa.Mem
open Go.RowKit Go.Maps Go.Proofs.YtjnffegjpkbjmaaW.PrintWords Go.Proofs.YtjnffegjpkbjmaaW.PrintLast Go.Proofs.YtjnffegjpkbjmaaW.PrintMore Go.Proofs.Ytjnffegjpkbjmaa.QTsbPlays
set_option linter.unusedSimpArgs false
set_option linter.unusedVariables false
section
set_option maxHeartbeats 1000000
set_option maxRecDepth 100000
theorem below_grown {W W1 : World} (h : Below W.heap.size W W1) : W.grownBy W1 none := ⟨h.os, h.tape, h.output, h.size, fun k hk _ => h.block k hk⟩
theorem drawn_grown {W W1 : World} (h : Drawn0 W W1) : W.grownBy W1 none := by
 obtain ⟨m, rfl⟩ := h
 exact below_grown (pw_below_drewN (Below.refl _ _) m)
theorem memSize_calls {B w0 p mb sz n D W} (h : Mem B w0 p mb sz n D W) : Calls Try.prog 74 #[.pointer (some ⟨p, 0, none⟩)] W fun e W' => e = .returned (.int .u64 sz) ∧ W.grownBy W' none := by
 obtain ⟨c0, c1⟩ := h.cells
 clear h
 go_enter Try.func74, Try.ntmps74
 go_wp2
 go_ret
 exact ⟨rfl, grown_refl _ _⟩
theorem tnew_calls {B w0 p mb sz n D W} (h : Mem B w0 p mb sz n D W) {base : Int} {N : Nat} {size grade : Int} (hpl : tsb_Places.f size grade = some (N : Int)) (hN1 : 1 ≤ N) (hN : N ≤ 70000) (hb : 0 ≤ base) (hb16 : base % 16 = 0) (hsz : base + 16 * N ≤ sz) (hz : sz ≤ 2199023255552) (hn : n ≤ 500000) :
  Calls Try.prog 38 #[.pointer (some ⟨p, 0, none⟩), .int .u64 base, .int .i64 size, .int .i64 grade] W fun e W' => ∃ pt, e = .returned (.tuple #[.pointer (some ⟨pt, 0, none⟩), .int .i64 0]) ∧ Mem B w0 p mb sz (n + 2 * N) (clearD D base (List.range N)) W' ∧ W'.heap[pt]? = some (.cells (TCs p base N size grade) 95 (0, 0)) ∧ W.heap.size ≤ pt ∧ W.grownBy W' (some mb) := by
 have HM := Aside0.mk h
 have HPL := Aside0.mk hpl
 clear h hpl
 have hN0 : ((N : Int) == 0) = false := beq_eq_false_iff_ne.2 (by omega)
 have hw1 : IntKind.i64.wrap (16 * (N : Int)) = 16 * (N : Int) := IntWalk.i64_in _ (by omega)
 have hw2 : IntKind.u64.wrap (16 * (N : Int)) = 16 * (N : Int) := by rw [IntKind.wrap_u64]; omega
 have hw3 : IntKind.u64.wrap (sz - 16 * (N : Int)) = sz - 16 * (N : Int) := by rw [IntKind.wrap_u64]; omega
 have hm : (base % 16 != 0) = false := bne_eq_false_iff_eq.2 hb16
 go_enter Try.func38, Try.ntmps38
 go_wp2_with fail
 refine (tsb_Places.calls size grade N _ HPL.out).mono ?_
 rintro x0 w1 ⟨rfl, hd⟩
 have HG := Aside0.mk (drawn_grown hd)
 replace HM := Aside0.mk (HM.out.same HG.out)
 clear hd
 have hlt : (16 * (N : Int) > sz) = False := by simp; omega
 have hlt2 : (base > sz - 16 * (N : Int)) = False := by simp; omega
 go_wp2_with (go_at_call 74; refine (memSize_calls HM.out).mono ?_; rintro e wn ⟨rfl, hg⟩; replace HM := Aside0.mk (HM.out.same hg); replace HG := Aside0.mk (grown_two HG.out hg); clear hg)
 have HA := Aside0.mk (World.grownBy_alloc wn (.cells (TCs p base N size grade) 95) none)
 have HT := Aside0.mk (heap_alloc_new wn (.cells (TCs p base N size grade) 95))
 refine (tclear_calls (HM.out.same HA.out) HT.out hN hb hb16 hsz hz hn).mono ?_
 rintro x0 w2 ⟨rfl, hM, hg⟩
 have HM2 := Aside0.mk hM
 have HT2 := Aside0.mk ((hg.block wn.heap.size (blk_lt HT.out) (fun e => by have := Option.some.inj e; have := HM.out.own.lt; omega)).trans HT.out)
 have HG2 := Aside0.mk (grown_two (grown_but (grown_two HG.out HA.out) (some mb)) hg)
 clear hM hg
 go_wp2
 exact bodyPost_ret (v := .tuple #[.pointer (some ⟨wn.heap.size, 0, none⟩), .int .i64 0]) (by simp [results, Try.f38, go_sem]) rfl ⟨_, rfl, HM2.out, HT2.out, HG.out.size, HG2.out⟩
end
end Go.Proofs.Ytjnffegjpkbjmaa.Mem
namespace Go.Proofs.Ytjnffegjpkbjmaa.Mem
open Go.RowKit Go.Maps Go.Proofs.YtjnffegjpkbjmaaW.PrintWords Go.Proofs.YtjnffegjpkbjmaaW.PrintLast Go.Proofs.YtjnffegjpkbjmaaW.PrintMore Go.Proofs.Ytjnffegjpkbjmaa.QTsbPlays
set_option linter.unusedSimpArgs false
set_option linter.unusedVariables false
section
set_option maxHeartbeats 1000000
set_option maxRecDepth 100000
noncomputable def tat1_T : Bool × List (List Nat × List Nat) := rtab .any (opsOf Try.f59 1)
theorem tat1_tab : rtab .any (opsOf Try.f59 1) = tat1_T := rfl
theorem tat_calls {W pt p} {base : Int} {N : Nat} {size grade : Int} (kt : W.heap[pt]? = some (.cells (TCs p base N size grade) 95 (0, 0))) (va s : Int) (hs : point_Slot.f base N va size = some s) :
  Calls Try.prog 59 #[.pointer (some ⟨pt, 0, none⟩), .int .u64 va] W fun e W' => e = .returned (.int .u64 s) ∧ W.grownBy W' none := by
 have HG := Aside0.mk (grown_drew W none)
 have HT := Aside0.mk (blk_grown kt (grown_drew W none))
 have HS := Aside0.mk hs
 clear kt hs
 go_enter Try.func59, Try.ntmps59
 go_wp2_with fail
 refine start_ (n := 15) (S := fun w' => w'.heap[pt]? = some (.cells (TCs p base N size grade) 95 (0, 0))) (ds := []) #[false, false, false, false, false, false, false, false, false, false, false, false, false, false, false] (by kernel_rfl) rfl rfl HT.out (fun hHeld => ?_)
 refine with_tab tat1_tab (fun HT_ => ?_)
 refine pure_ (i := 0) (N := some 5) (v := ?_) (a' := ?_) #[true, false, false, false, false, false, false, false, false, false, false, false, false, false, false] rfl rfl (any_of HT_.out (by kernel_rfl)) (fun _ _ _ h => h) (Or.inl ⟨by rfl, ?_⟩) ?_ ?_
 rotate_left
 ·intro w'
  go_simp
  with_reducible rfl
 rotate_left
 ·simp only [ap_]
  rfl
 refine pure_ (i := 1) (N := some 6) (v := .pointer (some ⟨pt, 0, none⟩)) (a' := ?_) #[true, true, false, false, false, false, false, false, false, false, false, false, false, false, false] rfl rfl (any_of HT_.out (by kernel_rfl)) (fun _ _ _ h => h) (Or.inl ⟨by rfl, ?_⟩) ?_ ?_
 ·intro w'
  go_simp
 rotate_left
 ·simp only [ap_]
  rfl
 refine pure_ (i := 2) (N := some 7) (v := ?_) (a' := ?_) #[true, true, true, false, false, false, false, false, false, false, false, false, false, false, false] rfl rfl (any_of HT_.out (by kernel_rfl)) (fun _ _ _ h => h) (Or.inl ⟨by rfl, ?_⟩) ?_ ?_
 rotate_left
 ·intro w'
  go_simp
  with_reducible rfl
 rotate_left
 ·simp only [ap_]
  rfl
 refine pure_ (i := 4) (N := some 9) (v := ?_) (a' := ?_) #[true, true, true, false, true, false, false, false, false, false, false, false, false, false, false] rfl rfl (any_of HT_.out (by kernel_rfl)) (fun _ _ _ h => h) (Or.inl ⟨by rfl, ?_⟩) ?_ ?_
 rotate_left
 ·intro w'
  go_simp
  with_reducible rfl
 rotate_left
 ·simp only [ap_]
  rfl
 refine pure_ (i := 5) (N := some 10) (v := .pointer (some ⟨pt, 0, none⟩)) (a' := ?_) #[true, true, true, false, true, true, false, false, false, false, false, false, false, false, false] rfl rfl (any_of HT_.out (by kernel_rfl)) (fun _ _ _ h => h) (Or.inl ⟨by rfl, ?_⟩) ?_ ?_
 ·intro w'
  go_simp
 rotate_left
 ·simp only [ap_]
  rfl
 refine pure_ (i := 6) (N := some 11) (v := ?_) (a' := ?_) #[true, true, true, false, true, true, true, false, false, false, false, false, false, false, false] rfl rfl (any_of HT_.out (by kernel_rfl)) (fun _ _ _ h => h) (Or.inl ⟨by rfl, ?_⟩) ?_ ?_
 rotate_left
 ·intro w'
  go_simp
  with_reducible rfl
 rotate_left
 ·simp only [ap_]
  rfl
 refine pure_ (i := 8) (N := some 13) (v := ?_) (a' := ?_) #[true, true, true, false, true, true, true, false, true, false, false, false, false, false, false] rfl rfl (any_of HT_.out (by kernel_rfl)) (fun _ _ _ h => h) (Or.inl ⟨by rfl, ?_⟩) ?_ ?_
 rotate_left
 ·intro w'
  go_simp
  with_reducible rfl
 rotate_left
 ·simp only [ap_]
  rfl
 refine pure_ (i := 9) (N := some 14) (v := ?_) (a' := ?_) #[true, true, true, false, true, true, true, false, true, true, false, false, false, false, false] rfl rfl (any_of HT_.out (by kernel_rfl)) (fun _ _ _ h => h) (Or.inl ⟨by rfl, ?_⟩) ?_ ?_
 rotate_left
 ·intro w'
  go_simp
  with_reducible rfl
 rotate_left
 ·simp only [ap_]
  rfl
 refine pure_ (i := 10) (N := some 15) (v := .pointer (some ⟨pt, 0, none⟩)) (a' := ?_) #[true, true, true, false, true, true, true, false, true, true, true, false, false, false, false] rfl rfl (any_of HT_.out (by kernel_rfl)) (fun _ _ _ h => h) (Or.inl ⟨by rfl, ?_⟩) ?_ ?_
 ·intro w'
  go_simp
 rotate_left
 ·simp only [ap_]
  rfl
 refine pure_ (i := 11) (N := some 16) (v := ?_) (a' := ?_) #[true, true, true, false, true, true, true, false, true, true, true, true, false, false, false] rfl rfl (any_of HT_.out (by kernel_rfl)) (fun _ _ _ h => h) (Or.inl ⟨by rfl, ?_⟩) ?_ ?_
 rotate_left
 ·intro w'
  go_simp
  with_reducible rfl
 rotate_left
 ·simp only [ap_]
  rfl
 refine take_ (i := 3) (N := some 8) (v := .int .u64 base) (a' := ?_) #[true, true, true, true, true, true, true, false, true, true, true, true, false, false, false] rfl rfl (take_of HT_.out (by kernel_rfl)) (fun _ _ _ h => h) (Or.inl ⟨by rfl, ?_⟩) hHeld ?_ ?_
 ·rintro w' s1
  obtain ⟨y0, y1, y2, y3, y4⟩ := cz5 s1
  go_simp
 rotate_left
 ·simp only [ap_]
  rfl
 refine take_ (i := 7) (N := some 12) (v := .int .i64 N) (a' := ?_) #[true, true, true, true, true, true, true, true, true, true, true, true, false, false, false] rfl rfl (take_of HT_.out (by kernel_rfl)) (fun _ _ _ h => h) (Or.inl ⟨by rfl, ?_⟩) hHeld ?_ ?_
 ·rintro w' s1
  obtain ⟨y0, y1, y2, y3, y4⟩ := cz5 s1
  go_simp
 rotate_left
 ·simp only [ap_]
  rfl
 refine take_ (i := 12) (N := some 17) (v := .int .i64 size) (a' := ?_) #[true, true, true, true, true, true, true, true, true, true, true, true, true, false, false] rfl rfl (take_of HT_.out (by kernel_rfl)) (fun _ _ _ h => h) (Or.inl ⟨by rfl, ?_⟩) hHeld ?_ ?_
 ·rintro w' s1
  obtain ⟨y0, y1, y2, y3, y4⟩ := cz5 s1
  go_simp
 rotate_left
 ·simp only [ap_]
  rfl
 refine one_ (i := 13) (N := some 18) #[true, true, true, true, true, true, true, true, true, true, true, true, true, true, false] rfl rfl (one_of HT_.out (by kernel_rfl)) (by decide) (fun K hK => ?_)
 refine goes_ Try.func91 (by kernel_rfl) rfl #[.int .u64 base, .int .i64 N, .int .u64 va, .int .i64 size] (by rfl) rfl rfl (by (try simp only [List.map_toArray, List.map_cons, List.map_nil]); first | done | rfl) ?_
 refine (point_Slot.calls base N va size s _ HS.out).mono ?_
 rintro x0 wn ⟨rfl, hd⟩
 have hg := drawn_grown hd
 have hs := blk_grown hHeld hg
 replace HG := Aside0.mk (grown_two HG.out hg)
 clear hg hd
 refine ⟨_, rfl, ?_⟩
 refine hK.out _ _ hs (fun hHeld => ?_)
 clear hK K
 refine norm_ (a' := ?_) ?_ ?_
 rotate_left
 ·show Act.put _ (some 18) _ = _
  simp only [ap_]
  rfl
 refine pure_ (i := 14) (N := some 4) (v := ?_) (a' := ?_) #[true, true, true, true, true, true, true, true, true, true, true, true, true, true, true] rfl rfl (any_of HT_.out (by kernel_rfl)) (fun _ _ _ h => h) (Or.inl ⟨by rfl, ?_⟩) ?_ ?_
 rotate_left
 ·intro w'
  go_simp
  with_reducible rfl
 rotate_left
 ·simp only [ap_]
  rfl
 refine done_ (done_of HT_.out (by kernel_rfl)) ?_
 go_wp2
 go_ret
 exact ⟨rfl, HG.out⟩
end
end Go.Proofs.Ytjnffegjpkbjmaa.Mem
-- halved
