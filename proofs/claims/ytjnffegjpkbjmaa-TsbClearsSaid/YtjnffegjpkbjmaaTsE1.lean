/- A TSB's places, one by one: the iterator, whatever else a round may write. -/
import Derived.Test.YtjnffegjpkbjmaaTsOwn
import Derived.RangeFuncNested
import Derived.RangeFuncBound
import Derived.RangeFuncCalls
import Derived.RangeFuncLeaves
import Derived.RangeFuncWrites
import Derived.Shelf.Abstract
import Derived.Shelf.RegionOpen
import Derived.WalkKit
import Derived.OwnWalkIn
import Derived.TacticsInMore
import Derived.LoopNIn
import Derived.LoopIn
namespace Go.Proofs.Ytjnffegjpkbjmaa.Mem
open Go.RowKit Go.Maps Go.Shelf Go.Proofs.YtjnffegjpkbjmaaW.PrintWords Go.Proofs.YtjnffegjpkbjmaaW.PrintLast Go.Proofs.YtjnffegjpkbjmaaW.PrintMore
attribute [local go_sem] Oper.semAt_some
set_option linter.unusedSimpArgs false
set_option linter.unusedVariables false
section
set_option maxHeartbeats 1000000
set_option maxRecDepth 100000
/-- What a round keeps: all that lay below, but some blocks. -/
def KeptX (n0 : Nat) (X : Nat → Prop) (A B : World) : Prop := A.heap.size ≤ B.heap.size ∧ ∀ k, k < n0 → k < A.heap.size → ¬ X k → B.heap[k]? = A.heap[k]?
theorem KeptX.t {n0 : Nat} {X : Nat → Prop} {A B C : World} (h : KeptX n0 X A B) (k : KeptX n0 X B C) : KeptX n0 X A C := ⟨Nat.le_trans h.1 k.1, fun i hi hA hn => (k.2 i hi (Nat.lt_of_lt_of_le hA h.1) hn).trans (h.2 i hi hA hn)⟩
theorem KeptX.b {n0 : Nat} {X : Nat → Prop} {w : World} (hn : n0 ≤ w.heap.size) (W : World) (l : Nat) (o o' : Obj) (hl : w.heap.size ≤ l) (h : W.heap[l]? = some o) (_ : o.isCells = false) (_ : o.isWalk = false) : KeptX n0 X W (W.putObj l o') :=
  ⟨(grownBy_putObj' W l o').size, fun k hk hA _ => (grownBy_putObj' W l o').block k hA (fun e => by have := Option.some.inj e; omega)⟩
theorem KeptX.g {n0 : Nat} {X : Nat → Prop} {A B : World} {row : Option Nat} (h : A.grownBy B row) (hX : ∀ k, row = some k → X k ∨ n0 ≤ k) : KeptX n0 X A B :=
  ⟨h.size, fun k hk hA hn => h.block k hA (fun e => by rcases hX k e.symm with a | a; exact hn a; omega)⟩
theorem each_stopsX {w : World} {n0 pt b1 p : Nat} {X : Nat → Prop} {base : Int} {N : Nat} {size grade : Int} (hN : N ≤ 70000) (hb : 0 ≤ base) (hb2 : base ≤ 2199023255552) (hp : pt < n0) (hb1 : b1 < n0) (hpm : ¬ X pt) (hbm : ¬ X b1) (hn : n0 ≤ w.heap.size)
    (kt : w.heap[pt]? = some (.cells (TCs p base N size grade) 95 (0, 0))) (k1 : w.heap[b1]? = some (.cells #[.pointer (some ⟨pt, 0, none⟩)] 36 (0, 0))) :
    SeqStopsK Fence.wide 3 Try.prog 105 #[.pointer (some ⟨b1, 0, none⟩)] (fun x : Pl N => #[.int .u64 (base + 16 * (x.1 : Nat))]) (KeptX n0 X) (fun xs => xs.map (·.1) = List.range N) (fun _ => True) N w := by
  intro l J Jx W hW hJ hJx hY h0
  refine callsIn_of_wp Try.func105 rfl trivial ?_ rfl
  simp only [Try.ntmps105, List.size_toArray, List.length_cons, List.length_nil, Nat.reduceAdd, Nat.reduceSub, Array.replicate_succ, Array.replicate_zero, List.push_toArray, List.append_toArray, List.nil_append, List.cons_append]
  have HY := Aside0.mk hY
  have HT := Aside0.mk ((hW.block pt (by omega)).trans kt)
  have HB := Aside0.mk ((hW.block b1 (by omega)).trans k1)
  have HJ0 := Aside0.mk h0
  clear hY h0 kt k1 hW hJ hJx
  have q0 := cz1 HB.out
  obtain ⟨y0, y1, y2, y3, y4⟩ := cz5 HT.out
  gi_wp2
  gi_loopw [8] (fun v8 wr => ∃ (i : Nat) (pre : List (Pl N)), v8 = .int .i64 i ∧ i ≤ N ∧ Aside0 (pre.map (·.1) = List.range i) ∧ Aside0 (wr.heap[pt]? = some (.cells (TCs p base N size grade) 95 (0, 0))) ∧ Aside0 (wr.heap[b1]? = some (.cells #[.pointer (some ⟨pt, 0, none⟩)] 36 (0, 0))) ∧ Aside0 (J pre wr)) (fun v8 _ => N - (intOf v8).toNat)
  case atStart => exact ⟨0, [], rfl, by omega, ⟨rfl⟩, HT, HB, HJ0⟩
  case round =>
    clear HT HB HJ0 q0 y0 y1 y2 y3 y4
    obtain ⟨i, pre, rfl, hi, HL, HT, HB, HJ0⟩ := hrel
    by_cases h1 : i < N
    · have h1' : (i : Int) < (N : Int) := by omega
      have hlen : pre.length < N := by have := congrArg List.length HL.out; simp at this; omega
      obtain ⟨fn, tmps, assign, body, hy, hR⟩ := HY.out pre ⟨i, h1⟩ wr HJ0.out hlen
      dsimp only at hy
      have HR := Aside0.mk hR
      clear hR
      have q0 := cz1 HB.out
      obtain ⟨y0, y1, y2, y3, y4⟩ := cz5 HT.out
      have hw1 : IntKind.i64.wrap (16 * (i : Int)) = 16 * (i : Int) := IntWalk.i64_in _ (by omega)
      have hw2 : IntKind.u64.wrap (16 * (i : Int)) = 16 * (i : Int) := by rw [IntKind.wrap_u64]; omega
      have hw3 : IntKind.u64.wrap (base + 16 * (i : Int)) = base + 16 * (i : Int) := by rw [IntKind.wrap_u64]; omega
      gi_wp2
      refine HR.out.mono ?_
      rintro e W3 (⟨rfl, hJ3, hk3⟩ | ⟨rfl, hJx3⟩)
      · have HT3 := Aside0.mk ((hk3.2 pt hp (blk_lt HT.out) hpm).trans HT.out)
        have HB3 := Aside0.mk ((hk3.2 b1 hb1 (blk_lt HB.out) hbm).trans HB.out)
        have HJ3 := Aside0.mk hJ3
        clear hJ3 hk3
        gi_wp2
        go_roundw
        case rel => exact ⟨i + 1, pre ++ [⟨i, h1⟩], by go_num, by omega, ⟨by simp [HL.out, List.range_succ]⟩, HT3, HB3, HJ3⟩
        case measure => simp [intOf]; omega
      · gi_wp2
        refine bodyPost_ret (results_none rfl _ _ _) rfl ?_
        exact ⟨⟨_, rfl⟩, .inr ⟨_, trivial, hJx3⟩⟩
    · obtain rfl : i = N := by omega
      gi_wp2
      go_end0
      exact ⟨⟨_, rfl⟩, .inl ⟨pre, HL.out, HJ0.out⟩⟩
end
end Go.Proofs.Ytjnffegjpkbjmaa.Mem
