/- A TLB in use: New at any number, Find told at once, an entry made and its lock set; at whatever numbers. -/
import Derived.Test.YthclbckkfgmbaaaTlPure
import Derived.Test.YthclbckkfgmbaaaTlOpen
namespace Go.Proofs.Ythclbckkfgmbaaa.QTlbPlays
open Go.RowKit Go.Proofs.YthclbckkfgmbaaaW.PrintWords Go.Proofs.YthclbckkfgmbaaaW.PrintLast Go.Proofs.YthclbckkfgmbaaaW.PrintMore
set_option linter.unusedSimpArgs false
set_option linter.unusedVariables false
def slotsOf (n : Int) : Nat := (mn (mx n 1) 64).toNat
theorem slots_b (n : Int) : 1 ≤ mn (mx n 1) 64 ∧ mn (mx n 1) 64 ≤ 64 := by unfold mn mx; split <;> split <;> omega
theorem slotsOf_b (n : Int) : 1 ≤ slotsOf n ∧ slotsOf n ≤ 64 := by have := slots_b n; unfold slotsOf; omega
theorem tl_new_any {B w0 W} (hb : Below B w0 W) (hB : B ≤ W.heap.size) (n : Int) :
    Calls Try.prog 18 #[.int .i64 n] W fun e W' => ∃ N : Nat, e = .returned (.pointer (some ⟨W.heap.size + 1, 0, none⟩)) ∧ N = slotsOf n ∧ 1 ≤ N ∧ Tl B w0 (W.heap.size + 1) W.heap.size (List.replicate N none) W' ∧ W.grownBy W' none :=
  (tl_new hb hB n _ _ rfl rfl (slots_b n).1 (slots_b n).2).mono fun e W' h => ⟨slotsOf n, h.1, rfl, (slotsOf_b n).1, h.2.1, h.2.2⟩
theorem tl_new_ex {B w0 W} (hb : Below B w0 W) (hB : B ≤ W.heap.size) (n : Int) :
    Calls Try.prog 18 #[.int .i64 n] W fun e W' => ∃ p r N : Nat, e = .returned (.pointer (some ⟨p, 0, none⟩)) ∧ N = slotsOf n ∧ 1 ≤ N ∧ W.heap.size ≤ r ∧ Tl B w0 p r (List.replicate N none) W' ∧ W.grownBy W' none :=
  (tl_new_any hb hB n).mono fun e W' ⟨N, h1, h2, h3, h4, h5⟩ => ⟨_, _, N, h1, h2, h3, Nat.le_refl _, h4, h5⟩
theorem atOf_some {es : List (Option Ent)} {i : Nat} {e : Ent} (hx : es.getD i none = some e) : atOf es (i : Int) = some e := by
  have hi := lt_of_getD hx
  unfold atOf
  rw [if_pos ⟨by omega, by omega⟩, Int.toNat_natCast]
  exact hx
theorem tl_at_some {B w0 p r es W} (h : Tl B w0 p r es W) (i : Nat) (e : Ent) (hx : es.getD i none = some e) :
    Calls Try.prog 24 #[.pointer (some ⟨p, 0, none⟩), .int .i64 i] W fun x W' => x = .returned (.tuple #[.agg (entA e), .bool true]) ∧ W.grownBy W' none :=
  (tl_at h (i : Int) _ (atOf_some hx)).mono fun x W' h => ⟨h.1, h.2.2⟩
theorem tl_find_some {B w0 p r es W} (h : Tl B w0 p r es W) (hw : OkL es) (va ctx : Int) (hva : (Lit.int .u64 va).wf = true) (i : Nat) (e : Ent) (hf : findOf es (fun e => hitsB e va ctx) = some i) (hx : es.getD i none = some e) :
    Calls Try.prog 20 #[.pointer (some ⟨p, 0, none⟩), .int .u64 va, .int .i64 ctx] W fun x W' => x = .returned (.tuple #[.agg (entA e), .int .i64 (i : Nat)]) ∧ W.grownBy W' none :=
  (tl_find h hw va ctx hva).mono fun x W' ⟨hg, hor⟩ => by
    rcases hor with ⟨hn, _⟩ | ⟨i', e', hf', hx', rfl⟩
    · rw [hf] at hn; cases hn
    · rw [hf] at hf'
      cases hf'
      rw [hx] at hx'
      cases hx'
      exact ⟨rfl, hg⟩
theorem tl_find_none {B w0 p r es W} (h : Tl B w0 p r es W) (hw : OkL es) (va ctx : Int) (hva : (Lit.int .u64 va).wf = true) (hf : findOf es (fun e => hitsB e va ctx) = none) :
    Calls Try.prog 20 #[.pointer (some ⟨p, 0, none⟩), .int .u64 va, .int .i64 ctx] W fun x W' => x = .returned (.tuple #[.agg (entA zE), .int .i64 (-1)]) ∧ W.grownBy W' none :=
  (tl_find h hw va ctx hva).mono fun x W' ⟨hg, hor⟩ => by
    rcases hor with ⟨_, rfl⟩ | ⟨i', e', hf', _, rfl⟩
    · exact ⟨rfl, hg⟩
    · rw [hf] at hf'; cases hf'
theorem offset_any (a : Int) (ha : (Lit.int .u64 a).wf = true) (s : Int) (hs : okSize s) (W : World) : Calls Try.prog 21 #[.int .u64 a, .int .i64 s] W fun x W' => x = .returned (.int .u64 ((a.toNat % bytesOf s : Nat))) ∧ W.grownBy W' none := by
  obtain ⟨n, rfl⟩ := Int.eq_ofNat_of_zero_le hs.1
  exact offset_calls a ha n hs W
/-- An entry's box gets its lock set. -/
theorem lock_box {wr w3 : World} (hg : wr.grownBy w3 none) (x : Ent) (b : Bool) : ((w3.alloc (.cells (entA x) 26)).setCell ⟨w3.heap.size, 7, none⟩ (.bool b)).heap[w3.heap.size]? = some (.cells (entA (lockE x b)) 26 (0, 0)) ∧ wr.grownBy ((w3.alloc (.cells (entA x) 26)).setCell ⟨w3.heap.size, 7, none⟩ (.bool b)) none ∧ (w3.alloc (.cells (entA x) 26)).cell? ⟨w3.heap.size, 7, none⟩ = some (.bool x.f4.f3) ∧ (w3.alloc (.cells (entA x) 26)).frozen? ⟨w3.heap.size, 7, none⟩ = false := by
  have hn := heap_alloc_new w3 (.cells (entA x) 26)
  refine ⟨(blk_set hn 7 _).trans rfl, ?_, (blk_cell hn 7).trans rfl, blk_frozen hn 7⟩
  exact grown_own (grown_two hg (World.grownBy_alloc w3 (.cells (entA x) 26) none)) (grown_cell _ ⟨w3.heap.size, 7, none⟩ _) (fun j e => by cases e; exact hg.size)
end Go.Proofs.Ythclbckkfgmbaaa.QTlbPlays
