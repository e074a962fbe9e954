/- What each method of a memory does with what the memory has, and answers, where it may be asked and where it may not; each with its own conditions. -/
import Derived.Test.YtjnffegjpkbjmaaProg
import Derived.Below
import Derived.OwnWalk
import Derived.Maps.Own
import Derived.Maps.OwnSet
import Derived.Maps.OwnOps
import Derived.Maps.RangeWalk
import Derived.Maps.Ext
import Derived.WalkKit
import Derived.KernelRfl
import Derived.Test.YtjnffegjpkbjmaaWMore
import Derived.Test.YtjnffegjpkbjmaaWTab
import Derived.OpenShut
/- merged: YtjnffegjpkbjmaaMem0 -/
namespace Go.Proofs.Ytjnffegjpkbjmaa.Mem
open Go.RowKit Go.Maps Go.Proofs.YtjnffegjpkbjmaaW.PrintWords Go.Proofs.YtjnffegjpkbjmaaW.PrintLast Go.Proofs.YtjnffegjpkbjmaaW.PrintMore

theorem law22 : Keyed Try.prog 38 := int_keyed Try.underlying38
theorem zero22 (w : World) : (zeroValue 38).run Try.prog w = .ok (.int .u64 0) w := by kernel_rfl

/-- A memory behind a pointer: its block, its map's block, its size, what the map reads as; below B the world is as it was. -/
structure Mem (B : Nat) (w0 : World) (p mb : Nat) (sz : Int) (n : Nat) (D : DataW Unit) (W : World) : Prop where
 below : Below B w0 W
 hp : B ≤ p
 hm : B ≤ mb
 hB : B ≤ W.heap.size
 row : W.heap[p]? = some (.cells #[.int .u64 sz, .map (some mb)] 115 (0, 0))
 own : W.ownsMap Try.prog 38 (plainElem Try.prog 38) mb n D
 wfs : (Lit.int .u64 sz).wf = true

/-- What Memory.may tells. -/
def mayOf (sz a n each : Int) : Int := if a % each ≠ 0 then 4 else if n > 0 ∧ (a ≥ sz ∨ n > sz - a) then 5 else 0
theorem Mem.cells {B w0 p mb sz n D W} (h : Mem B w0 p mb sz n D W) : W.cell? ⟨p, 0, none⟩ = some (.int .u64 sz) ∧ W.cell? ⟨p, 1, none⟩ = some (.map (some mb)) := ⟨(blk_cell h.row 0).trans rfl, (blk_cell h.row 1).trans rfl⟩
theorem u64_b {a : Int} (h : (Lit.int .u64 a).wf = true) : 0 ≤ a ∧ a < 18446744073709551616 := by
 simp [Lit.wf, IntKind.min, IntKind.max, IntKind.signed, IntKind.bits] at h; omega
theorem Mem.lt {B w0 p mb sz n D W} (h : Mem B w0 p mb sz n D W) : p < W.heap.size := blk_lt h.row
theorem Mem.ne {B w0 p mb sz n D W} (h : Mem B w0 p mb sz n D W) : p ≠ mb := by
 intro e; subst e
 obtain ⟨es, clock, hb, _⟩ := h.own
 have := h.row; rw [hb] at this; cases this
theorem Mem.step {B w0 p mb sz n D W n' D' W'} (h : Mem B w0 p mb sz n D W) (hg : W.grownBy W' (some mb)) (ho : W'.ownsMap Try.prog 38 (plainElem Try.prog 38) mb n' D') : Mem B w0 p mb sz n' D' W' :=
 ⟨h.below.grown hg h.hB (fun k e => by cases e; exact h.hm), h.hp, h.hm, Nat.le_trans h.hB hg.size, (hg.block p h.lt (fun e => h.ne (Option.some.inj e))).trans h.row, ho, h.wfs⟩
/-- Another thing is written, or new memory is made. -/
theorem Mem.kept {B w0 p mb sz n D W row W'} (h : Mem B w0 p mb sz n D W) (hg : W.grownBy W' row) (h1 : some mb ≠ row) (h2 : some p ≠ row) (h3 : ∀ k, row = some k → B ≤ k) : Mem B w0 p mb sz n D W' :=
 ⟨h.below.grown hg h.hB h3, h.hp, h.hm, Nat.le_trans h.hB hg.size, (hg.block p h.lt h2).trans h.row, h.own.kept hg h1, h.wfs⟩
theorem Mem.same {B w0 p mb sz n D W W'} (h : Mem B w0 p mb sz n D W) (hg : W.grownBy W' none) : Mem B w0 p mb sz n D W' := h.kept hg (by simp) (by simp) (fun _ e => by cases e)
theorem grown_refl (W : World) (row : Option Nat) : W.grownBy W row := ⟨rfl, rfl, rfl, Nat.le_refl _, fun _ _ _ => rfl⟩
theorem grown_two {W W1 W2 : World} {row : Option Nat} (h : W.grownBy W1 row) (k : W1.grownBy W2 row) : W.grownBy W2 row := ⟨k.os.trans h.os, k.tape.trans h.tape, k.output.trans h.output, Nat.le_trans h.size k.size, fun i hi hn => (k.block i (Nat.lt_of_lt_of_le hi h.size) hn).trans (h.block i hi hn)⟩
theorem grown_drew (W : World) (row : Option Nat) : W.grownBy W.drew row := ⟨rfl, rfl, rfl, Nat.le_refl _, fun _ _ _ => rfl⟩
theorem Mem.more {B w0 p mb sz n D W n'} (h : Mem B w0 p mb sz n D W) (hn : n ≤ n') : Mem B w0 p mb sz n' D W := ⟨h.below, h.hp, h.hm, h.hB, h.row, h.own.mono hn, h.wfs⟩

/-- The word at a place. -/
def rd (D : DataW Unit) (k : Int) : Int := match D.atKey (.int .u64 k) (.lit (.int .u64 0)) with | .lit (.int _ c) => c | _ => 0
/-- A word stands at a place. -/
def st (D : DataW Unit) (k v : Int) : DataW Unit := if v = 0 then D.del (.int .u64 k) else D.put (.int .u64 k) (.lit (.int .u64 v))
theorem rd_of {D : DataW Unit} {k c : Int} (h : D.atKey (.int .u64 k) (.lit (.int .u64 0)) = .lit (.int .u64 c)) : c = rd D k := by unfold rd; rw [h]
theorem wf_div {a : Int} (h : (Lit.int .u64 a).wf = true) : (Lit.int .u64 (a / 8)).wf = true := by
 have := u64_b h
 simp [Lit.wf, IntKind.min, IntKind.max, IntKind.signed, IntKind.bits]; omega
section
set_option maxHeartbeats 400000
theorem may_bad {each : Int} (he : each = 8 ∨ each = 16) (p : Nat) (a n : Int) (W : World) (ha : 0 ≤ a) (h : a % each ≠ 0) :
  Calls Try.prog 93 #[.pointer (some ⟨p, 0, none⟩), .int .u64 a, .int .u64 n, .int .u64 each] W fun e W' => e = .returned (.int .i64 4) ∧ W' = W := by
 have h1 : (a % each != 0) = true := bne_iff_ne.mpr h
 clear h
 rcases he with rfl | rfl
 all_goals
  go_enter Try.func93, Try.ntmps93
  go_wp2
  go_ret
  exact ⟨rfl, rfl⟩
theorem may_none {each : Int} (he : each = 1 ∨ each = 8 ∨ each = 16) (p : Nat) (a : Int) (W : World) (ha : 0 ≤ a) (h : a % each = 0) :
  Calls Try.prog 93 #[.pointer (some ⟨p, 0, none⟩), .int .u64 a, .int .u64 0, .int .u64 each] W fun e W' => e = .returned (.int .i64 0) ∧ W' = W := by
 have h1 : (a % each != 0) = false := bne_eq_false_iff_eq.mpr h
 clear h
 rcases he with rfl | rfl | rfl
 all_goals
  go_enter Try.func93, Try.ntmps93
  go_wp2
  go_ret
  exact ⟨rfl, rfl⟩
theorem may_far {B w0 p mb sz k D W} (hM : Mem B w0 p mb sz k D W) {each : Int} (he : each = 1 ∨ each = 8 ∨ each = 16) (a n : Int) (ha : 0 ≤ a) (h : a % each = 0) (hn : 0 < n) (hs : sz ≤ a) :
  Calls Try.prog 93 #[.pointer (some ⟨p, 0, none⟩), .int .u64 a, .int .u64 n, .int .u64 each] W fun e W' => e = .returned (.int .i64 5) ∧ W' = W := by
 have h1 : (a % each != 0) = false := bne_eq_false_iff_eq.mpr h
 obtain ⟨c0, c1⟩ := hM.cells
 clear h hM
 rcases he with rfl | rfl | rfl
 all_goals
  go_enter Try.func93, Try.ntmps93
  go_wp2
  go_ret
  exact ⟨rfl, rfl⟩
theorem may_in {B w0 p mb sz k D W} (hM : Mem B w0 p mb sz k D W) {each : Int} (he : each = 1 ∨ each = 8 ∨ each = 16) (a n : Int) (ha : 0 ≤ a) (h : a % each = 0) (hn : 0 < n) (hs : a < sz) (c : Int) (hc : c = if sz - a < n then 5 else 0) :
  Calls Try.prog 93 #[.pointer (some ⟨p, 0, none⟩), .int .u64 a, .int .u64 n, .int .u64 each] W fun e W' => e = .returned (.int .i64 c) ∧ W' = W := by
 have h1 : (a % each != 0) = false := bne_eq_false_iff_eq.mpr h
 obtain ⟨c0, c1⟩ := hM.cells
 obtain ⟨b0, b1⟩ := u64_b hM.wfs
 clear h hM
 by_cases hk : sz - a < n
 ·rw [if_pos hk] at hc
  subst hc
  rcases he with rfl | rfl | rfl
  all_goals
   go_enter Try.func93, Try.ntmps93
   go_wp2
   go_ret
   exact ⟨rfl, rfl⟩
 ·rw [if_neg hk] at hc
  subst hc
  rcases he with rfl | rfl | rfl
  all_goals
   go_enter Try.func93, Try.ntmps93
   go_wp2
   go_ret
   exact ⟨rfl, rfl⟩
end
end Go.Proofs.Ytjnffegjpkbjmaa.Mem
namespace Go.Proofs.Ytjnffegjpkbjmaa.Mem
open Go.RowKit Go.Maps Go.Proofs.YtjnffegjpkbjmaaW.PrintWords Go.Proofs.YtjnffegjpkbjmaaW.PrintLast Go.Proofs.YtjnffegjpkbjmaaW.PrintMore
set_option linter.unusedSimpArgs false
set_option linter.unusedVariables false
section
set_option maxHeartbeats 400000
theorem div8 {a : Int} (ha : (Lit.int .u64 a).wf = true) : IntKind.u64.wrap (a.tdiv 8) = a / 8 := by
 have := u64_b ha
 rw [Int.tdiv_eq_ediv_of_nonneg this.1]
 unfold IntKind.wrap
 simp [IntKind.signed, IntKind.bits]
 omega
set_option maxRecDepth 100000
theorem set_zero {B w0 p mb sz n D W} (h : Mem B w0 p mb sz n D W) (k : Int) (hk : (Lit.int .u64 k).wf = true) :
  Calls Try.prog 94 #[.pointer (some ⟨p, 0, none⟩), .int .u64 k, .int .u64 0] W fun e W' => e = .returned (.tuple #[]) ∧ Mem B w0 p mb sz (n + 1) (D.del (.int .u64 k)) W' ∧ W.grownBy W' (some mb) := by
 obtain ⟨_, c1⟩ := h.cells
 have HM := Aside0.mk h
 clear h
 go_enter Try.func94, Try.ntmps94
 go_wp2_with ((at_delete; refine wpList_delete_own _ rfl _ _ 113 38 rfl 38 law22 Try.underlying113 _ mb n D rfl HM.out.own _ _ rfl (keyOf_int_mk Try.underlying38 hk) ?_; intro w1 hown1 hturn1))
 refine bodyPost_ret (results_none rfl _ _ _) rfl ?_
 exact ⟨rfl, (HM.out.step hturn1.grown hown1).more (Nat.le_succ n), hturn1.grown⟩
theorem set_some {B w0 p mb sz n D W} (h : Mem B w0 p mb sz n D W) (k v : Int) (hk : (Lit.int .u64 k).wf = true) (hv : (Lit.int .u64 v).wf = true) (h0 : (v == 0) = false) (hn : n < 1000000) :
  Calls Try.prog 94 #[.pointer (some ⟨p, 0, none⟩), .int .u64 k, .int .u64 v] W fun e W' => e = .returned (.tuple #[]) ∧ Mem B w0 p mb sz (n + 1) (D.put (.int .u64 k) (.lit (.int .u64 v))) W' ∧ W.grownBy W' (some mb) := by
 obtain ⟨_, c1⟩ := h.cells
 have HM := Aside0.mk h
 clear h
 go_enter Try.func94, Try.ntmps94
 go_wp2_with ((at_mapUpdate; refine wpList_mapUpdate_own _ rfl _ _ _ 113 rfl 38 38 law22 Try.underlying113 _ mb n D rfl HM.out.own (by unfold maxLen; omega) _ _ _ rfl rfl (keyOf_int_mk Try.underlying38 hk) _ [] (plainElem_int Try.underlying38 hv) ?_; intro w1 hown1 hg1))
 go_end0
 exact ⟨rfl, HM.out.step hg1 hown1, hg1⟩
theorem set_calls {B w0 p mb sz n D W} (h : Mem B w0 p mb sz n D W) (k v : Int) (hk : (Lit.int .u64 k).wf = true) (hv : (Lit.int .u64 v).wf = true) (hn : n < 1000000) :
  Calls Try.prog 94 #[.pointer (some ⟨p, 0, none⟩), .int .u64 k, .int .u64 v] W fun e W' => e = .returned (.tuple #[]) ∧ Mem B w0 p mb sz (n + 1) (st D k v) W' ∧ W.grownBy W' (some mb) := by
 unfold st
 by_cases hz : v = 0
 ·subst hz
  rw [if_pos rfl]
  exact set_zero h k hk
 ·rw [if_neg hz]
  exact set_some h k v hk hv (beq_eq_false_iff_ne.mpr hz) hn
theorem may_calls {B w0 p mb sz n D W} (h : Mem B w0 p mb sz n D W) {each : Int} (he : each = 1 ∨ each = 8 ∨ each = 16) (a k : Int) (ha : (Lit.int .u64 a).wf = true) (hk : (Lit.int .u64 k).wf = true) {c : Int} (hc : mayOf sz a k each = c) :
  Calls Try.prog 93 #[.pointer (some ⟨p, 0, none⟩), .int .u64 a, .int .u64 k, .int .u64 each] W fun e W' => e = .returned (.int .i64 c) ∧ W' = W := by
 have ha0 := (u64_b ha).1
 have hk0 := (u64_b hk).1
 unfold mayOf at hc
 by_cases h1 : a % each = 0
 ·rw [if_neg (fun x => x h1)] at hc
  by_cases h2 : k = 0
  ·subst h2
   rw [if_neg (by omega)] at hc
   subst hc
   exact may_none he p a W ha0 h1
  ·by_cases h3 : sz ≤ a
   ·rw [if_pos ⟨by omega, .inl h3⟩] at hc
    subst hc
    exact may_far h he a k ha0 h1 (by omega) h3
   ·refine may_in h he a k ha0 h1 (by omega) (by omega) c ?_
    rw [← hc]
    by_cases h4 : sz - a < k
    ·rw [if_pos h4, if_pos ⟨by omega, .inr h4⟩]
    ·rw [if_neg h4, if_neg (by omega)]
 ·rw [if_pos h1] at hc
  subst hc
  refine may_bad ?_ p a k W ha0 h1
  rcases he with rfl | he
  ·omega
  ·exact he
theorem putWord_ok {B w0 p mb sz n D W} (h : Mem B w0 p mb sz n D W) (a : Int) (ha : (Lit.int .u64 a).wf = true) (x : Int) (hx : (Lit.int .u64 x).wf = true) (hn : n < 1000000) (hc : mayOf sz a 8 8 = 0) :
  Calls Try.prog 63 #[.pointer (some ⟨p, 0, none⟩), .int .u64 a, .int .u64 x] W fun e W' => e = .returned (.int .i64 0) ∧ Mem B w0 p mb sz (n + 1) (st D (a / 8) x) W' ∧ W.grownBy W' (some mb) := by
 have HM := Aside0.mk h
 obtain ⟨_, c1⟩ := h.cells
 clear h
 have HC := Aside0.mk hc
 clear hc
 have e1 : IntKind.u64.wrap (a.tdiv 8) = a / 8 := div8 ha
 have ha0 := (u64_b ha).1
 go_enter Try.func63, Try.ntmps63
 go_wp2_with (first | (go_at_call 93; refine (may_calls HM.out (by decide) _ _ ha (by decide) HC.out).mono ?_; rintro e wn ⟨rfl, rfl⟩) | (go_at_call 94; refine (set_calls HM.out _ _ (wf_div ha) hx hn).mono ?_; rintro e w2 ⟨rfl, hM, hg⟩; have HM2 := Aside0.mk hM; have HG := Aside0.mk hg; clear hM hg))
 go_ret
 exact ⟨rfl, HM2.out, HG.out⟩
theorem word_ok {B w0 p mb sz n D W} (h : Mem B w0 p mb sz n D W) (a : Int) (ha : (Lit.int .u64 a).wf = true) (hc : mayOf sz a 8 8 = 0) :
  Calls Try.prog 77 #[.pointer (some ⟨p, 0, none⟩), .int .u64 a] W fun e W' => e = .returned (.tuple #[.int .u64 (rd D (a / 8)), .int .i64 0]) ∧ W' = W := by
 have HM := Aside0.mk h
 obtain ⟨_, c1⟩ := h.cells
 clear h
 have HC := Aside0.mk hc
 clear hc
 have e1 : IntKind.u64.wrap (a.tdiv 8) = a / 8 := div8 ha
 have ha0 := (u64_b ha).1
 go_enter Try.func77, Try.ntmps77
 go_wp2_with (first | (go_at_call 93; refine (may_calls HM.out (by decide) _ _ ha (by decide) HC.out).mono ?_; rintro e wn ⟨rfl, rfl⟩) | (at_lookup; refine wpList_lookup_own_int _ rfl _ _ 113 rfl 38 38 .u64 law22 Try.underlying113 Try.underlying38 (zero22 _) mb n D rfl HM.out.own _ _ rfl (keyOf_int_mk Try.underlying38 (wf_div ha)) ?_; intro c hat hwc; have HAT := Aside0.mk (rd_of hat); clear hat))
 go_ret2
 exact ⟨by rw [HAT.out]; rfl, rfl⟩
theorem wf_div1 {a : Int} (h : (Lit.int .u64 a).wf = true) : (Lit.int .u64 (a / 8 + 1)).wf = true := by
 have := u64_b h
 simp [Lit.wf, IntKind.min, IntKind.max, IntKind.signed, IntKind.bits]; omega
theorem putPair_ok {B w0 p mb sz n D W} (h : Mem B w0 p mb sz n D W) (a : Int) (ha : (Lit.int .u64 a).wf = true) (x y : Int) (hx : (Lit.int .u64 x).wf = true) (hy : (Lit.int .u64 y).wf = true) (hn : n < 999999) (hc : mayOf sz a 16 16 = 0) :
  Calls Try.prog 110 #[.pointer (some ⟨p, 0, none⟩), .int .u64 a, .int .u64 x, .int .u64 y] W fun e W' => e = .returned (.int .i64 0) ∧ Mem B w0 p mb sz (n + 2) (st (st D (a / 8) x) (a / 8 + 1) y) W' ∧ W.grownBy W' (some mb) := by
 have HM := Aside0.mk h
 obtain ⟨_, c1⟩ := h.cells
 clear h
 have HC := Aside0.mk hc
 clear hc
 have e1 : IntKind.u64.wrap (a.tdiv 8) = a / 8 := div8 ha
 have ha0 := (u64_b ha).1
 have ha1 := (u64_b ha).2
 go_enter Try.func110, Try.ntmps110
 go_wp2_with (first | (go_at_call 93; refine (may_calls HM.out (by decide) _ _ ha (by decide) HC.out).mono ?_; rintro e wn ⟨rfl, rfl⟩) | (go_at_call 94; first | (refine (set_calls HM2.out _ _ (wf_div1 ha) hy (by omega)).mono ?_; rintro e w3 ⟨rfl, hM, hg⟩; have HM3 := Aside0.mk hM; have HG3 := Aside0.mk hg; clear hM hg) | (refine (set_calls HM.out _ _ (wf_div ha) hx (by omega)).mono ?_; rintro e w2 ⟨rfl, hM, hg⟩; have HM2 := Aside0.mk hM; have HG := Aside0.mk hg; clear hM hg)))
 go_ret
 exact ⟨rfl, HM3.out, grown_two HG.out HG3.out⟩
noncomputable def pair_T : Bool × List (List Nat × List Nat) := rtab .any (opsOf Try.f89 4)
theorem pair_tab : rtab .any (opsOf Try.f89 4) = pair_T := rfl
theorem pair_ok {B w0 p mb sz n D W} (h : Mem B w0 p mb sz n D W) (a : Int) (ha : (Lit.int .u64 a).wf = true) (hc : mayOf sz a 16 16 = 0) :
  Calls Try.prog 89 #[.pointer (some ⟨p, 0, none⟩), .int .u64 a] W fun e W' => e = .returned (.tuple #[.int .u64 (rd D (a / 8)), .int .u64 (rd D (a / 8 + 1)), .int .i64 0]) ∧ W' = W.drew := by
 have hS : W.drew.cell? ⟨p, 1, none⟩ = some (.map (some mb)) ∧ W.drew.ownsMap Try.prog 38 (plainElem Try.prog 38) mb n D := ⟨h.cells.2, h.own.drew⟩
 have AHS := Aside0.mk hS
 clear hS
 have HM := Aside0.mk h
 obtain ⟨_, c1⟩ := h.cells
 clear h
 have HC := Aside0.mk hc
 clear hc
 have e1 : IntKind.u64.wrap (a.tdiv 8) = a / 8 := div8 ha
 have ha0 := (u64_b ha).1
 have ha1 := (u64_b ha).2
 have e2 : IntKind.u64.wrap (a / 8 + 1) = a / 8 + 1 := by
  unfold IntKind.wrap
  simp [IntKind.signed, IntKind.bits]
  omega
 go_enter Try.func89, Try.ntmps89
 go_wp2_with ((go_at_call 93; refine (may_calls HM.out (by decide) _ _ ha (by decide) HC.out).mono ?_; rintro e wn ⟨rfl, rfl⟩))
 refine start_ (n := 18) (S := fun w' => w'.cell? ⟨p, 1, none⟩ = some (.map (some mb)) ∧ w'.ownsMap Try.prog 38 (plainElem Try.prog 38) mb n D) (ds := []) #[false, false, false, false, false, false, false, false, false, false, false, false, false, false, false, false, false, false] (by kernel_rfl) rfl rfl AHS.out (fun hHeld => ?_)
 refine with_tab pair_tab (fun HT_ => ?_)
 refine pure_ (i := 0) (N := some 14) (v := ?_) (a' := ?_) #[true, false, false, false, false, false, false, false, false, false, false, false, false, false, false, false, false, false] rfl rfl (any_of HT_.out (by kernel_rfl)) (fun _ _ _ h => h) (Or.inl ⟨by rfl, ?_⟩) ?_ ?_
 rotate_left
 ·intro w'
  go_simp
  with_reducible rfl
 rotate_left
 ·simp only [ap_]
  rfl
 refine pure_ (i := 1) (N := some 15) (v := ?_) (a' := ?_) #[true, true, false, false, false, false, false, false, false, false, false, false, false, false, false, false, false, false] rfl rfl (any_of HT_.out (by kernel_rfl)) (fun _ _ _ h => h) (Or.inl ⟨by rfl, ?_⟩) ?_ ?_
 rotate_left
 ·intro w'
  go_simp
  with_reducible rfl
 rotate_left
 ·simp only [ap_]
  rfl
 refine pure_ (i := 2) (N := some 16) (v := ?_) (a' := ?_) #[true, true, true, false, false, false, false, false, false, false, false, false, false, false, false, false, false, false] rfl rfl (any_of HT_.out (by kernel_rfl)) (fun _ _ _ h => h) (Or.inl ⟨by rfl, ?_⟩) ?_ ?_
 rotate_left
 ·intro w'
  go_simp
  with_reducible rfl
 rotate_left
 ·simp only [ap_]
  rfl
 refine take_ (i := 3) (N := some 17) (v := ?_) (a' := ?_) #[true, true, true, true, false, false, false, false, false, false, false, false, false, false, false, false, false, false] rfl rfl (take_of HT_.out (by kernel_rfl)) (fun _ _ _ h => h) (Or.inl ⟨by rfl, ?_⟩) hHeld ?_ ?_
 rotate_left
 ·rintro w' ⟨s0, s1⟩
  go_simp
  with_reducible rfl
 rotate_left
 ·simp only [ap_]
  rfl
 refine pure_ (i := 4) (N := some 18) (v := ?_) (a' := ?_) #[true, true, true, true, true, false, false, false, false, false, false, false, false, false, false, false, false, false] rfl rfl (any_of HT_.out (by kernel_rfl)) (fun _ _ _ h => h) (Or.inl ⟨by rfl, ?_⟩) ?_ ?_
 rotate_left
 ·intro w'
  go_simp
  with_reducible rfl
 rotate_left
 ·simp only [ap_]
  rfl
 refine pure_ (i := 5) (N := some 19) (v := ?_) (a' := ?_) #[true, true, true, true, true, true, false, false, false, false, false, false, false, false, false, false, false, false] rfl rfl (any_of HT_.out (by kernel_rfl)) (fun _ _ _ h => h) (Or.inl ⟨by rfl, ?_⟩) ?_ ?_
 rotate_left
 ·intro w'
  go_simp
  with_reducible rfl
 rotate_left
 ·simp only [ap_]
  rfl
 refine take_ (i := 6) (N := some 20) (v := .int .u64 (rd D (a / 8))) (a' := ?_) #[true, true, true, true, true, true, true, false, false, false, false, false, false, false, false, false, false, false] rfl rfl (take_of HT_.out (by kernel_rfl)) (fun _ _ _ h => h) (Or.inl ⟨by rfl, ?_⟩) hHeld ?_ ?_
 ·rintro w' ⟨s0, s1⟩
  obtain ⟨c, hrun, hat, _⟩ := s1.lookup_int law22 Try.underlying113 Try.underlying38 (zero22 _) (keyOf_int_mk Try.underlying38 (wf_div ha))
  rw [rd_of hat] at hrun
  go_simp
  first | done | (rw [hrun])
 rotate_left
 ·simp only [ap_]
  rfl
 refine pure_ (i := 7) (N := some 21) (v := ?_) (a' := ?_) #[true, true, true, true, true, true, true, true, false, false, false, false, false, false, false, false, false, false] rfl rfl (any_of HT_.out (by kernel_rfl)) (fun _ _ _ h => h) (Or.inl ⟨by rfl, ?_⟩) ?_ ?_
 rotate_left
 ·intro w'
  go_simp
  with_reducible rfl
 rotate_left
 ·simp only [ap_]
  rfl
 refine pure_ (i := 8) (N := some 22) (v := ?_) (a' := ?_) #[true, true, true, true, true, true, true, true, true, false, false, false, false, false, false, false, false, false] rfl rfl (any_of HT_.out (by kernel_rfl)) (fun _ _ _ h => h) (Or.inl ⟨by rfl, ?_⟩) ?_ ?_
 rotate_left
 ·intro w'
  go_simp
  with_reducible rfl
 rotate_left
 ·simp only [ap_]
  rfl
 refine pure_ (i := 9) (N := some 23) (v := ?_) (a' := ?_) #[true, true, true, true, true, true, true, true, true, true, false, false, false, false, false, false, false, false] rfl rfl (any_of HT_.out (by kernel_rfl)) (fun _ _ _ h => h) (Or.inl ⟨by rfl, ?_⟩) ?_ ?_
 rotate_left
 ·intro w'
  go_simp
  with_reducible rfl
 rotate_left
 ·simp only [ap_]
  rfl
 refine take_ (i := 10) (N := some 24) (v := ?_) (a' := ?_) #[true, true, true, true, true, true, true, true, true, true, true, false, false, false, false, false, false, false] rfl rfl (take_of HT_.out (by kernel_rfl)) (fun _ _ _ h => h) (Or.inl ⟨by rfl, ?_⟩) hHeld ?_ ?_
 rotate_left
 ·rintro w' ⟨s0, s1⟩
  go_simp
  with_reducible rfl
 rotate_left
 ·simp only [ap_]
  rfl
 refine pure_ (i := 11) (N := some 25) (v := ?_) (a' := ?_) #[true, true, true, true, true, true, true, true, true, true, true, true, false, false, false, false, false, false] rfl rfl (any_of HT_.out (by kernel_rfl)) (fun _ _ _ h => h) (Or.inl ⟨by rfl, ?_⟩) ?_ ?_
 rotate_left
 ·intro w'
  go_simp
  with_reducible rfl
 rotate_left
 ·simp only [ap_]
  rfl
 refine pure_ (i := 12) (N := some 26) (v := ?_) (a' := ?_) #[true, true, true, true, true, true, true, true, true, true, true, true, true, false, false, false, false, false] rfl rfl (any_of HT_.out (by kernel_rfl)) (fun _ _ _ h => h) (Or.inl ⟨by rfl, ?_⟩) ?_ ?_
 rotate_left
 ·intro w'
  go_simp
  with_reducible rfl
 rotate_left
 ·simp only [ap_]
  rfl
 refine pure_ (i := 13) (N := some 27) (v := ?_) (a' := ?_) #[true, true, true, true, true, true, true, true, true, true, true, true, true, true, false, false, false, false] rfl rfl (any_of HT_.out (by kernel_rfl)) (fun _ _ _ h => h) (Or.inl ⟨by rfl, ?_⟩) ?_ ?_
 rotate_left
 ·intro w'
  go_simp
  with_reducible rfl
 rotate_left
 ·simp only [ap_]
  rfl
 refine take_ (i := 14) (N := some 28) (v := .int .u64 (rd D (a / 8 + 1))) (a' := ?_) #[true, true, true, true, true, true, true, true, true, true, true, true, true, true, true, false, false, false] rfl rfl (take_of HT_.out (by kernel_rfl)) (fun _ _ _ h => h) (Or.inl ⟨by rfl, ?_⟩) hHeld ?_ ?_
 ·rintro w' ⟨s0, s1⟩
  obtain ⟨c, hrun, hat, _⟩ := s1.lookup_int law22 Try.underlying113 Try.underlying38 (zero22 _) (keyOf_int_mk Try.underlying38 (wf_div1 ha))
  rw [rd_of hat] at hrun
  go_simp
  first | done | (rw [hrun])
 rotate_left
 ·simp only [ap_]
  rfl
 refine pure_ (i := 15) (N := some 4) (v := ?_) (a' := ?_) #[true, true, true, true, true, true, true, true, true, true, true, true, true, true, true, true, false, false] rfl rfl (any_of HT_.out (by kernel_rfl)) (fun _ _ _ h => h) (Or.inl ⟨by rfl, ?_⟩) ?_ ?_
 rotate_left
 ·intro w'
  go_simp
  with_reducible rfl
 rotate_left
 ·simp only [ap_]
  rfl
 refine pure_ (i := 16) (N := some 5) (v := ?_) (a' := ?_) #[true, true, true, true, true, true, true, true, true, true, true, true, true, true, true, true, true, false] rfl rfl (any_of HT_.out (by kernel_rfl)) (fun _ _ _ h => h) (Or.inl ⟨by rfl, ?_⟩) ?_ ?_
 rotate_left
 ·intro w'
  go_simp
  with_reducible rfl
 rotate_left
 ·simp only [ap_]
  rfl
 refine pure_ (i := 17) (N := some 6) (v := ?_) (a' := ?_) #[true, true, true, true, true, true, true, true, true, true, true, true, true, true, true, true, true, true] rfl rfl (any_of HT_.out (by kernel_rfl)) (fun _ _ _ h => h) (Or.inl ⟨by rfl, ?_⟩) ?_ ?_
 rotate_left
 ·intro w'
  go_simp
  with_reducible rfl
 rotate_left
 ·simp only [ap_]
  rfl
 refine done_ (done_of HT_.out (by kernel_rfl)) ?_
 go_wp2
 go_ret3
 exact ⟨rfl, rfl⟩
theorem new_mem {B w0 W} (hb : Below B w0 W) (hB : B ≤ W.heap.size) (sz : Int) (hs : (Lit.int .u64 sz).wf = true) : Mem B w0 (W.heap.size + 1) W.heap.size sz 0 (.map []) ((W.alloc (Obj.map #[] 0)).alloc (Obj.cells #[.int .u64 sz, .map (some W.heap.size)] 115)) := by
 have e1 : (W.alloc (Obj.map #[] 0)).heap.size = W.heap.size + 1 := by simp
 have h1 := MapKept.heap_alloc (W.alloc (Obj.map #[] 0)) (Obj.cells #[.int .u64 sz, .map (some W.heap.size)] 115)
 have e2 : ((W.alloc (Obj.map #[] 0)).alloc (Obj.cells #[.int .u64 sz, .map (some W.heap.size)] 115)).heap.size = W.heap.size + 2 := by simp
 exact ⟨(hb.alloc hB _).alloc (by omega) _, by omega, hB, by omega, by rw [← e1]; exact h1.1, (World.ownsMap_made W _ _ _).alloc _, hs⟩
theorem new_calls {B w0 W} (hb : Below B w0 W) (hB : B ≤ W.heap.size) (sz : Int) (hs : (Lit.int .u64 sz).wf = true) (hm : sz ≤ 2199023255552) :
  Calls Try.prog 36 #[.int .u64 sz] W fun e W' => ∃ p mb, e = .returned (.pointer (some ⟨p, 0, none⟩)) ∧ Mem B w0 p mb sz 0 (.map []) W' ∧ W.grownBy W' none ∧ W.heap.size ≤ mb ∧ W.heap.size ≤ p := by
 have HB := Aside0.mk hb
 have HS := Aside0.mk hs
 clear hb hs
 have hmm := @run_makeMap Try.prog
 go_enter Try.func36, Try.ntmps36
 go_wp2
 go_ret
 exact ⟨W.heap.size + 1, W.heap.size, rfl, new_mem HB.out hB sz HS.out, grown_two (World.grownBy_alloc W _ none) (World.grownBy_alloc _ _ none), Nat.le_refl _, Nat.le_succ _⟩
end
end Go.Proofs.Ytjnffegjpkbjmaa.Mem
-- halved
