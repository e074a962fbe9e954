/- The document's entry of a place, at an address. -/
import Derived.Deep.Onto
import Derived.Test.YtjnffegjpkbjmaaTpR
/- merged: YtjnffegjpkbjmaaTsLk -/
namespace Go.Proofs.Ytjnffegjpkbjmaa.Mem
open Go.RowKit Go.Maps Go.Shelf Go.Proofs.YtjnffegjpkbjmaaW.PrintWords Go.Proofs.YtjnffegjpkbjmaaW.PrintLast Go.Proofs.YtjnffegjpkbjmaaW.PrintMore Go.Proofs.Ytjnffegjpkbjmaa.QTsbPlays Go.Proofs.Ytjnffegjpkbjmaa.Pure
attribute [local go_sem] Oper.semAt_some
set_option linter.unusedSimpArgs false
set_option linter.unusedVariables false
section
set_option maxHeartbeats 2000000
set_option maxRecDepth 100000
/-- How many of these places are locked. -/
def lockX (ws : Nat → Wd) (is : List Nat) : Nat := (is.filter (fun i => (ws i).1 == BADW)).length
theorem lockX_snoc (ws : Nat → Wd) (is : List Nat) (i : Nat) : lockX ws (is ++ [i]) = lockX ws is + (if (ws i).1 = BADW then 1 else 0) := by
 unfold lockX
 rw [List.filter_append, List.length_append]
 congr 1
 by_cases h : (ws i).1 = BADW <;> simp [h]
theorem lockX_le (ws : Nat → Wd) (is : List Nat) : lockX ws is ≤ is.length := List.length_filter_le _ _
/-- What stands between two rounds of Locked. -/
structure LK (B : Nat) (w0 W0 : World) (p mb pt s1 s3 : Nat) (sz : Int) (n : Nat) (D : DataW Unit) (base N s : Nat) (grade : Int) (c : Nat) (W : World) : Prop where
 mem : Mem B w0 p mb sz n D W
 row : W.heap[pt]? = some (.cells (TCs p base N s grade) 95 (0, 0))
 box : W.heap[s1]? = some (.cells #[.pointer (some ⟨pt, 0, none⟩)] 36 (0, 0))
 out : W.heap[s3]? = some (.cells #[.int .i64 (c : Int)] 3 (0, 0))
 gr : W0.grownBy W none
theorem LK.kept {B w0 W0 p mb pt s1 s3 sz n D base N s grade c W W' row} (h : LK B w0 W0 p mb pt s1 s3 sz n D base N s grade c W) (hg : W.grownBy W' row) (hr : ∀ j, row = some j → mb < j ∧ p < j ∧ pt < j ∧ s1 < j ∧ s3 < j ∧ W0.heap.size ≤ j ∧ B ≤ j) : LK B w0 W0 p mb pt s1 s3 sz n D base N s grade c W' := by
 refine ⟨h.mem.kept hg (fun e => by have := (hr _ e.symm).1; omega) (fun e => by have := (hr _ e.symm).2.1; omega) (fun k e => (hr k e).2.2.2.2.2.2), (hg.block pt (blk_lt h.row) (fun e => by have := (hr _ e.symm).2.2.1; omega)).trans h.row, (hg.block s1 (blk_lt h.box) (fun e => by have := (hr _ e.symm).2.2.2.1; omega)).trans h.box, (hg.block s3 (blk_lt h.out) (fun e => by have := (hr _ e.symm).2.2.2.2.1; omega)).trans h.out, ?_⟩
 cases row with
 | none => exact grown_two h.gr hg
 | some j => exact grown_loc h.gr hg (hr j rfl).2.2.2.2.2.1
theorem LK.same {B w0 W0 p mb pt s1 s3 sz n D base N s grade c W W'} (h : LK B w0 W0 p mb pt s1 s3 sz n D base N s grade c W) (hg : W.grownBy W' none) : LK B w0 W0 p mb pt s1 s3 sz n D base N s grade c W' := h.kept hg (fun j e => by cases e)
/-- The count's box is written. -/
theorem LK.put {B w0 W0 p mb pt s1 s3 sz n D base N s grade c W} (h : LK B w0 W0 p mb pt s1 s3 sz n D base N s grade c W) (c' : Nat) (hB : B ≤ s3) (hW : W0.heap.size ≤ s3) : LK B w0 W0 p mb pt s1 s3 sz n D base N s grade c' (W.setCell ⟨s3, 0, none⟩ (.int .i64 (c' : Int))) ∧ W.grownBy (W.setCell ⟨s3, 0, none⟩ (.int .i64 (c' : Int))) (some s3) := by
 have hg := grown_cellq W ⟨s3, 0, none⟩ (.int .i64 (c' : Int))
 have hk : ∀ k, some s3 = some k → ∃ cs, W.heap[k]? = some (.cells cs 3 (0, 0)) := fun k e => by cases e; exact ⟨_, h.out⟩
 exact ⟨⟨h.mem.keptR hg hk (by decide) (fun k e => by obtain rfl : s3 = k := Option.some.inj e; exact hB), blk_keptR h.row hg hk (by decide), blk_keptR h.box hg hk (by decide), blk_put h.out 0 _ rfl, below_grownW h.gr hg (fun k e => by obtain rfl : s3 = k := Option.some.inj e; exact hW)⟩, hg⟩
theorem locked_calls {B : Nat} {w0 W : World} {p mb : Nat} {sz : Int} {n : Nat} {D : DataW Unit} {pt base N s : Nat} {grade : Int} {ws : Nat → Wd} (b : TB base N s sz) (h : Mem B w0 p mb sz n D W) (hD : Holds D base N s ws) (kt : W.heap[pt]? = some (.cells (TCs p base N s grade) 95 (0, 0))) :
  Calls Try.prog 42 #[.pointer (some ⟨pt, 0, none⟩)] W fun e W' => e = .returned (.int .i64 (lockX ws (List.range N) : Int)) ∧ W.grownBy W' none := by
 have HT := Aside0.mk kt
 have HBT := Aside0.mk b
 have HD := Aside0.mk hD
 have HK := Aside0.mk (show mb < W.heap.size ∧ p < W.heap.size ∧ pt < W.heap.size ∧ B ≤ W.heap.size ∧ pt ≠ mb from ⟨h.own.lt, h.lt, blk_lt kt, h.hB, h.nb _ _ _ kt⟩)
 have hN := b.hN
 have hsz := b.hsz
 have hz := b.hz
 have hA := grown_two (World.grownBy_alloc W (.cells #[.pointer (some ⟨pt, 0, none⟩)] 36) none) (World.grownBy_alloc (W.alloc (.cells #[.pointer (some ⟨pt, 0, none⟩)] 36)) (.cells #[.int .i64 0] 3) none)
 have HB1 := Aside0.mk (blk_grown (heap_alloc_new W (.cells #[.pointer (some ⟨pt, 0, none⟩)] 36)) (World.grownBy_alloc (W.alloc (.cells #[.pointer (some ⟨pt, 0, none⟩)] 36)) (.cells #[.int .i64 0] 3) none))
 have HB3 := Aside0.mk (heap_alloc_new (W.alloc (.cells #[.pointer (some ⟨pt, 0, none⟩)] 36)) (.cells #[.int .i64 0] 3))
 rw [World.size_alloc] at HB3
 have HM0 := Aside0.mk (h.same hA)
 have HTA := Aside0.mk (blk_grown kt hA)
 have HAA := Aside0.mk hA
 clear h kt b hD hA
 refine (callsIn_wide (n := 4)).1 ?_
 refine callsIn_of_wp_marks Try.func42 rfl trivial ?_ rfl
 simp only [Try.ntmps42, List.size_toArray, List.length_cons, List.length_nil, Nat.reduceAdd, Nat.reduceSub, Array.replicate_succ, Array.replicate_zero, List.push_toArray, List.append_toArray, List.nil_append, List.cons_append]
 have q0 := cz1 HB1.out
 gi_wp2_with (refine ⟨trivial, ?_⟩; gi_at_call 71; refine (callsIn_wide.2 (each_calls2 _ _ ⟨_, rfl⟩)).mono ?_; rintro e w5 ⟨b1, rfl, hx1, hx2, hg⟩; have HL5 := Aside0.mk (show LK B w0 W p mb pt W.heap.size (W.heap.size + 1) sz n D base N s grade 0 w5 from ⟨HM0.out.same hg, blk_grown HTA.out hg, blk_grown HB1.out hg, blk_grown HB3.out hg, grown_two HAA.out hg⟩); have HX := Aside0.mk (And.intro hx1 hx2); clear hx1 hx2 hg q0)
 obtain ⟨s1, hs1⟩ : ∃ z, z = W.heap.size := ⟨_, rfl⟩
 obtain ⟨s3, hs3⟩ : ∃ z, z = W.heap.size + 1 := ⟨_, rfl⟩
 have HSS := Aside0.mk (And.intro hs1 hs3)
 rw [← hs3, ← hs1] at HL5
 rw [← hs3, ← hs1]
 clear HB1 HB3 HM0 HTA HAA
 have HW5 := Aside0.mk (show s1 < w5.heap.size ∧ s3 < w5.heap.size ∧ b1 < w5.heap.size ∧ W.heap.size ≤ w5.heap.size ∧ b1 ≠ s3 ∧ pt ≠ s3 from by
  have := HX.out.2
  rw [World.size_alloc, World.size_alloc] at this
  have := HK.out
  exact ⟨blk_lt HL5.out.box, blk_lt HL5.out.out, blk_lt HX.out.1, HL5.out.gr.size, by omega, by omega⟩)
 clear hs1 hs3
 refine wpIn_rangeFunc_ownG rfl (by omega) (gf := 105) (lb := #[.pointer (some ⟨b1, 0, none⟩)]) rfl trivial (enters_of Try.func105 (by kernel_rfl) rfl)
  (each_stopsX (n0 := w5.heap.size) (X := fun k => k = s3) (p := p) (size := s) (grade := grade) (base := (base : Int)) (by omega) (by omega) (by omega) (blk_lt HL5.out.row) HW5.out.2.2.1 HW5.out.2.2.2.2.2 HW5.out.2.2.2.2.1 (Nat.le_refl _) HL5.out.row HX.out.1) KeptX.t (KeptX.b (Nat.le_refl _)) (Below.refl _ _) (fun _ => rfl)
  (fun (pre : List (Pl N)) W2 => LK B w0 W p mb pt s1 s3 sz n D base N s grade (lockX ws (pre.map (fun x : Pl N => x.1))) W2)
  (fun _ _ _ => False)
  (fun x A C row hs hg hr => hs.kept hg (fun j e => by have h1 := (hr j e).1; have h2 := HK.out; have h3 := HW5.out; have h6 := HSS.out; exact ⟨by omega, by omega, by omega, by omega, by omega, by omega, by omega⟩))
  (fun _ _ _ _ _ hs _ _ => hs)
  (by simpa [lockX] using HL5.out)
  (fun x => { tmps := #[.pointer (some ⟨pt, 0, none⟩), .pointer (some ⟨s1, 0, none⟩), .int .i64 0, .pointer (some ⟨s3, 0, none⟩), .int .u64 ((base : Int) + 16 * (x.1 : Nat)), undef, undef, .pointer (some ⟨pt, 0, none⟩), .func (.func 105) #[] #[.pointer (some ⟨b1, 0, none⟩)], .int .u64 ((base : Int) + 16 * (x.1 : Nat)), undef, undef, undef, undef, undef, undef, undef, undef, undef, undef, undef, undef, undef, undef, undef], defers := [] }) ?assign ?body ?done ?stop
 case assign =>
  intro l x W2 K hK
  gi_wp2
  exact hK
 case body =>
  rintro l pre ⟨i, hi⟩ W2 hC hlen
  have HC2 := Aside0.mk hC
  clear hC
  have hat : ((base : Int) + 16 * (i : Nat)) = ((base + 16 * i : Nat) : Int) := by omega
  obtain ⟨a1, a2, a3, a4, a5, a6⟩ := HBT.out.at8 hi
  have hword := word_ok HC2.out.mem ((base + 16 * i : Nat) : Int) a1 a3
  rw [HD.out.tag i hi, ← hat] at hword
  have HWD := Aside0.mk hword
  clear hat hword a1 a2 a3 a4 a5 a6
  have q0 := cz1 HC2.out.box
  have HSN := Aside0.mk (lockX_snoc ws (pre.map (fun x : Pl N => x.1)) i)
  have HLE := Aside0.mk (lockX_le ws (pre.map (fun x : Pl N => x.1)))
  rw [List.length_map] at HLE
  obtain ⟨c, hc⟩ : ∃ c, c = lockX ws (pre.map (fun x : Pl N => x.1)) := ⟨_, rfl⟩
  rw [← hc] at HC2 HSN HLE
  clear hc
  have hw3 : IntKind.i64.wrap ((c : Int) + 1) = ((c + 1 : Nat) : Int) := IntWalk.i64_in _ (by have := HLE.out; omega)
  have hL : ∀ W3, LK B w0 W p mb pt s1 s3 sz n D base N s grade (c + (if (ws i).1 = BADW then 1 else 0)) W3 → LK B w0 W p mb pt s1 s3 sz n D base N s grade (lockX ws ((pre ++ [(⟨i, hi⟩ : Pl N)]).map (fun x : Pl N => x.1))) W3 := by
   intro W3 h
   rw [List.map_append]
   rw [← HSN.out] at h
   exact h
  have HLL := Aside0.mk hL
  clear hL
  obtain ⟨y0, y1, y2, y3, y4⟩ := cz5 HC2.out.row
  gi_wp2_with fail
  refine ⟨trivial, ?_⟩
  refine (CallsIn.inRound l (callsIn_wide.2 HWD.out)).mono ?_
  rintro e w6 ⟨rfl, he⟩
  subst he
  clear q0 y0 y1 y2 y3 y4
  by_cases hw : (ws i).1 = BADW
  ·have hwb : (((ws i).1 : Int) == 9223372036854775807) = true := by rw [hw]; rfl
   gi_wp2_with (refine ⟨trivial, ?_⟩; gi_at_call 64; refine (CallsIn.inRound l (callsIn_wide.2 (bad_calls _))).mono ?_; rintro e w7 ⟨rfl, hg⟩; have HC3 := Aside0.mk (HC2.out.same hg); have HG7 := Aside0.mk hg; clear hg; have q3 := cz1 HC3.out.out; have qf := blk_frozen HC3.out.out 0)
   obtain ⟨hput, hgp⟩ := HC3.out.put (c + 1) (by have := HK.out; have := HSS.out; omega) (by have := HSS.out; omega)
   refine ⟨(KeepsFrom.of_grownBy HG7.out (fun j e => by cases e)).trans (KeepsFrom.of_grownBy hgp (fun j e => by obtain rfl : s3 = j := Option.some.inj e; exact HW5.out.2.1)), (KeptX.g HG7.out (fun k e => by cases e)).t (KeptX.g hgp (fun k e => by obtain rfl : s3 = k := Option.some.inj e; exact .inl rfl)), HLL.out _ ?_⟩
   rw [if_pos hw]
   exact hput
  ·have hwb : (((ws i).1 : Int) == 9223372036854775807) = false := beq_eq_false_iff_ne.2 (fun e => hw (by unfold BADW; omega))
   gi_wp2_with (refine ⟨trivial, ?_⟩; gi_at_call 64; refine (CallsIn.inRound l (callsIn_wide.2 (bad_calls _))).mono ?_; rintro e w7 ⟨rfl, hg⟩; have HC3 := Aside0.mk (HC2.out.same hg); have HG7 := Aside0.mk hg; clear hg; have q3 := cz1 HC3.out.out; have qf := blk_frozen HC3.out.out 0)
   refine ⟨KeepsFrom.of_grownBy HG7.out (fun j e => by cases e), KeptX.g HG7.out (fun k e => by cases e), HLL.out _ ?_⟩
   rw [if_neg hw]
   exact HC3.out
 case done =>
  rintro E ys W2 hE hS hC hK
  have hlw : lockX ws (ys.map (fun x : Pl N => x.1)) = lockX ws (List.range N) := by rw [show ys.map (fun x : Pl N => x.1) = List.range N from hS]
  have hC2 : LK B w0 W p mb pt s1 s3 sz n D base N s grade (lockX ws (ys.map (fun x : Pl N => x.1))) W2 := hC
  rw [hlw] at hC2
  have HC2 := Aside0.mk hC2
  clear hC hC2
  have q3 := cz1 HC2.out.out
  gi_wp2
  refine ⟨by simp, .inl ⟨_, _, rfl, run_takeDeferred hK, ?_⟩⟩
  have hgp := grownBy_putObj' W2 E (.deferred none)
  exact ⟨_, by simp [results, Try.f42, go_sem], rfl, below_grownW HC2.out.gr hgp (fun j e => by obtain rfl : E = j := Option.some.inj e; have := HW5.out; omega)⟩
 case stop =>
  rintro E c pre W2 hD _ h _
  exact h.elim
end
end Go.Proofs.Ytjnffegjpkbjmaa.Mem
/- merged: YtjnffegjpkbjmaaTsQ -/
namespace Go.Proofs.Ytjnffegjpkbjmaa.Mem
open Go.RowKit Go.Maps Go.Proofs.YtjnffegjpkbjmaaW.PrintWords Go.Proofs.YtjnffegjpkbjmaaW.PrintLast Go.Proofs.YtjnffegjpkbjmaaW.PrintMore Go.Proofs.Ytjnffegjpkbjmaa.QTsbPlays Go.Proofs.Ytjnffegjpkbjmaa.Pure
set_option linter.unusedSimpArgs false
set_option linter.unusedVariables false
section
set_option maxHeartbeats 1000000
set_option maxRecDepth 100000
def setO (os : Nat → Option GE) (i : Nat) (o : Option GE) : Nat → Option GE := fun j => if j = i then o else os j
theorem setO_at (os : Nat → Option GE) (i : Nat) (o : Option GE) : setO os i o i = o := if_pos rfl
theorem setO_ne {os : Nat → Option GE} {i j : Nat} {o : Option GE} (h : j ≠ i) : setO os i o j = os j := if_neg h
def wOf : Option GE → Wd
 | some g => (g.tag, g.data)
 | none => (BADW, 0)
def WO (os : Nat → Option GE) : Nat → Wd := fun i => wOf (os i)
/-- Each place's entry is that place's. -/
def OKO (N s : Nat) (os : Nat → Option GE) : Prop := ∀ i, i < N → ∀ g, os i = some g → g.ok ∧ g.s = s ∧ plcOf N (s : Int) g.v = i
theorem OKO.is {N s : Nat} {os : Nat → Option GE} (h : OKO N s os) {i : Nat} (hi : i < N) : Is N s i (WO os i) (os i) := by
 cases ho : os i with
 | none => exact .lock (by unfold WO; rw [ho]; rfl)
 | some g =>
  obtain ⟨h1, h2, h3⟩ := h i hi g ho
  exact .ent g h1 h2 h3 (by unfold WO; rw [ho]; rfl)
theorem OKO.set {N s : Nat} {os : Nat → Option GE} (h : OKO N s os) {i : Nat} {o : Option GE} (ho : ∀ g, o = some g → g.ok ∧ g.s = s ∧ plcOf N (s : Int) g.v = i) : OKO N s (setO os i o) := by
 intro j hj g hg
 by_cases e : j = i
 ·subst e; rw [setO_at] at hg; exact ho g hg
 ·rw [setO_ne e] at hg; exact h j hj g hg
/-- A TSB that has a memory's map for itself. -/
structure TQ (B : Nat) (w0 : World) (p mb pt : Nat) (sz : Int) (base N s : Nat) (grade : Int) (n : Nat) (os : Nat → Option GE) (W : World) : Prop where
 mem : ∃ D, Mem B w0 p mb sz n D W ∧ Holds D base N s (WO os)
 row : W.heap[pt]? = some (.cells (TCs p base N s grade) 95 (0, 0))
 ok : OKO N s os
section
variable {B : Nat} {w0 W W' : World} {p mb pt : Nat} {sz : Int} {base N s n : Nat} {grade : Int} {os : Nat → Option GE}
theorem TQ.same (h : TQ B w0 p mb pt sz base N s grade n os W) (hg : W.grownBy W' none) : TQ B w0 p mb pt sz base N s grade n os W' := by
 obtain ⟨D, hM, hD⟩ := h.mem
 exact ⟨⟨D, hM.same hg, hD⟩, blk_grown h.row hg, h.ok⟩
theorem TQ.nb (h : TQ B w0 p mb pt sz base N s grade n os W) (b : Nat) (cs : Array Value) (t : TypeId) (hb : W.heap[b]? = some (.cells cs t (0, 0))) : b ≠ mb := by
 obtain ⟨D, hM, hD⟩ := h.mem
 exact hM.nb b cs t hb
/-- Another block is written: one that is neither the memory's nor the TSB's row. -/
theorem TQ.kept {k : Nat} (h : TQ B w0 p mb pt sz base N s grade n os W) (hg : W.grownBy W' (some k)) {cs : Array Value} {t : TypeId} (hk : W.heap[k]? = some (.cells cs t (0, 0))) (h1 : t ≠ 95) (h2 : t ≠ 115) (h3 : B ≤ k) : TQ B w0 p mb pt sz base N s grade n os W' := by
 obtain ⟨D, hM, hD⟩ := h.mem
 have e1 : k ≠ mb := hM.nb k cs t hk
 have e2 : k ≠ p := by rintro rfl; have := hM.row; rw [hk] at this; injection this with this; injection this with _ a; exact h2 a
 have e3 : k ≠ pt := by rintro rfl; have := h.row; rw [hk] at this; injection this with this; injection this with _ a; exact h1 a
 exact ⟨⟨D, hM.kept hg (fun e => e1 (Option.some.inj e).symm) (fun e => e2 (Option.some.inj e).symm) (fun j e => by cases e; exact h3), hD⟩, (hg.block pt (blk_lt h.row) (fun e => e3 (Option.some.inj e).symm)).trans h.row, h.ok⟩
/-- A list's row is written, or a new one is made. -/
theorem TQ.keptR {o : Option Nat} (h : TQ B w0 p mb pt sz base N s grade n os W) (hg : W.grownBy W' o) {t : TypeId} (hk : ∀ k, o = some k → ∃ cs, W.heap[k]? = some (.cells cs t (0, 0))) (h1 : t ≠ 95) (h2 : t ≠ 115) (h3 : ∀ k, o = some k → B ≤ k) : TQ B w0 p mb pt sz base N s grade n os W' := by
 cases o with
 | none => exact h.same hg
 | some k =>
  obtain ⟨cs, hc⟩ := hk k rfl
  exact h.kept hg hc h1 h2 (h3 k rfl)
theorem TQ.lt (h : TQ B w0 p mb pt sz base N s grade n os W) : p < W.heap.size ∧ mb < W.heap.size ∧ pt < W.heap.size := by
 obtain ⟨D, hM, hD⟩ := h.mem
 exact ⟨hM.lt, hM.own.lt, blk_lt h.row⟩
theorem TQ.mono {n' : Nat} (h : TQ B w0 p mb pt sz base N s grade n os W) (hn : n ≤ n') : TQ B w0 p mb pt sz base N s grade n' os W := by
 obtain ⟨D, hM, hD⟩ := h.mem
 exact ⟨⟨D, hM.more hn, hD⟩, h.row, h.ok⟩
theorem TQ.now {n' : Nat} {os' : Nat → Option GE} {D : DataW Unit} (h : TQ B w0 p mb pt sz base N s grade n os W) (hn : Now B w0 p mb sz base N s D n' (WO os') W') (hg : W.grownBy W' (some mb)) (hok : OKO N s os') : TQ B w0 p mb pt sz base N s grade n' os' W' := by
 obtain ⟨D', hM, hD, _⟩ := hn
 exact ⟨⟨D', hM, hD⟩, (hg.block pt (blk_lt h.row) (fun e => h.nb _ _ _ h.row (Option.some.inj e))).trans h.row, hok⟩
end
/-- An entry as the lists have it. -/
abbrev geS (g : GE) : Ent := ⟨g.s, g.c, g.v, g.p, ⟨g.w, g.pr, g.x, g.l, g.g, g.q⟩, true⟩
end
end Go.Proofs.Ytjnffegjpkbjmaa.Mem
/- merged: YtjnffegjpkbjmaaTsDc -/
namespace Go.Proofs.Ytjnffegjpkbjmaa.Mem
open Go.RowKit Go.Maps Go.Shelf Go.Proofs.YtjnffegjpkbjmaaW.PrintWords Go.Proofs.YtjnffegjpkbjmaaW.PrintLast Go.Proofs.YtjnffegjpkbjmaaW.PrintMore Go.Proofs.Ytjnffegjpkbjmaa.QTsbPlays Go.Proofs.Ytjnffegjpkbjmaa.Pure
attribute [local go_sem] Oper.semAt_some
set_option linter.unusedSimpArgs false
set_option linter.unusedVariables false
section
set_option maxHeartbeats 2000000
set_option maxRecDepth 100000
/-- A place is dropped. -/
theorem Holds.drop {D base N s ws} (h : Holds D base N s ws) (hb : base % 16 = 0) {i : Nat} (hi : i < N) : Holds (st (st D (((base + 16 * i : Nat) : Int) / 8) 9223372036854775807) (((base + 16 * i : Nat) : Int) / 8 + 1) 0) base N s (setW ws i (BADW, 0)) := by
 have h1 := (h.setTag hb hi (t := BADW) (by decide)).setData hb hi (d := 0) (by decide) (.inl rfl)
 rw [setW_two, setW_at] at h1
 exact h1
theorem drop_sts {D : DataW Unit} {base N s : Nat} {sz : Int} (b : TB base N s sz) {i : Nat} (hi : i < N) : Sts (base / 8) ((base : Int) / 8 + 2 * N) D (st (st D (((base + 16 * i : Nat) : Int) / 8) 9223372036854775807) (((base + 16 * i : Nat) : Int) / 8 + 1) 0) := by
 have := b.hb
 exact (Sts.refl.st _ _ (by omega) (by decide)).st _ _ (by omega) (by decide)
theorem q_dropAt {B : Nat} {w0 W : World} {p mb : Nat} {sz : Int} {n : Nat} {D : DataW Unit} {pt base N s : Nat} {grade : Int} {ws : Nat → Wd} (b : TB base N s sz) (h : Mem B w0 p mb sz n D W) (hD : Holds D base N s ws) (kt : W.heap[pt]? = some (.cells (TCs p base N s grade) 95 (0, 0))) (i : Nat) (hi : i < N) (hn : n < 999999) :
  Calls Try.prog 78 #[.pointer (some ⟨pt, 0, none⟩), .int .u64 ((base + 16 * i : Nat) : Int)] W fun e W' => e = .returned (.tuple #[]) ∧ Now B w0 p mb sz base N s D (n + 2) (setW ws i (BADW, 0)) W' ∧ W.grownBy W' (some mb) := by
 obtain ⟨a1, a2, a3, a4, a5, a6⟩ := b.at8 hi
 refine (drop_calls h kt _ a1 hn a5).mono ?_
 rintro e W' ⟨rfl, hM, hg⟩
 exact ⟨rfl, ⟨_, hM, hD.drop b.hb hi, drop_sts b hi⟩, hg⟩
theorem q_drop {B : Nat} {w0 W : World} {p mb : Nat} {sz : Int} {n : Nat} {D : DataW Unit} {pt base N s : Nat} {grade : Int} {ws : Nat → Wd} (b : TB base N s sz) (h : Mem B w0 p mb sz n D W) (hD : Holds D base N s ws) (kt : W.heap[pt]? = some (.cells (TCs p base N s grade) 95 (0, 0))) (va : Nat) (hva : va < 18446744073709551616) (ctx : Int) (hn : n < 999999) (hmb : True) :
  Calls Try.prog 43 #[.pointer (some ⟨pt, 0, none⟩), .int .u64 va, .int .i64 ctx] W fun e W' => e = .returned (.bool (findO (readW (ws (plcOf N (s : Int) va)) va) va ctx).isSome) ∧ Now B w0 p mb sz base N s D (n + 2) (if (findO (readW (ws (plcOf N (s : Int) va)) va) va ctx).isSome = true then setW ws (plcOf N (s : Int) va) (BADW, 0) else ws) W' ∧ W.grownBy W' (some mb) := by
 have hu := Try.underlying50
 have HM := Aside0.mk h
 have HB := Aside0.mk b
 have HD := Aside0.mk hD
 have HT := Aside0.mk kt
 have HVL := Aside0.mk hva
 have HG := Aside0.mk (grown_refl W none)
 have hF := q_findW b h hD kt va hva ctx
 generalize findO (readW (ws (plcOf N (s : Int) va)) va) va ctx = F at hF ⊢
 rw [foundV_row] at hF
 have HF := Aside0.mk hF
 clear h b hD kt hva hF
 go_enter Try.func43, Try.ntmps43
 go_wp2_with fail
 refine HF.out.mono ?_
 rintro x0 w1 ⟨rfl, hg⟩
 have hg1 := World.grownBy_alloc w1 (.cells (entA (rowE F)) 50) none
 have hg2 := grown_two hg hg1
 replace HM := Aside0.mk (HM.out.same hg2)
 replace HT := Aside0.mk (blk_grown HT.out hg2)
 replace HG := Aside0.mk (grown_two HG.out hg2)
 clear hg hg1 hg2 HF
 cases hf : F.isSome with
 | true =>
  go_wp2_with fail
  refine (tat_calls HT.out va _ (HB.out.slot va HVL.out)).mono ?_
  rintro x0 w2 ⟨rfl, hg⟩
  replace HM := Aside0.mk (HM.out.same hg)
  replace HT := Aside0.mk (blk_grown HT.out hg)
  replace HG := Aside0.mk (grown_two HG.out hg)
  clear hg
  have hd := q_dropAt HB.out HM.out HD.out HT.out (plcOf N (s : Int) va) (HB.out.in va) (by omega)
  obtain ⟨z, hz⟩ : ∃ z : Nat, z = base + 16 * plcOf N (s : Int) va := ⟨_, rfl⟩
  rw [← hz] at hd
  have HDR := Aside0.mk hd
  rw [← hz]
  clear hz hd
  go_wp2_with fail
  refine HDR.out.mono ?_
  rintro x0 w3 ⟨rfl, hN, hg⟩
  have HN := Aside0.mk hN
  have HG3 := Aside0.mk (grown_two (grown_but HG.out (some mb)) hg)
  clear hN hg
  go_wp2
  go_ret
  exact ⟨rfl, HN.out, HG3.out⟩
 | false =>
  go_wp2
  all_goals
   go_ret
   exact ⟨rfl, ⟨_, HM.out.more (by omega), HD.out, .refl⟩, grown_but HG.out _⟩
end
end Go.Proofs.Ytjnffegjpkbjmaa.Mem
/- merged: YtjnffegjpkbjmaaTsLR -/
namespace Go.Proofs.Ytjnffegjpkbjmaa.Mem
open Go.RowKit Go.Maps Go.Proofs.YtjnffegjpkbjmaaW.PrintWords Go.Proofs.YtjnffegjpkbjmaaW.PrintLast Go.Proofs.YtjnffegjpkbjmaaW.PrintMore Go.Proofs.Ytjnffegjpkbjmaa.QTsbPlays Go.Proofs.Ytjnffegjpkbjmaa.Pure
set_option linter.unusedSimpArgs false
set_option linter.unusedVariables false
section
set_option maxHeartbeats 1000000
set_option maxRecDepth 100000
/-- An entry as the lists have it. -/
abbrev geR (g : GE) : Ent := ⟨g.s, g.c, g.v, g.p, ⟨g.w, g.pr, g.x, g.l, g.g, g.q⟩, true⟩
theorem flat_len : ∀ gs : List GE, (flatG gs).length = gs.length * 11
 | [] => rfl
 | g :: gs => by
  show ((geA g).toList ++ flatG gs).length = _
  rw [List.length_append, flat_len gs]
  simp only [List.length_cons]
  show 11 + _ = _
  omega
theorem flat_seg : ∀ (gs : List GE) (j : Nat) (g : GE), gs[j]? = some g → ((flatG gs).drop (j * 11)).take 11 = (geA g).toList
 | [], j, g, h => by simp at h
 | x :: gs, 0, g, h => by
  obtain rfl : x = g := by simpa using h
  show (((geA x).toList ++ flatG gs).drop (0 * 11)).take 11 = _
  rw [Nat.zero_mul, List.drop_zero]
  exact List.take_left' rfl
 | x :: gs, j + 1, g, h => by
  have h2 : gs[j]? = some g := by simpa using h
  show (((geA x).toList ++ flatG gs).drop ((j + 1) * 11)).take 11 = _
  have e : (j + 1) * 11 = (geA x).toList.length + j * 11 := by show _ = 11 + _; omega
  rw [e, ← List.drop_drop, List.drop_left']
  ·exact flat_seg gs j g h2
  ·rfl
theorem list_R {W : World} {base : Nat} {v : Value} {gs : List GE} (h : W.ownsRow base 50 11 v gs.length (flatG gs)) : Kd.R k50 50 W base (fun _ => True) v (gs.map geR) := by
 refine ⟨fun _ _ => trivial, flatG gs, ?_, ?_, fun j p hp => ?_⟩
 ·rw [List.length_map]; exact h
 ·rw [List.length_map]; exact flat_len gs
 ·rw [List.getElem?_map, Option.map_eq_some_iff] at hp
  obtain ⟨g, hg, rfl⟩ := hp
  show k50.M W base _ (geR g) (((flatG gs).drop (j * 11)).take 11)
  rw [flat_seg gs j g hg]
  exact k50_mkM _ _ _ (geR g)
theorem q_list {B : Nat} {w0 W : World} {p mb : Nat} {sz : Int} {n : Nat} {D : DataW Unit} {pt base N s : Nat} {grade : Int} {ws : Nat → Wd} (b : TB base N s sz) (h : Mem B w0 p mb sz n D W) (hD : Holds D base N s ws) (kt : W.heap[pt]? = some (.cells (TCs p base N s grade) 95 (0, 0))) :
  Calls Try.prog 34 #[.pointer (some ⟨pt, 0, none⟩)] W fun e W' => ∃ v, e = .returned v ∧ Kd.R k50 50 W' W.heap.size (fun _ => True) v ((listW N s ws).map geR) ∧ W.grownBy W' none := by
 refine (list_calls b h hD kt).mono ?_
 rintro e W' ⟨v, rfl, ho, hg⟩
 exact ⟨v, rfl, list_R ho, hg⟩
end
end Go.Proofs.Ytjnffegjpkbjmaa.Mem
/- merged: YtjnffegjpkbjmaaTsLq -/
namespace Go.Proofs.Ytjnffegjpkbjmaa.Mem
open Go.RowKit Go.Maps Go.Proofs.YtjnffegjpkbjmaaW.PrintWords Go.Proofs.YtjnffegjpkbjmaaW.PrintLast Go.Proofs.YtjnffegjpkbjmaaW.PrintMore Go.Proofs.Ytjnffegjpkbjmaa.QTsbPlays Go.Proofs.Ytjnffegjpkbjmaa.Pure
set_option linter.unusedSimpArgs false
set_option linter.unusedVariables false
section
set_option maxHeartbeats 1000000
set_option maxRecDepth 100000
theorem geS_wf {g : GE} (h : g.ok) : EntW (geS g) := by
 have h1 := h.hs
 have h2 := h.hc
 have h3 := h.hv
 have h4 := h.hp
 exact ⟨by simp [geS, Lit.wf, IntKind.min, IntKind.max, IntKind.signed, IntKind.bits]; omega, by simp [geS, Lit.wf, IntKind.min, IntKind.max, IntKind.signed, IntKind.bits]; omega, wfN h3, wfN (by omega)⟩
/-- The cells of an entry that may be. -/
structure GEAt (w : World) (y : Addr) (g : GE) : Prop where
 c0 : w.cell? y = some (.int .i64 (g.s : Int))
 c1 : w.cell? ⟨y.block, y.off + 1, none⟩ = some (.int .i64 (g.c : Int))
 c2 : w.cell? ⟨y.block, y.off + 2, none⟩ = some (.int .u64 (g.v : Int))
 c3 : w.cell? ⟨y.block, y.off + 3, none⟩ = some (.int .u64 (g.p : Int))
 c4 : w.cell? ⟨y.block, y.off + 4, none⟩ = some (.bool g.w)
 c5 : w.cell? ⟨y.block, y.off + 5, none⟩ = some (.bool g.pr)
 c6 : w.cell? ⟨y.block, y.off + 6, none⟩ = some (.bool g.x)
 c7 : w.cell? ⟨y.block, y.off + 7, none⟩ = some (.bool g.l)
 c8 : w.cell? ⟨y.block, y.off + 8, none⟩ = some (.bool g.g)
 c9 : w.cell? ⟨y.block, y.off + 9, none⟩ = some (.bool g.q)
 c10 : w.cell? ⟨y.block, y.off + 10, none⟩ = some (.bool true)
theorem GEAt.grown {w w' : World} {y : Addr} {g : GE} (h : GEAt w y g) (hg : w.grownBy w' none) : GEAt w' y g := ⟨cell_grown h.c0 hg, cell_grown h.c1 hg, cell_grown h.c2 hg, cell_grown h.c3 hg, cell_grown h.c4 hg, cell_grown h.c5 hg, cell_grown h.c6 hg, cell_grown h.c7 hg, cell_grown h.c8 hg, cell_grown h.c9 hg, cell_grown h.c10 hg⟩
end
end Go.Proofs.Ytjnffegjpkbjmaa.Mem
/- merged: YtjnffegjpkbjmaaTsO -/
namespace Go.Proofs.Ytjnffegjpkbjmaa.Mem
open Go.RowKit Go.Maps Go.Proofs.YtjnffegjpkbjmaaW.PrintWords Go.Proofs.YtjnffegjpkbjmaaW.PrintLast Go.Proofs.YtjnffegjpkbjmaaW.PrintMore Go.Proofs.Ytjnffegjpkbjmaa.QTsbPlays Go.Proofs.Ytjnffegjpkbjmaa.Pure
set_option linter.unusedSimpArgs false
set_option linter.unusedVariables false
section
set_option maxHeartbeats 1000000
set_option maxRecDepth 100000
def listO (N : Nat) (os : Nat → Option GE) : List GE := (List.range N).filterMap os
section
variable {B : Nat} {w0 W : World} {p mb pt : Nat} {sz : Int} {base N s n : Nat} {grade : Int} {os : Nat → Option GE}
end
end
end Go.Proofs.Ytjnffegjpkbjmaa.Mem
namespace Go.Proofs.Ytjnffegjpkbjmaa.Mem
open Go.RowKit Go.Maps Go.Proofs.YtjnffegjpkbjmaaW.PrintWords Go.Proofs.YtjnffegjpkbjmaaW.PrintLast Go.Proofs.YtjnffegjpkbjmaaW.PrintMore Go.Proofs.Ytjnffegjpkbjmaa.QTsbPlays Go.Proofs.Ytjnffegjpkbjmaa.Pure
set_option linter.unusedSimpArgs false
set_option linter.unusedVariables false
section
set_option maxHeartbeats 2000000
set_option maxRecDepth 100000
/-- What is read is of the size. -/
def ROK (s : Nat) (t d A : Nat) : Prop := ∀ g, readW (t, d) A = some g → g.s = s
theorem read10_calls {s N i t d a : Nat} {A : Option Addr} {c : Nat} {l : List WS} (ht : t < 18446744073709551616) (hd : d < 18446744073709551616) (ha : a < 18446744073709551616) (hro : ROK s t d a) (hgw : gW l (i : Int) = ((t : Int), (d : Int))) {W : World} (hC : Kd.C k122 W A l.length l) (hc : l.length ≤ c) (hl : l.length ≤ 1000000) :
  Calls Try.prog 109 #[.agg #[.int .i64 (s : Int), .int .i64 (N : Int), .slice A l.length c], .int .i64 (i : Int), .int .u64 (a : Int)] W fun e W' => e = .returned (foundV (readW (t, d) a)) ∧ W.grownBy W' none := by
 have hu := Try.underlying44
 have hu2 := Try.underlying122
 have hu3 := Try.underlying50
 have HC0 := Aside0.mk hC
 have HCC := Aside0.mk hc
 have HRO := Aside0.mk hro
 have HLT := Aside0.mk (And.intro ht (And.intro hd ha))
 have HGT := Aside0.mk (show lookasideref10_Get.f (l.length + 1) (s : Int) (N : Int) l (i : Int) = some ((i : Int), (t : Int), (d : Int)) by rw [gW_f _ _ _ l (by omega) (Nat.le_refl _), hgw])
 clear hC hc hro ht hd ha hgw
 have hga := World.grownBy_alloc W (.cells #[.int .i64 (s : Int), .int .i64 (N : Int), .slice A l.length c] 44) none
 have hb2 := heap_alloc_new W (.cells #[.int .i64 (s : Int), .int .i64 (N : Int), .slice A l.length c] 44)
 have hgb := World.grownBy_alloc (W.alloc (.cells #[.int .i64 (s : Int), .int .i64 (N : Int), .slice A l.length c] 44)) (.cells #[.int .i64 0, .int .i64 0, .int .u64 0, .int .u64 0, .bool false, .bool false, .bool false, .bool false, .bool false, .bool false, .bool false] 50) none
 have hb3 := heap_alloc_new (W.alloc (.cells #[.int .i64 (s : Int), .int .i64 (N : Int), .slice A l.length c] 44)) (.cells #[.int .i64 0, .int .i64 0, .int .u64 0, .int .u64 0, .bool false, .bool false, .bool false, .bool false, .bool false, .bool false, .bool false] 50)
 have hz : (W.alloc (.cells #[.int .i64 (s : Int), .int .i64 (N : Int), .slice A l.length c] 44)).heap.size = W.heap.size + 1 := by simp only [World.size_alloc]
 rw [hz] at hb3
 have HG := Aside0.mk (grown_two hga hgb)
 have HB2 := Aside0.mk (blk_grown hb2 hgb)
 have HB3 := Aside0.mk hb3
 clear hga hb2 hgb hb3 hz
 obtain ⟨q0, q1, q2⟩ := cz3q HB2.out
 go_enter Try.func109, Try.ntmps109
 go_wp2_with fail
 refine (lookasideref10_Get.calls (l.length + 1) _ _ A c l _ _ _ _ _ (Kd.C_below HC0.out (below_of_grown HG.out)) HCC.out HGT.out).mono ?_
 rintro x0 w2 ⟨rfl, hb⟩
 have hg := below_grown hb
 replace HG := Aside0.mk (grown_two HG.out hg)
 replace HB2 := Aside0.mk (blk_grown HB2.out hg)
 replace HB3 := Aside0.mk (blk_grown HB3.out hg)
 clear hg hb q0 q1 q2
 have HS := Aside0.mk (show W.heap.size + 1 < w2.heap.size from blk_lt HB3.out)
 obtain ⟨h2, hh2⟩ : ∃ z, z = W.heap.size := ⟨_, rfl⟩
 obtain ⟨h3, hh3⟩ : ∃ z, z = W.heap.size + 1 := ⟨_, rfl⟩
 rw [← hh2] at HB2
 rw [← hh3] at HB3
 rw [← hh3, ← hh2]
 have HH := Aside0.mk (And.intro hh2 hh3)
 clear hh2 hh3
 have hgc := World.grownBy_alloc w2 (.cells #[.int .i64 (i : Int), .int .u64 (t : Int), .int .u64 (d : Int)] 122) none
 have HB5 := Aside0.mk (heap_alloc_new w2 (.cells #[.int .i64 (i : Int), .int .u64 (t : Int), .int .u64 (d : Int)] 122))
 replace HG := Aside0.mk (grown_two HG.out hgc)
 replace HB2 := Aside0.mk (blk_grown HB2.out hgc)
 replace HB3 := Aside0.mk (blk_grown HB3.out hgc)
 clear hgc
 obtain ⟨u0, u1, u2⟩ := cz3q HB5.out
 go_wp2_with fail
 have HN5 := Aside0.mk (show True from trivial)
 cases hrn : readW (t, d) a with
 | none =>
  refine (rread_any HLT.out.1 HLT.out.2.1 HLT.out.2.2 _).mono ?_
  rintro x0 w4 ⟨q, hx0, hq1, hg⟩
  rw [hrn] at hq1 hx0
  obtain rfl : x0 = .returned (.tuple #[.agg #[.int .i64 0, .int .i64 0, .int .u64 0, .int .u64 0, .bool false, .bool false, .bool false, .bool false, .bool false, .bool false, .bool false], .int .i64 q]) := hx0
  replace hq1 : (q != 0) = true := hq1
  replace HG := Aside0.mk (grown_two HG.out hg)
  replace HB2 := Aside0.mk (blk_grown HB2.out hg)
  replace HB3 := Aside0.mk (blk_grown HB3.out hg)
  clear hg u0 u1 u2 HB5
  have hgc := World.grownBy_alloc w4 (.cells #[.int .i64 0, .int .i64 0, .int .u64 0, .int .u64 0, .bool false, .bool false, .bool false, .bool false, .bool false, .bool false, .bool false] 50) none
  replace HG := Aside0.mk (grown_two HG.out hgc)
  replace HB2 := Aside0.mk (blk_grown HB2.out hgc)
  replace HB3 := Aside0.mk (blk_grown HB3.out hgc)
  clear hgc
  go_wp2_with (((with_reducible refine gate_store (t := 50) (p := 6) rfl ?_); refine wpList_store_row rfl 50 (.tmp 6) (.tmp 32) rfl h3 #[.int .i64 0, .int .i64 0, .int .u64 0, .int .u64 0, .bool false, .bool false, .bool false, .bool false, .bool false, .bool false, .bool false] rfl rfl 50 _ HB3.out (by kernel_rfl) rfl (by kernel_rfl) ?_; have SHB3 := Aside0.mk (setRow_heap _ h3 _ #[.int .i64 0, .int .i64 0, .int .u64 0, .int .u64 0, .bool false, .bool false, .bool false, .bool false, .bool false, .bool false, .bool false] _ _ HB3.out); have THB3 := Aside0.mk (grown_row (w4.alloc (.cells #[.int .i64 0, .int .i64 0, .int .u64 0, .int .u64 0, .bool false, .bool false, .bool false, .bool false, .bool false, .bool false, .bool false] 50)) h3 #[.int .i64 0, .int .i64 0, .int .u64 0, .int .u64 0, .bool false, .bool false, .bool false, .bool false, .bool false, .bool false, .bool false])))
  obtain ⟨z0, z1, z2, z3, z4, z5, z6, z7, z8, z9, z10⟩ := tte_Read.cz11 SHB3.out
  exact bodyPost_ret (v := .tuple #[.agg #[.int .i64 0, .int .i64 0, .int .u64 0, .int .u64 0, .bool false, .bool false, .bool false, .bool false, .bool false, .bool false, .bool false], .bool false]) (by simp [results, Try.f109, go_sem, z0, z1, z2, z3, z4, z5, z6, z7, z8, z9, z10]) rfl ⟨by rw [hrn]; rfl, grown_loc HG.out THB3.out (by have := HH.out; omega)⟩
 | some g =>
  obtain rfl : g.s = s := HRO.out g hrn
  refine (rread_any HLT.out.1 HLT.out.2.1 HLT.out.2.2 _).mono ?_
  rintro x0 w4 ⟨q, hx0, hq1, hg⟩
  rw [hrn] at hq1 hx0
  obtain rfl : x0 = .returned (.tuple #[.agg (geA g), .int .i64 q]) := hx0
  obtain rfl : q = 0 := by simpa using hq1
  clear hq1
  replace HG := Aside0.mk (grown_two HG.out hg)
  replace HB2 := Aside0.mk (blk_grown HB2.out hg)
  replace HB3 := Aside0.mk (blk_grown HB3.out hg)
  clear hg u0 u1 u2 HB5
  have hgc := World.grownBy_alloc w4 (.cells (geA g) 50) none
  have HB9 := Aside0.mk (heap_alloc_new w4 (.cells (geA g) 50))
  replace HG := Aside0.mk (grown_two HG.out hgc)
  replace HB2 := Aside0.mk (blk_grown HB2.out hgc)
  replace HB3 := Aside0.mk (blk_grown HB3.out hgc)
  clear hgc
  obtain ⟨q0, q1, q2⟩ := cz3q HB2.out
  obtain ⟨z0, z1, z2, z3, z4, z5, z6, z7, z8, z9, z10⟩ := tte_Read.cz11 HB9.out
  go_wp2_with (((with_reducible refine gate_store (t := 50) (p := 6) rfl ?_); refine wpList_store_row rfl 50 (.tmp 6) (.tmp 33) rfl h3 (geA g) rfl rfl 50 _ HB3.out (by kernel_rfl) rfl (by kernel_rfl) ?_; have SHB3 := Aside0.mk (setRow_heap _ h3 _ (geA g) _ _ HB3.out); have THB3 := Aside0.mk (grown_row (w4.alloc (.cells (geA g) 50)) h3 (geA g))))
  clear z0 z1 z2 z3 z4 z5 z6 z7 z8 z9 z10
  obtain ⟨z0, z1, z2, z3, z4, z5, z6, z7, z8, z9, z10⟩ := tte_Read.cz11 SHB3.out
  exact bodyPost_ret (v := .tuple #[.agg (geA g), .bool true]) (by simp [results, Try.f109, go_sem, z0, z1, z2, z3, z4, z5, z6, z7, z8, z9, z10]) rfl ⟨by rw [hrn]; rfl, grown_loc HG.out THB3.out (by have := HH.out; omega)⟩
theorem bytes_dvd {s : Nat} (hs : s < 4) : 4194304 / Pure.bytesOf (s : Int) * Pure.bytesOf (s : Int) = 4194304 ∧ 0 < 4194304 / Pure.bytesOf (s : Int) := by
 have : s = 0 ∨ s = 1 ∨ s = 2 ∨ s = 3 := by omega
 rcases this with rfl | rfl | rfl | rfl <;> decide
noncomputable def rown7_T : Bool × List (List Nat × List Nat) := rtab .any (opsOf Try.f73 7)
theorem rown7_tab : rtab .any (opsOf Try.f73 7) = rown7_T := rfl
theorem rown_calls {s N i t d : Nat} {A : Option Addr} {c : Nat} {l : List WS} (hs : s < 4) (h1 : 1 ≤ N) (hN : N ≤ 4096) (hi : i < N) (ht : t < 18446744073709551616) (hd : d < 18446744073709551616) (hro : ROK s t d (ownVa s i t)) (hgw : gW l (i : Int) = ((t : Int), (d : Int))) {W : World} (hC : Kd.C k122 W A l.length l) (hc : l.length ≤ c) (hl : l.length ≤ 1000000) :
  Calls Try.prog 73 #[.agg #[.int .i64 (s : Int), .int .i64 (N : Int), .slice A l.length c], .int .i64 (i : Int)] W fun e W' => e = .returned (foundV (ownW N s i (t, d))) ∧ W.grownBy W' none := by
 have hu := Try.underlying44
 have hu2 := Try.underlying122
 have hu3 := Try.underlying50
 have HC0 := Aside0.mk hC
 have HCC := Aside0.mk hc
 have HRO := Aside0.mk hro
 have HLT := Aside0.mk (And.intro ht hd)
 have HGW := Aside0.mk hgw
 have HGT := Aside0.mk (show lookasideref10_Get.f (l.length + 1) (s : Int) (N : Int) l (i : Int) = some ((i : Int), (t : Int), (d : Int)) by rw [gW_f _ _ _ l (by omega) (Nat.le_refl _), hgw])
 have HNS := Aside0.mk (And.intro hs (And.intro h1 (And.intro hN hi)))
 obtain ⟨m, hm⟩ : ∃ m, m = t % 4194304 := ⟨_, rfl⟩
 have hml : m < 4194304 := by rw [hm]; exact Nat.mod_lt _ (by decide)
 have hm1 : Int.tmod (t : Int) 4194304 = (m : Int) := by rw [hm, show (4194304 : Int) = ((4194304 : Nat) : Int) from rfl, ← Int.ofNat_tmod]
 obtain ⟨X0, hX0⟩ : ∃ X, X = m * 4194304 := ⟨_, rfl⟩
 have hX0l : X0 < 17592186044416 := by omega
 have hm2 : IntKind.u64.wrap ((m : Int) * 4194304) = (X0 : Int) := by
  rw [show (m : Int) * 4194304 = ((X0 : Nat) : Int) by omega]
  exact m_wu X0 (by omega)
 obtain ⟨X1, hX1⟩ : ∃ X, X = X0 + 18446726481523507200 := ⟨_, rfl⟩
 have hm3 : IntKind.u64.wrap ((X0 : Int) + 18446726481523507200) = (X1 : Int) := by
  rw [show (X0 : Int) + 18446726481523507200 = ((X1 : Nat) : Int) by omega]
  exact m_wu X1 (by omega)
 have HMX := Aside0.mk (show m = t % 4194304 ∧ X0 = m * 4194304 ∧ X1 = X0 + 18446726481523507200 from ⟨hm, hX0, hX1⟩)
 clear hC hc hro ht hd hgw hs h1 hN hi hm hX0 hX1
 have hga := World.grownBy_alloc W (.cells #[.int .i64 (s : Int), .int .i64 (N : Int), .slice A l.length c] 44) none
 have hb2 := heap_alloc_new W (.cells #[.int .i64 (s : Int), .int .i64 (N : Int), .slice A l.length c] 44)
 have hgb := World.grownBy_alloc (W.alloc (.cells #[.int .i64 (s : Int), .int .i64 (N : Int), .slice A l.length c] 44)) (.cells #[.int .i64 0, .int .i64 0, .int .u64 0, .int .u64 0, .bool false, .bool false, .bool false, .bool false, .bool false, .bool false, .bool false] 50) none
 have hb3 := heap_alloc_new (W.alloc (.cells #[.int .i64 (s : Int), .int .i64 (N : Int), .slice A l.length c] 44)) (.cells #[.int .i64 0, .int .i64 0, .int .u64 0, .int .u64 0, .bool false, .bool false, .bool false, .bool false, .bool false, .bool false, .bool false] 50)
 have hz : (W.alloc (.cells #[.int .i64 (s : Int), .int .i64 (N : Int), .slice A l.length c] 44)).heap.size = W.heap.size + 1 := by simp only [World.size_alloc]
 rw [hz] at hb3
 have HG := Aside0.mk (grown_two hga hgb)
 have HB2 := Aside0.mk (blk_grown hb2 hgb)
 have HB3 := Aside0.mk hb3
 clear hga hb2 hgb hb3 hz
 obtain ⟨q0, q1, q2⟩ := cz3q HB2.out
 go_enter Try.func73, Try.ntmps73
 go_wp2_with fail
 refine (lookasideref10_Get.calls (l.length + 1) _ _ A c l _ _ _ _ _ (Kd.C_below HC0.out (below_of_grown HG.out)) HCC.out HGT.out).mono ?_
 rintro x0 w2 ⟨rfl, hb⟩
 have hg := below_grown hb
 replace HG := Aside0.mk (grown_two HG.out hg)
 replace HB2 := Aside0.mk (blk_grown HB2.out hg)
 replace HB3 := Aside0.mk (blk_grown HB3.out hg)
 clear hg hb q0 q1 q2
 obtain ⟨h2, hh2⟩ : ∃ z, z = W.heap.size := ⟨_, rfl⟩
 obtain ⟨h3, hh3⟩ : ∃ z, z = W.heap.size + 1 := ⟨_, rfl⟩
 rw [← hh2] at HB2
 rw [← hh3] at HB3
 rw [← hh3, ← hh2]
 have HH := Aside0.mk (And.intro hh2 hh3)
 clear hh2 hh3
 have hgc := World.grownBy_alloc w2 (.cells #[.int .i64 (i : Int), .int .u64 (t : Int), .int .u64 (d : Int)] 122) none
 have HB5 := Aside0.mk (heap_alloc_new w2 (.cells #[.int .i64 (i : Int), .int .u64 (t : Int), .int .u64 (d : Int)] 122))
 replace HG := Aside0.mk (grown_two HG.out hgc)
 replace HB2 := Aside0.mk (blk_grown HB2.out hgc)
 replace HB3 := Aside0.mk (blk_grown HB3.out hgc)
 clear hgc
 obtain ⟨u0, u1, u2⟩ := cz3q HB5.out
 obtain ⟨q0, q1, q2⟩ := cz3q HB2.out
 rcases Nat.lt_or_ge m 2097152 with hh | hh
 case' inr =>
  have hcm : (2097152 : Int) ≤ (m : Int) := by omega
  go_wp2_with fail
  have HX := Aside0.mk (show (X1 + i * Pure.bytesOf (s : Int) % 4194304) % 18446744073709551616 = ownVa s i t ∧ X1 + i * Pure.bytesOf (s : Int) % 4194304 < 18446744073709551616 from ⟨by unfold ownVa; rw [if_pos (show t / 2097152 % 2 = 1 by have := HMX.out; omega), ← HMX.out.1, ← HMX.out.2.1, HMX.out.2.2], by have := HMX.out; have := Nat.mod_lt (i * Pure.bytesOf (s : Int)) (show 0 < 4194304 by decide); omega⟩)
  clear HMX hm3 hcm hh
  generalize X1 = X at HX ⊢
 case' inl =>
  have hlm := Aside0.mk hh
  have hcm : decide ((m : Int) ≥ 2097152) = false := decide_eq_false (by omega)
  clear hh hm3
  go_wp2_with fail
  have HX := Aside0.mk (show (X0 + i * Pure.bytesOf (s : Int) % 4194304) % 18446744073709551616 = ownVa s i t ∧ X0 + i * Pure.bytesOf (s : Int) % 4194304 < 18446744073709551616 from ⟨by unfold ownVa; rw [if_neg (show ¬ t / 2097152 % 2 = 1 by have := HMX.out; have := hlm.out; omega), ← HMX.out.1, ← HMX.out.2.1, Nat.add_zero], by have := Nat.mod_lt (i * Pure.bytesOf (s : Int)) (show 0 < 4194304 by decide); omega⟩)
  clear HMX hcm hlm hm2
  generalize X0 = X at HX ⊢
 all_goals
  refine (lookasideref02_Bytes.calls _ _ _ (Pure.rBytes _)).mono ?_
  rintro x0 w4 ⟨rfl, hd⟩
  have hg := drawn_grown hd
  replace HG := Aside0.mk (grown_two HG.out hg)
  replace HB2 := Aside0.mk (blk_grown HB2.out hg)
  replace HB3 := Aside0.mk (blk_grown HB3.out hg)
  clear hg hd u0 u1 u2 q0 q1 q2 HB5
  have hB1 := bytes_dvd HNS.out.1
  obtain ⟨Bq, hBq⟩ : ∃ z, z = Pure.bytesOf (s : Int) := ⟨_, rfl⟩
  rw [← hBq] at HX hB1
  rw [← hBq]
  have HBQ := Aside0.mk hBq
  have hBp : 0 < Bq := by rw [hBq]; exact Nat.lt_of_lt_of_le (by decide) (Pure.bytes_pos (show Pure.okSize (s : Int) by have := HNS.out; unfold Pure.okSize; omega)).1
  obtain ⟨pg, hpg⟩ : ∃ z, z = 4194304 / Bq := ⟨_, rfl⟩
  rw [← hpg] at hB1
  have HPG := Aside0.mk (show pg * Bq = 4194304 ∧ 0 < pg ∧ 0 < Bq ∧ pg ≤ 4194304 from ⟨hB1.1, hB1.2, hBp, by rw [hpg]; exact Nat.div_le_self _ _⟩)
  have hdv : (4194304 : Int) / (Bq : Int) = (pg : Int) := by
   rw [hpg, show (4194304 : Int) = ((4194304 : Nat) : Int) from rfl, ← Int.natCast_ediv]
  have hnz : ¬ (Bq : Int) = 0 := by omega
  have HBF := Aside0.mk (show lookasideref02_Bytes.f (s : Int) = some (Bq : Int) by rw [hBq]; exact Pure.rBytes _)
  clear hBq hBp hpg hB1
  go_upto_region 7 with fail
  rw [hdv]
  replace HG := Aside0.mk (grown_two HG.out (grown_drew _ none))
  replace HB2 := Aside0.mk (blk_grown HB2.out (grown_drew _ none))
  replace HB3 := Aside0.mk (blk_grown HB3.out (grown_drew _ none))
  clear hdv hnz
  have hpz : ¬ pg = 0 := by have := HPG.out; omega
  have hiw : IntKind.u64.wrap (i : Int) = (i : Int) := m_wu i (by have := HNS.out; omega)
  obtain ⟨z, hz⟩ : ∃ z, z = i % pg := ⟨_, rfl⟩
  have hzt : Int.tmod (i : Int) (pg : Int) = (z : Int) := by rw [hz, ← Int.ofNat_tmod]
  obtain ⟨Y, hY⟩ : ∃ Y, Y = i * Bq % 4194304 := ⟨_, rfl⟩
  have hzY : z * Bq = Y := by rw [hz, hY, ← Nat.mul_mod_mul_right, HPG.out.1]
  have hYl : Y < 4194304 := by rw [hY]; exact Nat.mod_lt _ (by decide)
  have hmu : IntKind.u64.wrap ((z : Int) * (Bq : Int)) = (Y : Int) := by rw [← Int.natCast_mul, hzY]; exact m_wu Y (by omega)
  rw [← hY] at HX
  obtain ⟨va, hva⟩ : ∃ va, va = ownVa s i t := ⟨_, rfl⟩
  rw [← hva] at HX HRO
  have had : IntKind.u64.wrap ((X : Int) + (Y : Int)) = (va : Int) := by
   have e := HX.out
   rw [Nat.mod_eq_of_lt e.2] at e
   rw [← Int.natCast_add, m_wu _ e.2, e.1]
  have HVA := Aside0.mk (show va = ownVa s i t ∧ va < 18446744073709551616 from ⟨hva, by rw [hva]; exact ownVa_lt _ _ _⟩)
  clear hz hY hva hYl hzY
  refine start_ (n := 11) (S := fun w' => w'.heap[h2]? = some (.cells #[.int .i64 (s : Int), .int .i64 (N : Int), .slice A l.length c] 44 (0, 0))) (ds := []) #[false, false, false, false, false, false, false, false, false, false, false] (by kernel_rfl) rfl rfl HB2.out (fun hHeld => ?_)
  refine with_tab rown7_tab (fun HT_ => ?_)
  refine pure_ (i := 0) (N := some 26) (v := ?_) (a' := ?_) #[true, false, false, false, false, false, false, false, false, false, false] rfl rfl (any_of HT_.out (by kernel_rfl)) (fun _ _ _ h => h) (Or.inl ⟨by rfl, ?_⟩) ?_ ?_
  rotate_left
  ·intro w'
   go_simp
   with_reducible rfl
  rotate_left
  ·simp only [ap_]
   rfl
  refine pure_ (i := 1) (N := some 27) (v := ?_) (a' := ?_) #[true, true, false, false, false, false, false, false, false, false, false] rfl rfl (any_of HT_.out (by kernel_rfl)) (fun _ _ _ h => h) (Or.inl ⟨by rfl, ?_⟩) ?_ ?_
  rotate_left
  ·intro w'
   go_simp
   with_reducible rfl
  rotate_left
  ·simp only [ap_]
   rfl
  refine pure_ (i := 2) (N := some 28) (v := ?_) (a' := ?_) #[true, true, true, false, false, false, false, false, false, false, false] rfl rfl (any_of HT_.out (by kernel_rfl)) (fun _ _ _ h => h) (Or.inl ⟨by rfl, ?_⟩) ?_ ?_
  rotate_left
  ·intro w'
   go_simp
   with_reducible rfl
  rotate_left
  ·simp only [ap_]
   rfl
  refine pure_ (i := 3) (N := some 29) (v := ?_) (a' := ?_) #[true, true, true, true, false, false, false, false, false, false, false] rfl rfl (any_of HT_.out (by kernel_rfl)) (fun _ _ _ h => h) (Or.inl ⟨by rfl, ?_⟩) ?_ ?_
  rotate_left
  ·intro w'
   go_simp
   with_reducible rfl
  rotate_left
  ·simp only [ap_]
   rfl
  refine pure_ (i := 4) (N := some 30) (v := ?_) (a' := ?_) #[true, true, true, true, true, false, false, false, false, false, false] rfl rfl (any_of HT_.out (by kernel_rfl)) (fun _ _ _ h => h) (Or.inl ⟨by rfl, ?_⟩) ?_ ?_
  rotate_left
  ·intro w'
   go_simp
   with_reducible rfl
  rotate_left
  ·simp only [ap_]
   rfl
  refine pure_ (i := 5) (N := some 31) (v := ?_) (a' := ?_) #[true, true, true, true, true, true, false, false, false, false, false] rfl rfl (any_of HT_.out (by kernel_rfl)) (fun _ _ _ h => h) (Or.inl ⟨by rfl, ?_⟩) ?_ ?_
  rotate_left
  ·intro w'
   go_simp
   with_reducible rfl
  rotate_left
  ·simp only [ap_]
   rfl
  refine take_ (i := 6) (N := some 32) (v := .int .i64 (s : Int)) (a' := ?_) #[true, true, true, true, true, true, true, false, false, false, false] rfl rfl (take_of HT_.out (by kernel_rfl)) (fun _ _ _ h => h) (Or.inl ⟨by rfl, ?_⟩) hHeld ?_ ?_
  ·rintro w' s1
   obtain ⟨q0, q1, q2⟩ := cz3q s1
   go_simp
  rotate_left
  ·simp only [ap_]
   rfl
  refine one_ (i := 7) (N := some 33) #[true, true, true, true, true, true, true, true, false, false, false] rfl rfl (one_of HT_.out (by kernel_rfl)) (by decide) (fun K hK => ?_)
  refine goes_ Try.func57 (by kernel_rfl) rfl #[.int .i64 (s : Int)] (by rfl) rfl rfl (by (try simp only [List.map_toArray, List.map_cons, List.map_nil]); first | done | rfl) ?_
  refine (lookasideref02_Bytes.calls _ _ _ HBF.out).mono ?_
  rintro x0 wn ⟨rfl, hd⟩
  have hg := drawn_grown hd
  replace HG := Aside0.mk (grown_two HG.out hg)
  replace HB2 := Aside0.mk (blk_grown HB2.out hg)
  replace HB3 := Aside0.mk (blk_grown HB3.out hg)
  have hs : wn.heap[h2]? = some (.cells #[.int .i64 (s : Int), .int .i64 (N : Int), .slice A l.length c] 44 (0, 0)) := blk_grown hHeld hg
  clear hg hd
  refine ⟨_, rfl, ?_⟩
  refine hK.out _ _ hs (fun hHeld => ?_)
  clear hK K
  refine norm_ (a' := ?_) ?_ ?_
  rotate_left
  ·show Act.put _ (some 33) _ = _
   simp only [ap_]
   rfl
  refine pure_ (i := 8) (N := some 34) (v := ?_) (a' := ?_) #[true, true, true, true, true, true, true, true, true, false, false] rfl rfl (any_of HT_.out (by kernel_rfl)) (fun _ _ _ h => h) (Or.inl ⟨by rfl, ?_⟩) ?_ ?_
  rotate_left
  ·intro w'
   go_simp
   with_reducible rfl
  rotate_left
  ·simp only [ap_]
   rfl
  refine pure_ (i := 9) (N := some 35) (v := ?_) (a' := ?_) #[true, true, true, true, true, true, true, true, true, true, false] rfl rfl (any_of HT_.out (by kernel_rfl)) (fun _ _ _ h => h) (Or.inl ⟨by rfl, ?_⟩) ?_ ?_
  rotate_left
  ·intro w'
   go_simp
   with_reducible rfl
  rotate_left
  ·simp only [ap_]
   rfl
  refine pure_ (i := 10) (N := some 8) (v := ?_) (a' := ?_) #[true, true, true, true, true, true, true, true, true, true, true] rfl rfl (any_of HT_.out (by kernel_rfl)) (fun _ _ _ h => h) (Or.inl ⟨by rfl, ?_⟩) ?_ ?_
  rotate_left
  ·intro w'
   go_simp
   with_reducible rfl
  rotate_left
  ·simp only [ap_]
   rfl
  refine done_ (done_of HT_.out (by kernel_rfl)) ?_
  clear hHeld hiw hzt hmu had hpz
  have HPL := Aside0.mk (show lookasideref10_place.f (s : Int) (N : Int) l (va : Int) = some (plcOf N (s : Int) va : Int) from plc_f va HVA.out.2 s N HNS.out.1 HNS.out.2.1 (by have := HNS.out; omega) l)
  have HOW := Aside0.mk (show ownW N s i (t, d) = if plcOf N (s : Int) va = i then readW (t, d) va else none by rw [HVA.out.1]; rfl)
  obtain ⟨q0, q1, q2⟩ := cz3q HB2.out
  go_wp2_with fail
  refine (lookasideref10_place.calls _ _ A c l _ _ _ (Kd.C_below HC0.out (below_of_grown HG.out)) HCC.out HPL.out).mono ?_
  rintro x0 w6 ⟨rfl, hb⟩
  have hg := below_grown hb
  replace HG := Aside0.mk (grown_two HG.out hg)
  replace HB2 := Aside0.mk (blk_grown HB2.out hg)
  replace HB3 := Aside0.mk (blk_grown HB3.out hg)
  clear hg hb q0 q1 q2
  by_cases hp : plcOf N (s : Int) va = i
  ·have HPI := Aside0.mk hp
   obtain ⟨q0, q1, q2⟩ := cz3q HB2.out
   rw [hp]
   clear hp
   go_wp2_with fail
   refine (read10_calls HLT.out.1 HLT.out.2 HVA.out.2 HRO.out HGW.out (Kd.C_below HC0.out (below_of_grown HG.out)) HCC.out hl).mono ?_
   rintro x0 w7 ⟨he, hg⟩
   replace HG := Aside0.mk (grown_two HG.out hg)
   replace HB3 := Aside0.mk (blk_grown HB3.out hg)
   clear hg q0 q1 q2
   rcases ho : readW (t, d) va with _ | g
   ·have he2 : x0 = .returned (.tuple #[.agg #[.int .i64 0, .int .i64 0, .int .u64 0, .int .u64 0, .bool false, .bool false, .bool false, .bool false, .bool false, .bool false, .bool false], .bool false]) := by rw [he, ho]; rfl
    have HO := Aside0.mk ho
    clear he ho
    subst he2
    go_wp2_with (((with_reducible refine gate_store (t := 50) (p := 4) rfl ?_); refine wpList_store_row rfl 50 (.tmp 4) (.tmp 46) rfl h3 #[.int .i64 0, .int .i64 0, .int .u64 0, .int .u64 0, .bool false, .bool false, .bool false, .bool false, .bool false, .bool false, .bool false] rfl rfl 50 _ HB3.out (by kernel_rfl) rfl (by kernel_rfl) ?_; have SHB3 := Aside0.mk (setRow_heap _ h3 _ #[.int .i64 0, .int .i64 0, .int .u64 0, .int .u64 0, .bool false, .bool false, .bool false, .bool false, .bool false, .bool false, .bool false] _ _ HB3.out); have THB3 := Aside0.mk (grown_row w7 h3 #[.int .i64 0, .int .i64 0, .int .u64 0, .int .u64 0, .bool false, .bool false, .bool false, .bool false, .bool false, .bool false, .bool false])))
    obtain ⟨z0, z1, z2, z3, z4, z5, z6, z7, z8, z9, z10⟩ := tte_Read.cz11 SHB3.out
    exact bodyPost_ret (v := .tuple #[.agg #[.int .i64 0, .int .i64 0, .int .u64 0, .int .u64 0, .bool false, .bool false, .bool false, .bool false, .bool false, .bool false, .bool false], .bool false]) (by simp [results, Try.f73, go_sem, z0, z1, z2, z3, z4, z5, z6, z7, z8, z9, z10]) rfl ⟨by rw [HOW.out, if_pos HPI.out, HO.out]; rfl, grown_loc HG.out THB3.out (by have := HH.out; omega)⟩
   ·have he2 : x0 = .returned (.tuple #[.agg (geA g), .bool true]) := by rw [he, ho]; rfl
    have HO := Aside0.mk ho
    clear he ho
    subst he2
    go_wp2_with (((with_reducible refine gate_store (t := 50) (p := 4) rfl ?_); refine wpList_store_row rfl 50 (.tmp 4) (.tmp 46) rfl h3 (geA g) rfl rfl 50 _ HB3.out (by kernel_rfl) rfl (by kernel_rfl) ?_; have SHB3 := Aside0.mk (setRow_heap _ h3 _ (geA g) _ _ HB3.out); have THB3 := Aside0.mk (grown_row w7 h3 (geA g))))
    obtain ⟨z0, z1, z2, z3, z4, z5, z6, z7, z8, z9, z10⟩ := tte_Read.cz11 SHB3.out
    exact bodyPost_ret (v := .tuple #[.agg (geA g), .bool true]) (by simp [results, Try.f73, go_sem, z0, z1, z2, z3, z4, z5, z6, z7, z8, z9, z10]) rfl ⟨by rw [HOW.out, if_pos HPI.out, HO.out]; rfl, grown_loc HG.out THB3.out (by have := HH.out; omega)⟩
  ·have HPI := Aside0.mk hp
   have hp2 : ((plcOf N (s : Int) va : Int) != (i : Int)) = true := bne_iff_ne.mpr (fun e => hp (by exact_mod_cast e))
   clear hp
   generalize (plcOf N (s : Int) va : Int) = pz at hp2 ⊢
   go_wp2_with (((with_reducible refine gate_store (t := 50) (p := 4) rfl ?_); refine wpList_store_row rfl 50 (.tmp 4) (.tmp 41) rfl h3 #[.int .i64 0, .int .i64 0, .int .u64 0, .int .u64 0, .bool false, .bool false, .bool false, .bool false, .bool false, .bool false, .bool false] rfl rfl 50 _ HB3.out (by kernel_rfl) rfl (by kernel_rfl) ?_; have SHB3 := Aside0.mk (setRow_heap _ h3 _ #[.int .i64 0, .int .i64 0, .int .u64 0, .int .u64 0, .bool false, .bool false, .bool false, .bool false, .bool false, .bool false, .bool false] _ _ HB3.out); have THB3 := Aside0.mk (grown_row w6 h3 #[.int .i64 0, .int .i64 0, .int .u64 0, .int .u64 0, .bool false, .bool false, .bool false, .bool false, .bool false, .bool false, .bool false])))
   obtain ⟨z0, z1, z2, z3, z4, z5, z6, z7, z8, z9, z10⟩ := tte_Read.cz11 SHB3.out
   exact bodyPost_ret (v := .tuple #[.agg #[.int .i64 0, .int .i64 0, .int .u64 0, .int .u64 0, .bool false, .bool false, .bool false, .bool false, .bool false, .bool false, .bool false], .bool false]) (by simp [results, Try.f73, go_sem, z0, z1, z2, z3, z4, z5, z6, z7, z8, z9, z10]) rfl ⟨by rw [HOW.out, if_neg HPI.out]; rfl, grown_loc HG.out THB3.out (by have := HH.out; omega)⟩
end
end Go.Proofs.Ytjnffegjpkbjmaa.Mem
-- halved
