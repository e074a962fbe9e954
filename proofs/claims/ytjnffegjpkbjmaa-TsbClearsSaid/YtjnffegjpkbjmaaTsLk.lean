/- How many places of a TSB are locked. -/
import Derived.Test.YtjnffegjpkbjmaaTsList
import Derived.Deep.Onto
namespace Go.Proofs.Ytjnffegjpkbjmaa.Mem
open Go.RowKit Go.Maps Go.Shelf Go.Proofs.YtjnffegjpkbjmaaW.PrintWords Go.Proofs.YtjnffegjpkbjmaaW.PrintLast Go.Proofs.YtjnffegjpkbjmaaW.PrintMore Go.Proofs.Ytjnffegjpkbjmaa.QTsbPlays Go.Proofs.Ytjnffegjpkbjmaa.Pure
attribute [local go_sem] Oper.semAt_some
set_option linter.unusedSimpArgs false
set_option linter.unusedVariables false
section
set_option maxHeartbeats 2000000
set_option maxRecDepth 100000
/-- How many of these places are locked. -/
def lockX (ws : Nat → Wd) (is : List Nat) : Nat := (is.filter (fun i => (ws i).1 == BADW)).length
theorem lockX_snoc (ws : Nat → Wd) (is : List Nat) (i : Nat) : lockX ws (is ++ [i]) = lockX ws is + (if (ws i).1 = BADW then 1 else 0) := by
  unfold lockX
  rw [List.filter_append, List.length_append]
  congr 1
  by_cases h : (ws i).1 = BADW <;> simp [h]
theorem lockX_le (ws : Nat → Wd) (is : List Nat) : lockX ws is ≤ is.length := List.length_filter_le _ _
/-- What stands between two rounds of Locked. -/
structure LK (B : Nat) (w0 W0 : World) (p mb pt s1 s3 : Nat) (sz : Int) (n : Nat) (D : DataW Unit) (base N s : Nat) (grade : Int) (c : Nat) (W : World) : Prop where
  mem : Mem B w0 p mb sz n D W
  row : W.heap[pt]? = some (.cells (TCs p base N s grade) 95 (0, 0))
  box : W.heap[s1]? = some (.cells #[.pointer (some ⟨pt, 0, none⟩)] 36 (0, 0))
  out : W.heap[s3]? = some (.cells #[.int .i64 (c : Int)] 3 (0, 0))
  gr : W0.grownBy W none
theorem LK.kept {B w0 W0 p mb pt s1 s3 sz n D base N s grade c W W' row} (h : LK B w0 W0 p mb pt s1 s3 sz n D base N s grade c W) (hg : W.grownBy W' row) (hr : ∀ j, row = some j → mb < j ∧ p < j ∧ pt < j ∧ s1 < j ∧ s3 < j ∧ W0.heap.size ≤ j ∧ B ≤ j) : LK B w0 W0 p mb pt s1 s3 sz n D base N s grade c W' := by
  refine ⟨h.mem.kept hg (fun e => by have := (hr _ e.symm).1; omega) (fun e => by have := (hr _ e.symm).2.1; omega) (fun k e => (hr k e).2.2.2.2.2.2), (hg.block pt (blk_lt h.row) (fun e => by have := (hr _ e.symm).2.2.1; omega)).trans h.row, (hg.block s1 (blk_lt h.box) (fun e => by have := (hr _ e.symm).2.2.2.1; omega)).trans h.box, (hg.block s3 (blk_lt h.out) (fun e => by have := (hr _ e.symm).2.2.2.2.1; omega)).trans h.out, ?_⟩
  cases row with
  | none => exact grown_two h.gr hg
  | some j => exact grown_loc h.gr hg (hr j rfl).2.2.2.2.2.1
theorem LK.same {B w0 W0 p mb pt s1 s3 sz n D base N s grade c W W'} (h : LK B w0 W0 p mb pt s1 s3 sz n D base N s grade c W) (hg : W.grownBy W' none) : LK B w0 W0 p mb pt s1 s3 sz n D base N s grade c W' := h.kept hg (fun j e => by cases e)
/-- The count's box is written. -/
theorem LK.put {B w0 W0 p mb pt s1 s3 sz n D base N s grade c W} (h : LK B w0 W0 p mb pt s1 s3 sz n D base N s grade c W) (c' : Nat) (hB : B ≤ s3) (hW : W0.heap.size ≤ s3) : LK B w0 W0 p mb pt s1 s3 sz n D base N s grade c' (W.setCell ⟨s3, 0, none⟩ (.int .i64 (c' : Int))) ∧ W.grownBy (W.setCell ⟨s3, 0, none⟩ (.int .i64 (c' : Int))) (some s3) := by
  have hg := grown_cellq W ⟨s3, 0, none⟩ (.int .i64 (c' : Int))
  have hk : ∀ k, some s3 = some k → ∃ cs, W.heap[k]? = some (.cells cs 3 (0, 0)) := fun k e => by cases e; exact ⟨_, h.out⟩
  exact ⟨⟨h.mem.keptR hg hk (by decide) (fun k e => by obtain rfl : s3 = k := Option.some.inj e; exact hB), blk_keptR h.row hg hk (by decide), blk_keptR h.box hg hk (by decide), blk_put h.out 0 _ rfl, below_grownW h.gr hg (fun k e => by obtain rfl : s3 = k := Option.some.inj e; exact hW)⟩, hg⟩
theorem locked_calls {B : Nat} {w0 W : World} {p mb : Nat} {sz : Int} {n : Nat} {D : DataW Unit} {pt base N s : Nat} {grade : Int} {ws : Nat → Wd} (b : TB base N s sz) (h : Mem B w0 p mb sz n D W) (hD : Holds D base N s ws) (kt : W.heap[pt]? = some (.cells (TCs p base N s grade) 95 (0, 0))) :
    Calls Try.prog 42 #[.pointer (some ⟨pt, 0, none⟩)] W fun e W' => e = .returned (.int .i64 (lockX ws (List.range N) : Int)) ∧ W.grownBy W' none := by
  have HT := Aside0.mk kt
  have HBT := Aside0.mk b
  have HD := Aside0.mk hD
  have HK := Aside0.mk (show mb < W.heap.size ∧ p < W.heap.size ∧ pt < W.heap.size ∧ B ≤ W.heap.size ∧ pt ≠ mb from ⟨h.own.lt, h.lt, blk_lt kt, h.hB, h.nb _ _ _ kt⟩)
  have hN := b.hN
  have hsz := b.hsz
  have hz := b.hz
  have hA := grown_two (World.grownBy_alloc W (.cells #[.pointer (some ⟨pt, 0, none⟩)] 36) none) (World.grownBy_alloc (W.alloc (.cells #[.pointer (some ⟨pt, 0, none⟩)] 36)) (.cells #[.int .i64 0] 3) none)
  have HB1 := Aside0.mk (blk_grown (heap_alloc_new W (.cells #[.pointer (some ⟨pt, 0, none⟩)] 36)) (World.grownBy_alloc (W.alloc (.cells #[.pointer (some ⟨pt, 0, none⟩)] 36)) (.cells #[.int .i64 0] 3) none))
  have HB3 := Aside0.mk (heap_alloc_new (W.alloc (.cells #[.pointer (some ⟨pt, 0, none⟩)] 36)) (.cells #[.int .i64 0] 3))
  rw [World.size_alloc] at HB3
  have HM0 := Aside0.mk (h.same hA)
  have HTA := Aside0.mk (blk_grown kt hA)
  have HAA := Aside0.mk hA
  clear h kt b hD hA
  refine (callsIn_wide (n := 4)).1 ?_
  refine callsIn_of_wp_marks Try.func42 rfl trivial ?_ rfl
  simp only [Try.ntmps42, List.size_toArray, List.length_cons, List.length_nil, Nat.reduceAdd, Nat.reduceSub, Array.replicate_succ, Array.replicate_zero, List.push_toArray, List.append_toArray, List.nil_append, List.cons_append]
  have q0 := cz1 HB1.out
  gi_wp2_with (refine ⟨trivial, ?_⟩; gi_at_call 71; refine (callsIn_wide.2 (each_calls2 _ _ ⟨_, rfl⟩)).mono ?_; rintro e w5 ⟨b1, rfl, hx1, hx2, hg⟩; have HL5 := Aside0.mk (show LK B w0 W p mb pt W.heap.size (W.heap.size + 1) sz n D base N s grade 0 w5 from ⟨HM0.out.same hg, blk_grown HTA.out hg, blk_grown HB1.out hg, blk_grown HB3.out hg, grown_two HAA.out hg⟩); have HX := Aside0.mk (And.intro hx1 hx2); clear hx1 hx2 hg q0)
  obtain ⟨s1, hs1⟩ : ∃ z, z = W.heap.size := ⟨_, rfl⟩
  obtain ⟨s3, hs3⟩ : ∃ z, z = W.heap.size + 1 := ⟨_, rfl⟩
  have HSS := Aside0.mk (And.intro hs1 hs3)
  rw [← hs3, ← hs1] at HL5
  rw [← hs3, ← hs1]
  clear HB1 HB3 HM0 HTA HAA
  have HW5 := Aside0.mk (show s1 < w5.heap.size ∧ s3 < w5.heap.size ∧ b1 < w5.heap.size ∧ W.heap.size ≤ w5.heap.size ∧ b1 ≠ s3 ∧ pt ≠ s3 from by
    have := HX.out.2
    rw [World.size_alloc, World.size_alloc] at this
    have := HK.out
    exact ⟨blk_lt HL5.out.box, blk_lt HL5.out.out, blk_lt HX.out.1, HL5.out.gr.size, by omega, by omega⟩)
  clear hs1 hs3
  refine wpIn_rangeFunc_ownG rfl (by omega) (gf := 105) (lb := #[.pointer (some ⟨b1, 0, none⟩)]) rfl trivial (enters_of Try.func105 (by kernel_rfl) rfl)
    (each_stopsX (n0 := w5.heap.size) (X := fun k => k = s3) (p := p) (size := s) (grade := grade) (base := (base : Int)) (by omega) (by omega) (by omega) (blk_lt HL5.out.row) HW5.out.2.2.1 HW5.out.2.2.2.2.2 HW5.out.2.2.2.2.1 (Nat.le_refl _) HL5.out.row HX.out.1) KeptX.t (KeptX.b (Nat.le_refl _)) (Below.refl _ _) (fun _ => rfl)
    (fun (pre : List (Pl N)) W2 => LK B w0 W p mb pt s1 s3 sz n D base N s grade (lockX ws (pre.map (fun x : Pl N => x.1))) W2)
    (fun _ _ _ => False)
    (fun x A C row hs hg hr => hs.kept hg (fun j e => by have h1 := (hr j e).1; have h2 := HK.out; have h3 := HW5.out; have h6 := HSS.out; exact ⟨by omega, by omega, by omega, by omega, by omega, by omega, by omega⟩))
    (fun _ _ _ _ _ hs _ _ => hs)
    (by simpa [lockX] using HL5.out)
    (fun x => { tmps := #[.pointer (some ⟨pt, 0, none⟩), .pointer (some ⟨s1, 0, none⟩), .int .i64 0, .pointer (some ⟨s3, 0, none⟩), .int .u64 ((base : Int) + 16 * (x.1 : Nat)), undef, undef, .pointer (some ⟨pt, 0, none⟩), .func (.func 105) #[] #[.pointer (some ⟨b1, 0, none⟩)], .int .u64 ((base : Int) + 16 * (x.1 : Nat)), undef, undef, undef, undef, undef, undef, undef, undef, undef, undef, undef, undef, undef, undef, undef], defers := [] }) ?assign ?body ?done ?stop
  case assign =>
    intro l x W2 K hK
    gi_wp2
    exact hK
  case body =>
    rintro l pre ⟨i, hi⟩ W2 hC hlen
    have HC2 := Aside0.mk hC
    clear hC
    have hat : ((base : Int) + 16 * (i : Nat)) = ((base + 16 * i : Nat) : Int) := by omega
    obtain ⟨a1, a2, a3, a4, a5, a6⟩ := HBT.out.at8 hi
    have hword := word_ok HC2.out.mem ((base + 16 * i : Nat) : Int) a1 a3
    rw [HD.out.tag i hi, ← hat] at hword
    have HWD := Aside0.mk hword
    clear hat hword a1 a2 a3 a4 a5 a6
    have q0 := cz1 HC2.out.box
    have HSN := Aside0.mk (lockX_snoc ws (pre.map (fun x : Pl N => x.1)) i)
    have HLE := Aside0.mk (lockX_le ws (pre.map (fun x : Pl N => x.1)))
    rw [List.length_map] at HLE
    obtain ⟨c, hc⟩ : ∃ c, c = lockX ws (pre.map (fun x : Pl N => x.1)) := ⟨_, rfl⟩
    rw [← hc] at HC2 HSN HLE
    clear hc
    have hw3 : IntKind.i64.wrap ((c : Int) + 1) = ((c + 1 : Nat) : Int) := IntWalk.i64_in _ (by have := HLE.out; omega)
    have hL : ∀ W3, LK B w0 W p mb pt s1 s3 sz n D base N s grade (c + (if (ws i).1 = BADW then 1 else 0)) W3 → LK B w0 W p mb pt s1 s3 sz n D base N s grade (lockX ws ((pre ++ [(⟨i, hi⟩ : Pl N)]).map (fun x : Pl N => x.1))) W3 := by
      intro W3 h
      rw [List.map_append]
      rw [← HSN.out] at h
      exact h
    have HLL := Aside0.mk hL
    clear hL
    obtain ⟨y0, y1, y2, y3, y4⟩ := cz5 HC2.out.row
    gi_wp2_with fail
    refine ⟨trivial, ?_⟩
    refine (CallsIn.inRound l (callsIn_wide.2 HWD.out)).mono ?_
    rintro e w6 ⟨rfl, he⟩
    subst he
    clear q0 y0 y1 y2 y3 y4
    by_cases hw : (ws i).1 = BADW
    · have hwb : (((ws i).1 : Int) == 9223372036854775807) = true := by rw [hw]; rfl
      gi_wp2_with (refine ⟨trivial, ?_⟩; gi_at_call 64; refine (CallsIn.inRound l (callsIn_wide.2 (bad_calls _))).mono ?_; rintro e w7 ⟨rfl, hg⟩; have HC3 := Aside0.mk (HC2.out.same hg); have HG7 := Aside0.mk hg; clear hg; have q3 := cz1 HC3.out.out; have qf := blk_frozen HC3.out.out 0)
      obtain ⟨hput, hgp⟩ := HC3.out.put (c + 1) (by have := HK.out; have := HSS.out; omega) (by have := HSS.out; omega)
      refine ⟨(KeepsFrom.of_grownBy HG7.out (fun j e => by cases e)).trans (KeepsFrom.of_grownBy hgp (fun j e => by obtain rfl : s3 = j := Option.some.inj e; exact HW5.out.2.1)), (KeptX.g HG7.out (fun k e => by cases e)).t (KeptX.g hgp (fun k e => by obtain rfl : s3 = k := Option.some.inj e; exact .inl rfl)), HLL.out _ ?_⟩
      rw [if_pos hw]
      exact hput
    · have hwb : (((ws i).1 : Int) == 9223372036854775807) = false := beq_eq_false_iff_ne.2 (fun e => hw (by unfold BADW; omega))
      gi_wp2_with (refine ⟨trivial, ?_⟩; gi_at_call 64; refine (CallsIn.inRound l (callsIn_wide.2 (bad_calls _))).mono ?_; rintro e w7 ⟨rfl, hg⟩; have HC3 := Aside0.mk (HC2.out.same hg); have HG7 := Aside0.mk hg; clear hg; have q3 := cz1 HC3.out.out; have qf := blk_frozen HC3.out.out 0)
      refine ⟨KeepsFrom.of_grownBy HG7.out (fun j e => by cases e), KeptX.g HG7.out (fun k e => by cases e), HLL.out _ ?_⟩
      rw [if_neg hw]
      exact HC3.out
  case done =>
    rintro E ys W2 hE hS hC hK
    have hlw : lockX ws (ys.map (fun x : Pl N => x.1)) = lockX ws (List.range N) := by rw [show ys.map (fun x : Pl N => x.1) = List.range N from hS]
    have hC2 : LK B w0 W p mb pt s1 s3 sz n D base N s grade (lockX ws (ys.map (fun x : Pl N => x.1))) W2 := hC
    rw [hlw] at hC2
    have HC2 := Aside0.mk hC2
    clear hC hC2
    have q3 := cz1 HC2.out.out
    gi_wp2
    refine ⟨by simp, .inl ⟨_, _, rfl, run_takeDeferred hK, ?_⟩⟩
    have hgp := grownBy_putObj' W2 E (.deferred none)
    exact ⟨_, by simp [results, Try.f42, go_sem], rfl, below_grownW HC2.out.gr hgp (fun j e => by obtain rfl : E = j := Option.some.inj e; have := HW5.out; omega)⟩
  case stop =>
    rintro E c pre W2 hD _ h _
    exact h.elim
end
end Go.Proofs.Ytjnffegjpkbjmaa.Mem
