/- A processor behind a pointer: its two TLBs; New, Find, Insert; at whatever numbers. -/
import Derived.Test.YthclbckkfgmbaaaTl13
import Derived.Test.YthclbckkfgmbaaaTlQ
import Derived.Maps.Own
namespace Go.Proofs.Ythclbckkfgmbaaa.QTlbPlays
open Go.RowKit Go.Proofs.YthclbckkfgmbaaaW.PrintWords Go.Proofs.YthclbckkfgmbaaaW.PrintLast Go.Proofs.YthclbckkfgmbaaaW.PrintMore
set_option linter.unusedSimpArgs false
set_option linter.unusedVariables false
section
set_option maxHeartbeats 1000000
set_option maxRecDepth 100000
noncomputable def cpins3_T : Bool × List (List Nat × List Nat) := rtab .any (opsOf Try.f35 3)
theorem cpins3_tab : rtab .any (opsOf Try.f35 3) = cpins3_T := rfl
theorem cz3 {W : World} {g : Nat} {t : TypeId} {a0 a1 a2 : Value} (h : W.heap[g]? = some (.cells #[a0, a1, a2] t (0, 0))) : W.cell? ⟨g, 0, none⟩ = some a0 ∧ W.cell? ⟨g, 1, none⟩ = some a1 ∧ W.cell? ⟨g, 2, none⟩ = some a2 := ⟨(blk_cell h 0).trans rfl, (blk_cell h 1).trans rfl, (blk_cell h 2).trans rfl⟩
/-- A processor: its block, its two TLBs (the registers' block is g). -/
structure Cpu (B : Nat) (w0 : World) (q g p0 r0 p1 r1 : Nat) (e0 e1 : List (Option Ent)) (W : World) : Prop where
  row : W.heap[q]? = some (.cells #[.pointer (some ⟨g, 0, none⟩), .pointer (some ⟨p0, 0, none⟩), .pointer (some ⟨p1, 0, none⟩)] 81 (0, 0))
  a : Tl B w0 p0 r0 e0 W
  b : Tl B w0 p1 r1 e1 W
  ne : r0 ≠ r1
theorem Tl.nt {B w0 p r es W} (h : Tl B w0 p r es W) (b : Nat) (cs : Array Value) (t : TypeId) (ht : t ≠ 92) (hb : W.heap[b]? = some (.cells cs t (0, 0))) : b ≠ r := by
  obtain ⟨ps, hr, _⟩ := h.bits
  rintro rfl
  rw [hr] at hb
  injection hb with hb
  injection hb with _ h2
  exact ht h2.symm
theorem Cpu.same {B w0 q g p0 r0 p1 r1 e0 e1 W W'} (h : Cpu B w0 q g p0 r0 p1 r1 e0 e1 W) (hg : W.grownBy W' none) : Cpu B w0 q g p0 r0 p1 r1 e0 e1 W' := ⟨blk_grown h.row hg, h.a.same hg, h.b.same hg, h.ne⟩
theorem Cpu.setA {B w0 q g p0 r0 p1 r1 e0 e1 W W' es} (h : Cpu B w0 q g p0 r0 p1 r1 e0 e1 W) (hM : Tl B w0 p0 r0 es W') (hg : W.grownBy W' (some r0)) : Cpu B w0 q g p0 r0 p1 r1 es e1 W' :=
  ⟨(hg.block q (blk_lt h.row) (fun e => h.a.nt q _ _ (by decide) h.row (Option.some.inj e))).trans h.row, hM, h.b.kept hg (fun e => h.a.nt p1 _ _ (by decide) h.b.row (Option.some.inj e)) (fun e => h.ne (Option.some.inj e).symm) (fun k e => by cases e; exact h.a.hr) (fun b e hb e' => (h.a.nb b _ hb).2 (Option.some.inj e')), h.ne⟩
theorem Cpu.setB {B w0 q g p0 r0 p1 r1 e0 e1 W W' es} (h : Cpu B w0 q g p0 r0 p1 r1 e0 e1 W) (hM : Tl B w0 p1 r1 es W') (hg : W.grownBy W' (some r1)) : Cpu B w0 q g p0 r0 p1 r1 e0 es W' :=
  ⟨(hg.block q (blk_lt h.row) (fun e => h.b.nt q _ _ (by decide) h.row (Option.some.inj e))).trans h.row, h.a.kept hg (fun e => h.b.nt p0 _ _ (by decide) h.a.row (Option.some.inj e)) (fun e => h.ne (Option.some.inj e)) (fun k e => by cases e; exact h.b.hr) (fun b e hb e' => (h.b.nb b _ hb).2 (Option.some.inj e')), hM, h.ne⟩
theorem regs_new0 (W : World) : Calls Try.prog 73 #[] W fun x W' => ∃ g, x = .returned (.pointer (some ⟨g, 0, none⟩)) ∧ W.grownBy W' none := by
  have hmm := @run_makeMap Try.prog
  go_enter Try.func73, Try.ntmps73
  go_wp2
  go_ret
  exact ⟨W.heap.size + 1, rfl, grown_two (World.grownBy_alloc W _ none) (World.grownBy_alloc _ _ none)⟩
theorem cpu_new {B w0 W} (hb : Below B w0 W) (hB : B ≤ W.heap.size) (n : Int) :
    Calls Try.prog 32 #[.int .i64 n] W fun x W' => ∃ q g p0 r0 p1 r1 N, x = .returned (.pointer (some ⟨q, 0, none⟩)) ∧ N = slotsOf n ∧ 1 ≤ N ∧ Cpu B w0 q g p0 r0 p1 r1 (List.replicate N none) (List.replicate N none) W' ∧ W.grownBy W' none := by
  have HB := Aside0.mk hb
  have HS := Aside0.mk hB
  clear hb hB
  go_enter Try.func32, Try.ntmps32
  go_wp2_with fail
  refine (regs_new0 _).mono ?_
  rintro x0 w1 ⟨g, rfl, hg⟩
  have HG := Aside0.mk hg
  clear hg
  go_wp2_with fail
  refine (tl_new_ex (HB.out.grown HG.out HS.out (fun _ e => by cases e)) (Nat.le_trans HS.out HG.out.size) _).mono ?_
  rintro x0 w2 ⟨p0, r0, N, rfl, hN, hN1, hr0, hM, hg⟩
  have HM0 := Aside0.mk hM
  replace HG := Aside0.mk (grown_two HG.out hg)
  have HN := Aside0.mk hN
  have HN1 := Aside0.mk hN1
  clear hM hg hN hN1 hr0
  go_wp2_with fail
  refine (tl_new_ex (HB.out.grown HG.out HS.out (fun _ e => by cases e)) (Nat.le_trans HS.out HG.out.size) _).mono ?_
  rintro x0 w3 ⟨p1, r1, N2, rfl, hN2, -, hr1, hM, hg⟩
  obtain rfl : N2 = N := hN2.trans HN.out.symm
  have HNE := Aside0.mk (show r0 ≠ r1 from fun e => by subst e; have := HM0.out.rlt; omega)
  have HM1 := Aside0.mk hM
  replace HM0 := Aside0.mk (HM0.out.same hg)
  replace HG := Aside0.mk (grown_two HG.out hg)
  clear hM hg hN2 hr1
  go_wp2_with fail
  have hb2 := World.grownBy_alloc w3 (.cells #[.pointer (some ⟨g, 0, none⟩), .pointer (some ⟨p0, 0, none⟩), .pointer (some ⟨p1, 0, none⟩)] 81) none
  go_ret
  exact ⟨w3.heap.size, g, p0, r0, p1, r1, N2, rfl, HN.out, HN1.out, ⟨heap_alloc_new w3 _, HM0.out.same hb2, HM1.out.same hb2, HNE.out⟩, grown_two HG.out hb2⟩
/-- What Find tells. -/
def findE (es : List (Option Ent)) (va ctx : Int) : Ent := match findOf es (fun e => hitsB e va ctx) with | some i => (es.getD i none).getD zE | none => zE
def findB (es : List (Option Ent)) (va ctx : Int) : Bool := (findOf es (fun e => hitsB e va ctx)).isSome
theorem cpu_find0 {B w0 q g p0 r0 p1 r1 e0 e1 W} (h : Cpu B w0 q g p0 r0 p1 r1 e0 e1 W) (hw : OkL e0) (va ctx : Int) (hva : (Lit.int .u64 va).wf = true) :
    Calls Try.prog 39 #[.pointer (some ⟨q, 0, none⟩), .int .i64 0, .int .u64 va, .int .i64 ctx] W fun x W' => x = .returned (.tuple #[.agg (entA (findE e0 va ctx)), .bool (findB e0 va ctx)]) ∧ W.grownBy W' none := by
  have hu := Try.underlying26
  have hu2 := Try.underlying24
  have hg0 := World.grownBy_alloc W (.cells #[.int .i64 0, .int .i64 0, .int .u64 0, .int .u64 0, .bool false, .bool false, .bool false, .bool false, .bool false, .bool false, .bool false] 26) none
  have HB8 := Aside0.mk (heap_alloc_new W (.cells #[.int .i64 0, .int .i64 0, .int .u64 0, .int .u64 0, .bool false, .bool false, .bool false, .bool false, .bool false, .bool false, .bool false] 26))
  have HM := Aside0.mk (h.same hg0)
  have HG := Aside0.mk hg0
  have HW := Aside0.mk hw
  have HVA := Aside0.mk hva
  clear h hg0 hw hva
  go_enter Try.func39, Try.ntmps39
  go_wp2_with fail
  refine (cpu_is.calls 0 true _ rfl).mono ?_
  rintro x0 w1 ⟨rfl, hg⟩
  replace hg := drawn_grown hg
  replace HB8 := Aside0.mk (blk_grown HB8.out hg)
  replace HM := Aside0.mk (HM.out.same hg)
  replace HG := Aside0.mk (grown_two HG.out hg)
  clear hg
  obtain ⟨d0, d1, d2⟩ := cz3 HM.out.row
  go_wp2_with fail
  refine (tl_find HM.out.a HW.out va ctx HVA.out).mono ?_
  rintro x0 w2 ⟨hg, hor⟩
  clear d0 d1 d2
  replace HB8 := Aside0.mk (blk_grown HB8.out hg)
  replace HG := Aside0.mk (grown_two HG.out hg)
  clear hg HM
  have HGm := Aside0.mk (fun e : Ent => World.grownBy_alloc w2 (.cells (entA e) 26) none)
  have HLT := Aside0.mk (show W.heap.size < w2.heap.size from blk_lt HB8.out)
  rcases hor with ⟨hf, rfl⟩ | ⟨i, e, hf, hx, rfl⟩
  · have HFE := Aside0.mk (show findE e0 va ctx = zE by unfold findE; rw [hf])
    have HFB := Aside0.mk (show findB e0 va ctx = false by unfold findB; rw [hf]; rfl)
    clear hf
    have HB9 := Aside0.mk (blk_grown HB8.out (HGm.out zE))
    go_wp2_with ((refine wpList_store_row rfl 26 (.tmp 8) (.tmp 28) rfl W.heap.size (entA zE) rfl rfl 26 _ HB9.out (by kernel_rfl) rfl (by kernel_rfl) ?_); (have hbn := setRow_heap _ W.heap.size _ (entA zE) 26 _ HB9.out); (obtain ⟨z0, z1, z2, z3, z4, z5, z6, z7, z8, z9, z10⟩ := cz11 hbn))
    have hg1 := grown_own (grown_two HG.out (HGm.out zE)) (grown_row _ W.heap.size (entA zE)) (fun j e => by cases e; exact Nat.le_refl _)
    refine bodyPost_ret (v := .tuple #[.agg (entA zE), .bool false]) (by simp [results, Try.f39, go_sem, z0, z1, z2, z3, z4, z5, z6, z7, z8, z9, z10]; try exact ⟨rfl, rfl, rfl, rfl, rfl, rfl, rfl, rfl, rfl, rfl, rfl⟩) rfl ⟨by rw [HFE.out, HFB.out], hg1⟩
  · have HFE := Aside0.mk (show findE e0 va ctx = e by unfold findE; rw [hf]; simp only []; rw [hx]; rfl)
    have HFB := Aside0.mk (show findB e0 va ctx = true by unfold findB; rw [hf]; rfl)
    have hi0 : (0 : Int) ≤ (i : Int) := by omega
    clear hf hx
    have HB9 := Aside0.mk (blk_grown HB8.out (HGm.out e))
    go_wp2_with ((refine wpList_store_row rfl 26 (.tmp 8) (.tmp 28) rfl W.heap.size (entA e) rfl rfl 26 _ HB9.out (by kernel_rfl) rfl (by kernel_rfl) ?_); (have hbn := setRow_heap _ W.heap.size _ (entA e) 26 _ HB9.out); (obtain ⟨z0, z1, z2, z3, z4, z5, z6, z7, z8, z9, z10⟩ := cz11 hbn))
    have hg1 := grown_own (grown_two HG.out (HGm.out e)) (grown_row _ W.heap.size (entA e)) (fun j e => by cases e; exact Nat.le_refl _)
    refine bodyPost_ret (v := .tuple #[.agg (entA e), .bool true]) (by simp [results, Try.f39, go_sem, z0, z1, z2, z3, z4, z5, z6, z7, z8, z9, z10]) rfl ⟨by rw [HFE.out, HFB.out], hg1⟩
theorem cpu_find1 {B w0 q g p0 r0 p1 r1 e0 e1 W} (h : Cpu B w0 q g p0 r0 p1 r1 e0 e1 W) (hw : OkL e1) (va ctx : Int) (hva : (Lit.int .u64 va).wf = true) :
    Calls Try.prog 39 #[.pointer (some ⟨q, 0, none⟩), .int .i64 1, .int .u64 va, .int .i64 ctx] W fun x W' => x = .returned (.tuple #[.agg (entA (findE e1 va ctx)), .bool (findB e1 va ctx)]) ∧ W.grownBy W' none := by
  have hu := Try.underlying26
  have hu2 := Try.underlying24
  have hg0 := World.grownBy_alloc W (.cells #[.int .i64 0, .int .i64 0, .int .u64 0, .int .u64 0, .bool false, .bool false, .bool false, .bool false, .bool false, .bool false, .bool false] 26) none
  have HB8 := Aside0.mk (heap_alloc_new W (.cells #[.int .i64 0, .int .i64 0, .int .u64 0, .int .u64 0, .bool false, .bool false, .bool false, .bool false, .bool false, .bool false, .bool false] 26))
  have HM := Aside0.mk (h.same hg0)
  have HG := Aside0.mk hg0
  have HW := Aside0.mk hw
  have HVA := Aside0.mk hva
  clear h hg0 hw hva
  go_enter Try.func39, Try.ntmps39
  go_wp2_with fail
  refine (cpu_is.calls 1 true _ rfl).mono ?_
  rintro x0 w1 ⟨rfl, hg⟩
  replace hg := drawn_grown hg
  replace HB8 := Aside0.mk (blk_grown HB8.out hg)
  replace HM := Aside0.mk (HM.out.same hg)
  replace HG := Aside0.mk (grown_two HG.out hg)
  clear hg
  obtain ⟨d0, d1, d2⟩ := cz3 HM.out.row
  go_wp2_with fail
  refine (tl_find HM.out.b HW.out va ctx HVA.out).mono ?_
  rintro x0 w2 ⟨hg, hor⟩
  clear d0 d1 d2
  replace HB8 := Aside0.mk (blk_grown HB8.out hg)
  replace HG := Aside0.mk (grown_two HG.out hg)
  clear hg HM
  have HGm := Aside0.mk (fun e : Ent => World.grownBy_alloc w2 (.cells (entA e) 26) none)
  have HLT := Aside0.mk (show W.heap.size < w2.heap.size from blk_lt HB8.out)
  rcases hor with ⟨hf, rfl⟩ | ⟨i, e, hf, hx, rfl⟩
  · have HFE := Aside0.mk (show findE e1 va ctx = zE by unfold findE; rw [hf])
    have HFB := Aside0.mk (show findB e1 va ctx = false by unfold findB; rw [hf]; rfl)
    clear hf
    have HB9 := Aside0.mk (blk_grown HB8.out (HGm.out zE))
    go_wp2_with ((refine wpList_store_row rfl 26 (.tmp 8) (.tmp 28) rfl W.heap.size (entA zE) rfl rfl 26 _ HB9.out (by kernel_rfl) rfl (by kernel_rfl) ?_); (have hbn := setRow_heap _ W.heap.size _ (entA zE) 26 _ HB9.out); (obtain ⟨z0, z1, z2, z3, z4, z5, z6, z7, z8, z9, z10⟩ := cz11 hbn))
    have hg1 := grown_own (grown_two HG.out (HGm.out zE)) (grown_row _ W.heap.size (entA zE)) (fun j e => by cases e; exact Nat.le_refl _)
    refine bodyPost_ret (v := .tuple #[.agg (entA zE), .bool false]) (by simp [results, Try.f39, go_sem, z0, z1, z2, z3, z4, z5, z6, z7, z8, z9, z10]; try exact ⟨rfl, rfl, rfl, rfl, rfl, rfl, rfl, rfl, rfl, rfl, rfl⟩) rfl ⟨by rw [HFE.out, HFB.out], hg1⟩
  · have HFE := Aside0.mk (show findE e1 va ctx = e by unfold findE; rw [hf]; simp only []; rw [hx]; rfl)
    have HFB := Aside0.mk (show findB e1 va ctx = true by unfold findB; rw [hf]; rfl)
    have hi0 : (0 : Int) ≤ (i : Int) := by omega
    clear hf hx
    have HB9 := Aside0.mk (blk_grown HB8.out (HGm.out e))
    go_wp2_with ((refine wpList_store_row rfl 26 (.tmp 8) (.tmp 28) rfl W.heap.size (entA e) rfl rfl 26 _ HB9.out (by kernel_rfl) rfl (by kernel_rfl) ?_); (have hbn := setRow_heap _ W.heap.size _ (entA e) 26 _ HB9.out); (obtain ⟨z0, z1, z2, z3, z4, z5, z6, z7, z8, z9, z10⟩ := cz11 hbn))
    have hg1 := grown_own (grown_two HG.out (HGm.out e)) (grown_row _ W.heap.size (entA e)) (fun j e => by cases e; exact Nat.le_refl _)
    refine bodyPost_ret (v := .tuple #[.agg (entA e), .bool true]) (by simp [results, Try.f39, go_sem, z0, z1, z2, z3, z4, z5, z6, z7, z8, z9, z10]) rfl ⟨by rw [HFE.out, HFB.out], hg1⟩
theorem cpu_insert0 {B w0 q g p0 r0 p1 r1 e0 e1 W} (h : Cpu B w0 q g p0 r0 p1 r1 e0 e1 W) (hw : OkL e0) (x : Ent) (hx : EntW x) (pick : Int) (hp : (Lit.int .i64 pick).wf = true) (i er : Int) (es' : List (Option Ent)) (hi : insOf e0 x pick = (i, er, es')) :
    Calls Try.prog 35 #[.pointer (some ⟨q, 0, none⟩), .int .i64 0, .agg (entA x), .int .i64 pick] W fun y W' => y = .returned (.tuple #[.int .i64 i, .int .i64 er]) ∧ Cpu B w0 q g p0 r0 p1 r1 es' e1 W' ∧ W.grownBy W' (some r0) := by
  have hu := Try.underlying26
  have hu2 := Try.underlying24
  have hg0 := World.grownBy_alloc W (.cells (entA x) 26) none
  have HB6 := Aside0.mk (heap_alloc_new W (.cells (entA x) 26))
  have HM := Aside0.mk (h.same hg0)
  have HG := Aside0.mk hg0
  have HW := Aside0.mk hw
  have HX := Aside0.mk hx
  have HP := Aside0.mk hp
  have HI := Aside0.mk hi
  clear h hg0 hw hx hp hi
  go_enter Try.func35, Try.ntmps35
  go_wp2_with fail
  refine (cpu_is.calls 0 true _ rfl).mono ?_
  rintro x0 w1 ⟨rfl, hg⟩
  replace hg := drawn_grown hg
  replace HB6 := Aside0.mk (blk_grown HB6.out hg)
  replace HM := Aside0.mk (HM.out.same (grown_two hg (grown_drew _ none)))
  replace HG := Aside0.mk (grown_two HG.out (grown_two hg (grown_drew _ none)))
  clear hg
  go_wp2_with fail
  generalize W.heap.size = h6 at HB6 ⊢
  refine start_ (n := 13) (S := fun w' => w'.heap[h6]? = some (.cells (entA x) 26 (0, 0)) ∧ w'.heap[q]? = some (.cells #[.pointer (some ⟨g, 0, none⟩), .pointer (some ⟨p0, 0, none⟩), .pointer (some ⟨p1, 0, none⟩)] 81 (0, 0))) (ds := []) #[false, false, false, false, false, false, false, false, false, false, false, false, false] (by kernel_rfl) rfl rfl ⟨HB6.out, HM.out.row⟩ (fun hHeld => ?_)
  refine with_tab cpins3_tab (fun HT_ => ?_)
  refine pure_ (i := 0) (N := some 13) (v := ?_) (a' := ?_) #[true, false, false, false, false, false, false, false, false, false, false, false, false] rfl rfl (any_of HT_.out (by kernel_rfl)) (fun _ _ _ h => h) (Or.inl ⟨by rfl, ?_⟩) ?_ ?_
  rotate_left
  · intro w'
    go_simp
    with_reducible rfl
  rotate_left
  · simp only [Act.put, List.setIfInBounds_toArray, List.set_cons_zero, List.set_cons_succ, i64_w, i32_w]
    rfl
  refine pure_ (i := 1) (N := some 14) (v := ?_) (a' := ?_) #[true, true, false, false, false, false, false, false, false, false, false, false, false] rfl rfl (any_of HT_.out (by kernel_rfl)) (fun _ _ _ h => h) (Or.inl ⟨by rfl, ?_⟩) ?_ ?_
  rotate_left
  · intro w'
    go_simp
    with_reducible rfl
  rotate_left
  · simp only [Act.put, List.setIfInBounds_toArray, List.set_cons_zero, List.set_cons_succ, i64_w, i32_w]
    rfl
  refine pure_ (i := 2) (N := some 15) (v := .pointer (some ⟨q, 0, none⟩)) (a' := ?_) #[true, true, true, false, false, false, false, false, false, false, false, false, false] rfl rfl (any_of HT_.out (by kernel_rfl)) (fun _ _ _ h => h) (Or.inl ⟨by rfl, ?_⟩) ?_ ?_
  · intro w'
    go_simp
  rotate_left
  · simp only [Act.put, List.setIfInBounds_toArray, List.set_cons_zero, List.set_cons_succ, i64_w, i32_w]
    rfl
  refine pure_ (i := 3) (N := some 16) (v := ?_) (a' := ?_) #[true, true, true, true, false, false, false, false, false, false, false, false, false] rfl rfl (any_of HT_.out (by kernel_rfl)) (fun _ _ _ h => h) (Or.inl ⟨by rfl, ?_⟩) ?_ ?_
  rotate_left
  · intro w'
    go_simp
    with_reducible rfl
  rotate_left
  · simp only [Act.put, List.setIfInBounds_toArray, List.set_cons_zero, List.set_cons_succ, i64_w, i32_w]
    rfl
  refine pure_ (i := 4) (N := some 17) (v := ?_) (a' := ?_) #[true, true, true, true, true, false, false, false, false, false, false, false, false] rfl rfl (any_of HT_.out (by kernel_rfl)) (fun _ _ _ h => h) (Or.inl ⟨by rfl, ?_⟩) ?_ ?_
  rotate_left
  · intro w'
    go_simp
    with_reducible rfl
  rotate_left
  · simp only [Act.put, List.setIfInBounds_toArray, List.set_cons_zero, List.set_cons_succ, i64_w, i32_w]
    rfl
  refine pure_ (i := 7) (N := some 20) (v := ?_) (a' := ?_) #[true, true, true, true, true, false, false, true, false, false, false, false, false] rfl rfl (any_of HT_.out (by kernel_rfl)) (fun _ _ _ h => h) (Or.inl ⟨by rfl, ?_⟩) ?_ ?_
  rotate_left
  · intro w'
    go_simp
    with_reducible rfl
  rotate_left
  · simp only [Act.put, List.setIfInBounds_toArray, List.set_cons_zero, List.set_cons_succ, i64_w, i32_w]
    rfl
  refine take_ (i := 5) (N := some 18) (v := .pointer (some ⟨p0, 0, none⟩)) (a' := ?_) #[true, true, true, true, true, true, false, true, false, false, false, false, false] rfl rfl (take_of HT_.out (by kernel_rfl)) (fun _ _ _ h => h) (Or.inl ⟨by rfl, ?_⟩) hHeld ?_ ?_
  · rintro w' ⟨s1, s2⟩
    obtain ⟨d0, d1, d2⟩ := cz3 s2
    go_simp
  rotate_left
  · simp only [Act.put, List.setIfInBounds_toArray, List.set_cons_zero, List.set_cons_succ, i64_w, i32_w]
    rfl
  refine take_ (i := 6) (N := some 19) (v := .agg (entA x)) (a' := ?_) #[true, true, true, true, true, true, true, true, false, false, false, false, false] rfl rfl (take_of HT_.out (by kernel_rfl)) (fun _ _ _ h => h) (Or.inl ⟨by rfl, ?_⟩) hHeld ?_ ?_
  · rintro w' ⟨s1, s2⟩
    obtain ⟨q0, q1, q2, q3, q4, q5, q6, q7, q8, q9, q10⟩ := cz11 s1
    go_simp
  rotate_left
  · simp only [Act.put, List.setIfInBounds_toArray, List.set_cons_zero, List.set_cons_succ, i64_w, i32_w]
    rfl
  refine one_ (i := 8) (N := some 21) #[true, true, true, true, true, true, true, true, true, false, false, false, false] rfl rfl (one_of HT_.out (by kernel_rfl)) (by decide) (fun K hK => ?_)
  refine goes_ Try.func19 (by kernel_rfl) rfl #[.pointer (some ⟨p0, 0, none⟩), .agg (entA x), .int .i64 pick] (by rfl) rfl rfl (by (try simp only [List.map_toArray, List.map_cons, List.map_nil]); first | done | rfl) ?_
  refine (tl_insert (HM.out.a) HW.out _ HX.out _ HP.out _ _ _ HI.out).mono ?_
  rintro x0 wn ⟨rfl, hM, hg⟩
  have hs : wn.heap[h6]? = some (.cells (entA x) 26 (0, 0)) ∧ wn.heap[q]? = some (.cells #[.pointer (some ⟨g, 0, none⟩), .pointer (some ⟨p0, 0, none⟩), .pointer (some ⟨p1, 0, none⟩)] 81 (0, 0)) := ⟨(hg.block h6 (blk_lt hHeld.1) (fun e => (HM.out.a.nb h6 _ hHeld.1).2 (Option.some.inj e))).trans hHeld.1, (HM.out.setA hM hg).row⟩
  have HM2 := Aside0.mk (HM.out.setA hM hg)
  have HG2 := Aside0.mk (grown_two (grown_but HG.out (some r0)) hg)
  clear hM hg HM HG
  refine ⟨_, rfl, ?_⟩
  refine hK.out _ _ hs (fun hHeld => ?_)
  clear hK K
  refine norm_ (a' := ?_) ?_ ?_
  rotate_left
  · show Act.put _ (some 21) _ = _
    simp only [Act.put, List.setIfInBounds_toArray, List.set_cons_zero, List.set_cons_succ, i64_w, i32_w]
    rfl
  refine pure_ (i := 9) (N := some 22) (v := ?_) (a' := ?_) #[true, true, true, true, true, true, true, true, true, true, false, false, false] rfl rfl (any_of HT_.out (by kernel_rfl)) (fun _ _ _ h => h) (Or.inl ⟨by rfl, ?_⟩) ?_ ?_
  rotate_left
  · intro w'
    go_simp
    with_reducible rfl
  rotate_left
  · simp only [Act.put, List.setIfInBounds_toArray, List.set_cons_zero, List.set_cons_succ, i64_w, i32_w]
    rfl
  refine pure_ (i := 10) (N := some 23) (v := ?_) (a' := ?_) #[true, true, true, true, true, true, true, true, true, true, true, false, false] rfl rfl (any_of HT_.out (by kernel_rfl)) (fun _ _ _ h => h) (Or.inl ⟨by rfl, ?_⟩) ?_ ?_
  rotate_left
  · intro w'
    go_simp
    with_reducible rfl
  rotate_left
  · simp only [Act.put, List.setIfInBounds_toArray, List.set_cons_zero, List.set_cons_succ, i64_w, i32_w]
    rfl
  refine pure_ (i := 11) (N := some 8) (v := ?_) (a' := ?_) #[true, true, true, true, true, true, true, true, true, true, true, true, false] rfl rfl (any_of HT_.out (by kernel_rfl)) (fun _ _ _ h => h) (Or.inl ⟨by rfl, ?_⟩) ?_ ?_
  rotate_left
  · intro w'
    go_simp
    with_reducible rfl
  rotate_left
  · simp only [Act.put, List.setIfInBounds_toArray, List.set_cons_zero, List.set_cons_succ, i64_w, i32_w]
    rfl
  refine pure_ (i := 12) (N := some 9) (v := ?_) (a' := ?_) #[true, true, true, true, true, true, true, true, true, true, true, true, true] rfl rfl (any_of HT_.out (by kernel_rfl)) (fun _ _ _ h => h) (Or.inl ⟨by rfl, ?_⟩) ?_ ?_
  rotate_left
  · intro w'
    go_simp
    with_reducible rfl
  rotate_left
  · simp only [Act.put, List.setIfInBounds_toArray, List.set_cons_zero, List.set_cons_succ, i64_w, i32_w]
    rfl
  refine done_ (done_of HT_.out (by kernel_rfl)) ?_
  go_wp2
  go_ret2
  exact ⟨rfl, HM2.out, HG2.out⟩
theorem cpu_insert1 {B w0 q g p0 r0 p1 r1 e0 e1 W} (h : Cpu B w0 q g p0 r0 p1 r1 e0 e1 W) (hw : OkL e1) (x : Ent) (hx : EntW x) (pick : Int) (hp : (Lit.int .i64 pick).wf = true) (i er : Int) (es' : List (Option Ent)) (hi : insOf e1 x pick = (i, er, es')) :
    Calls Try.prog 35 #[.pointer (some ⟨q, 0, none⟩), .int .i64 1, .agg (entA x), .int .i64 pick] W fun y W' => y = .returned (.tuple #[.int .i64 i, .int .i64 er]) ∧ Cpu B w0 q g p0 r0 p1 r1 e0 es' W' ∧ W.grownBy W' (some r1) := by
  have hu := Try.underlying26
  have hu2 := Try.underlying24
  have hg0 := World.grownBy_alloc W (.cells (entA x) 26) none
  have HB6 := Aside0.mk (heap_alloc_new W (.cells (entA x) 26))
  have HM := Aside0.mk (h.same hg0)
  have HG := Aside0.mk hg0
  have HW := Aside0.mk hw
  have HX := Aside0.mk hx
  have HP := Aside0.mk hp
  have HI := Aside0.mk hi
  clear h hg0 hw hx hp hi
  go_enter Try.func35, Try.ntmps35
  go_wp2_with fail
  refine (cpu_is.calls 1 true _ rfl).mono ?_
  rintro x0 w1 ⟨rfl, hg⟩
  replace hg := drawn_grown hg
  replace HB6 := Aside0.mk (blk_grown HB6.out hg)
  replace HM := Aside0.mk (HM.out.same (grown_two hg (grown_drew _ none)))
  replace HG := Aside0.mk (grown_two HG.out (grown_two hg (grown_drew _ none)))
  clear hg
  go_wp2_with fail
  generalize W.heap.size = h6 at HB6 ⊢
  refine start_ (n := 13) (S := fun w' => w'.heap[h6]? = some (.cells (entA x) 26 (0, 0)) ∧ w'.heap[q]? = some (.cells #[.pointer (some ⟨g, 0, none⟩), .pointer (some ⟨p0, 0, none⟩), .pointer (some ⟨p1, 0, none⟩)] 81 (0, 0))) (ds := []) #[false, false, false, false, false, false, false, false, false, false, false, false, false] (by kernel_rfl) rfl rfl ⟨HB6.out, HM.out.row⟩ (fun hHeld => ?_)
  refine with_tab cpins3_tab (fun HT_ => ?_)
  refine pure_ (i := 0) (N := some 13) (v := ?_) (a' := ?_) #[true, false, false, false, false, false, false, false, false, false, false, false, false] rfl rfl (any_of HT_.out (by kernel_rfl)) (fun _ _ _ h => h) (Or.inl ⟨by rfl, ?_⟩) ?_ ?_
  rotate_left
  · intro w'
    go_simp
    with_reducible rfl
  rotate_left
  · simp only [Act.put, List.setIfInBounds_toArray, List.set_cons_zero, List.set_cons_succ, i64_w, i32_w]
    rfl
  refine pure_ (i := 1) (N := some 14) (v := ?_) (a' := ?_) #[true, true, false, false, false, false, false, false, false, false, false, false, false] rfl rfl (any_of HT_.out (by kernel_rfl)) (fun _ _ _ h => h) (Or.inl ⟨by rfl, ?_⟩) ?_ ?_
  rotate_left
  · intro w'
    go_simp
    with_reducible rfl
  rotate_left
  · simp only [Act.put, List.setIfInBounds_toArray, List.set_cons_zero, List.set_cons_succ, i64_w, i32_w]
    rfl
  refine pure_ (i := 2) (N := some 15) (v := .pointer (some ⟨q, 0, none⟩)) (a' := ?_) #[true, true, true, false, false, false, false, false, false, false, false, false, false] rfl rfl (any_of HT_.out (by kernel_rfl)) (fun _ _ _ h => h) (Or.inl ⟨by rfl, ?_⟩) ?_ ?_
  · intro w'
    go_simp
  rotate_left
  · simp only [Act.put, List.setIfInBounds_toArray, List.set_cons_zero, List.set_cons_succ, i64_w, i32_w]
    rfl
  refine pure_ (i := 3) (N := some 16) (v := ?_) (a' := ?_) #[true, true, true, true, false, false, false, false, false, false, false, false, false] rfl rfl (any_of HT_.out (by kernel_rfl)) (fun _ _ _ h => h) (Or.inl ⟨by rfl, ?_⟩) ?_ ?_
  rotate_left
  · intro w'
    go_simp
    with_reducible rfl
  rotate_left
  · simp only [Act.put, List.setIfInBounds_toArray, List.set_cons_zero, List.set_cons_succ, i64_w, i32_w]
    rfl
  refine pure_ (i := 4) (N := some 17) (v := ?_) (a' := ?_) #[true, true, true, true, true, false, false, false, false, false, false, false, false] rfl rfl (any_of HT_.out (by kernel_rfl)) (fun _ _ _ h => h) (Or.inl ⟨by rfl, ?_⟩) ?_ ?_
  rotate_left
  · intro w'
    go_simp
    with_reducible rfl
  rotate_left
  · simp only [Act.put, List.setIfInBounds_toArray, List.set_cons_zero, List.set_cons_succ, i64_w, i32_w]
    rfl
  refine pure_ (i := 7) (N := some 20) (v := ?_) (a' := ?_) #[true, true, true, true, true, false, false, true, false, false, false, false, false] rfl rfl (any_of HT_.out (by kernel_rfl)) (fun _ _ _ h => h) (Or.inl ⟨by rfl, ?_⟩) ?_ ?_
  rotate_left
  · intro w'
    go_simp
    with_reducible rfl
  rotate_left
  · simp only [Act.put, List.setIfInBounds_toArray, List.set_cons_zero, List.set_cons_succ, i64_w, i32_w]
    rfl
  refine take_ (i := 5) (N := some 18) (v := .pointer (some ⟨p1, 0, none⟩)) (a' := ?_) #[true, true, true, true, true, true, false, true, false, false, false, false, false] rfl rfl (take_of HT_.out (by kernel_rfl)) (fun _ _ _ h => h) (Or.inl ⟨by rfl, ?_⟩) hHeld ?_ ?_
  · rintro w' ⟨s1, s2⟩
    obtain ⟨d0, d1, d2⟩ := cz3 s2
    go_simp
  rotate_left
  · simp only [Act.put, List.setIfInBounds_toArray, List.set_cons_zero, List.set_cons_succ, i64_w, i32_w]
    rfl
  refine take_ (i := 6) (N := some 19) (v := .agg (entA x)) (a' := ?_) #[true, true, true, true, true, true, true, true, false, false, false, false, false] rfl rfl (take_of HT_.out (by kernel_rfl)) (fun _ _ _ h => h) (Or.inl ⟨by rfl, ?_⟩) hHeld ?_ ?_
  · rintro w' ⟨s1, s2⟩
    obtain ⟨q0, q1, q2, q3, q4, q5, q6, q7, q8, q9, q10⟩ := cz11 s1
    go_simp
  rotate_left
  · simp only [Act.put, List.setIfInBounds_toArray, List.set_cons_zero, List.set_cons_succ, i64_w, i32_w]
    rfl
  refine one_ (i := 8) (N := some 21) #[true, true, true, true, true, true, true, true, true, false, false, false, false] rfl rfl (one_of HT_.out (by kernel_rfl)) (by decide) (fun K hK => ?_)
  refine goes_ Try.func19 (by kernel_rfl) rfl #[.pointer (some ⟨p1, 0, none⟩), .agg (entA x), .int .i64 pick] (by rfl) rfl rfl (by (try simp only [List.map_toArray, List.map_cons, List.map_nil]); first | done | rfl) ?_
  refine (tl_insert (HM.out.b) HW.out _ HX.out _ HP.out _ _ _ HI.out).mono ?_
  rintro x0 wn ⟨rfl, hM, hg⟩
  have hs : wn.heap[h6]? = some (.cells (entA x) 26 (0, 0)) ∧ wn.heap[q]? = some (.cells #[.pointer (some ⟨g, 0, none⟩), .pointer (some ⟨p0, 0, none⟩), .pointer (some ⟨p1, 0, none⟩)] 81 (0, 0)) := ⟨(hg.block h6 (blk_lt hHeld.1) (fun e => (HM.out.b.nb h6 _ hHeld.1).2 (Option.some.inj e))).trans hHeld.1, (HM.out.setB hM hg).row⟩
  have HM2 := Aside0.mk (HM.out.setB hM hg)
  have HG2 := Aside0.mk (grown_two (grown_but HG.out (some r1)) hg)
  clear hM hg HM HG
  refine ⟨_, rfl, ?_⟩
  refine hK.out _ _ hs (fun hHeld => ?_)
  clear hK K
  refine norm_ (a' := ?_) ?_ ?_
  rotate_left
  · show Act.put _ (some 21) _ = _
    simp only [Act.put, List.setIfInBounds_toArray, List.set_cons_zero, List.set_cons_succ, i64_w, i32_w]
    rfl
  refine pure_ (i := 9) (N := some 22) (v := ?_) (a' := ?_) #[true, true, true, true, true, true, true, true, true, true, false, false, false] rfl rfl (any_of HT_.out (by kernel_rfl)) (fun _ _ _ h => h) (Or.inl ⟨by rfl, ?_⟩) ?_ ?_
  rotate_left
  · intro w'
    go_simp
    with_reducible rfl
  rotate_left
  · simp only [Act.put, List.setIfInBounds_toArray, List.set_cons_zero, List.set_cons_succ, i64_w, i32_w]
    rfl
  refine pure_ (i := 10) (N := some 23) (v := ?_) (a' := ?_) #[true, true, true, true, true, true, true, true, true, true, true, false, false] rfl rfl (any_of HT_.out (by kernel_rfl)) (fun _ _ _ h => h) (Or.inl ⟨by rfl, ?_⟩) ?_ ?_
  rotate_left
  · intro w'
    go_simp
    with_reducible rfl
  rotate_left
  · simp only [Act.put, List.setIfInBounds_toArray, List.set_cons_zero, List.set_cons_succ, i64_w, i32_w]
    rfl
  refine pure_ (i := 11) (N := some 8) (v := ?_) (a' := ?_) #[true, true, true, true, true, true, true, true, true, true, true, true, false] rfl rfl (any_of HT_.out (by kernel_rfl)) (fun _ _ _ h => h) (Or.inl ⟨by rfl, ?_⟩) ?_ ?_
  rotate_left
  · intro w'
    go_simp
    with_reducible rfl
  rotate_left
  · simp only [Act.put, List.setIfInBounds_toArray, List.set_cons_zero, List.set_cons_succ, i64_w, i32_w]
    rfl
  refine pure_ (i := 12) (N := some 9) (v := ?_) (a' := ?_) #[true, true, true, true, true, true, true, true, true, true, true, true, true] rfl rfl (any_of HT_.out (by kernel_rfl)) (fun _ _ _ h => h) (Or.inl ⟨by rfl, ?_⟩) ?_ ?_
  rotate_left
  · intro w'
    go_simp
    with_reducible rfl
  rotate_left
  · simp only [Act.put, List.setIfInBounds_toArray, List.set_cons_zero, List.set_cons_succ, i64_w, i32_w]
    rfl
  refine done_ (done_of HT_.out (by kernel_rfl)) ?_
  go_wp2
  go_ret2
  exact ⟨rfl, HM2.out, HG2.out⟩
end
end Go.Proofs.Ythclbckkfgmbaaa.QTlbPlays
