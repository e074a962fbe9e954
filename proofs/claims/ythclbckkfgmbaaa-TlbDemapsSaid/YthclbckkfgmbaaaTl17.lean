/- Any deed; a list of deeds, opened out of what a law is handed; at whatever numbers. -/
import Derived.Test.YthclbckkfgmbaaaTl15
import Derived.Deep.Slices
import Derived.DataElems
import Derived.DataReads
import Derived.WalkKit
import Derived.ProofKit
import Derived.OpenShut
import Derived.ShutString
import Derived.ChangeOld
import Derived.Below
/- merged: Tl16 -/
namespace Go.Proofs.Ythclbckkfgmbaaa.QTlbPlays
open Go.RowKit Go.Proofs.YthclbckkfgmbaaaW.PrintWords Go.Proofs.YthclbckkfgmbaaaW.PrintLast Go.Proofs.YthclbckkfgmbaaaW.PrintMore
set_option linter.unusedSimpArgs false
set_option linter.unusedVariables false
section
set_option maxHeartbeats 1000000
set_option maxRecDepth 100000
noncomputable def does28_T : Bool × List (List Nat × List Nat) := rtab .any (opsOf Try.f29 28)
theorem does28_tab : rtab .any (opsOf Try.f29 28) = does28_T := rfl
theorem tl_find_nil {B w0 p r es W} (h : Tl B w0 p r es W) (hw : OkL es) (va ctx : Int) (hva : (Lit.int .u64 va).wf = true) (hf : findOf es (fun e => hitsB e va ctx) = none) :
    Calls Try.prog 20 #[.pointer (some ⟨p, 0, none⟩), .int .u64 va, .int .i64 ctx] W fun x W' => x = .returned (.tuple #[.agg #[.int .i64 0, .int .i64 0, .int .u64 0, .int .u64 0, .bool false, .bool false, .bool false, .bool false, .bool false, .bool false, .bool false], .int .i64 (-1)]) ∧ W.grownBy W' none := tl_find_none h hw va ctx hva hf
structure EntC (w : World) (y : Addr) (e : Ent) : Prop where
  c0 : w.cell? (y) = some (.int .i64 e.f0)
  c1 : w.cell? ⟨(y).block, (y).off + 1, none⟩ = some (.int .i64 e.f1)
  c2 : w.cell? ⟨(y).block, (y).off + 2, none⟩ = some (.int .u64 e.f2)
  c3 : w.cell? ⟨(y).block, (y).off + 3, none⟩ = some (.int .u64 e.f3)
  c4 : w.cell? ⟨(y).block, (y).off + 4, none⟩ = some (.bool e.f4.f0)
  c5 : w.cell? ⟨(y).block, (y).off + 5, none⟩ = some (.bool e.f4.f1)
  c6 : w.cell? ⟨(y).block, (y).off + 6, none⟩ = some (.bool e.f4.f2)
  c7 : w.cell? ⟨(y).block, (y).off + 7, none⟩ = some (.bool e.f4.f3)
  c8 : w.cell? ⟨(y).block, (y).off + 8, none⟩ = some (.bool e.f4.f4)
  c9 : w.cell? ⟨(y).block, (y).off + 9, none⟩ = some (.bool e.f4.f5)
  c10 : w.cell? ⟨(y).block, (y).off + 10, none⟩ = some (.bool e.f5)
theorem V_row {W : World} {base : Nat} {ok : Nat → Prop} {A : Option Addr} {c : Nat} {l : List Ent} (h : Kd.V k26 26 W base ok (.slice A l.length c) l) (i : Nat) (hi : i < l.length) : ∃ ad, A = some ad ∧ EntC W (ad.add (i * 11)) (l.getD i zE) := by
  obtain ⟨ad, e, c0, c1, c2, c3, c4, c5, c6, c7, c8, c9, c10⟩ := at_T26 (Kd.V_reads' h).2.2 (i : Int) (by omega) (by omega)
  rw [Int.toNat_natCast] at c0 c1 c2 c3 c4 c5 c6 c7 c8 c9 c10
  exact ⟨ad, e, c0, c1, c2, c3, c4, c5, c6, c7, c8, c9, c10⟩
theorem does_6 {B w0 p r es W} (h : Tl B w0 p r es W) (hinv : Inv es) {base : Nat} (A : Option Addr) (c : Nat) (hv : Kd.V k26 26 W base (fun k => k ≠ r) (.slice A (refL es).length c) (refL es)) (kd : Int) (k0 : ¬ kd = 0) (k1 : ¬ kd = 1) (k2 : ¬ kd = 2) (k3 : ¬ kd = 3) (k4 : ¬ kd = 4) (k5 : ¬ kd = 5) (n ctx va : Int) (e : Ent) (raw : Bool) (hn : (Lit.int .i64 n).wf = true) (hva : (Lit.int .u64 va).wf = true) (he : EntW e) :
    Calls Try.prog 29 #[.pointer (some ⟨p, 0, none⟩), .slice A (refL es).length c, .agg #[.int .i64 kd, .int .i64 n, .int .i64 ctx, .int .u64 va, .int .i64 e.f0, .int .i64 e.f1, .int .u64 e.f2, .int .u64 e.f3, .bool e.f4.f0, .bool e.f4.f1, .bool e.f4.f2, .bool e.f4.f3, .bool e.f4.f4, .bool e.f4.f5, .bool e.f5, .bool raw]] W fun x W' => ∃ v' es', x = .returned (.tuple #[v', .bool true]) ∧ Inv es' ∧ es'.length = es.length ∧ Tl B w0 p r es' W' ∧ Kd.V k26 26 W' 0 (fun k => k ≠ r) v' (refL es') ∧ W.grownBy W' (some r) := by
  have hu := Try.underlying26
  have hu2 := Try.underlying24
  have hu3 := Try.underlying54
  have hg0 := World.grownBy_alloc W (.cells #[.int .i64 kd, .int .i64 n, .int .i64 ctx, .int .u64 va, .int .i64 e.f0, .int .i64 e.f1, .int .u64 e.f2, .int .u64 e.f3, .bool e.f4.f0, .bool e.f4.f1, .bool e.f4.f2, .bool e.f4.f3, .bool e.f4.f4, .bool e.f4.f5, .bool e.f5, .bool raw] 54) none
  have HB5 := Aside0.mk (heap_alloc_new W (.cells #[.int .i64 kd, .int .i64 n, .int .i64 ctx, .int .u64 va, .int .i64 e.f0, .int .i64 e.f1, .int .u64 e.f2, .int .u64 e.f3, .bool e.f4.f0, .bool e.f4.f1, .bool e.f4.f2, .bool e.f4.f3, .bool e.f4.f4, .bool e.f4.f5, .bool e.f5, .bool raw] 54))
  have HM0 := Aside0.mk (h.same hg0)
  have HV0 := Aside0.mk (Kd.V_grown hv hg0 (by simp))
  have HINV := Aside0.mk hinv
  have HN := Aside0.mk hn
  have HVA := Aside0.mk hva
  have HWE0 := Aside0.mk he
  have HW1 := Aside0.mk (entry_W he raw)
  have HNE := Aside0.mk (show W.heap.size ≠ r from fun e => by have := h.rlt; omega)
  have HGW := Aside0.mk (grown_but hg0 (some r))
  have HL64 := Aside0.mk h.len
  have HL1 := Aside0.mk h.one
  clear h hinv hv hn hva he hg0
  obtain ⟨q0, q1, q2, q3, q4, q5, q6, q7, q8, q9, q10, q11, q12, q13, q14, q15⟩ := cz16 HB5.out
  go_enter Try.func29, Try.ntmps29
  have HRI := Aside0.mk (ref_find HINV.out.ok HL64.out HVA.out ctx)
  have HV := HV0
  have HM := HM0
  clear HV0 HM0
  cases hf : findOf es (fun e => hitsB e va ctx) with
  | none =>
    rw [hf] at HRI
    have HFN := Aside0.mk hf
    clear hf
    go_wp2_with fail
    refine (tl_find_nil HM.out HINV.out.ok va ctx HVA.out HFN.out).mono ?_
    rintro x0 wn ⟨rfl, hg0⟩
    have hg := grown_two hg0 (World.grownBy_alloc wn (.cells #[.int .i64 0, .int .i64 0, .int .u64 0, .int .u64 0, .bool false, .bool false, .bool false, .bool false, .bool false, .bool false, .bool false] 26) none)
    replace HM := Aside0.mk (HM.out.same hg)
    replace HV := Aside0.mk (Kd.V_grown HV.out hg (by simp)); replace HGW := Aside0.mk (grown_two HGW.out (grown_but hg (some r)))
    have HF23 := Aside0.mk (heap_alloc_new wn (.cells #[.int .i64 0, .int .i64 0, .int .u64 0, .int .u64 0, .bool false, .bool false, .bool false, .bool false, .bool false, .bool false, .bool false] 26))
    clear q0 q1 q2 q3 q4 q5 q6 q7 q8 q9 q10 q11 q12 q13 q14 q15
    replace HB5 := Aside0.mk (blk_grown HB5.out hg)
    obtain ⟨q0, q1, q2, q3, q4, q5, q6, q7, q8, q9, q10, q11, q12, q13, q14, q15⟩ := cz16 HB5.out
    clear hg hg0
    go_wp2_with fail
    refine (lookasideref06_Find.calls 1000 A c (refL es) va ctx _ _ (Kd.V_reads' HV.out).2.2 (Kd.V_reads' HV.out).2.1 HRI.out).mono ?_
    rintro x0 wm ⟨rfl, hb⟩
    have hg0 := below_grown hb
    have hg := grown_two hg0 (World.grownBy_alloc wm (.cells #[.int .i64 0, .int .i64 0, .int .u64 0, .int .u64 0, .bool false, .bool false, .bool false, .bool false, .bool false, .bool false, .bool false] 26) none)
    replace HM := Aside0.mk (HM.out.same hg)
    replace HV := Aside0.mk (Kd.V_grown HV.out hg (by simp)); replace HGW := Aside0.mk (grown_two HGW.out (grown_but hg (some r)))
    replace HF23 := Aside0.mk (blk_grown HF23.out hg)
    have HF26 := Aside0.mk (heap_alloc_new wm (.cells #[.int .i64 0, .int .i64 0, .int .u64 0, .int .u64 0, .bool false, .bool false, .bool false, .bool false, .bool false, .bool false, .bool false] 26))
    clear q0 q1 q2 q3 q4 q5 q6 q7 q8 q9 q10 q11 q12 q13 q14 q15
    replace HB5 := Aside0.mk (blk_grown HB5.out hg)
    obtain ⟨q0, q1, q2, q3, q4, q5, q6, q7, q8, q9, q10, q11, q12, q13, q14, q15⟩ := cz16 HB5.out
    clear hg hg0 hb
    simp only [optV]
    go_wp2
    obtain ⟨f, hfz⟩ : ∃ f : Ent, f = zE := ⟨_, rfl⟩
    replace HF23 := Aside0.mk (HF23.out.trans (show some (Obj.cells #[.int .i64 0, .int .i64 0, .int .u64 0, .int .u64 0, .bool false, .bool false, .bool false, .bool false, .bool false, .bool false, .bool false] 26 (0, 0)) = some (Obj.cells (entA f) 26 (0, 0)) by rw [hfz]; rfl))
    replace HF26 := Aside0.mk (HF26.out.trans (show some (Obj.cells #[.int .i64 0, .int .i64 0, .int .u64 0, .int .u64 0, .bool false, .bool false, .bool false, .bool false, .bool false, .bool false, .bool false] 26 (0, 0)) = some (Obj.cells (entA f) 26 (0, 0)) by rw [hfz]; rfl))
    clear hfz q0 q1 q2 q3 q4 q5 q6 q7 q8 q9 q10 q11 q12 q13 q14 q15
    generalize wn.heap.size = h23 at HF23 ⊢
    generalize wm.heap.size = h26 at HF26 ⊢
    refine start_ (n := 11) (S := fun w' => w'.heap[h23]? = some (.cells (entA f) 26 (0, 0)) ∧ w'.heap[h26]? = some (.cells (entA f) 26 (0, 0))) (ds := []) #[false, false, false, false, false, false, false, false, false, false, false] (by kernel_rfl) rfl rfl ⟨HF23.out, HF26.out⟩ (fun hHeld => ?_)
    refine with_tab does28_tab (fun HT_ => ?_)
    refine pure_ (i := 0) (N := some 175) (v := ?_) (a' := ?_) #[true, false, false, false, false, false, false, false, false, false, false] rfl rfl (any_of HT_.out (by kernel_rfl)) (fun _ _ _ h => h) (Or.inl ⟨by rfl, ?_⟩) ?_ ?_
    rotate_left
    · intro w'
      go_simp
      with_reducible rfl
    rotate_left
    · simp only [Act.put, List.setIfInBounds_toArray, List.set_cons_zero, List.set_cons_succ, i64_w, i32_w]
      rfl
    refine pure_ (i := 1) (N := some 176) (v := ?_) (a' := ?_) #[true, true, false, false, false, false, false, false, false, false, false] rfl rfl (any_of HT_.out (by kernel_rfl)) (fun _ _ _ h => h) (Or.inl ⟨by rfl, ?_⟩) ?_ ?_
    rotate_left
    · intro w'
      go_simp
      with_reducible rfl
    rotate_left
    · simp only [Act.put, List.setIfInBounds_toArray, List.set_cons_zero, List.set_cons_succ, i64_w, i32_w]
      rfl
    refine pure_ (i := 2) (N := some 177) (v := ?_) (a' := ?_) #[true, true, true, false, false, false, false, false, false, false, false] rfl rfl (any_of HT_.out (by kernel_rfl)) (fun _ _ _ h => h) (Or.inl ⟨by rfl, ?_⟩) ?_ ?_
    rotate_left
    · intro w'
      go_simp
      with_reducible rfl
    rotate_left
    · simp only [Act.put, List.setIfInBounds_toArray, List.set_cons_zero, List.set_cons_succ, i64_w, i32_w]
      rfl
    refine pure_ (i := 3) (N := some 178) (v := .bool true) (a' := ?_) #[true, true, true, true, false, false, false, false, false, false, false] rfl rfl (any_of HT_.out (by kernel_rfl)) (fun _ _ _ h => h) (Or.inl ⟨by rfl, ?_⟩) ?_ ?_
    · intro w'
      go_simp
    rotate_left
    · simp only [Act.put, List.setIfInBounds_toArray, List.set_cons_zero, List.set_cons_succ, i64_w, i32_w]
      rfl
    refine pure_ (i := 4) (N := some 179) (v := ?_) (a' := ?_) #[true, true, true, true, true, false, false, false, false, false, false] rfl rfl (any_of HT_.out (by kernel_rfl)) (fun _ _ _ h => h) (Or.inl ⟨by rfl, ?_⟩) ?_ ?_
    rotate_left
    · intro w'
      go_simp
      with_reducible rfl
    rotate_left
    · simp only [Act.put, List.setIfInBounds_toArray, List.set_cons_zero, List.set_cons_succ, i64_w, i32_w]
      rfl
    refine pure_ (i := 9) (N := some 6) (v := ?_) (a' := ?_) #[true, true, true, true, true, false, false, false, false, true, false] rfl rfl (any_of HT_.out (by kernel_rfl)) (fun _ _ _ h => h) (Or.inl ⟨by rfl, ?_⟩) ?_ ?_
    rotate_left
    · intro w'
      go_simp
      with_reducible rfl
    rotate_left
    · simp only [Act.put, List.setIfInBounds_toArray, List.set_cons_zero, List.set_cons_succ, i64_w, i32_w]
      rfl
    refine take_ (i := 5) (N := some 180) (v := .agg (entA f)) (a' := ?_) #[true, true, true, true, true, true, false, false, false, true, false] rfl rfl (take_of HT_.out (by kernel_rfl)) (fun _ _ _ h => h) (Or.inl ⟨by rfl, ?_⟩) hHeld ?_ ?_
    · rintro w' ⟨s1, s2⟩
      obtain ⟨q0, q1, q2, q3, q4, q5, q6, q7, q8, q9, q10⟩ := cz11 s1
      go_simp
    rotate_left
    · simp only [Act.put, List.setIfInBounds_toArray, List.set_cons_zero, List.set_cons_succ, i64_w, i32_w]
      rfl
    refine take_ (i := 6) (N := some 181) (v := .agg (entA f)) (a' := ?_) #[true, true, true, true, true, true, true, false, false, true, false] rfl rfl (take_of HT_.out (by kernel_rfl)) (fun _ _ _ h => h) (Or.inl ⟨by rfl, ?_⟩) hHeld ?_ ?_
    · rintro w' ⟨s1, s2⟩
      obtain ⟨q0, q1, q2, q3, q4, q5, q6, q7, q8, q9, q10⟩ := cz11 s2
      go_simp
    rotate_left
    · simp only [Act.put, List.setIfInBounds_toArray, List.set_cons_zero, List.set_cons_succ, i64_w, i32_w]
      rfl
    refine pure_ (i := 7) (N := some 182) (v := .bool true) (a' := ?_) #[true, true, true, true, true, true, true, true, false, true, false] rfl rfl (any_of HT_.out (by kernel_rfl)) (fun _ _ _ h => h) (Or.inl ⟨by rfl, ?_⟩) ?_ ?_
    · intro w'
      go_simp
    rotate_left
    · simp only [Act.put, List.setIfInBounds_toArray, List.set_cons_zero, List.set_cons_succ, i64_w, i32_w]
      rfl
    refine pure_ (i := 8) (N := some 183) (v := ?_) (a' := ?_) #[true, true, true, true, true, true, true, true, true, true, false] rfl rfl (any_of HT_.out (by kernel_rfl)) (fun _ _ _ h => h) (Or.inl ⟨by rfl, ?_⟩) ?_ ?_
    rotate_left
    · intro w'
      go_simp
      with_reducible rfl
    rotate_left
    · simp only [Act.put, List.setIfInBounds_toArray, List.set_cons_zero, List.set_cons_succ, i64_w, i32_w]
      rfl
    refine pure_ (i := 10) (N := some 7) (v := ?_) (a' := ?_) #[true, true, true, true, true, true, true, true, true, true, true] rfl rfl (any_of HT_.out (by kernel_rfl)) (fun _ _ _ h => h) (Or.inl ⟨by rfl, ?_⟩) ?_ ?_
    rotate_left
    · intro w'
      go_simp
      with_reducible rfl
    rotate_left
    · simp only [Act.put, List.setIfInBounds_toArray, List.set_cons_zero, List.set_cons_succ, i64_w, i32_w]
      rfl
    refine done_ (done_of HT_.out (by kernel_rfl)) ?_
    go_wp2
    replace HGW := Aside0.mk (grown_two HGW.out (grown_drew _ (some r)))
    exact bodyPost_ret (v := .tuple #[.slice _ (refL es).length c, .bool true]) (by first | (simp [results, Try.f29]; done) | (simp [results, Try.f29]; rfl)) rfl ⟨_, es, rfl, HINV.out, rfl, HM.out.same (grown_drew _ none), Kd.V_drew HV.out, HGW.out⟩
  | some i =>
    rw [hf] at HRI
    have HFN := Aside0.mk hf
    clear hf
    obtain ⟨f, hx, hl⟩ : ∃ f, es.getD i none = some f ∧ i < es.length := by
      have hm : i ∈ plL es (fun e => hitsB e va ctx) := by
        have := HFN.out
        unfold findOf at this
        exact List.mem_of_mem_head? this
      obtain ⟨b, hb, _⟩ := mem_plL.1 hm
      exact ⟨b, hb, lt_of_getD hb⟩
    have HX := Aside0.mk hx
    have hrf : (refL es).getD i zE = f := by
      have := ref_rd es i
      rw [hx] at this
      unfold rd_T26 at this
      rw [Int.toNat_natCast] at this
      exact this
    have HRF := Aside0.mk hrf
    have hil' : (i : Int) < ((refL es).length : Int) := by rw [ref_len]; omega
    have hi0 : (0 : Int) ≤ (i : Int) := by omega
    have hil2 : i < (refL es).length := by rw [ref_len]; exact hl
    clear hx hrf hl
    go_wp2_with fail
    refine (tl_find_some HM.out HINV.out.ok va ctx HVA.out i f HFN.out HX.out).mono ?_
    rintro x0 wn ⟨rfl, hg0⟩
    have hg := grown_two hg0 (World.grownBy_alloc wn (.cells (entA f) 26) none)
    replace HM := Aside0.mk (HM.out.same hg)
    replace HV := Aside0.mk (Kd.V_grown HV.out hg (by simp)); replace HGW := Aside0.mk (grown_two HGW.out (grown_but hg (some r)))
    have HF23 := Aside0.mk (heap_alloc_new wn (.cells (entA f) 26))
    clear q0 q1 q2 q3 q4 q5 q6 q7 q8 q9 q10 q11 q12 q13 q14 q15
    replace HB5 := Aside0.mk (blk_grown HB5.out hg)
    obtain ⟨q0, q1, q2, q3, q4, q5, q6, q7, q8, q9, q10, q11, q12, q13, q14, q15⟩ := cz16 HB5.out
    clear hg hg0
    go_wp2_with fail
    refine (lookasideref06_Find.calls 1000 A c (refL es) va ctx _ _ (Kd.V_reads' HV.out).2.2 (Kd.V_reads' HV.out).2.1 HRI.out).mono ?_
    rintro x0 wm ⟨rfl, hb⟩
    have hg := below_grown hb
    replace HM := Aside0.mk (HM.out.same hg)
    replace HV := Aside0.mk (Kd.V_grown HV.out hg (by simp)); replace HGW := Aside0.mk (grown_two HGW.out (grown_but hg (some r)))
    replace HF23 := Aside0.mk (blk_grown HF23.out hg)
    clear hg hb q0 q1 q2 q3 q4 q5 q6 q7 q8 q9 q10 q11 q12 q13 q14 q15
    have HGm := Aside0.mk (World.grownBy_alloc wm (.cells #[.int .i64 0, .int .i64 0, .int .u64 0, .int .u64 0, .bool false, .bool false, .bool false, .bool false, .bool false, .bool false, .bool false] 26) none)
    have HF26 := Aside0.mk (heap_alloc_new wm (.cells #[.int .i64 0, .int .i64 0, .int .u64 0, .int .u64 0, .bool false, .bool false, .bool false, .bool false, .bool false, .bool false, .bool false] 26))
    have HN3 := Aside0.mk (show wn.heap.size ≠ wm.heap.size from Nat.ne_of_lt (blk_lt HF23.out))
    have HF3 := Aside0.mk (blk_grown HF23.out HGm.out)
    obtain ⟨ad, hA, he⟩ := V_row (Kd.V_alloc HV.out (.cells #[.int .i64 0, .int .i64 0, .int .u64 0, .int .u64 0, .bool false, .bool false, .bool false, .bool false, .bool false, .bool false, .bool false] 26)) i hil2
    rw [HRF.out] at he
    subst hA
    obtain ⟨c0, c1, c2, c3, c4, c5, c6, c7, c8, c9, c10⟩ := he
    simp only [optV]
    go_wp2_with (refine wpList_store_row rfl 26 (.tmp 26) (.tmp 174) rfl wm.heap.size (entA f) rfl rfl 26 _ HF26.out (by kernel_rfl) rfl (by kernel_rfl) ?_)
    have hb2 := setRow_heap (wm.alloc (.cells #[.int .i64 0, .int .i64 0, .int .u64 0, .int .u64 0, .bool false, .bool false, .bool false, .bool false, .bool false, .bool false, .bool false] 26)) wm.heap.size _ (entA f) _ _ HF26.out
    have hg := grown_own HGm.out (grown_row (wm.alloc (.cells #[.int .i64 0, .int .i64 0, .int .u64 0, .int .u64 0, .bool false, .bool false, .bool false, .bool false, .bool false, .bool false, .bool false] 26)) wm.heap.size (entA f)) (fun j e => by cases e; exact Nat.le_refl _)
    have h23' := (setRow_other (wm.alloc (.cells #[.int .i64 0, .int .i64 0, .int .u64 0, .int .u64 0, .bool false, .bool false, .bool false, .bool false, .bool false, .bool false, .bool false] 26)) wm.heap.size wn.heap.size (entA f) HN3.out).trans HF3.out
    replace HM := Aside0.mk (HM.out.same hg)
    replace HV := Aside0.mk (Kd.V_grown HV.out hg (by simp)); replace HGW := Aside0.mk (grown_two HGW.out (grown_but hg (some r)))
    clear hg HGm c0 c1 c2 c3 c4 c5 c6 c7 c8 c9 c10 HN3 HF3
    generalize World.setRow (wm.alloc (.cells #[.int .i64 0, .int .i64 0, .int .u64 0, .int .u64 0, .bool false, .bool false, .bool false, .bool false, .bool false, .bool false, .bool false] 26)) wm.heap.size (entA f) = wz at hb2 h23' HM HV HGW ⊢
    replace HF23 := Aside0.mk h23'
    replace HF26 := Aside0.mk hb2
    clear hb2 h23'
    generalize wn.heap.size = h23 at HF23 ⊢
    generalize wm.heap.size = h26 at HF26 ⊢
    refine start_ (n := 11) (S := fun w' => w'.heap[h23]? = some (.cells (entA f) 26 (0, 0)) ∧ w'.heap[h26]? = some (.cells (entA f) 26 (0, 0))) (ds := []) #[false, false, false, false, false, false, false, false, false, false, false] (by kernel_rfl) rfl rfl ⟨HF23.out, HF26.out⟩ (fun hHeld => ?_)
    refine with_tab does28_tab (fun HT_ => ?_)
    refine pure_ (i := 0) (N := some 175) (v := ?_) (a' := ?_) #[true, false, false, false, false, false, false, false, false, false, false] rfl rfl (any_of HT_.out (by kernel_rfl)) (fun _ _ _ h => h) (Or.inl ⟨by rfl, ?_⟩) ?_ ?_
    rotate_left
    · intro w'
      go_simp
      with_reducible rfl
    rotate_left
    · simp only [Act.put, List.setIfInBounds_toArray, List.set_cons_zero, List.set_cons_succ, i64_w, i32_w]
      rfl
    refine pure_ (i := 1) (N := some 176) (v := ?_) (a' := ?_) #[true, true, false, false, false, false, false, false, false, false, false] rfl rfl (any_of HT_.out (by kernel_rfl)) (fun _ _ _ h => h) (Or.inl ⟨by rfl, ?_⟩) ?_ ?_
    rotate_left
    · intro w'
      go_simp
      with_reducible rfl
    rotate_left
    · simp only [Act.put, List.setIfInBounds_toArray, List.set_cons_zero, List.set_cons_succ, i64_w, i32_w]
      rfl
    refine pure_ (i := 2) (N := some 177) (v := ?_) (a' := ?_) #[true, true, true, false, false, false, false, false, false, false, false] rfl rfl (any_of HT_.out (by kernel_rfl)) (fun _ _ _ h => h) (Or.inl ⟨by rfl, ?_⟩) ?_ ?_
    rotate_left
    · intro w'
      go_simp
      with_reducible rfl
    rotate_left
    · simp only [Act.put, List.setIfInBounds_toArray, List.set_cons_zero, List.set_cons_succ, i64_w, i32_w]
      rfl
    refine pure_ (i := 3) (N := some 178) (v := .bool true) (a' := ?_) #[true, true, true, true, false, false, false, false, false, false, false] rfl rfl (any_of HT_.out (by kernel_rfl)) (fun _ _ _ h => h) (Or.inl ⟨by rfl, ?_⟩) ?_ ?_
    · intro w'
      go_simp
    rotate_left
    · simp only [Act.put, List.setIfInBounds_toArray, List.set_cons_zero, List.set_cons_succ, i64_w, i32_w]
      rfl
    refine pure_ (i := 4) (N := some 179) (v := ?_) (a' := ?_) #[true, true, true, true, true, false, false, false, false, false, false] rfl rfl (any_of HT_.out (by kernel_rfl)) (fun _ _ _ h => h) (Or.inl ⟨by rfl, ?_⟩) ?_ ?_
    rotate_left
    · intro w'
      go_simp
      with_reducible rfl
    rotate_left
    · simp only [Act.put, List.setIfInBounds_toArray, List.set_cons_zero, List.set_cons_succ, i64_w, i32_w]
      rfl
    refine pure_ (i := 9) (N := some 6) (v := ?_) (a' := ?_) #[true, true, true, true, true, false, false, false, false, true, false] rfl rfl (any_of HT_.out (by kernel_rfl)) (fun _ _ _ h => h) (Or.inl ⟨by rfl, ?_⟩) ?_ ?_
    rotate_left
    · intro w'
      go_simp
      with_reducible rfl
    rotate_left
    · simp only [Act.put, List.setIfInBounds_toArray, List.set_cons_zero, List.set_cons_succ, i64_w, i32_w]
      rfl
    refine take_ (i := 5) (N := some 180) (v := .agg (entA f)) (a' := ?_) #[true, true, true, true, true, true, false, false, false, true, false] rfl rfl (take_of HT_.out (by kernel_rfl)) (fun _ _ _ h => h) (Or.inl ⟨by rfl, ?_⟩) hHeld ?_ ?_
    · rintro w' ⟨s1, s2⟩
      obtain ⟨q0, q1, q2, q3, q4, q5, q6, q7, q8, q9, q10⟩ := cz11 s1
      go_simp
    rotate_left
    · simp only [Act.put, List.setIfInBounds_toArray, List.set_cons_zero, List.set_cons_succ, i64_w, i32_w]
      rfl
    refine take_ (i := 6) (N := some 181) (v := .agg (entA f)) (a' := ?_) #[true, true, true, true, true, true, true, false, false, true, false] rfl rfl (take_of HT_.out (by kernel_rfl)) (fun _ _ _ h => h) (Or.inl ⟨by rfl, ?_⟩) hHeld ?_ ?_
    · rintro w' ⟨s1, s2⟩
      obtain ⟨q0, q1, q2, q3, q4, q5, q6, q7, q8, q9, q10⟩ := cz11 s2
      go_simp
    rotate_left
    · simp only [Act.put, List.setIfInBounds_toArray, List.set_cons_zero, List.set_cons_succ, i64_w, i32_w]
      rfl
    refine pure_ (i := 7) (N := some 182) (v := .bool true) (a' := ?_) #[true, true, true, true, true, true, true, true, false, true, false] rfl rfl (any_of HT_.out (by kernel_rfl)) (fun _ _ _ h => h) (Or.inl ⟨by rfl, ?_⟩) ?_ ?_
    · intro w'
      go_simp
    rotate_left
    · simp only [Act.put, List.setIfInBounds_toArray, List.set_cons_zero, List.set_cons_succ, i64_w, i32_w]
      rfl
    refine pure_ (i := 8) (N := some 183) (v := ?_) (a' := ?_) #[true, true, true, true, true, true, true, true, true, true, false] rfl rfl (any_of HT_.out (by kernel_rfl)) (fun _ _ _ h => h) (Or.inl ⟨by rfl, ?_⟩) ?_ ?_
    rotate_left
    · intro w'
      go_simp
      with_reducible rfl
    rotate_left
    · simp only [Act.put, List.setIfInBounds_toArray, List.set_cons_zero, List.set_cons_succ, i64_w, i32_w]
      rfl
    refine pure_ (i := 10) (N := some 7) (v := ?_) (a' := ?_) #[true, true, true, true, true, true, true, true, true, true, true] rfl rfl (any_of HT_.out (by kernel_rfl)) (fun _ _ _ h => h) (Or.inl ⟨by rfl, ?_⟩) ?_ ?_
    rotate_left
    · intro w'
      go_simp
      with_reducible rfl
    rotate_left
    · simp only [Act.put, List.setIfInBounds_toArray, List.set_cons_zero, List.set_cons_succ, i64_w, i32_w]
      rfl
    refine done_ (done_of HT_.out (by kernel_rfl)) ?_
    go_wp2
    replace HGW := Aside0.mk (grown_two HGW.out (grown_drew _ (some r)))
    exact bodyPost_ret (v := .tuple #[.slice _ (refL es).length c, .bool true]) (by first | (simp [results, Try.f29]; done) | (simp [results, Try.f29]; rfl)) rfl ⟨_, es, rfl, HINV.out, rfl, HM.out.same (grown_drew _ none), Kd.V_drew HV.out, HGW.out⟩
end
end Go.Proofs.Ythclbckkfgmbaaa.QTlbPlays
namespace Go.Proofs.Ythclbckkfgmbaaa.QTlbPlays
open Go.ChangeShapes Go.WideShapes Go.ChangeAt Go.Deep Go.RowKit Go.Proofs.YthclbckkfgmbaaaW.PrintWords Go.Proofs.YthclbckkfgmbaaaW.PrintLast Go.Proofs.YthclbckkfgmbaaaW.PrintMore
set_option linter.unusedSimpArgs false
set_option linter.unusedVariables false
section
set_option maxHeartbeats 1000000
set_option maxRecDepth 100000
theorem does_any {B w0 p r es W} (h : Tl B w0 p r es W) (hinv : Inv es) {base : Nat} (A : Option Addr) (c : Nat) (hv : Kd.V k26 26 W base (fun k => k ≠ r) (.slice A (refL es).length c) (refL es)) (kd n ctx va : Int) (e : Ent) (raw : Bool) (hn : (Lit.int .i64 n).wf = true) (hva : (Lit.int .u64 va).wf = true) (he : EntW e) :
    Calls Try.prog 29 #[.pointer (some ⟨p, 0, none⟩), .slice A (refL es).length c, .agg #[.int .i64 kd, .int .i64 n, .int .i64 ctx, .int .u64 va, .int .i64 e.f0, .int .i64 e.f1, .int .u64 e.f2, .int .u64 e.f3, .bool e.f4.f0, .bool e.f4.f1, .bool e.f4.f2, .bool e.f4.f3, .bool e.f4.f4, .bool e.f4.f5, .bool e.f5, .bool raw]] W fun x W' => ∃ v' es', x = .returned (.tuple #[v', .bool true]) ∧ Inv es' ∧ es'.length = es.length ∧ Tl B w0 p r es' W' ∧ Kd.V k26 26 W' 0 (fun k => k ≠ r) v' (refL es') ∧ W.grownBy W' (some r) := by
  by_cases k0 : kd = 0
  · subst k0; exact does_0 h hinv A c hv n ctx va e raw hn hva he
  by_cases k1 : kd = 1
  · subst k1; exact does_1 h hinv A c hv n ctx va e raw hn hva he
  by_cases k2 : kd = 2
  · subst k2; exact does_2 h hinv A c hv n ctx va e raw hn hva he
  by_cases k3 : kd = 3
  · subst k3; exact does_3 h hinv A c hv n ctx va e raw hn hva he
  by_cases k4 : kd = 4
  · subst k4; exact does_4 h hinv A c hv n ctx va e raw hn hva he
  by_cases k5 : kd = 5
  · subst k5; exact does_5 h hinv A c hv n ctx va e raw hn hva he
  exact does_6 h hinv A c hv kd k0 k1 k2 k3 k4 k5 n ctx va e raw hn hva he
set_option maxRecDepth 100000 in
theorem deed_open {H : Type} {enc : TypeId × Value → H} {w : World} {base : Nat} {spare : Nat → Bool} {held : Bool} {n : Nat} {cs : List Value} {x : DataW H × List MemPlace} (h : DataW.trod enc Try.prog w base spare held n 54 cs = some x) :
    ∃ (kd n ctx va : Int) (e : Ent) (raw : Bool), cs = [.int .i64 kd, .int .i64 n, .int .i64 ctx, .int .u64 va, .int .i64 e.f0, .int .i64 e.f1, .int .u64 e.f2, .int .u64 e.f3, .bool e.f4.f0, .bool e.f4.f1, .bool e.f4.f2, .bool e.f4.f3, .bool e.f4.f4, .bool e.f4.f5, .bool e.f5, .bool raw] ∧ (Lit.int .i64 n).wf = true ∧ (Lit.int .u64 va).wf = true ∧ EntW e := by
  obtain ⟨xs, m, _, _, hl, hlen, hg⟩ := DataW.trod_struct Try.underlying54 h
  rw [show Try.prog.cellsOf 54 = 16 from by kernel_rfl] at hl
  match cs, hl with
  | [c0, c1, c2, c3, c4, c5, c6, c7, c8, c9, c10, c11, c12, c13, c14, c15], _ =>
    have g0 := hg 0 _ rfl
    replace g0 : DataW.trod enc Try.prog w base spare held m 3 ((([c0, c1, c2, c3, c4, c5, c6, c7, c8, c9, c10, c11, c12, c13, c14, c15] : List Value).drop 0).take (Try.prog.cellsOf 3)) = xs[0]? := g0
    obtain ⟨y0, hy0⟩ : ∃ y, xs[0]? = some y := ⟨_, List.getElem?_eq_getElem (by rw [hlen]; decide)⟩
    rw [hy0, show Try.prog.cellsOf 3 = 1 from by kernel_rfl] at g0
    replace g0 : DataW.trod enc Try.prog w base spare held m 3 [c0] = some y0 := g0
    have g1 := hg 1 _ rfl
    replace g1 : DataW.trod enc Try.prog w base spare held m 3 ((([c0, c1, c2, c3, c4, c5, c6, c7, c8, c9, c10, c11, c12, c13, c14, c15] : List Value).drop 1).take (Try.prog.cellsOf 3)) = xs[1]? := g1
    obtain ⟨y1, hy1⟩ : ∃ y, xs[1]? = some y := ⟨_, List.getElem?_eq_getElem (by rw [hlen]; decide)⟩
    rw [hy1, show Try.prog.cellsOf 3 = 1 from by kernel_rfl] at g1
    replace g1 : DataW.trod enc Try.prog w base spare held m 3 [c1] = some y1 := g1
    have g2 := hg 2 _ rfl
    replace g2 : DataW.trod enc Try.prog w base spare held m 3 ((([c0, c1, c2, c3, c4, c5, c6, c7, c8, c9, c10, c11, c12, c13, c14, c15] : List Value).drop 2).take (Try.prog.cellsOf 3)) = xs[2]? := g2
    obtain ⟨y2, hy2⟩ : ∃ y, xs[2]? = some y := ⟨_, List.getElem?_eq_getElem (by rw [hlen]; decide)⟩
    rw [hy2, show Try.prog.cellsOf 3 = 1 from by kernel_rfl] at g2
    replace g2 : DataW.trod enc Try.prog w base spare held m 3 [c2] = some y2 := g2
    have g3 := hg 3 _ rfl
    replace g3 : DataW.trod enc Try.prog w base spare held m 22 ((([c0, c1, c2, c3, c4, c5, c6, c7, c8, c9, c10, c11, c12, c13, c14, c15] : List Value).drop 3).take (Try.prog.cellsOf 22)) = xs[3]? := g3
    obtain ⟨y3, hy3⟩ : ∃ y, xs[3]? = some y := ⟨_, List.getElem?_eq_getElem (by rw [hlen]; decide)⟩
    rw [hy3, show Try.prog.cellsOf 22 = 1 from by kernel_rfl] at g3
    replace g3 : DataW.trod enc Try.prog w base spare held m 22 [c3] = some y3 := g3
    have g4 := hg 4 _ rfl
    replace g4 : DataW.trod enc Try.prog w base spare held m 26 ((([c0, c1, c2, c3, c4, c5, c6, c7, c8, c9, c10, c11, c12, c13, c14, c15] : List Value).drop 4).take (Try.prog.cellsOf 26)) = xs[4]? := g4
    obtain ⟨y4, hy4⟩ : ∃ y, xs[4]? = some y := ⟨_, List.getElem?_eq_getElem (by rw [hlen]; decide)⟩
    rw [hy4, show Try.prog.cellsOf 26 = 11 from by kernel_rfl] at g4
    replace g4 : DataW.trod enc Try.prog w base spare held m 26 [c4, c5, c6, c7, c8, c9, c10, c11, c12, c13, c14] = some y4 := g4
    have g5 := hg 5 _ rfl
    replace g5 : DataW.trod enc Try.prog w base spare held m 4 ((([c0, c1, c2, c3, c4, c5, c6, c7, c8, c9, c10, c11, c12, c13, c14, c15] : List Value).drop 15).take (Try.prog.cellsOf 4)) = xs[5]? := g5
    obtain ⟨y5, hy5⟩ : ∃ y, xs[5]? = some y := ⟨_, List.getElem?_eq_getElem (by rw [hlen]; decide)⟩
    rw [hy5, show Try.prog.cellsOf 4 = 1 from by kernel_rfl] at g5
    replace g5 : DataW.trod enc Try.prog w base spare held m 4 [c15] = some y5 := g5
    obtain ⟨b0, e0, _, w0⟩ := DataW.trod_int Try.underlying3 g0
    simp only [List.cons.injEq, and_true] at e0
    obtain rfl := e0
    obtain ⟨b1, e1, _, w1⟩ := DataW.trod_int Try.underlying3 g1
    simp only [List.cons.injEq, and_true] at e1
    obtain rfl := e1
    obtain ⟨b2, e2, _, w2⟩ := DataW.trod_int Try.underlying3 g2
    simp only [List.cons.injEq, and_true] at e2
    obtain rfl := e2
    obtain ⟨b3, e3, _, w3⟩ := DataW.trod_int Try.underlying22 g3
    simp only [List.cons.injEq, and_true] at e3
    obtain rfl := e3
    obtain ⟨e, e4, we⟩ := ent_open g4
    simp only [List.cons.injEq, and_true] at e4
    obtain ⟨rfl, rfl, rfl, rfl, rfl, rfl, rfl, rfl, rfl, rfl, rfl⟩ := e4
    obtain ⟨b5, e5, _⟩ := DataW.trod_bool Try.underlying4 g5
    simp only [List.cons.injEq, and_true] at e5
    obtain rfl := e5
    exact ⟨b0, b1, b2, b3, e, b5, rfl, w1, w3, we⟩
structure DeedAt (w : World) (y : Addr) (kd n ctx va : Int) (e : Ent) (raw : Bool) : Prop where
  hn : (Lit.int .i64 n).wf = true
  hva : (Lit.int .u64 va).wf = true
  he : EntW e
  c0 : w.cell? (y) = some (.int .i64 kd)
  c1 : w.cell? ⟨(y).block, (y).off + 1, none⟩ = some (.int .i64 n)
  c2 : w.cell? ⟨(y).block, (y).off + 2, none⟩ = some (.int .i64 ctx)
  c3 : w.cell? ⟨(y).block, (y).off + 3, none⟩ = some (.int .u64 va)
  c4 : w.cell? ⟨(y).block, (y).off + 4, none⟩ = some (.int .i64 e.f0)
  c5 : w.cell? ⟨(y).block, (y).off + 5, none⟩ = some (.int .i64 e.f1)
  c6 : w.cell? ⟨(y).block, (y).off + 6, none⟩ = some (.int .u64 e.f2)
  c7 : w.cell? ⟨(y).block, (y).off + 7, none⟩ = some (.int .u64 e.f3)
  c8 : w.cell? ⟨(y).block, (y).off + 8, none⟩ = some (.bool e.f4.f0)
  c9 : w.cell? ⟨(y).block, (y).off + 9, none⟩ = some (.bool e.f4.f1)
  c10 : w.cell? ⟨(y).block, (y).off + 10, none⟩ = some (.bool e.f4.f2)
  c11 : w.cell? ⟨(y).block, (y).off + 11, none⟩ = some (.bool e.f4.f3)
  c12 : w.cell? ⟨(y).block, (y).off + 12, none⟩ = some (.bool e.f4.f4)
  c13 : w.cell? ⟨(y).block, (y).off + 13, none⟩ = some (.bool e.f4.f5)
  c14 : w.cell? ⟨(y).block, (y).off + 14, none⟩ = some (.bool e.f5)
  c15 : w.cell? ⟨(y).block, (y).off + 15, none⟩ = some (.bool raw)
theorem DeedAt.grown {w w' : World} {y : Addr} {kd n ctx va : Int} {e : Ent} {raw : Bool} (h : DeedAt w y kd n ctx va e raw) (hg : w.grownBy w' none) : DeedAt w' y kd n ctx va e raw := ⟨h.hn, h.hva, h.he, cell_grown h.c0 hg, cell_grown h.c1 hg, cell_grown h.c2 hg, cell_grown h.c3 hg, cell_grown h.c4 hg, cell_grown h.c5 hg, cell_grown h.c6 hg, cell_grown h.c7 hg, cell_grown h.c8 hg, cell_grown h.c9 hg, cell_grown h.c10 hg, cell_grown h.c11 hg, cell_grown h.c12 hg, cell_grown h.c13 hg, cell_grown h.c14 hg, cell_grown h.c15 hg⟩
def Deeds (w : World) (a : Option Addr) (len : Nat) : Prop := (a = none ∧ len = 0) ∨ ∃ x, a = some x ∧ ∀ j, j < len → ∃ kd n ctx va e raw, DeedAt w (x.add (j * 16)) kd n ctx va e raw
theorem Deeds.at {w : World} {a : Option Addr} {len : Nat} (h : Deeds w a len) (j : Nat) (hj : j < len) : ∃ x kd n ctx va e raw, a = some x ∧ DeedAt w (x.add (j * 16)) kd n ctx va e raw := by
  rcases h with ⟨_, e⟩ | ⟨x, rfl, h⟩
  · omega
  · obtain ⟨kd, n, ctx, va, e, raw, he⟩ := h j hj
    exact ⟨x, kd, n, ctx, va, e, raw, rfl, he⟩
theorem deeds_open {H : Type} {enc : TypeId × Value → H} {w : World} {base : Nat} {spare : Nat → Bool} {held : Bool} {n : Nat} {a : Option Addr} {len cap : Nat} {x : DataW H × List MemPlace} (h : DataW.trod enc Try.prog w base spare held n 49 [.slice a len cap] = some x) : Deeds w a len ∧ len ≤ maxLen := by
  rcases open_slice Try.underlying49 h with ⟨hcs, _⟩ | ⟨y, l, c, m, n', D, Pl, hcs, _, hl, hm, hmm, _, hx⟩
  · obtain ⟨rfl, rfl, rfl⟩ : a = none ∧ len = 0 ∧ cap = 0 := by simpa using hcs
    exact ⟨.inl ⟨rfl, rfl⟩, Nat.zero_le _⟩
  · obtain ⟨rfl, rfl, rfl⟩ : a = some y ∧ len = l ∧ cap = c := by simpa using hcs
    refine ⟨.inr ⟨y, rfl, fun j hj => ?_⟩, Nat.le_trans hl hm⟩
    obtain ⟨cs', hc, ht⟩ := hx j (by rw [hmm]; split <;> omega)
    rw [show Try.prog.cellsOf 54 = 16 from by kernel_rfl] at hc
    obtain ⟨kd, n, ctx, va, e, raw, he, h1, h2, h3⟩ := deed_open ht
    subst he
    obtain ⟨_, _, hg⟩ := World.cells?_some hc
    have g0 := hg 0 (by omega)
    rw [Addr.add_add] at g0
    have g1 := hg 1 (by omega)
    rw [Addr.add_add, add_field _ _ 1 (by omega)] at g1
    have g2 := hg 2 (by omega)
    rw [Addr.add_add, add_field _ _ 2 (by omega)] at g2
    have g3 := hg 3 (by omega)
    rw [Addr.add_add, add_field _ _ 3 (by omega)] at g3
    have g4 := hg 4 (by omega)
    rw [Addr.add_add, add_field _ _ 4 (by omega)] at g4
    have g5 := hg 5 (by omega)
    rw [Addr.add_add, add_field _ _ 5 (by omega)] at g5
    have g6 := hg 6 (by omega)
    rw [Addr.add_add, add_field _ _ 6 (by omega)] at g6
    have g7 := hg 7 (by omega)
    rw [Addr.add_add, add_field _ _ 7 (by omega)] at g7
    have g8 := hg 8 (by omega)
    rw [Addr.add_add, add_field _ _ 8 (by omega)] at g8
    have g9 := hg 9 (by omega)
    rw [Addr.add_add, add_field _ _ 9 (by omega)] at g9
    have g10 := hg 10 (by omega)
    rw [Addr.add_add, add_field _ _ 10 (by omega)] at g10
    have g11 := hg 11 (by omega)
    rw [Addr.add_add, add_field _ _ 11 (by omega)] at g11
    have g12 := hg 12 (by omega)
    rw [Addr.add_add, add_field _ _ 12 (by omega)] at g12
    have g13 := hg 13 (by omega)
    rw [Addr.add_add, add_field _ _ 13 (by omega)] at g13
    have g14 := hg 14 (by omega)
    rw [Addr.add_add, add_field _ _ 14 (by omega)] at g14
    have g15 := hg 15 (by omega)
    rw [Addr.add_add, add_field _ _ 15 (by omega)] at g15
    exact ⟨kd, n, ctx, va, e, raw, h1, h2, h3, g0, g1, g2, g3, g4, g5, g6, g7, g8, g9, g10, g11, g12, g13, g14, g15⟩
end
end Go.Proofs.Ythclbckkfgmbaaa.QTlbPlays
