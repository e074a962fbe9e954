/- More deeds, done to a TLB and to the document's; at whatever numbers. -/
import Derived.Test.YthclbckkfgmbaaaTlRef2
/- merged: Tl14 -/
namespace Go.Proofs.Ythclbckkfgmbaaa.QTlbPlays
open Go.RowKit Go.Proofs.YthclbckkfgmbaaaW.PrintWords Go.Proofs.YthclbckkfgmbaaaW.PrintLast Go.Proofs.YthclbckkfgmbaaaW.PrintMore
set_option linter.unusedSimpArgs false
set_option linter.unusedVariables false
section
set_option maxHeartbeats 1000000
set_option maxRecDepth 100000
noncomputable def does3_T : Bool × List (List Nat × List Nat) := rtab .any (opsOf Try.f29 3)
theorem does3_tab : rtab .any (opsOf Try.f29 3) = does3_T := rfl
noncomputable def does4_T : Bool × List (List Nat × List Nat) := rtab .any (opsOf Try.f29 4)
theorem does4_tab : rtab .any (opsOf Try.f29 4) = does4_T := rfl
noncomputable def does9_T : Bool × List (List Nat × List Nat) := rtab .any (opsOf Try.f29 9)
theorem does9_tab : rtab .any (opsOf Try.f29 9) = does9_T := rfl
noncomputable def does10_T : Bool × List (List Nat × List Nat) := rtab .any (opsOf Try.f29 10)
theorem does10_tab : rtab .any (opsOf Try.f29 10) = does10_T := rfl
theorem cz16 {W : World} {g : Nat} {t : TypeId} {a0 a1 a2 a3 a4 a5 a6 a7 a8 a9 a10 a11 a12 a13 a14 a15 : Value} (h : W.heap[g]? = some (.cells #[a0, a1, a2, a3, a4, a5, a6, a7, a8, a9, a10, a11, a12, a13, a14, a15] t (0, 0))) : W.cell? ⟨g, 0, none⟩ = some a0 ∧ W.cell? ⟨g, 1, none⟩ = some a1 ∧ W.cell? ⟨g, 2, none⟩ = some a2 ∧ W.cell? ⟨g, 3, none⟩ = some a3 ∧ W.cell? ⟨g, 4, none⟩ = some a4 ∧ W.cell? ⟨g, 5, none⟩ = some a5 ∧ W.cell? ⟨g, 6, none⟩ = some a6 ∧ W.cell? ⟨g, 7, none⟩ = some a7 ∧ W.cell? ⟨g, 8, none⟩ = some a8 ∧ W.cell? ⟨g, 9, none⟩ = some a9 ∧ W.cell? ⟨g, 10, none⟩ = some a10 ∧ W.cell? ⟨g, 11, none⟩ = some a11 ∧ W.cell? ⟨g, 12, none⟩ = some a12 ∧ W.cell? ⟨g, 13, none⟩ = some a13 ∧ W.cell? ⟨g, 14, none⟩ = some a14 ∧ W.cell? ⟨g, 15, none⟩ = some a15 := ⟨(blk_cell h 0).trans rfl, (blk_cell h 1).trans rfl, (blk_cell h 2).trans rfl, (blk_cell h 3).trans rfl, (blk_cell h 4).trans rfl, (blk_cell h 5).trans rfl, (blk_cell h 6).trans rfl, (blk_cell h 7).trans rfl, (blk_cell h 8).trans rfl, (blk_cell h 9).trans rfl, (blk_cell h 10).trans rfl, (blk_cell h 11).trans rfl, (blk_cell h 12).trans rfl, (blk_cell h 13).trans rfl, (blk_cell h 14).trans rfl, (blk_cell h 15).trans rfl⟩
def entryE (e : Ent) (raw : Bool) : Ent := if raw = true then e else goodE e
theorem entry_W {e : Ent} (h : EntW e) (raw : Bool) : EntW (entryE e raw) := by
  unfold entryE
  split
  · exact h
  · exact goodE_W e
theorem entry_calls (kd n ctx va : Int) {e : Ent} (h : EntW e) (raw : Bool) (W : World) : Calls Try.prog 63 #[.agg #[.int .i64 kd, .int .i64 n, .int .i64 ctx, .int .u64 va, .int .i64 e.f0, .int .i64 e.f1, .int .u64 e.f2, .int .u64 e.f3, .bool e.f4.f0, .bool e.f4.f1, .bool e.f4.f2, .bool e.f4.f3, .bool e.f4.f4, .bool e.f4.f5, .bool e.f5, .bool raw]] W fun x W' => x = .returned (.agg (entA (entryE e raw))) ∧ W.grownBy W' none := by
  have h1 := u64_nat h.v
  have h2 := u64_nat h.p
  have hf := rGood e.f0 e.f1 e.f2.toNat e.f3.toNat e.f4.f0 e.f4.f1 e.f4.f2 e.f4.f3 e.f4.f4 e.f4.f5 e.f5 h.s h.c h1.2 h2.2 110 (Nat.le_refl _)
  rw [h1.1, h2.1] at hf
  cases raw with
  | true => exact (lookasidelaw06_Deed_entry.calls 110 kd n ctx va e.f0 e.f1 e.f2 e.f3 e.f4.f0 e.f4.f1 e.f4.f2 e.f4.f3 e.f4.f4 e.f4.f5 e.f5 true _ _ _ _ _ _ _ _ _ _ _ W (by unfold lookasidelaw06_Deed_entry.f; rw [if_pos rfl]; rfl)).mono fun x W' z => ⟨z.1, below_grown z.2⟩
  | false => exact (lookasidelaw06_Deed_entry.calls 110 kd n ctx va e.f0 e.f1 e.f2 e.f3 e.f4.f0 e.f4.f1 e.f4.f2 e.f4.f3 e.f4.f4 e.f4.f5 e.f5 false _ _ _ _ _ _ _ _ _ _ _ W (by unfold lookasidelaw06_Deed_entry.f; rw [if_neg (by decide), hf, Option.bind_some]; rfl)).mono fun x W' z => ⟨z.1, below_grown z.2⟩
theorem ins_err7 {es : List (Option Ent)} (h1 : 1 ≤ es.length) {e : Ent} {pick i : Int} {es' : List (Option Ent)} (h : insOf es e pick = (i, 7, es')) : i = 0 ∧ es' = es := by
  unfold insOf at h
  split at h
  · cases h
  · split at h
    · cases h; exact ⟨rfl, rfl⟩
    · split at h
      · rename_i hp
        cases h; exact ⟨rfl, gone_full h1 hp⟩
      · cases h
theorem does_0 {B w0 p r es W} (h : Tl B w0 p r es W) (hinv : Inv es) {base : Nat} (A : Option Addr) (c : Nat) (hv : Kd.V k26 26 W base (fun k => k ≠ r) (.slice A (refL es).length c) (refL es)) (n ctx va : Int) (e : Ent) (raw : Bool) (hn : (Lit.int .i64 n).wf = true) (hva : (Lit.int .u64 va).wf = true) (he : EntW e) :
    Calls Try.prog 29 #[.pointer (some ⟨p, 0, none⟩), .slice A (refL es).length c, .agg #[.int .i64 0, .int .i64 n, .int .i64 ctx, .int .u64 va, .int .i64 e.f0, .int .i64 e.f1, .int .u64 e.f2, .int .u64 e.f3, .bool e.f4.f0, .bool e.f4.f1, .bool e.f4.f2, .bool e.f4.f3, .bool e.f4.f4, .bool e.f4.f5, .bool e.f5, .bool raw]] W fun x W' => ∃ v' es', x = .returned (.tuple #[v', .bool true]) ∧ Inv es' ∧ es'.length = es.length ∧ Tl B w0 p r es' W' ∧ Kd.V k26 26 W' 0 (fun k => k ≠ r) v' (refL es') ∧ W.grownBy W' (some r) := by
  have hu := Try.underlying26
  have hu2 := Try.underlying24
  have hu3 := Try.underlying54
  have hg0 := World.grownBy_alloc W (.cells #[.int .i64 0, .int .i64 n, .int .i64 ctx, .int .u64 va, .int .i64 e.f0, .int .i64 e.f1, .int .u64 e.f2, .int .u64 e.f3, .bool e.f4.f0, .bool e.f4.f1, .bool e.f4.f2, .bool e.f4.f3, .bool e.f4.f4, .bool e.f4.f5, .bool e.f5, .bool raw] 54) none
  have HB5 := Aside0.mk (heap_alloc_new W (.cells #[.int .i64 0, .int .i64 n, .int .i64 ctx, .int .u64 va, .int .i64 e.f0, .int .i64 e.f1, .int .u64 e.f2, .int .u64 e.f3, .bool e.f4.f0, .bool e.f4.f1, .bool e.f4.f2, .bool e.f4.f3, .bool e.f4.f4, .bool e.f4.f5, .bool e.f5, .bool raw] 54))
  have HM0 := Aside0.mk (h.same hg0)
  have HV0 := Aside0.mk (Kd.V_grown hv hg0 (by simp))
  have HINV := Aside0.mk hinv
  have HN := Aside0.mk hn
  have HVA := Aside0.mk hva
  have HWE0 := Aside0.mk he
  have HW1 := Aside0.mk (entry_W he raw)
  have HNE := Aside0.mk (show W.heap.size ≠ r from fun e => by have := h.rlt; omega)
  have HGW := Aside0.mk (grown_but hg0 (some r))
  have HL64 := Aside0.mk h.len
  have HL1 := Aside0.mk h.one
  clear h hinv hv hn hva he hg0
  obtain ⟨q0, q1, q2, q3, q4, q5, q6, q7, q8, q9, q10, q11, q12, q13, q14, q15⟩ := cz16 HB5.out
  go_enter Try.func29, Try.ntmps29
  have hri := ref_insert HINV.out.ok HL64.out HL1.out HW1.out HN.out
  have hin2 := ins_inv HINV.out HW1.out n
  have hil := ins_len es (entryE e raw) n
  obtain ⟨i, er, es2, hins⟩ : ∃ a b c, insOf es (entryE e raw) n = (a, b, c) := ⟨_, _, _, rfl⟩
  rw [hins] at hri hin2 hil
  have HRI := Aside0.mk hri
  have HINS := Aside0.mk hins
  have HIN2 := Aside0.mk hin2
  have HIL := Aside0.mk hil
  have HE7 := Aside0.mk (fun (h7 : er = 7) => ins_err7 (i := i) (es' := es2) HL1.out (by rw [hins, h7]))
  clear hri hin2 hil hins
  go_wp2
  clear q0 q1 q2 q3 q4 q5 q6 q7 q8 q9 q10 q11 q12 q13 q14 q15
  generalize W.heap.size = h5 at HB5 HNE ⊢
  generalize W.alloc _ = W5 at HB5 HM0 HV0 HGW ⊢
  replace HGW := Aside0.mk (grown_two HGW.out (grown_drew _ (some r)))
  have HV := Aside0.mk (Kd.V_drew HV0.out)
  have HM := Aside0.mk (HM0.out.same (grown_drew _ none))
  refine start_ (n := 11) (S := fun w' => w'.heap[h5]? = some (.cells #[.int .i64 0, .int .i64 n, .int .i64 ctx, .int .u64 va, .int .i64 e.f0, .int .i64 e.f1, .int .u64 e.f2, .int .u64 e.f3, .bool e.f4.f0, .bool e.f4.f1, .bool e.f4.f2, .bool e.f4.f3, .bool e.f4.f4, .bool e.f4.f5, .bool e.f5, .bool raw] 54 (0, 0))) (ds := []) #[false, false, false, false, false, false, false, false, false, false, false] (by kernel_rfl) rfl rfl HB5.out (fun hHeld => ?_)
  refine with_tab does3_tab (fun HT_ => ?_)
  refine pure_ (i := 0) (N := some 32) (v := ?_) (a' := ?_) #[true, false, false, false, false, false, false, false, false, false, false] rfl rfl (any_of HT_.out (by kernel_rfl)) (fun _ _ _ h => h) (Or.inl ⟨by rfl, ?_⟩) ?_ ?_
  rotate_left
  · intro w'
    go_simp
    with_reducible rfl
  rotate_left
  · simp only [Act.put, List.setIfInBounds_toArray, List.set_cons_zero, List.set_cons_succ, i64_w, i32_w]
    rfl
  refine pure_ (i := 3) (N := some 35) (v := ?_) (a' := ?_) #[true, false, false, true, false, false, false, false, false, false, false] rfl rfl (any_of HT_.out (by kernel_rfl)) (fun _ _ _ h => h) (Or.inl ⟨by rfl, ?_⟩) ?_ ?_
  rotate_left
  · intro w'
    go_simp
    with_reducible rfl
  rotate_left
  · simp only [Act.put, List.setIfInBounds_toArray, List.set_cons_zero, List.set_cons_succ, i64_w, i32_w]
    rfl
  refine take_ (i := 1) (N := some 33) (v := .agg #[.int .i64 0, .int .i64 n, .int .i64 ctx, .int .u64 va, .int .i64 e.f0, .int .i64 e.f1, .int .u64 e.f2, .int .u64 e.f3, .bool e.f4.f0, .bool e.f4.f1, .bool e.f4.f2, .bool e.f4.f3, .bool e.f4.f4, .bool e.f4.f5, .bool e.f5, .bool raw]) (a' := ?_) #[true, true, false, true, false, false, false, false, false, false, false] rfl rfl (take_of HT_.out (by kernel_rfl)) (fun _ _ _ h => h) (Or.inl ⟨by rfl, ?_⟩) hHeld ?_ ?_
  · rintro w' s1
    obtain ⟨q0, q1, q2, q3, q4, q5, q6, q7, q8, q9, q10, q11, q12, q13, q14, q15⟩ := cz16 s1
    go_simp
  rotate_left
  · simp only [Act.put, List.setIfInBounds_toArray, List.set_cons_zero, List.set_cons_succ, i64_w, i32_w]
    rfl
  refine take_ (i := 4) (N := some 36) (v := .int .i64 n) (a' := ?_) #[true, true, false, true, true, false, false, false, false, false, false] rfl rfl (take_of HT_.out (by kernel_rfl)) (fun _ _ _ h => h) (Or.inl ⟨by rfl, ?_⟩) hHeld ?_ ?_
  · rintro w' s1
    obtain ⟨q0, q1, q2, q3, q4, q5, q6, q7, q8, q9, q10, q11, q12, q13, q14, q15⟩ := cz16 s1
    go_simp
  rotate_left
  · simp only [Act.put, List.setIfInBounds_toArray, List.set_cons_zero, List.set_cons_succ, i64_w, i32_w]
    rfl
  refine one_ (i := 2) (N := some 34) #[true, true, true, true, true, false, false, false, false, false, false] rfl rfl (one_of HT_.out (by kernel_rfl)) (by decide) (fun K hK => ?_)
  refine goes_ Try.func63 (by kernel_rfl) rfl #[.agg #[.int .i64 0, .int .i64 n, .int .i64 ctx, .int .u64 va, .int .i64 e.f0, .int .i64 e.f1, .int .u64 e.f2, .int .u64 e.f3, .bool e.f4.f0, .bool e.f4.f1, .bool e.f4.f2, .bool e.f4.f3, .bool e.f4.f4, .bool e.f4.f5, .bool e.f5, .bool raw]] (by rfl) rfl rfl (by (try simp only [List.map_toArray, List.map_cons, List.map_nil]); first | done | rfl) ?_
  refine (entry_calls _ n ctx va HWE0.out raw _).mono ?_
  rintro x0 wn ⟨rfl, hg⟩
  have hs := blk_grown hHeld hg
  replace HM := Aside0.mk (HM.out.same hg)
  replace HV := Aside0.mk (Kd.V_grown HV.out hg (by simp)); replace HGW := Aside0.mk (grown_two HGW.out (grown_but hg (some r)))
  clear hg
  refine ⟨_, rfl, ?_⟩
  refine hK.out _ _ hs (fun hHeld => ?_)
  clear hK K
  refine norm_ (a' := ?_) ?_ ?_
  rotate_left
  · show Act.put _ (some 34) _ = _
    simp only [Act.put, List.setIfInBounds_toArray, List.set_cons_zero, List.set_cons_succ, i64_w, i32_w]
    rfl
  refine one_ (i := 5) (N := some 37) #[true, true, true, true, true, true, false, false, false, false, false] rfl rfl (one_of HT_.out (by kernel_rfl)) (by decide) (fun K hK => ?_)
  refine goes_ Try.func19 (by kernel_rfl) rfl #[.pointer (some ⟨p, 0, none⟩), .agg (entA (entryE e raw)), .int .i64 n] (by rfl) rfl rfl (by (try simp only [List.map_toArray, List.map_cons, List.map_nil]); first | done | rfl) ?_
  refine (tl_insert HM.out HINV.out.ok _ HW1.out _ HN.out _ _ _ HINS.out).mono ?_
  rintro x0 wn ⟨rfl, hM, hg⟩
  have hs := (hg.block h5 (blk_lt hHeld) (fun e => HNE.out (Option.some.inj e))).trans hHeld
  replace HV := Aside0.mk (Kd.V_grown HV.out hg (fun k hk e => hk (Option.some.inj e))); replace HGW := Aside0.mk (grown_two HGW.out hg)
  replace HM := Aside0.mk hM
  clear hM hg
  refine ⟨_, rfl, ?_⟩
  refine hK.out _ _ hs (fun hHeld => ?_)
  clear hK K
  refine norm_ (a' := ?_) ?_ ?_
  rotate_left
  · show Act.put _ (some 37) _ = _
    simp only [Act.put, List.setIfInBounds_toArray, List.set_cons_zero, List.set_cons_succ, i64_w, i32_w]
    rfl
  refine pure_ (i := 6) (N := some 31) (v := ?_) (a' := ?_) #[true, true, true, true, true, true, true, false, false, false, false] rfl rfl (any_of HT_.out (by kernel_rfl)) (fun _ _ _ h => h) (Or.inl ⟨by rfl, ?_⟩) ?_ ?_
  rotate_left
  · intro w'
    go_simp
    with_reducible rfl
  rotate_left
  · simp only [Act.put, List.setIfInBounds_toArray, List.set_cons_zero, List.set_cons_succ, i64_w, i32_w]
    rfl
  refine pure_ (i := 7) (N := some 38) (v := ?_) (a' := ?_) #[true, true, true, true, true, true, true, true, false, false, false] rfl rfl (any_of HT_.out (by kernel_rfl)) (fun _ _ _ h => h) (Or.inl ⟨by rfl, ?_⟩) ?_ ?_
  rotate_left
  · intro w'
    go_simp
    with_reducible rfl
  rotate_left
  · simp only [Act.put, List.setIfInBounds_toArray, List.set_cons_zero, List.set_cons_succ, i64_w, i32_w]
    rfl
  refine pure_ (i := 8) (N := some 39) (v := ?_) (a' := ?_) #[true, true, true, true, true, true, true, true, true, false, false] rfl rfl (any_of HT_.out (by kernel_rfl)) (fun _ _ _ h => h) (Or.inl ⟨by rfl, ?_⟩) ?_ ?_
  rotate_left
  · intro w'
    go_simp
    with_reducible rfl
  rotate_left
  · simp only [Act.put, List.setIfInBounds_toArray, List.set_cons_zero, List.set_cons_succ, i64_w, i32_w]
    rfl
  refine pure_ (i := 9) (N := some 8) (v := ?_) (a' := ?_) #[true, true, true, true, true, true, true, true, true, true, false] rfl rfl (any_of HT_.out (by kernel_rfl)) (fun _ _ _ h => h) (Or.inl ⟨by rfl, ?_⟩) ?_ ?_
  rotate_left
  · intro w'
    go_simp
    with_reducible rfl
  rotate_left
  · simp only [Act.put, List.setIfInBounds_toArray, List.set_cons_zero, List.set_cons_succ, i64_w, i32_w]
    rfl
  refine pure_ (i := 10) (N := some 9) (v := ?_) (a' := ?_) #[true, true, true, true, true, true, true, true, true, true, true] rfl rfl (any_of HT_.out (by kernel_rfl)) (fun _ _ _ h => h) (Or.inl ⟨by rfl, ?_⟩) ?_ ?_
  rotate_left
  · intro w'
    go_simp
    with_reducible rfl
  rotate_left
  · simp only [Act.put, List.setIfInBounds_toArray, List.set_cons_zero, List.set_cons_succ, i64_w, i32_w]
    rfl
  refine done_ (done_of HT_.out (by kernel_rfl)) ?_
  replace HB5 := Aside0.mk hHeld
  go_wp2
  have HV0 := HV
  have HM0 := HM
  clear HV HM
  replace HGW := Aside0.mk (grown_two HGW.out (grown_drew _ (some r)))
  have HV := Aside0.mk (Kd.V_drew HV0.out)
  have HM := Aside0.mk (HM0.out.same (grown_drew _ none))
  refine start_ (n := 13) (S := fun w' => w'.heap[h5]? = some (.cells #[.int .i64 0, .int .i64 n, .int .i64 ctx, .int .u64 va, .int .i64 e.f0, .int .i64 e.f1, .int .u64 e.f2, .int .u64 e.f3, .bool e.f4.f0, .bool e.f4.f1, .bool e.f4.f2, .bool e.f4.f3, .bool e.f4.f4, .bool e.f4.f5, .bool e.f5, .bool raw] 54 (0, 0))) (ds := []) #[false, false, false, false, false, false, false, false, false, false, false, false, false] (by kernel_rfl) rfl rfl HB5.out (fun hHeld => ?_)
  refine with_tab does4_tab (fun HT_ => ?_)
  refine pure_ (i := 0) (N := some 41) (v := ?_) (a' := ?_) #[true, false, false, false, false, false, false, false, false, false, false, false, false] rfl rfl (any_of HT_.out (by kernel_rfl)) (fun _ _ _ h => h) (Or.inl ⟨by rfl, ?_⟩) ?_ ?_
  rotate_left
  · intro w'
    go_simp
    with_reducible rfl
  rotate_left
  · simp only [Act.put, List.setIfInBounds_toArray, List.set_cons_zero, List.set_cons_succ, i64_w, i32_w]
    rfl
  refine pure_ (i := 3) (N := some 44) (v := ?_) (a' := ?_) #[true, false, false, true, false, false, false, false, false, false, false, false, false] rfl rfl (any_of HT_.out (by kernel_rfl)) (fun _ _ _ h => h) (Or.inl ⟨by rfl, ?_⟩) ?_ ?_
  rotate_left
  · intro w'
    go_simp
    with_reducible rfl
  rotate_left
  · simp only [Act.put, List.setIfInBounds_toArray, List.set_cons_zero, List.set_cons_succ, i64_w, i32_w]
    rfl
  refine take_ (i := 1) (N := some 42) (v := .agg #[.int .i64 0, .int .i64 n, .int .i64 ctx, .int .u64 va, .int .i64 e.f0, .int .i64 e.f1, .int .u64 e.f2, .int .u64 e.f3, .bool e.f4.f0, .bool e.f4.f1, .bool e.f4.f2, .bool e.f4.f3, .bool e.f4.f4, .bool e.f4.f5, .bool e.f5, .bool raw]) (a' := ?_) #[true, true, false, true, false, false, false, false, false, false, false, false, false] rfl rfl (take_of HT_.out (by kernel_rfl)) (fun _ _ _ h => h) (Or.inl ⟨by rfl, ?_⟩) hHeld ?_ ?_
  · rintro w' s1
    obtain ⟨q0, q1, q2, q3, q4, q5, q6, q7, q8, q9, q10, q11, q12, q13, q14, q15⟩ := cz16 s1
    go_simp
  rotate_left
  · simp only [Act.put, List.setIfInBounds_toArray, List.set_cons_zero, List.set_cons_succ, i64_w, i32_w]
    rfl
  refine take_ (i := 4) (N := some 45) (v := .int .i64 n) (a' := ?_) #[true, true, false, true, true, false, false, false, false, false, false, false, false] rfl rfl (take_of HT_.out (by kernel_rfl)) (fun _ _ _ h => h) (Or.inl ⟨by rfl, ?_⟩) hHeld ?_ ?_
  · rintro w' s1
    obtain ⟨q0, q1, q2, q3, q4, q5, q6, q7, q8, q9, q10, q11, q12, q13, q14, q15⟩ := cz16 s1
    go_simp
  rotate_left
  · simp only [Act.put, List.setIfInBounds_toArray, List.set_cons_zero, List.set_cons_succ, i64_w, i32_w]
    rfl
  refine one_ (i := 2) (N := some 43) #[true, true, true, true, true, false, false, false, false, false, false, false, false] rfl rfl (one_of HT_.out (by kernel_rfl)) (by decide) (fun K hK => ?_)
  refine goes_ Try.func63 (by kernel_rfl) rfl #[.agg #[.int .i64 0, .int .i64 n, .int .i64 ctx, .int .u64 va, .int .i64 e.f0, .int .i64 e.f1, .int .u64 e.f2, .int .u64 e.f3, .bool e.f4.f0, .bool e.f4.f1, .bool e.f4.f2, .bool e.f4.f3, .bool e.f4.f4, .bool e.f4.f5, .bool e.f5, .bool raw]] (by rfl) rfl rfl (by (try simp only [List.map_toArray, List.map_cons, List.map_nil]); first | done | rfl) ?_
  refine (entry_calls _ n ctx va HWE0.out raw _).mono ?_
  rintro x0 wn ⟨rfl, hg⟩
  have hs := blk_grown hHeld hg
  replace HM := Aside0.mk (HM.out.same hg)
  replace HV := Aside0.mk (Kd.V_grown HV.out hg (by simp)); replace HGW := Aside0.mk (grown_two HGW.out (grown_but hg (some r)))
  clear hg
  refine ⟨_, rfl, ?_⟩
  refine hK.out _ _ hs (fun hHeld => ?_)
  clear hK K
  refine norm_ (a' := ?_) ?_ ?_
  rotate_left
  · show Act.put _ (some 43) _ = _
    simp only [Act.put, List.setIfInBounds_toArray, List.set_cons_zero, List.set_cons_succ, i64_w, i32_w]
    rfl
  refine one_ (i := 5) (N := some 46) #[true, true, true, true, true, true, false, false, false, false, false, false, false] rfl rfl (one_of HT_.out (by kernel_rfl)) (by decide) (fun K hK => ?_)
  refine goes_ Try.func64 (by kernel_rfl) rfl #[.slice A (refL es).length c, .agg (entA (entryE e raw)), .int .i64 n] (by rfl) rfl rfl (by (try simp only [List.map_toArray, List.map_cons, List.map_nil]); first | done | rfl) ?_
  refine (lookasideref06_Insert.calls 1000 (fun k => k ≠ r) A c (refL es) (entryE e raw).f0 (entryE e raw).f1 (entryE e raw).f2 (entryE e raw).f3 (entryE e raw).f4.f0 (entryE e raw).f4.f1 (entryE e raw).f4.f2 (entryE e raw).f4.f3 (entryE e raw).f4.f4 (entryE e raw).f4.f5 (entryE e raw).f5 n _ _ _ _ HV.out HRI.out).mono ?_
  rintro x0 wn ⟨v2, rfl, hV2, hb⟩
  have hg := below_grown hb
  have HV2 := Aside0.mk (Kd.V_mono (ok' := fun k => k ≠ r) hV2 (fun k hk => hk.elim id (fun h e => by subst e; have := HM.out.rlt; omega)))
  have hs := blk_grown hHeld hg
  replace HM := Aside0.mk (HM.out.same hg)
  replace HV := Aside0.mk (Kd.V_grown HV.out hg (by simp)); replace HGW := Aside0.mk (grown_two HGW.out (grown_but hg (some r)))
  clear hV2 hb hg
  refine ⟨_, rfl, ?_⟩
  refine hK.out _ _ hs (fun hHeld => ?_)
  clear hK K
  refine norm_ (a' := ?_) ?_ ?_
  rotate_left
  · show Act.put _ (some 46) _ = _
    simp only [Act.put, List.setIfInBounds_toArray, List.set_cons_zero, List.set_cons_succ, i64_w, i32_w]
    rfl
  refine pure_ (i := 6) (N := some 40) (v := ?_) (a' := ?_) #[true, true, true, true, true, true, true, false, false, false, false, false, false] rfl rfl (any_of HT_.out (by kernel_rfl)) (fun _ _ _ h => h) (Or.inl ⟨by rfl, ?_⟩) ?_ ?_
  rotate_left
  · intro w'
    go_simp
    with_reducible rfl
  rotate_left
  · simp only [Act.put, List.setIfInBounds_toArray, List.set_cons_zero, List.set_cons_succ, i64_w, i32_w]
    rfl
  refine pure_ (i := 7) (N := some 47) (v := ?_) (a' := ?_) #[true, true, true, true, true, true, true, true, false, false, false, false, false] rfl rfl (any_of HT_.out (by kernel_rfl)) (fun _ _ _ h => h) (Or.inl ⟨by rfl, ?_⟩) ?_ ?_
  rotate_left
  · intro w'
    go_simp
    with_reducible rfl
  rotate_left
  · simp only [Act.put, List.setIfInBounds_toArray, List.set_cons_zero, List.set_cons_succ, i64_w, i32_w]
    rfl
  refine pure_ (i := 8) (N := some 48) (v := ?_) (a' := ?_) #[true, true, true, true, true, true, true, true, true, false, false, false, false] rfl rfl (any_of HT_.out (by kernel_rfl)) (fun _ _ _ h => h) (Or.inl ⟨by rfl, ?_⟩) ?_ ?_
  rotate_left
  · intro w'
    go_simp
    with_reducible rfl
  rotate_left
  · simp only [Act.put, List.setIfInBounds_toArray, List.set_cons_zero, List.set_cons_succ, i64_w, i32_w]
    rfl
  refine pure_ (i := 9) (N := some 49) (v := ?_) (a' := ?_) #[true, true, true, true, true, true, true, true, true, true, false, false, false] rfl rfl (any_of HT_.out (by kernel_rfl)) (fun _ _ _ h => h) (Or.inl ⟨by rfl, ?_⟩) ?_ ?_
  rotate_left
  · intro w'
    go_simp
    with_reducible rfl
  rotate_left
  · simp only [Act.put, List.setIfInBounds_toArray, List.set_cons_zero, List.set_cons_succ, i64_w, i32_w]
    rfl
  refine pure_ (i := 10) (N := some 10) (v := ?_) (a' := ?_) #[true, true, true, true, true, true, true, true, true, true, true, false, false] rfl rfl (any_of HT_.out (by kernel_rfl)) (fun _ _ _ h => h) (Or.inl ⟨by rfl, ?_⟩) ?_ ?_
  rotate_left
  · intro w'
    go_simp
    with_reducible rfl
  rotate_left
  · simp only [Act.put, List.setIfInBounds_toArray, List.set_cons_zero, List.set_cons_succ, i64_w, i32_w]
    rfl
  refine pure_ (i := 11) (N := some 11) (v := ?_) (a' := ?_) #[true, true, true, true, true, true, true, true, true, true, true, true, false] rfl rfl (any_of HT_.out (by kernel_rfl)) (fun _ _ _ h => h) (Or.inl ⟨by rfl, ?_⟩) ?_ ?_
  rotate_left
  · intro w'
    go_simp
    with_reducible rfl
  rotate_left
  · simp only [Act.put, List.setIfInBounds_toArray, List.set_cons_zero, List.set_cons_succ, i64_w, i32_w]
    rfl
  refine pure_ (i := 12) (N := some 12) (v := ?_) (a' := ?_) #[true, true, true, true, true, true, true, true, true, true, true, true, true] rfl rfl (any_of HT_.out (by kernel_rfl)) (fun _ _ _ h => h) (Or.inl ⟨by rfl, ?_⟩) ?_ ?_
  rotate_left
  · intro w'
    go_simp
    with_reducible rfl
  rotate_left
  · simp only [Act.put, List.setIfInBounds_toArray, List.set_cons_zero, List.set_cons_succ, i64_w, i32_w]
    rfl
  refine done_ (done_of HT_.out (by kernel_rfl)) ?_
  replace HB5 := Aside0.mk hHeld
  by_cases h7 : er = 7
  · obtain ⟨e1, e2⟩ := HE7.out h7
    subst h7 e1 e2
    go_wp2
    exact bodyPost_ret (v := .tuple #[.slice A (refL es2).length c, .bool true]) (by simp [results, Try.f29]) rfl (by first | exact ⟨_, es2, rfl, HIN2.out, (by first | exact HIL.out | rfl), HM.out, HV.out, HGW.out⟩ | exact ⟨_, rfl, es2, HIN2.out, (by first | exact HIL.out | rfl), HM.out, HV.out, HGW.out⟩)
  · go_wp2
    exact bodyPost_ret (v := .tuple #[v2, .bool true]) (by simp [results, Try.f29]) rfl ⟨_, es2, rfl, HIN2.out, (by first | exact HIL.out | rfl), HM.out, HV2.out, HGW.out⟩
end
end Go.Proofs.Ythclbckkfgmbaaa.QTlbPlays
namespace Go.Proofs.Ythclbckkfgmbaaa.QTlbPlays
open Go.RowKit Go.Proofs.YthclbckkfgmbaaaW.PrintWords Go.Proofs.YthclbckkfgmbaaaW.PrintLast Go.Proofs.YthclbckkfgmbaaaW.PrintMore
set_option linter.unusedSimpArgs false
set_option linter.unusedVariables false
section
set_option maxHeartbeats 1000000
set_option maxRecDepth 100000
theorem put_inv {es : List (Option Ent)} (h : Inv es) {e : Ent} (he : EntW e) (a : Int) : Inv (putOf es a e).2 := by
  unfold putOf
  split
  · exact h
  · rename_i hm
    split
    · exact h
    · rename_i hi
      split
      · exact h
      · rename_i hany
        have hdn : 0 ≤ a ∧ a < (es.length : Int) := by
          have hi2 : inB es a = true := by simpa using hi
          exact of_decide_eq_true hi2
        obtain ⟨n, rfl⟩ := Int.eq_ofNat_of_zero_le hdn.1
        rw [Int.toNat_natCast]
        refine h.put (by omega) he (by simpa using hm) (fun j b hj hx => ?_)
        cases hp : partsB e b with
        | true => rfl
        | false =>
          refine absurd (List.any_eq_true.2 ⟨j, mem_plL.2 ⟨b, hx, by unfold againstQ; rw [hp]; rfl⟩, ?_⟩) hany
          simp
          omega
theorem put_len (es : List (Option Ent)) (e : Ent) (a : Int) : (putOf es a e).2.length = es.length := by
  unfold putOf
  split
  · rfl
  · split
    · rfl
    · split
      · rfl
      · simp
theorem clearAt_inv {es : List (Option Ent)} (h : Inv es) (a : Int) : Inv (clearAt es a) := by
  unfold clearAt
  split
  · exact h.drop _
  · exact h
theorem clearAt_len (es : List (Option Ent)) (a : Int) : (clearAt es a).length = es.length := by
  unfold clearAt
  split
  · simp
  · rfl
theorem does_1 {B w0 p r es W} (h : Tl B w0 p r es W) (hinv : Inv es) {base : Nat} (A : Option Addr) (c : Nat) (hv : Kd.V k26 26 W base (fun k => k ≠ r) (.slice A (refL es).length c) (refL es)) (n ctx va : Int) (e : Ent) (raw : Bool) (hn : (Lit.int .i64 n).wf = true) (hva : (Lit.int .u64 va).wf = true) (he : EntW e) :
    Calls Try.prog 29 #[.pointer (some ⟨p, 0, none⟩), .slice A (refL es).length c, .agg #[.int .i64 1, .int .i64 n, .int .i64 ctx, .int .u64 va, .int .i64 e.f0, .int .i64 e.f1, .int .u64 e.f2, .int .u64 e.f3, .bool e.f4.f0, .bool e.f4.f1, .bool e.f4.f2, .bool e.f4.f3, .bool e.f4.f4, .bool e.f4.f5, .bool e.f5, .bool raw]] W fun x W' => ∃ v' es', x = .returned (.tuple #[v', .bool true]) ∧ Inv es' ∧ es'.length = es.length ∧ Tl B w0 p r es' W' ∧ Kd.V k26 26 W' 0 (fun k => k ≠ r) v' (refL es') ∧ W.grownBy W' (some r) := by
  have hu := Try.underlying26
  have hu2 := Try.underlying24
  have hu3 := Try.underlying54
  have hg0 := World.grownBy_alloc W (.cells #[.int .i64 1, .int .i64 n, .int .i64 ctx, .int .u64 va, .int .i64 e.f0, .int .i64 e.f1, .int .u64 e.f2, .int .u64 e.f3, .bool e.f4.f0, .bool e.f4.f1, .bool e.f4.f2, .bool e.f4.f3, .bool e.f4.f4, .bool e.f4.f5, .bool e.f5, .bool raw] 54) none
  have HB5 := Aside0.mk (heap_alloc_new W (.cells #[.int .i64 1, .int .i64 n, .int .i64 ctx, .int .u64 va, .int .i64 e.f0, .int .i64 e.f1, .int .u64 e.f2, .int .u64 e.f3, .bool e.f4.f0, .bool e.f4.f1, .bool e.f4.f2, .bool e.f4.f3, .bool e.f4.f4, .bool e.f4.f5, .bool e.f5, .bool raw] 54))
  have HM0 := Aside0.mk (h.same hg0)
  have HV0 := Aside0.mk (Kd.V_grown hv hg0 (by simp))
  have HINV := Aside0.mk hinv
  have HN := Aside0.mk hn
  have HVA := Aside0.mk hva
  have HWE0 := Aside0.mk he
  have HW1 := Aside0.mk (entry_W he raw)
  have HNE := Aside0.mk (show W.heap.size ≠ r from fun e => by have := h.rlt; omega)
  have HGW := Aside0.mk (grown_but hg0 (some r))
  have HL64 := Aside0.mk h.len
  have HL1 := Aside0.mk h.one
  clear h hinv hv hn hva he hg0
  obtain ⟨q0, q1, q2, q3, q4, q5, q6, q7, q8, q9, q10, q11, q12, q13, q14, q15⟩ := cz16 HB5.out
  go_enter Try.func29, Try.ntmps29
  have hri := ref_put HINV.out.ok HL64.out HW1.out n
  obtain ⟨er, es2, hpv⟩ : ∃ a b, putOf es n (entryE e raw) = (a, b) := ⟨_, _, rfl⟩
  have hin2 := put_inv HINV.out HW1.out n
  have hil := put_len es (entryE e raw) n
  rw [hpv] at hri hin2 hil
  have HRI := Aside0.mk hri
  have HPV := Aside0.mk hpv
  have HIN2 := Aside0.mk hin2
  have HIL := Aside0.mk hil
  clear hri hin2 hil hpv
  go_wp2
  clear q0 q1 q2 q3 q4 q5 q6 q7 q8 q9 q10 q11 q12 q13 q14 q15
  generalize W.heap.size = h5 at HB5 HNE ⊢
  generalize W.alloc _ = W5 at HB5 HM0 HV0 HGW ⊢
  replace HGW := Aside0.mk (grown_two HGW.out (grown_drew _ (some r)))
  have HV := Aside0.mk (Kd.V_drew HV0.out)
  have HM := Aside0.mk (HM0.out.same (grown_drew _ none))
  refine start_ (n := 11) (S := fun w' => w'.heap[h5]? = some (.cells #[.int .i64 1, .int .i64 n, .int .i64 ctx, .int .u64 va, .int .i64 e.f0, .int .i64 e.f1, .int .u64 e.f2, .int .u64 e.f3, .bool e.f4.f0, .bool e.f4.f1, .bool e.f4.f2, .bool e.f4.f3, .bool e.f4.f4, .bool e.f4.f5, .bool e.f5, .bool raw] 54 (0, 0))) (ds := []) #[false, false, false, false, false, false, false, false, false, false, false] (by kernel_rfl) rfl rfl HB5.out (fun hHeld => ?_)
  refine with_tab does9_tab (fun HT_ => ?_)
  refine pure_ (i := 0) (N := some 72) (v := ?_) (a' := ?_) #[true, false, false, false, false, false, false, false, false, false, false] rfl rfl (any_of HT_.out (by kernel_rfl)) (fun _ _ _ h => h) (Or.inl ⟨by rfl, ?_⟩) ?_ ?_
  rotate_left
  · intro w'
    go_simp
    with_reducible rfl
  rotate_left
  · simp only [Act.put, List.setIfInBounds_toArray, List.set_cons_zero, List.set_cons_succ, i64_w, i32_w]
    rfl
  refine pure_ (i := 1) (N := some 73) (v := ?_) (a' := ?_) #[true, true, false, false, false, false, false, false, false, false, false] rfl rfl (any_of HT_.out (by kernel_rfl)) (fun _ _ _ h => h) (Or.inl ⟨by rfl, ?_⟩) ?_ ?_
  rotate_left
  · intro w'
    go_simp
    with_reducible rfl
  rotate_left
  · simp only [Act.put, List.setIfInBounds_toArray, List.set_cons_zero, List.set_cons_succ, i64_w, i32_w]
    rfl
  refine take_ (i := 2) (N := some 74) (v := .int .i64 n) (a' := ?_) #[true, true, true, false, false, false, false, false, false, false, false] rfl rfl (take_of HT_.out (by kernel_rfl)) (fun _ _ _ h => h) (Or.inl ⟨by rfl, ?_⟩) hHeld ?_ ?_
  · rintro w' s1
    obtain ⟨q0, q1, q2, q3, q4, q5, q6, q7, q8, q9, q10, q11, q12, q13, q14, q15⟩ := cz16 s1
    go_simp
  rotate_left
  · simp only [Act.put, List.setIfInBounds_toArray, List.set_cons_zero, List.set_cons_succ, i64_w, i32_w]
    rfl
  refine take_ (i := 3) (N := some 75) (v := .agg #[.int .i64 1, .int .i64 n, .int .i64 ctx, .int .u64 va, .int .i64 e.f0, .int .i64 e.f1, .int .u64 e.f2, .int .u64 e.f3, .bool e.f4.f0, .bool e.f4.f1, .bool e.f4.f2, .bool e.f4.f3, .bool e.f4.f4, .bool e.f4.f5, .bool e.f5, .bool raw]) (a' := ?_) #[true, true, true, true, false, false, false, false, false, false, false] rfl rfl (take_of HT_.out (by kernel_rfl)) (fun _ _ _ h => h) (Or.inl ⟨by rfl, ?_⟩) hHeld ?_ ?_
  · rintro w' s1
    obtain ⟨q0, q1, q2, q3, q4, q5, q6, q7, q8, q9, q10, q11, q12, q13, q14, q15⟩ := cz16 s1
    go_simp
  rotate_left
  · simp only [Act.put, List.setIfInBounds_toArray, List.set_cons_zero, List.set_cons_succ, i64_w, i32_w]
    rfl
  refine one_ (i := 4) (N := some 76) #[true, true, true, true, true, false, false, false, false, false, false] rfl rfl (one_of HT_.out (by kernel_rfl)) (by decide) (fun K hK => ?_)
  refine goes_ Try.func63 (by kernel_rfl) rfl #[.agg #[.int .i64 1, .int .i64 n, .int .i64 ctx, .int .u64 va, .int .i64 e.f0, .int .i64 e.f1, .int .u64 e.f2, .int .u64 e.f3, .bool e.f4.f0, .bool e.f4.f1, .bool e.f4.f2, .bool e.f4.f3, .bool e.f4.f4, .bool e.f4.f5, .bool e.f5, .bool raw]] (by rfl) rfl rfl (by (try simp only [List.map_toArray, List.map_cons, List.map_nil]); first | done | rfl) ?_
  refine (entry_calls _ n ctx va HWE0.out raw _).mono ?_
  rintro x0 wn ⟨rfl, hg⟩
  try replace HV2 := Aside0.mk (Kd.V_grown HV2.out hg (by simp))
  have hs := blk_grown hHeld hg
  replace HM := Aside0.mk (HM.out.same hg)
  replace HV := Aside0.mk (Kd.V_grown HV.out hg (by simp)); replace HGW := Aside0.mk (grown_two HGW.out (grown_but hg (some r)))
  clear hg
  refine ⟨_, rfl, ?_⟩
  refine hK.out _ _ hs (fun hHeld => ?_)
  clear hK K
  refine norm_ (a' := ?_) ?_ ?_
  rotate_left
  · show Act.put _ (some 76) _ = _
    simp only [Act.put, List.setIfInBounds_toArray, List.set_cons_zero, List.set_cons_succ, i64_w, i32_w]
    rfl
  refine one_ (i := 5) (N := some 77) #[true, true, true, true, true, true, false, false, false, false, false] rfl rfl (one_of HT_.out (by kernel_rfl)) (by decide) (fun K hK => ?_)
  refine goes_ Try.func65 (by kernel_rfl) rfl #[.slice A (refL es).length c, .int .i64 n, .agg (entA (entryE e raw))] (by rfl) rfl rfl (by (try simp only [List.map_toArray, List.map_cons, List.map_nil]); first | done | rfl) ?_
  refine (lookasideref06_Put.calls 1000 (fun k => k ≠ r) A c (refL es) n (entryE e raw).f0 (entryE e raw).f1 (entryE e raw).f2 (entryE e raw).f3 (entryE e raw).f4.f0 (entryE e raw).f4.f1 (entryE e raw).f4.f2 (entryE e raw).f4.f3 (entryE e raw).f4.f4 (entryE e raw).f4.f5 (entryE e raw).f5 _ _ _ HV.out HRI.out).mono ?_
  rintro x0 wn ⟨v2, rfl, hV2, hb⟩
  have hg := below_grown hb
  have HV2 := Aside0.mk (Kd.V_mono (ok' := fun k => k ≠ r) hV2 (fun k hk => hk.elim id (fun h e => by subst e; have := HM.out.rlt; omega)))
  have hs := blk_grown hHeld hg
  replace HM := Aside0.mk (HM.out.same hg)
  replace HV := Aside0.mk (Kd.V_grown HV.out hg (by simp)); replace HGW := Aside0.mk (grown_two HGW.out (grown_but hg (some r)))
  clear hV2 hb hg
  refine ⟨_, rfl, ?_⟩
  refine hK.out _ _ hs (fun hHeld => ?_)
  clear hK K
  refine norm_ (a' := ?_) ?_ ?_
  rotate_left
  · show Act.put _ (some 77) _ = _
    simp only [Act.put, List.setIfInBounds_toArray, List.set_cons_zero, List.set_cons_succ, i64_w, i32_w]
    rfl
  refine pure_ (i := 6) (N := some 71) (v := ?_) (a' := ?_) #[true, true, true, true, true, true, true, false, false, false, false] rfl rfl (any_of HT_.out (by kernel_rfl)) (fun _ _ _ h => h) (Or.inl ⟨by rfl, ?_⟩) ?_ ?_
  rotate_left
  · intro w'
    go_simp
    with_reducible rfl
  rotate_left
  · simp only [Act.put, List.setIfInBounds_toArray, List.set_cons_zero, List.set_cons_succ, i64_w, i32_w]
    rfl
  refine pure_ (i := 7) (N := some 78) (v := ?_) (a' := ?_) #[true, true, true, true, true, true, true, true, false, false, false] rfl rfl (any_of HT_.out (by kernel_rfl)) (fun _ _ _ h => h) (Or.inl ⟨by rfl, ?_⟩) ?_ ?_
  rotate_left
  · intro w'
    go_simp
    with_reducible rfl
  rotate_left
  · simp only [Act.put, List.setIfInBounds_toArray, List.set_cons_zero, List.set_cons_succ, i64_w, i32_w]
    rfl
  refine pure_ (i := 8) (N := some 79) (v := ?_) (a' := ?_) #[true, true, true, true, true, true, true, true, true, false, false] rfl rfl (any_of HT_.out (by kernel_rfl)) (fun _ _ _ h => h) (Or.inl ⟨by rfl, ?_⟩) ?_ ?_
  rotate_left
  · intro w'
    go_simp
    with_reducible rfl
  rotate_left
  · simp only [Act.put, List.setIfInBounds_toArray, List.set_cons_zero, List.set_cons_succ, i64_w, i32_w]
    rfl
  refine pure_ (i := 9) (N := some 13) (v := ?_) (a' := ?_) #[true, true, true, true, true, true, true, true, true, true, false] rfl rfl (any_of HT_.out (by kernel_rfl)) (fun _ _ _ h => h) (Or.inl ⟨by rfl, ?_⟩) ?_ ?_
  rotate_left
  · intro w'
    go_simp
    with_reducible rfl
  rotate_left
  · simp only [Act.put, List.setIfInBounds_toArray, List.set_cons_zero, List.set_cons_succ, i64_w, i32_w]
    rfl
  refine pure_ (i := 10) (N := some 14) (v := ?_) (a' := ?_) #[true, true, true, true, true, true, true, true, true, true, true] rfl rfl (any_of HT_.out (by kernel_rfl)) (fun _ _ _ h => h) (Or.inl ⟨by rfl, ?_⟩) ?_ ?_
  rotate_left
  · intro w'
    go_simp
    with_reducible rfl
  rotate_left
  · simp only [Act.put, List.setIfInBounds_toArray, List.set_cons_zero, List.set_cons_succ, i64_w, i32_w]
    rfl
  refine done_ (done_of HT_.out (by kernel_rfl)) ?_
  replace HB5 := Aside0.mk hHeld
  go_wp2
  have HV0 := HV
  have HM0 := HM
  clear HV HM
  replace HGW := Aside0.mk (grown_two HGW.out (grown_drew _ (some r)))
  have HV := Aside0.mk (Kd.V_drew HV0.out)
  have HM := Aside0.mk (HM0.out.same (grown_drew _ none))
  replace HV2 := Aside0.mk (Kd.V_drew HV2.out)
  refine start_ (n := 11) (S := fun w' => w'.heap[h5]? = some (.cells #[.int .i64 1, .int .i64 n, .int .i64 ctx, .int .u64 va, .int .i64 e.f0, .int .i64 e.f1, .int .u64 e.f2, .int .u64 e.f3, .bool e.f4.f0, .bool e.f4.f1, .bool e.f4.f2, .bool e.f4.f3, .bool e.f4.f4, .bool e.f4.f5, .bool e.f5, .bool raw] 54 (0, 0))) (ds := []) #[false, false, false, false, false, false, false, false, false, false, false] (by kernel_rfl) rfl rfl HB5.out (fun hHeld => ?_)
  refine with_tab does10_tab (fun HT_ => ?_)
  refine pure_ (i := 0) (N := some 80) (v := ?_) (a' := ?_) #[true, false, false, false, false, false, false, false, false, false, false] rfl rfl (any_of HT_.out (by kernel_rfl)) (fun _ _ _ h => h) (Or.inl ⟨by rfl, ?_⟩) ?_ ?_
  rotate_left
  · intro w'
    go_simp
    with_reducible rfl
  rotate_left
  · simp only [Act.put, List.setIfInBounds_toArray, List.set_cons_zero, List.set_cons_succ, i64_w, i32_w]
    rfl
  refine pure_ (i := 1) (N := some 81) (v := ?_) (a' := ?_) #[true, true, false, false, false, false, false, false, false, false, false] rfl rfl (any_of HT_.out (by kernel_rfl)) (fun _ _ _ h => h) (Or.inl ⟨by rfl, ?_⟩) ?_ ?_
  rotate_left
  · intro w'
    go_simp
    with_reducible rfl
  rotate_left
  · simp only [Act.put, List.setIfInBounds_toArray, List.set_cons_zero, List.set_cons_succ, i64_w, i32_w]
    rfl
  refine pure_ (i := 2) (N := some 82) (v := ?_) (a' := ?_) #[true, true, true, false, false, false, false, false, false, false, false] rfl rfl (any_of HT_.out (by kernel_rfl)) (fun _ _ _ h => h) (Or.inl ⟨by rfl, ?_⟩) ?_ ?_
  rotate_left
  · intro w'
    go_simp
    with_reducible rfl
  rotate_left
  · simp only [Act.put, List.setIfInBounds_toArray, List.set_cons_zero, List.set_cons_succ, i64_w, i32_w]
    rfl
  refine pure_ (i := 7) (N := some 87) (v := ?_) (a' := ?_) #[true, true, true, false, false, false, false, true, false, false, false] rfl rfl (any_of HT_.out (by kernel_rfl)) (fun _ _ _ h => h) (Or.inl ⟨by rfl, ?_⟩) ?_ ?_
  rotate_left
  · intro w'
    go_simp
    with_reducible rfl
  rotate_left
  · simp only [Act.put, List.setIfInBounds_toArray, List.set_cons_zero, List.set_cons_succ, i64_w, i32_w]
    rfl
  refine take_ (i := 3) (N := some 83) (v := .int .i64 n) (a' := ?_) #[true, true, true, true, false, false, false, true, false, false, false] rfl rfl (take_of HT_.out (by kernel_rfl)) (fun _ _ _ h => h) (Or.inl ⟨by rfl, ?_⟩) hHeld ?_ ?_
  · rintro w' s1
    obtain ⟨q0, q1, q2, q3, q4, q5, q6, q7, q8, q9, q10, q11, q12, q13, q14, q15⟩ := cz16 s1
    go_simp
  rotate_left
  · simp only [Act.put, List.setIfInBounds_toArray, List.set_cons_zero, List.set_cons_succ, i64_w, i32_w]
    rfl
  refine take_ (i := 4) (N := some 84) (v := .agg #[.int .i64 1, .int .i64 n, .int .i64 ctx, .int .u64 va, .int .i64 e.f0, .int .i64 e.f1, .int .u64 e.f2, .int .u64 e.f3, .bool e.f4.f0, .bool e.f4.f1, .bool e.f4.f2, .bool e.f4.f3, .bool e.f4.f4, .bool e.f4.f5, .bool e.f5, .bool raw]) (a' := ?_) #[true, true, true, true, true, false, false, true, false, false, false] rfl rfl (take_of HT_.out (by kernel_rfl)) (fun _ _ _ h => h) (Or.inl ⟨by rfl, ?_⟩) hHeld ?_ ?_
  · rintro w' s1
    obtain ⟨q0, q1, q2, q3, q4, q5, q6, q7, q8, q9, q10, q11, q12, q13, q14, q15⟩ := cz16 s1
    go_simp
  rotate_left
  · simp only [Act.put, List.setIfInBounds_toArray, List.set_cons_zero, List.set_cons_succ, i64_w, i32_w]
    rfl
  refine one_ (i := 5) (N := some 85) #[true, true, true, true, true, true, false, true, false, false, false] rfl rfl (one_of HT_.out (by kernel_rfl)) (by decide) (fun K hK => ?_)
  refine goes_ Try.func63 (by kernel_rfl) rfl #[.agg #[.int .i64 1, .int .i64 n, .int .i64 ctx, .int .u64 va, .int .i64 e.f0, .int .i64 e.f1, .int .u64 e.f2, .int .u64 e.f3, .bool e.f4.f0, .bool e.f4.f1, .bool e.f4.f2, .bool e.f4.f3, .bool e.f4.f4, .bool e.f4.f5, .bool e.f5, .bool raw]] (by rfl) rfl rfl (by (try simp only [List.map_toArray, List.map_cons, List.map_nil]); first | done | rfl) ?_
  refine (entry_calls _ n ctx va HWE0.out raw _).mono ?_
  rintro x0 wn ⟨rfl, hg⟩
  try replace HV2 := Aside0.mk (Kd.V_grown HV2.out hg (by simp))
  have hs := blk_grown hHeld hg
  replace HM := Aside0.mk (HM.out.same hg)
  replace HV := Aside0.mk (Kd.V_grown HV.out hg (by simp)); replace HGW := Aside0.mk (grown_two HGW.out (grown_but hg (some r)))
  clear hg
  refine ⟨_, rfl, ?_⟩
  refine hK.out _ _ hs (fun hHeld => ?_)
  clear hK K
  refine norm_ (a' := ?_) ?_ ?_
  rotate_left
  · show Act.put _ (some 85) _ = _
    simp only [Act.put, List.setIfInBounds_toArray, List.set_cons_zero, List.set_cons_succ, i64_w, i32_w]
    rfl
  refine one_ (i := 6) (N := some 86) #[true, true, true, true, true, true, true, true, false, false, false] rfl rfl (one_of HT_.out (by kernel_rfl)) (by decide) (fun K hK => ?_)
  refine goes_ Try.func66 (by kernel_rfl) rfl #[.pointer (some ⟨p, 0, none⟩), .int .i64 n, .agg (entA (entryE e raw))] (by rfl) rfl rfl (by (try simp only [List.map_toArray, List.map_cons, List.map_nil]); first | done | rfl) ?_
  refine (tl_put HM.out HINV.out.ok n _ HW1.out _ _ HPV.out).mono ?_
  rintro x0 wn ⟨rfl, hM, hg⟩
  have hs := (hg.block h5 (blk_lt hHeld) (fun e => HNE.out (Option.some.inj e))).trans hHeld
  replace HV := Aside0.mk (Kd.V_grown HV.out hg (fun k hk e => hk (Option.some.inj e))); replace HGW := Aside0.mk (grown_two HGW.out hg)
  try replace HV2 := Aside0.mk (Kd.V_grown HV2.out hg (fun k hk e => hk (Option.some.inj e)))
  replace HM := Aside0.mk hM
  clear hM hg
  refine ⟨_, rfl, ?_⟩
  refine hK.out _ _ hs (fun hHeld => ?_)
  clear hK K
  refine norm_ (a' := ?_) ?_ ?_
  rotate_left
  · show Act.put _ (some 86) _ = _
    simp only [Act.put, List.setIfInBounds_toArray, List.set_cons_zero, List.set_cons_succ, i64_w, i32_w]
    rfl
  refine pure_ (i := 8) (N := some 88) (v := .bool true) (a' := ?_) #[true, true, true, true, true, true, true, true, true, false, false] rfl rfl (any_of HT_.out (by kernel_rfl)) (fun _ _ _ h => h) (Or.inl ⟨by rfl, ?_⟩) ?_ ?_
  · intro w'
    go_simp
  rotate_left
  · simp only [Act.put, List.setIfInBounds_toArray, List.set_cons_zero, List.set_cons_succ, i64_w, i32_w]
    rfl
  refine pure_ (i := 9) (N := some 6) (v := ?_) (a' := ?_) #[true, true, true, true, true, true, true, true, true, true, false] rfl rfl (any_of HT_.out (by kernel_rfl)) (fun _ _ _ h => h) (Or.inl ⟨by rfl, ?_⟩) ?_ ?_
  rotate_left
  · intro w'
    go_simp
    with_reducible rfl
  rotate_left
  · simp only [Act.put, List.setIfInBounds_toArray, List.set_cons_zero, List.set_cons_succ, i64_w, i32_w]
    rfl
  refine pure_ (i := 10) (N := some 7) (v := ?_) (a' := ?_) #[true, true, true, true, true, true, true, true, true, true, true] rfl rfl (any_of HT_.out (by kernel_rfl)) (fun _ _ _ h => h) (Or.inl ⟨by rfl, ?_⟩) ?_ ?_
  rotate_left
  · intro w'
    go_simp
    with_reducible rfl
  rotate_left
  · simp only [Act.put, List.setIfInBounds_toArray, List.set_cons_zero, List.set_cons_succ, i64_w, i32_w]
    rfl
  refine done_ (done_of HT_.out (by kernel_rfl)) ?_
  replace HB5 := Aside0.mk hHeld
  go_wp2
  exact bodyPost_ret (v := .tuple #[v2, .bool true]) (by simp [results, Try.f29]) rfl (by first | exact ⟨_, es2, rfl, HIN2.out, (by first | exact HIL.out | rfl), HM.out, HV2.out, HGW.out⟩ | exact ⟨_, rfl, es2, HIN2.out, (by first | exact HIL.out | rfl), HM.out, HV2.out, HGW.out⟩)
theorem does_2 {B w0 p r es W} (h : Tl B w0 p r es W) (hinv : Inv es) {base : Nat} (A : Option Addr) (c : Nat) (hv : Kd.V k26 26 W base (fun k => k ≠ r) (.slice A (refL es).length c) (refL es)) (n ctx va : Int) (e : Ent) (raw : Bool) (hn : (Lit.int .i64 n).wf = true) (hva : (Lit.int .u64 va).wf = true) (he : EntW e) :
    Calls Try.prog 29 #[.pointer (some ⟨p, 0, none⟩), .slice A (refL es).length c, .agg #[.int .i64 2, .int .i64 n, .int .i64 ctx, .int .u64 va, .int .i64 e.f0, .int .i64 e.f1, .int .u64 e.f2, .int .u64 e.f3, .bool e.f4.f0, .bool e.f4.f1, .bool e.f4.f2, .bool e.f4.f3, .bool e.f4.f4, .bool e.f4.f5, .bool e.f5, .bool raw]] W fun x W' => ∃ v' es', x = .returned (.tuple #[v', .bool true]) ∧ Inv es' ∧ es'.length = es.length ∧ Tl B w0 p r es' W' ∧ Kd.V k26 26 W' 0 (fun k => k ≠ r) v' (refL es') ∧ W.grownBy W' (some r) := by
  have hu := Try.underlying26
  have hu2 := Try.underlying24
  have hu3 := Try.underlying54
  have hg0 := World.grownBy_alloc W (.cells #[.int .i64 2, .int .i64 n, .int .i64 ctx, .int .u64 va, .int .i64 e.f0, .int .i64 e.f1, .int .u64 e.f2, .int .u64 e.f3, .bool e.f4.f0, .bool e.f4.f1, .bool e.f4.f2, .bool e.f4.f3, .bool e.f4.f4, .bool e.f4.f5, .bool e.f5, .bool raw] 54) none
  have HB5 := Aside0.mk (heap_alloc_new W (.cells #[.int .i64 2, .int .i64 n, .int .i64 ctx, .int .u64 va, .int .i64 e.f0, .int .i64 e.f1, .int .u64 e.f2, .int .u64 e.f3, .bool e.f4.f0, .bool e.f4.f1, .bool e.f4.f2, .bool e.f4.f3, .bool e.f4.f4, .bool e.f4.f5, .bool e.f5, .bool raw] 54))
  have HM0 := Aside0.mk (h.same hg0)
  have HV0 := Aside0.mk (Kd.V_grown hv hg0 (by simp))
  have HINV := Aside0.mk hinv
  have HN := Aside0.mk hn
  have HVA := Aside0.mk hva
  have HWE0 := Aside0.mk he
  have HW1 := Aside0.mk (entry_W he raw)
  have HNE := Aside0.mk (show W.heap.size ≠ r from fun e => by have := h.rlt; omega)
  have HGW := Aside0.mk (grown_but hg0 (some r))
  have HL64 := Aside0.mk h.len
  have HL1 := Aside0.mk h.one
  clear h hinv hv hn hva he hg0
  obtain ⟨q0, q1, q2, q3, q4, q5, q6, q7, q8, q9, q10, q11, q12, q13, q14, q15⟩ := cz16 HB5.out
  go_enter Try.func29, Try.ntmps29
  have HRI := Aside0.mk (ref_demap0 HINV.out.ok HL64.out HVA.out ctx)
  obtain ⟨es2, hes2⟩ : ∃ x, x = clearQ es (fun e => hitsB e va ctx) := ⟨_, rfl⟩
  have HIN2 := Aside0.mk (show Inv es2 by rw [hes2]; exact HINV.out.sub (clear_sub es _))
  have HIL := Aside0.mk (show es2.length = es.length by rw [hes2]; exact clearQ_len es _)
  rw [← hes2] at HRI
  have HES := Aside0.mk hes2
  clear hes2
  have HV := HV0
  have HM := HM0
  clear HV0 HM0
  go_wp2_with fail
  refine (lookasideref06_Demap.calls 1000 (fun k => k ≠ r) A c (refL es) 0 va ctx _ _ _ HV.out HRI.out).mono ?_
  rintro x0 wn ⟨v2, rfl, hV2, hb⟩
  have hg := below_grown hb
  have HV2 := Aside0.mk (Kd.V_mono (ok' := fun k => k ≠ r) hV2 (fun k hk => hk.elim id (fun h e => by subst e; have := HM.out.rlt; omega)))
  replace HM := Aside0.mk (HM.out.same hg)
  replace HV := Aside0.mk (Kd.V_grown HV.out hg (by simp)); replace HGW := Aside0.mk (grown_two HGW.out (grown_but hg (some r)))
  clear q0 q1 q2 q3 q4 q5 q6 q7 q8 q9 q10 q11 q12 q13 q14 q15
  replace HB5 := Aside0.mk (blk_grown HB5.out hg)
  obtain ⟨q0, q1, q2, q3, q4, q5, q6, q7, q8, q9, q10, q11, q12, q13, q14, q15⟩ := cz16 HB5.out
  clear hV2 hb hg
  go_wp2_with fail
  refine (tl_dpage HM.out HINV.out.ok va ctx HVA.out).mono ?_
  rintro x0 wn ⟨rfl, hM, hg⟩
  rw [← HES.out] at hM
  replace HV := Aside0.mk (Kd.V_grown HV.out hg (fun k hk e => hk (Option.some.inj e))); replace HGW := Aside0.mk (grown_two HGW.out hg)
  try replace HV2 := Aside0.mk (Kd.V_grown HV2.out hg (fun k hk e => hk (Option.some.inj e)))
  replace HM := Aside0.mk hM
  clear hM hg
  go_wp2
  exact bodyPost_ret (v := .tuple #[v2, .bool true]) (by simp [results, Try.f29]) rfl (by first | exact ⟨_, es2, rfl, HIN2.out, (by first | exact HIL.out | rfl), HM.out, HV2.out, HGW.out⟩ | exact ⟨_, rfl, es2, HIN2.out, (by first | exact HIL.out | rfl), HM.out, HV2.out, HGW.out⟩)
theorem does_3 {B w0 p r es W} (h : Tl B w0 p r es W) (hinv : Inv es) {base : Nat} (A : Option Addr) (c : Nat) (hv : Kd.V k26 26 W base (fun k => k ≠ r) (.slice A (refL es).length c) (refL es)) (n ctx va : Int) (e : Ent) (raw : Bool) (hn : (Lit.int .i64 n).wf = true) (hva : (Lit.int .u64 va).wf = true) (he : EntW e) :
    Calls Try.prog 29 #[.pointer (some ⟨p, 0, none⟩), .slice A (refL es).length c, .agg #[.int .i64 3, .int .i64 n, .int .i64 ctx, .int .u64 va, .int .i64 e.f0, .int .i64 e.f1, .int .u64 e.f2, .int .u64 e.f3, .bool e.f4.f0, .bool e.f4.f1, .bool e.f4.f2, .bool e.f4.f3, .bool e.f4.f4, .bool e.f4.f5, .bool e.f5, .bool raw]] W fun x W' => ∃ v' es', x = .returned (.tuple #[v', .bool true]) ∧ Inv es' ∧ es'.length = es.length ∧ Tl B w0 p r es' W' ∧ Kd.V k26 26 W' 0 (fun k => k ≠ r) v' (refL es') ∧ W.grownBy W' (some r) := by
  have hu := Try.underlying26
  have hu2 := Try.underlying24
  have hu3 := Try.underlying54
  have hg0 := World.grownBy_alloc W (.cells #[.int .i64 3, .int .i64 n, .int .i64 ctx, .int .u64 va, .int .i64 e.f0, .int .i64 e.f1, .int .u64 e.f2, .int .u64 e.f3, .bool e.f4.f0, .bool e.f4.f1, .bool e.f4.f2, .bool e.f4.f3, .bool e.f4.f4, .bool e.f4.f5, .bool e.f5, .bool raw] 54) none
  have HB5 := Aside0.mk (heap_alloc_new W (.cells #[.int .i64 3, .int .i64 n, .int .i64 ctx, .int .u64 va, .int .i64 e.f0, .int .i64 e.f1, .int .u64 e.f2, .int .u64 e.f3, .bool e.f4.f0, .bool e.f4.f1, .bool e.f4.f2, .bool e.f4.f3, .bool e.f4.f4, .bool e.f4.f5, .bool e.f5, .bool raw] 54))
  have HM0 := Aside0.mk (h.same hg0)
  have HV0 := Aside0.mk (Kd.V_grown hv hg0 (by simp))
  have HINV := Aside0.mk hinv
  have HN := Aside0.mk hn
  have HVA := Aside0.mk hva
  have HWE0 := Aside0.mk he
  have HW1 := Aside0.mk (entry_W he raw)
  have HNE := Aside0.mk (show W.heap.size ≠ r from fun e => by have := h.rlt; omega)
  have HGW := Aside0.mk (grown_but hg0 (some r))
  have HL64 := Aside0.mk h.len
  have HL1 := Aside0.mk h.one
  clear h hinv hv hn hva he hg0
  obtain ⟨q0, q1, q2, q3, q4, q5, q6, q7, q8, q9, q10, q11, q12, q13, q14, q15⟩ := cz16 HB5.out
  go_enter Try.func29, Try.ntmps29
  have HRI := Aside0.mk (ref_demap1 HINV.out.ok HL64.out ctx)
  obtain ⟨es2, hes2⟩ : ∃ x, x = clearQ es (ctxB ctx) := ⟨_, rfl⟩
  have HIN2 := Aside0.mk (show Inv es2 by rw [hes2]; exact HINV.out.sub (clear_sub es _))
  have HIL := Aside0.mk (show es2.length = es.length by rw [hes2]; exact clearQ_len es _)
  rw [← hes2] at HRI
  have HES := Aside0.mk hes2
  clear hes2
  have HV := HV0
  have HM := HM0
  clear HV0 HM0
  go_wp2_with fail
  refine (lookasideref06_Demap.calls 1000 (fun k => k ≠ r) A c (refL es) 1 0 ctx _ _ _ HV.out HRI.out).mono ?_
  rintro x0 wn ⟨v2, rfl, hV2, hb⟩
  have hg := below_grown hb
  have HV2 := Aside0.mk (Kd.V_mono (ok' := fun k => k ≠ r) hV2 (fun k hk => hk.elim id (fun h e => by subst e; have := HM.out.rlt; omega)))
  replace HM := Aside0.mk (HM.out.same hg)
  replace HV := Aside0.mk (Kd.V_grown HV.out hg (by simp)); replace HGW := Aside0.mk (grown_two HGW.out (grown_but hg (some r)))
  clear q0 q1 q2 q3 q4 q5 q6 q7 q8 q9 q10 q11 q12 q13 q14 q15
  replace HB5 := Aside0.mk (blk_grown HB5.out hg)
  obtain ⟨q0, q1, q2, q3, q4, q5, q6, q7, q8, q9, q10, q11, q12, q13, q14, q15⟩ := cz16 HB5.out
  clear hV2 hb hg
  go_wp2_with fail
  refine (tl_dctx HM.out ctx).mono ?_
  rintro x0 wn ⟨rfl, hM, hg⟩
  rw [← HES.out] at hM
  replace HV := Aside0.mk (Kd.V_grown HV.out hg (fun k hk e => hk (Option.some.inj e))); replace HGW := Aside0.mk (grown_two HGW.out hg)
  try replace HV2 := Aside0.mk (Kd.V_grown HV2.out hg (fun k hk e => hk (Option.some.inj e)))
  replace HM := Aside0.mk hM
  clear hM hg
  go_wp2
  exact bodyPost_ret (v := .tuple #[v2, .bool true]) (by simp [results, Try.f29]) rfl (by first | exact ⟨_, es2, rfl, HIN2.out, (by first | exact HIL.out | rfl), HM.out, HV2.out, HGW.out⟩ | exact ⟨_, rfl, es2, HIN2.out, (by first | exact HIL.out | rfl), HM.out, HV2.out, HGW.out⟩)
theorem does_4 {B w0 p r es W} (h : Tl B w0 p r es W) (hinv : Inv es) {base : Nat} (A : Option Addr) (c : Nat) (hv : Kd.V k26 26 W base (fun k => k ≠ r) (.slice A (refL es).length c) (refL es)) (n ctx va : Int) (e : Ent) (raw : Bool) (hn : (Lit.int .i64 n).wf = true) (hva : (Lit.int .u64 va).wf = true) (he : EntW e) :
    Calls Try.prog 29 #[.pointer (some ⟨p, 0, none⟩), .slice A (refL es).length c, .agg #[.int .i64 4, .int .i64 n, .int .i64 ctx, .int .u64 va, .int .i64 e.f0, .int .i64 e.f1, .int .u64 e.f2, .int .u64 e.f3, .bool e.f4.f0, .bool e.f4.f1, .bool e.f4.f2, .bool e.f4.f3, .bool e.f4.f4, .bool e.f4.f5, .bool e.f5, .bool raw]] W fun x W' => ∃ v' es', x = .returned (.tuple #[v', .bool true]) ∧ Inv es' ∧ es'.length = es.length ∧ Tl B w0 p r es' W' ∧ Kd.V k26 26 W' 0 (fun k => k ≠ r) v' (refL es') ∧ W.grownBy W' (some r) := by
  have hu := Try.underlying26
  have hu2 := Try.underlying24
  have hu3 := Try.underlying54
  have hg0 := World.grownBy_alloc W (.cells #[.int .i64 4, .int .i64 n, .int .i64 ctx, .int .u64 va, .int .i64 e.f0, .int .i64 e.f1, .int .u64 e.f2, .int .u64 e.f3, .bool e.f4.f0, .bool e.f4.f1, .bool e.f4.f2, .bool e.f4.f3, .bool e.f4.f4, .bool e.f4.f5, .bool e.f5, .bool raw] 54) none
  have HB5 := Aside0.mk (heap_alloc_new W (.cells #[.int .i64 4, .int .i64 n, .int .i64 ctx, .int .u64 va, .int .i64 e.f0, .int .i64 e.f1, .int .u64 e.f2, .int .u64 e.f3, .bool e.f4.f0, .bool e.f4.f1, .bool e.f4.f2, .bool e.f4.f3, .bool e.f4.f4, .bool e.f4.f5, .bool e.f5, .bool raw] 54))
  have HM0 := Aside0.mk (h.same hg0)
  have HV0 := Aside0.mk (Kd.V_grown hv hg0 (by simp))
  have HINV := Aside0.mk hinv
  have HN := Aside0.mk hn
  have HVA := Aside0.mk hva
  have HWE0 := Aside0.mk he
  have HW1 := Aside0.mk (entry_W he raw)
  have HNE := Aside0.mk (show W.heap.size ≠ r from fun e => by have := h.rlt; omega)
  have HGW := Aside0.mk (grown_but hg0 (some r))
  have HL64 := Aside0.mk h.len
  have HL1 := Aside0.mk h.one
  clear h hinv hv hn hva he hg0
  obtain ⟨q0, q1, q2, q3, q4, q5, q6, q7, q8, q9, q10, q11, q12, q13, q14, q15⟩ := cz16 HB5.out
  go_enter Try.func29, Try.ntmps29
  have HRI := Aside0.mk (ref_demap2 HINV.out.ok HL64.out)
  obtain ⟨es2, hes2⟩ : ∃ x, x = clearQ es openB := ⟨_, rfl⟩
  have HIN2 := Aside0.mk (show Inv es2 by rw [hes2]; exact HINV.out.sub (clear_sub es _))
  have HIL := Aside0.mk (show es2.length = es.length by rw [hes2]; exact clearQ_len es _)
  rw [← hes2] at HRI
  have HES := Aside0.mk hes2
  clear hes2
  have HV := HV0
  have HM := HM0
  clear HV0 HM0
  go_wp2_with fail
  refine (lookasideref06_Demap.calls 1000 (fun k => k ≠ r) A c (refL es) 2 0 0 _ _ _ HV.out HRI.out).mono ?_
  rintro x0 wn ⟨v2, rfl, hV2, hb⟩
  have hg := below_grown hb
  have HV2 := Aside0.mk (Kd.V_mono (ok' := fun k => k ≠ r) hV2 (fun k hk => hk.elim id (fun h e => by subst e; have := HM.out.rlt; omega)))
  replace HM := Aside0.mk (HM.out.same hg)
  replace HV := Aside0.mk (Kd.V_grown HV.out hg (by simp)); replace HGW := Aside0.mk (grown_two HGW.out (grown_but hg (some r)))
  clear q0 q1 q2 q3 q4 q5 q6 q7 q8 q9 q10 q11 q12 q13 q14 q15
  replace HB5 := Aside0.mk (blk_grown HB5.out hg)
  obtain ⟨q0, q1, q2, q3, q4, q5, q6, q7, q8, q9, q10, q11, q12, q13, q14, q15⟩ := cz16 HB5.out
  clear hV2 hb hg
  go_wp2_with fail
  refine (tl_dall HM.out).mono ?_
  rintro x0 wn ⟨rfl, hM, hg⟩
  rw [← HES.out] at hM
  replace HV := Aside0.mk (Kd.V_grown HV.out hg (fun k hk e => hk (Option.some.inj e))); replace HGW := Aside0.mk (grown_two HGW.out hg)
  try replace HV2 := Aside0.mk (Kd.V_grown HV2.out hg (fun k hk e => hk (Option.some.inj e)))
  replace HM := Aside0.mk hM
  clear hM hg
  go_wp2
  exact bodyPost_ret (v := .tuple #[v2, .bool true]) (by simp [results, Try.f29]) rfl (by first | exact ⟨_, es2, rfl, HIN2.out, (by first | exact HIL.out | rfl), HM.out, HV2.out, HGW.out⟩ | exact ⟨_, rfl, es2, HIN2.out, (by first | exact HIL.out | rfl), HM.out, HV2.out, HGW.out⟩)
theorem does_5 {B w0 p r es W} (h : Tl B w0 p r es W) (hinv : Inv es) {base : Nat} (A : Option Addr) (c : Nat) (hv : Kd.V k26 26 W base (fun k => k ≠ r) (.slice A (refL es).length c) (refL es)) (n ctx va : Int) (e : Ent) (raw : Bool) (hn : (Lit.int .i64 n).wf = true) (hva : (Lit.int .u64 va).wf = true) (he : EntW e) :
    Calls Try.prog 29 #[.pointer (some ⟨p, 0, none⟩), .slice A (refL es).length c, .agg #[.int .i64 5, .int .i64 n, .int .i64 ctx, .int .u64 va, .int .i64 e.f0, .int .i64 e.f1, .int .u64 e.f2, .int .u64 e.f3, .bool e.f4.f0, .bool e.f4.f1, .bool e.f4.f2, .bool e.f4.f3, .bool e.f4.f4, .bool e.f4.f5, .bool e.f5, .bool raw]] W fun x W' => ∃ v' es', x = .returned (.tuple #[v', .bool true]) ∧ Inv es' ∧ es'.length = es.length ∧ Tl B w0 p r es' W' ∧ Kd.V k26 26 W' 0 (fun k => k ≠ r) v' (refL es') ∧ W.grownBy W' (some r) := by
  have hu := Try.underlying26
  have hu2 := Try.underlying24
  have hu3 := Try.underlying54
  have hg0 := World.grownBy_alloc W (.cells #[.int .i64 5, .int .i64 n, .int .i64 ctx, .int .u64 va, .int .i64 e.f0, .int .i64 e.f1, .int .u64 e.f2, .int .u64 e.f3, .bool e.f4.f0, .bool e.f4.f1, .bool e.f4.f2, .bool e.f4.f3, .bool e.f4.f4, .bool e.f4.f5, .bool e.f5, .bool raw] 54) none
  have HB5 := Aside0.mk (heap_alloc_new W (.cells #[.int .i64 5, .int .i64 n, .int .i64 ctx, .int .u64 va, .int .i64 e.f0, .int .i64 e.f1, .int .u64 e.f2, .int .u64 e.f3, .bool e.f4.f0, .bool e.f4.f1, .bool e.f4.f2, .bool e.f4.f3, .bool e.f4.f4, .bool e.f4.f5, .bool e.f5, .bool raw] 54))
  have HM0 := Aside0.mk (h.same hg0)
  have HV0 := Aside0.mk (Kd.V_grown hv hg0 (by simp))
  have HINV := Aside0.mk hinv
  have HN := Aside0.mk hn
  have HVA := Aside0.mk hva
  have HWE0 := Aside0.mk he
  have HW1 := Aside0.mk (entry_W he raw)
  have HNE := Aside0.mk (show W.heap.size ≠ r from fun e => by have := h.rlt; omega)
  have HGW := Aside0.mk (grown_but hg0 (some r))
  have HL64 := Aside0.mk h.len
  have HL1 := Aside0.mk h.one
  clear h hinv hv hn hva he hg0
  obtain ⟨q0, q1, q2, q3, q4, q5, q6, q7, q8, q9, q10, q11, q12, q13, q14, q15⟩ := cz16 HB5.out
  go_enter Try.func29, Try.ntmps29
  have HRI := Aside0.mk (ref_clear HINV.out.ok HL64.out n)
  obtain ⟨es2, hes2⟩ : ∃ x, x = clearAt es n := ⟨_, rfl⟩
  have HIN2 := Aside0.mk (show Inv es2 by rw [hes2]; exact clearAt_inv HINV.out n)
  have HIL := Aside0.mk (show es2.length = es.length by rw [hes2]; exact clearAt_len es n)
  rw [← hes2] at HRI
  have HES := Aside0.mk hes2
  clear hes2
  obtain ⟨bb, hbb⟩ : ∃ x, (atOf es n).isSome = x := ⟨_, rfl⟩
  rw [hbb] at HRI
  have HBB := Aside0.mk hbb
  clear hbb
  have HV := HV0
  have HM := HM0
  clear HV0 HM0
  go_wp2_with fail
  refine (lookasideref06_Clear.calls (fun k => k ≠ r) A c (refL es) n _ _ _ HV.out HRI.out).mono ?_
  rintro x0 wn ⟨v2, rfl, hV2, hb⟩
  have hg := below_grown hb
  have HV2 := Aside0.mk (Kd.V_mono (ok' := fun k => k ≠ r) hV2 (fun k hk => hk.elim id (fun h e => by subst e; have := HM.out.rlt; omega)))
  replace HM := Aside0.mk (HM.out.same hg)
  replace HV := Aside0.mk (Kd.V_grown HV.out hg (by simp)); replace HGW := Aside0.mk (grown_two HGW.out (grown_but hg (some r)))
  clear q0 q1 q2 q3 q4 q5 q6 q7 q8 q9 q10 q11 q12 q13 q14 q15
  replace HB5 := Aside0.mk (blk_grown HB5.out hg)
  obtain ⟨q0, q1, q2, q3, q4, q5, q6, q7, q8, q9, q10, q11, q12, q13, q14, q15⟩ := cz16 HB5.out
  clear hV2 hb hg
  go_wp2_with fail
  refine (tl_clear HM.out n bb HBB.out).mono ?_
  rintro x0 wn ⟨rfl, hM, hg⟩
  rw [← HES.out] at hM
  replace HV := Aside0.mk (Kd.V_grown HV.out hg (fun k hk e => hk (Option.some.inj e))); replace HGW := Aside0.mk (grown_two HGW.out hg)
  try replace HV2 := Aside0.mk (Kd.V_grown HV2.out hg (fun k hk e => hk (Option.some.inj e)))
  replace HM := Aside0.mk hM
  clear hM hg
  cases bb
  · go_wp2
    exact bodyPost_ret (v := .tuple #[v2, .bool true]) (by simp [results, Try.f29]) rfl (by first | exact ⟨_, es2, rfl, HIN2.out, (by first | exact HIL.out | rfl), HM.out, HV2.out, HGW.out⟩ | exact ⟨_, rfl, es2, HIN2.out, (by first | exact HIL.out | rfl), HM.out, HV2.out, HGW.out⟩)
  · go_wp2
    exact bodyPost_ret (v := .tuple #[v2, .bool true]) (by simp [results, Try.f29]) rfl (by first | exact ⟨_, es2, rfl, HIN2.out, (by first | exact HIL.out | rfl), HM.out, HV2.out, HGW.out⟩ | exact ⟨_, rfl, es2, HIN2.out, (by first | exact HIL.out | rfl), HM.out, HV2.out, HGW.out⟩)
end
end Go.Proofs.Ythclbckkfgmbaaa.QTlbPlays
