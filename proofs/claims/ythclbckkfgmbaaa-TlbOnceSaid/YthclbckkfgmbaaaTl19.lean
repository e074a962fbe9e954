/- Find and any deed, done to a TLB, and to a list of empty places that is not kept up; at whatever numbers. -/
import Derived.Test.YthclbckkfgmbaaaTl15
import Derived.Test.YthclbckkfgmbaaaTl17
/- merged: Tl18 -/
namespace Go.Proofs.Ythclbckkfgmbaaa.QTlbPlays
open Go.RowKit Go.Proofs.YthclbckkfgmbaaaW.PrintWords Go.Proofs.YthclbckkfgmbaaaW.PrintLast Go.Proofs.YthclbckkfgmbaaaW.PrintMore
set_option linter.unusedSimpArgs false
set_option linter.unusedVariables false
section
set_option maxHeartbeats 1000000
set_option maxRecDepth 100000
def OnceD (B : Nat) (w0 : World) (p r : Nat) (es : List (Option Ent)) (W : World) (x : Ending) (W' : World) : Prop := ∃ v' b es', x = .returned (.tuple #[v', .bool b]) ∧ Inv es' ∧ es'.length = es.length ∧ Tl B w0 p r es' W' ∧ W.grownBy W' (some r)
theorem once_0 {B w0 p r es rs W} (h : Tl B w0 p r es W) (hinv : Inv es) (hrv : Inv rs) (hr1 : 1 ≤ rs.length) (hr64 : rs.length ≤ 64) (hrn : ∀ i, rs.getD i none = none) {base : Nat} (A : Option Addr) (c : Nat) (hv : Kd.V k26 26 W base (fun k => k ≠ r) (.slice A (refL rs).length c) (refL rs)) (n ctx va : Int) (e : Ent) (raw : Bool) (hn : (Lit.int .i64 n).wf = true) (hva : (Lit.int .u64 va).wf = true) (he : EntW e) :
    Calls Try.prog 29 #[.pointer (some ⟨p, 0, none⟩), .slice A (refL rs).length c, .agg #[.int .i64 0, .int .i64 n, .int .i64 ctx, .int .u64 va, .int .i64 e.f0, .int .i64 e.f1, .int .u64 e.f2, .int .u64 e.f3, .bool e.f4.f0, .bool e.f4.f1, .bool e.f4.f2, .bool e.f4.f3, .bool e.f4.f4, .bool e.f4.f5, .bool e.f5, .bool raw]] W (OnceD B w0 p r es W) := by
  have hu := Try.underlying26
  have hu2 := Try.underlying24
  have hu3 := Try.underlying54
  have hg0 := World.grownBy_alloc W (.cells #[.int .i64 0, .int .i64 n, .int .i64 ctx, .int .u64 va, .int .i64 e.f0, .int .i64 e.f1, .int .u64 e.f2, .int .u64 e.f3, .bool e.f4.f0, .bool e.f4.f1, .bool e.f4.f2, .bool e.f4.f3, .bool e.f4.f4, .bool e.f4.f5, .bool e.f5, .bool raw] 54) none
  have HB5 := Aside0.mk (heap_alloc_new W (.cells #[.int .i64 0, .int .i64 n, .int .i64 ctx, .int .u64 va, .int .i64 e.f0, .int .i64 e.f1, .int .u64 e.f2, .int .u64 e.f3, .bool e.f4.f0, .bool e.f4.f1, .bool e.f4.f2, .bool e.f4.f3, .bool e.f4.f4, .bool e.f4.f5, .bool e.f5, .bool raw] 54))
  have HM0 := Aside0.mk (h.same hg0)
  have HV0 := Aside0.mk (Kd.V_grown hv hg0 (by simp))
  have HINV := Aside0.mk hinv
  have HRV := Aside0.mk hrv
  have HRN := Aside0.mk hrn
  have HN := Aside0.mk hn
  have HVA := Aside0.mk hva
  have HWE0 := Aside0.mk he
  have HW1 := Aside0.mk (entry_W he raw)
  have HNE := Aside0.mk (show W.heap.size ≠ r from fun e => by have := h.rlt; omega)
  have HGW := Aside0.mk (grown_but hg0 (some r))
  have HR64 := Aside0.mk hr64
  have HR1 := Aside0.mk hr1
  clear h hinv hv hn hva he hg0 hrv hrn hr1 hr64
  obtain ⟨q0, q1, q2, q3, q4, q5, q6, q7, q8, q9, q10, q11, q12, q13, q14, q15⟩ := cz16 HB5.out
  go_enter Try.func29, Try.ntmps29
  have hri := ref_insert HRV.out.ok HR64.out HR1.out HW1.out HN.out
  have hin2 := ins_inv HINV.out HW1.out n
  have hil := ins_len es (entryE e raw) n
  obtain ⟨i, er, es2, hins⟩ : ∃ a b c, insOf es (entryE e raw) n = (a, b, c) := ⟨_, _, _, rfl⟩
  obtain ⟨i', er', rs2, hins'⟩ : ∃ a b c, insOf rs (entryE e raw) n = (a, b, c) := ⟨_, _, _, rfl⟩
  rw [hins] at hin2 hil
  rw [hins'] at hri
  have HRI := Aside0.mk hri
  have HINS := Aside0.mk hins
  have HIN2 := Aside0.mk hin2
  have HIL := Aside0.mk hil
  clear hri hin2 hil hins hins'
  go_wp2
  clear q0 q1 q2 q3 q4 q5 q6 q7 q8 q9 q10 q11 q12 q13 q14 q15
  generalize W.heap.size = h5 at HB5 HNE ⊢
  generalize W.alloc _ = W5 at HB5 HM0 HV0 HGW ⊢
  replace HGW := Aside0.mk (grown_two HGW.out (grown_drew _ (some r)))
  have HV := Aside0.mk (Kd.V_drew HV0.out)
  have HM := Aside0.mk (HM0.out.same (grown_drew _ none))
  refine start_ (n := 11) (S := fun w' => w'.heap[h5]? = some (.cells #[.int .i64 0, .int .i64 n, .int .i64 ctx, .int .u64 va, .int .i64 e.f0, .int .i64 e.f1, .int .u64 e.f2, .int .u64 e.f3, .bool e.f4.f0, .bool e.f4.f1, .bool e.f4.f2, .bool e.f4.f3, .bool e.f4.f4, .bool e.f4.f5, .bool e.f5, .bool raw] 54 (0, 0))) (ds := []) #[false, false, false, false, false, false, false, false, false, false, false] (by kernel_rfl) rfl rfl HB5.out (fun hHeld => ?_)
  refine with_tab does3_tab (fun HT_ => ?_)
  refine pure_ (i := 0) (N := some 32) (v := ?_) (a' := ?_) #[true, false, false, false, false, false, false, false, false, false, false] rfl rfl (any_of HT_.out (by kernel_rfl)) (fun _ _ _ h => h) (Or.inl ⟨by rfl, ?_⟩) ?_ ?_
  rotate_left
  · intro w'
    go_simp
    with_reducible rfl
  rotate_left
  · simp only [Act.put, List.setIfInBounds_toArray, List.set_cons_zero, List.set_cons_succ, i64_w, i32_w]
    rfl
  refine pure_ (i := 3) (N := some 35) (v := ?_) (a' := ?_) #[true, false, false, true, false, false, false, false, false, false, false] rfl rfl (any_of HT_.out (by kernel_rfl)) (fun _ _ _ h => h) (Or.inl ⟨by rfl, ?_⟩) ?_ ?_
  rotate_left
  · intro w'
    go_simp
    with_reducible rfl
  rotate_left
  · simp only [Act.put, List.setIfInBounds_toArray, List.set_cons_zero, List.set_cons_succ, i64_w, i32_w]
    rfl
  refine take_ (i := 1) (N := some 33) (v := .agg #[.int .i64 0, .int .i64 n, .int .i64 ctx, .int .u64 va, .int .i64 e.f0, .int .i64 e.f1, .int .u64 e.f2, .int .u64 e.f3, .bool e.f4.f0, .bool e.f4.f1, .bool e.f4.f2, .bool e.f4.f3, .bool e.f4.f4, .bool e.f4.f5, .bool e.f5, .bool raw]) (a' := ?_) #[true, true, false, true, false, false, false, false, false, false, false] rfl rfl (take_of HT_.out (by kernel_rfl)) (fun _ _ _ h => h) (Or.inl ⟨by rfl, ?_⟩) hHeld ?_ ?_
  · rintro w' s1
    obtain ⟨q0, q1, q2, q3, q4, q5, q6, q7, q8, q9, q10, q11, q12, q13, q14, q15⟩ := cz16 s1
    go_simp
  rotate_left
  · simp only [Act.put, List.setIfInBounds_toArray, List.set_cons_zero, List.set_cons_succ, i64_w, i32_w]
    rfl
  refine take_ (i := 4) (N := some 36) (v := .int .i64 n) (a' := ?_) #[true, true, false, true, true, false, false, false, false, false, false] rfl rfl (take_of HT_.out (by kernel_rfl)) (fun _ _ _ h => h) (Or.inl ⟨by rfl, ?_⟩) hHeld ?_ ?_
  · rintro w' s1
    obtain ⟨q0, q1, q2, q3, q4, q5, q6, q7, q8, q9, q10, q11, q12, q13, q14, q15⟩ := cz16 s1
    go_simp
  rotate_left
  · simp only [Act.put, List.setIfInBounds_toArray, List.set_cons_zero, List.set_cons_succ, i64_w, i32_w]
    rfl
  refine one_ (i := 2) (N := some 34) #[true, true, true, true, true, false, false, false, false, false, false] rfl rfl (one_of HT_.out (by kernel_rfl)) (by decide) (fun K hK => ?_)
  refine goes_ Try.func63 (by kernel_rfl) rfl #[.agg #[.int .i64 0, .int .i64 n, .int .i64 ctx, .int .u64 va, .int .i64 e.f0, .int .i64 e.f1, .int .u64 e.f2, .int .u64 e.f3, .bool e.f4.f0, .bool e.f4.f1, .bool e.f4.f2, .bool e.f4.f3, .bool e.f4.f4, .bool e.f4.f5, .bool e.f5, .bool raw]] (by rfl) rfl rfl (by (try simp only [List.map_toArray, List.map_cons, List.map_nil]); first | done | rfl) ?_
  refine (entry_calls _ n ctx va HWE0.out raw _).mono ?_
  rintro x0 wn ⟨rfl, hg⟩
  have hs := blk_grown hHeld hg
  replace HM := Aside0.mk (HM.out.same hg)
  replace HV := Aside0.mk (Kd.V_grown HV.out hg (by simp)); replace HGW := Aside0.mk (grown_two HGW.out (grown_but hg (some r)))
  clear hg
  refine ⟨_, rfl, ?_⟩
  refine hK.out _ _ hs (fun hHeld => ?_)
  clear hK K
  refine norm_ (a' := ?_) ?_ ?_
  rotate_left
  · show Act.put _ (some 34) _ = _
    simp only [Act.put, List.setIfInBounds_toArray, List.set_cons_zero, List.set_cons_succ, i64_w, i32_w]
    rfl
  refine one_ (i := 5) (N := some 37) #[true, true, true, true, true, true, false, false, false, false, false] rfl rfl (one_of HT_.out (by kernel_rfl)) (by decide) (fun K hK => ?_)
  refine goes_ Try.func19 (by kernel_rfl) rfl #[.pointer (some ⟨p, 0, none⟩), .agg (entA (entryE e raw)), .int .i64 n] (by rfl) rfl rfl (by (try simp only [List.map_toArray, List.map_cons, List.map_nil]); first | done | rfl) ?_
  refine (tl_insert HM.out HINV.out.ok _ HW1.out _ HN.out _ _ _ HINS.out).mono ?_
  rintro x0 wn ⟨rfl, hM, hg⟩
  have hs := (hg.block h5 (blk_lt hHeld) (fun e => HNE.out (Option.some.inj e))).trans hHeld
  replace HV := Aside0.mk (Kd.V_grown HV.out hg (fun k hk e => hk (Option.some.inj e))); replace HGW := Aside0.mk (grown_two HGW.out hg)
  replace HM := Aside0.mk hM
  clear hM hg
  refine ⟨_, rfl, ?_⟩
  refine hK.out _ _ hs (fun hHeld => ?_)
  clear hK K
  refine norm_ (a' := ?_) ?_ ?_
  rotate_left
  · show Act.put _ (some 37) _ = _
    simp only [Act.put, List.setIfInBounds_toArray, List.set_cons_zero, List.set_cons_succ, i64_w, i32_w]
    rfl
  refine pure_ (i := 6) (N := some 31) (v := ?_) (a' := ?_) #[true, true, true, true, true, true, true, false, false, false, false] rfl rfl (any_of HT_.out (by kernel_rfl)) (fun _ _ _ h => h) (Or.inl ⟨by rfl, ?_⟩) ?_ ?_
  rotate_left
  · intro w'
    go_simp
    with_reducible rfl
  rotate_left
  · simp only [Act.put, List.setIfInBounds_toArray, List.set_cons_zero, List.set_cons_succ, i64_w, i32_w]
    rfl
  refine pure_ (i := 7) (N := some 38) (v := ?_) (a' := ?_) #[true, true, true, true, true, true, true, true, false, false, false] rfl rfl (any_of HT_.out (by kernel_rfl)) (fun _ _ _ h => h) (Or.inl ⟨by rfl, ?_⟩) ?_ ?_
  rotate_left
  · intro w'
    go_simp
    with_reducible rfl
  rotate_left
  · simp only [Act.put, List.setIfInBounds_toArray, List.set_cons_zero, List.set_cons_succ, i64_w, i32_w]
    rfl
  refine pure_ (i := 8) (N := some 39) (v := ?_) (a' := ?_) #[true, true, true, true, true, true, true, true, true, false, false] rfl rfl (any_of HT_.out (by kernel_rfl)) (fun _ _ _ h => h) (Or.inl ⟨by rfl, ?_⟩) ?_ ?_
  rotate_left
  · intro w'
    go_simp
    with_reducible rfl
  rotate_left
  · simp only [Act.put, List.setIfInBounds_toArray, List.set_cons_zero, List.set_cons_succ, i64_w, i32_w]
    rfl
  refine pure_ (i := 9) (N := some 8) (v := ?_) (a' := ?_) #[true, true, true, true, true, true, true, true, true, true, false] rfl rfl (any_of HT_.out (by kernel_rfl)) (fun _ _ _ h => h) (Or.inl ⟨by rfl, ?_⟩) ?_ ?_
  rotate_left
  · intro w'
    go_simp
    with_reducible rfl
  rotate_left
  · simp only [Act.put, List.setIfInBounds_toArray, List.set_cons_zero, List.set_cons_succ, i64_w, i32_w]
    rfl
  refine pure_ (i := 10) (N := some 9) (v := ?_) (a' := ?_) #[true, true, true, true, true, true, true, true, true, true, true] rfl rfl (any_of HT_.out (by kernel_rfl)) (fun _ _ _ h => h) (Or.inl ⟨by rfl, ?_⟩) ?_ ?_
  rotate_left
  · intro w'
    go_simp
    with_reducible rfl
  rotate_left
  · simp only [Act.put, List.setIfInBounds_toArray, List.set_cons_zero, List.set_cons_succ, i64_w, i32_w]
    rfl
  refine done_ (done_of HT_.out (by kernel_rfl)) ?_
  replace HB5 := Aside0.mk hHeld
  go_wp2
  have HV0 := HV
  have HM0 := HM
  clear HV HM
  replace HGW := Aside0.mk (grown_two HGW.out (grown_drew _ (some r)))
  have HV := Aside0.mk (Kd.V_drew HV0.out)
  have HM := Aside0.mk (HM0.out.same (grown_drew _ none))
  refine start_ (n := 13) (S := fun w' => w'.heap[h5]? = some (.cells #[.int .i64 0, .int .i64 n, .int .i64 ctx, .int .u64 va, .int .i64 e.f0, .int .i64 e.f1, .int .u64 e.f2, .int .u64 e.f3, .bool e.f4.f0, .bool e.f4.f1, .bool e.f4.f2, .bool e.f4.f3, .bool e.f4.f4, .bool e.f4.f5, .bool e.f5, .bool raw] 54 (0, 0))) (ds := []) #[false, false, false, false, false, false, false, false, false, false, false, false, false] (by kernel_rfl) rfl rfl HB5.out (fun hHeld => ?_)
  refine with_tab does4_tab (fun HT_ => ?_)
  refine pure_ (i := 0) (N := some 41) (v := ?_) (a' := ?_) #[true, false, false, false, false, false, false, false, false, false, false, false, false] rfl rfl (any_of HT_.out (by kernel_rfl)) (fun _ _ _ h => h) (Or.inl ⟨by rfl, ?_⟩) ?_ ?_
  rotate_left
  · intro w'
    go_simp
    with_reducible rfl
  rotate_left
  · simp only [Act.put, List.setIfInBounds_toArray, List.set_cons_zero, List.set_cons_succ, i64_w, i32_w]
    rfl
  refine pure_ (i := 3) (N := some 44) (v := ?_) (a' := ?_) #[true, false, false, true, false, false, false, false, false, false, false, false, false] rfl rfl (any_of HT_.out (by kernel_rfl)) (fun _ _ _ h => h) (Or.inl ⟨by rfl, ?_⟩) ?_ ?_
  rotate_left
  · intro w'
    go_simp
    with_reducible rfl
  rotate_left
  · simp only [Act.put, List.setIfInBounds_toArray, List.set_cons_zero, List.set_cons_succ, i64_w, i32_w]
    rfl
  refine take_ (i := 1) (N := some 42) (v := .agg #[.int .i64 0, .int .i64 n, .int .i64 ctx, .int .u64 va, .int .i64 e.f0, .int .i64 e.f1, .int .u64 e.f2, .int .u64 e.f3, .bool e.f4.f0, .bool e.f4.f1, .bool e.f4.f2, .bool e.f4.f3, .bool e.f4.f4, .bool e.f4.f5, .bool e.f5, .bool raw]) (a' := ?_) #[true, true, false, true, false, false, false, false, false, false, false, false, false] rfl rfl (take_of HT_.out (by kernel_rfl)) (fun _ _ _ h => h) (Or.inl ⟨by rfl, ?_⟩) hHeld ?_ ?_
  · rintro w' s1
    obtain ⟨q0, q1, q2, q3, q4, q5, q6, q7, q8, q9, q10, q11, q12, q13, q14, q15⟩ := cz16 s1
    go_simp
  rotate_left
  · simp only [Act.put, List.setIfInBounds_toArray, List.set_cons_zero, List.set_cons_succ, i64_w, i32_w]
    rfl
  refine take_ (i := 4) (N := some 45) (v := .int .i64 n) (a' := ?_) #[true, true, false, true, true, false, false, false, false, false, false, false, false] rfl rfl (take_of HT_.out (by kernel_rfl)) (fun _ _ _ h => h) (Or.inl ⟨by rfl, ?_⟩) hHeld ?_ ?_
  · rintro w' s1
    obtain ⟨q0, q1, q2, q3, q4, q5, q6, q7, q8, q9, q10, q11, q12, q13, q14, q15⟩ := cz16 s1
    go_simp
  rotate_left
  · simp only [Act.put, List.setIfInBounds_toArray, List.set_cons_zero, List.set_cons_succ, i64_w, i32_w]
    rfl
  refine one_ (i := 2) (N := some 43) #[true, true, true, true, true, false, false, false, false, false, false, false, false] rfl rfl (one_of HT_.out (by kernel_rfl)) (by decide) (fun K hK => ?_)
  refine goes_ Try.func63 (by kernel_rfl) rfl #[.agg #[.int .i64 0, .int .i64 n, .int .i64 ctx, .int .u64 va, .int .i64 e.f0, .int .i64 e.f1, .int .u64 e.f2, .int .u64 e.f3, .bool e.f4.f0, .bool e.f4.f1, .bool e.f4.f2, .bool e.f4.f3, .bool e.f4.f4, .bool e.f4.f5, .bool e.f5, .bool raw]] (by rfl) rfl rfl (by (try simp only [List.map_toArray, List.map_cons, List.map_nil]); first | done | rfl) ?_
  refine (entry_calls _ n ctx va HWE0.out raw _).mono ?_
  rintro x0 wn ⟨rfl, hg⟩
  have hs := blk_grown hHeld hg
  replace HM := Aside0.mk (HM.out.same hg)
  replace HV := Aside0.mk (Kd.V_grown HV.out hg (by simp)); replace HGW := Aside0.mk (grown_two HGW.out (grown_but hg (some r)))
  clear hg
  refine ⟨_, rfl, ?_⟩
  refine hK.out _ _ hs (fun hHeld => ?_)
  clear hK K
  refine norm_ (a' := ?_) ?_ ?_
  rotate_left
  · show Act.put _ (some 43) _ = _
    simp only [Act.put, List.setIfInBounds_toArray, List.set_cons_zero, List.set_cons_succ, i64_w, i32_w]
    rfl
  refine one_ (i := 5) (N := some 46) #[true, true, true, true, true, true, false, false, false, false, false, false, false] rfl rfl (one_of HT_.out (by kernel_rfl)) (by decide) (fun K hK => ?_)
  refine goes_ Try.func64 (by kernel_rfl) rfl #[.slice A (refL rs).length c, .agg (entA (entryE e raw)), .int .i64 n] (by rfl) rfl rfl (by (try simp only [List.map_toArray, List.map_cons, List.map_nil]); first | done | rfl) ?_
  refine (lookasideref06_Insert.calls 1000 (fun k => k ≠ r) A c (refL rs) (entryE e raw).f0 (entryE e raw).f1 (entryE e raw).f2 (entryE e raw).f3 (entryE e raw).f4.f0 (entryE e raw).f4.f1 (entryE e raw).f4.f2 (entryE e raw).f4.f3 (entryE e raw).f4.f4 (entryE e raw).f4.f5 (entryE e raw).f5 n _ _ _ _ HV.out HRI.out).mono ?_
  rintro x0 wn ⟨v2, rfl, hV2, hb⟩
  have hg := below_grown hb
  have HV2 := Aside0.mk (Kd.V_mono (ok' := fun k => k ≠ r) hV2 (fun k hk => hk.elim id (fun h e => by subst e; have := HM.out.rlt; omega)))
  have hs := blk_grown hHeld hg
  replace HM := Aside0.mk (HM.out.same hg)
  replace HV := Aside0.mk (Kd.V_grown HV.out hg (by simp)); replace HGW := Aside0.mk (grown_two HGW.out (grown_but hg (some r)))
  clear hV2 hb hg
  refine ⟨_, rfl, ?_⟩
  refine hK.out _ _ hs (fun hHeld => ?_)
  clear hK K
  refine norm_ (a' := ?_) ?_ ?_
  rotate_left
  · show Act.put _ (some 46) _ = _
    simp only [Act.put, List.setIfInBounds_toArray, List.set_cons_zero, List.set_cons_succ, i64_w, i32_w]
    rfl
  refine pure_ (i := 6) (N := some 40) (v := ?_) (a' := ?_) #[true, true, true, true, true, true, true, false, false, false, false, false, false] rfl rfl (any_of HT_.out (by kernel_rfl)) (fun _ _ _ h => h) (Or.inl ⟨by rfl, ?_⟩) ?_ ?_
  rotate_left
  · intro w'
    go_simp
    with_reducible rfl
  rotate_left
  · simp only [Act.put, List.setIfInBounds_toArray, List.set_cons_zero, List.set_cons_succ, i64_w, i32_w]
    rfl
  refine pure_ (i := 7) (N := some 47) (v := ?_) (a' := ?_) #[true, true, true, true, true, true, true, true, false, false, false, false, false] rfl rfl (any_of HT_.out (by kernel_rfl)) (fun _ _ _ h => h) (Or.inl ⟨by rfl, ?_⟩) ?_ ?_
  rotate_left
  · intro w'
    go_simp
    with_reducible rfl
  rotate_left
  · simp only [Act.put, List.setIfInBounds_toArray, List.set_cons_zero, List.set_cons_succ, i64_w, i32_w]
    rfl
  refine pure_ (i := 8) (N := some 48) (v := ?_) (a' := ?_) #[true, true, true, true, true, true, true, true, true, false, false, false, false] rfl rfl (any_of HT_.out (by kernel_rfl)) (fun _ _ _ h => h) (Or.inl ⟨by rfl, ?_⟩) ?_ ?_
  rotate_left
  · intro w'
    go_simp
    with_reducible rfl
  rotate_left
  · simp only [Act.put, List.setIfInBounds_toArray, List.set_cons_zero, List.set_cons_succ, i64_w, i32_w]
    rfl
  refine pure_ (i := 9) (N := some 49) (v := ?_) (a' := ?_) #[true, true, true, true, true, true, true, true, true, true, false, false, false] rfl rfl (any_of HT_.out (by kernel_rfl)) (fun _ _ _ h => h) (Or.inl ⟨by rfl, ?_⟩) ?_ ?_
  rotate_left
  · intro w'
    go_simp
    with_reducible rfl
  rotate_left
  · simp only [Act.put, List.setIfInBounds_toArray, List.set_cons_zero, List.set_cons_succ, i64_w, i32_w]
    rfl
  refine pure_ (i := 10) (N := some 10) (v := ?_) (a' := ?_) #[true, true, true, true, true, true, true, true, true, true, true, false, false] rfl rfl (any_of HT_.out (by kernel_rfl)) (fun _ _ _ h => h) (Or.inl ⟨by rfl, ?_⟩) ?_ ?_
  rotate_left
  · intro w'
    go_simp
    with_reducible rfl
  rotate_left
  · simp only [Act.put, List.setIfInBounds_toArray, List.set_cons_zero, List.set_cons_succ, i64_w, i32_w]
    rfl
  refine pure_ (i := 11) (N := some 11) (v := ?_) (a' := ?_) #[true, true, true, true, true, true, true, true, true, true, true, true, false] rfl rfl (any_of HT_.out (by kernel_rfl)) (fun _ _ _ h => h) (Or.inl ⟨by rfl, ?_⟩) ?_ ?_
  rotate_left
  · intro w'
    go_simp
    with_reducible rfl
  rotate_left
  · simp only [Act.put, List.setIfInBounds_toArray, List.set_cons_zero, List.set_cons_succ, i64_w, i32_w]
    rfl
  refine pure_ (i := 12) (N := some 12) (v := ?_) (a' := ?_) #[true, true, true, true, true, true, true, true, true, true, true, true, true] rfl rfl (any_of HT_.out (by kernel_rfl)) (fun _ _ _ h => h) (Or.inl ⟨by rfl, ?_⟩) ?_ ?_
  rotate_left
  · intro w'
    go_simp
    with_reducible rfl
  rotate_left
  · simp only [Act.put, List.setIfInBounds_toArray, List.set_cons_zero, List.set_cons_succ, i64_w, i32_w]
    rfl
  refine done_ (done_of HT_.out (by kernel_rfl)) ?_
  replace HB5 := Aside0.mk hHeld
  by_cases h7 : er' = 7
  · subst h7
    by_cases hi : i = 0
    · subst hi
      by_cases he : er = 7
      · subst he
        go_wp2
        first | (refine bodyPost_ret (v := .tuple #[.slice A (refL rs).length c, .bool true]) ?_ rfl ⟨_, _, es2, rfl, HIN2.out, HIL.out, HM.out, HGW.out⟩; simp [results, Try.f29]; done) | (refine bodyPost_ret (v := .tuple #[.slice A (refL rs).length c, .bool false]) ?_ rfl ⟨_, _, es2, rfl, HIN2.out, HIL.out, HM.out, HGW.out⟩; simp [results, Try.f29]; done)
      · have heb : (er == 7) = false := beq_eq_false_iff_ne.2 he
        go_wp2
        first | (refine bodyPost_ret (v := .tuple #[.slice A (refL rs).length c, .bool true]) ?_ rfl ⟨_, _, es2, rfl, HIN2.out, HIL.out, HM.out, HGW.out⟩; simp [results, Try.f29]; done) | (refine bodyPost_ret (v := .tuple #[.slice A (refL rs).length c, .bool false]) ?_ rfl ⟨_, _, es2, rfl, HIN2.out, HIL.out, HM.out, HGW.out⟩; simp [results, Try.f29]; done)
    · have hib : (i == 0) = false := beq_eq_false_iff_ne.2 hi
      go_wp2
      first | (refine bodyPost_ret (v := .tuple #[.slice A (refL rs).length c, .bool true]) ?_ rfl ⟨_, _, es2, rfl, HIN2.out, HIL.out, HM.out, HGW.out⟩; simp [results, Try.f29]; done) | (refine bodyPost_ret (v := .tuple #[.slice A (refL rs).length c, .bool false]) ?_ rfl ⟨_, _, es2, rfl, HIN2.out, HIL.out, HM.out, HGW.out⟩; simp [results, Try.f29]; done)
  · have h7b : (er' == 7) = false := beq_eq_false_iff_ne.2 h7
    by_cases hi : i = i'
    · subst hi
      by_cases he : er = er'
      · subst he
        go_wp2
        first | (refine bodyPost_ret (v := .tuple #[v2, .bool true]) ?_ rfl ⟨_, _, es2, rfl, HIN2.out, HIL.out, HM.out, HGW.out⟩; simp [results, Try.f29]; done) | (refine bodyPost_ret (v := .tuple #[v2, .bool false]) ?_ rfl ⟨_, _, es2, rfl, HIN2.out, HIL.out, HM.out, HGW.out⟩; simp [results, Try.f29]; done)
      · have heb : (er == er') = false := beq_eq_false_iff_ne.2 he
        go_wp2
        first | (refine bodyPost_ret (v := .tuple #[v2, .bool true]) ?_ rfl ⟨_, _, es2, rfl, HIN2.out, HIL.out, HM.out, HGW.out⟩; simp [results, Try.f29]; done) | (refine bodyPost_ret (v := .tuple #[v2, .bool false]) ?_ rfl ⟨_, _, es2, rfl, HIN2.out, HIL.out, HM.out, HGW.out⟩; simp [results, Try.f29]; done)
    · have hib : (i == i') = false := beq_eq_false_iff_ne.2 hi
      go_wp2
      first | (refine bodyPost_ret (v := .tuple #[v2, .bool true]) ?_ rfl ⟨_, _, es2, rfl, HIN2.out, HIL.out, HM.out, HGW.out⟩; simp [results, Try.f29]; done) | (refine bodyPost_ret (v := .tuple #[v2, .bool false]) ?_ rfl ⟨_, _, es2, rfl, HIN2.out, HIL.out, HM.out, HGW.out⟩; simp [results, Try.f29]; done)
theorem once_1 {B w0 p r es rs W} (h : Tl B w0 p r es W) (hinv : Inv es) (hrv : Inv rs) (hr1 : 1 ≤ rs.length) (hr64 : rs.length ≤ 64) (hrn : ∀ i, rs.getD i none = none) {base : Nat} (A : Option Addr) (c : Nat) (hv : Kd.V k26 26 W base (fun k => k ≠ r) (.slice A (refL rs).length c) (refL rs)) (n ctx va : Int) (e : Ent) (raw : Bool) (hn : (Lit.int .i64 n).wf = true) (hva : (Lit.int .u64 va).wf = true) (he : EntW e) :
    Calls Try.prog 29 #[.pointer (some ⟨p, 0, none⟩), .slice A (refL rs).length c, .agg #[.int .i64 1, .int .i64 n, .int .i64 ctx, .int .u64 va, .int .i64 e.f0, .int .i64 e.f1, .int .u64 e.f2, .int .u64 e.f3, .bool e.f4.f0, .bool e.f4.f1, .bool e.f4.f2, .bool e.f4.f3, .bool e.f4.f4, .bool e.f4.f5, .bool e.f5, .bool raw]] W (OnceD B w0 p r es W) := by
  have hu := Try.underlying26
  have hu2 := Try.underlying24
  have hu3 := Try.underlying54
  have hg0 := World.grownBy_alloc W (.cells #[.int .i64 1, .int .i64 n, .int .i64 ctx, .int .u64 va, .int .i64 e.f0, .int .i64 e.f1, .int .u64 e.f2, .int .u64 e.f3, .bool e.f4.f0, .bool e.f4.f1, .bool e.f4.f2, .bool e.f4.f3, .bool e.f4.f4, .bool e.f4.f5, .bool e.f5, .bool raw] 54) none
  have HB5 := Aside0.mk (heap_alloc_new W (.cells #[.int .i64 1, .int .i64 n, .int .i64 ctx, .int .u64 va, .int .i64 e.f0, .int .i64 e.f1, .int .u64 e.f2, .int .u64 e.f3, .bool e.f4.f0, .bool e.f4.f1, .bool e.f4.f2, .bool e.f4.f3, .bool e.f4.f4, .bool e.f4.f5, .bool e.f5, .bool raw] 54))
  have HM0 := Aside0.mk (h.same hg0)
  have HV0 := Aside0.mk (Kd.V_grown hv hg0 (by simp))
  have HINV := Aside0.mk hinv
  have HRV := Aside0.mk hrv
  have HRN := Aside0.mk hrn
  have HN := Aside0.mk hn
  have HVA := Aside0.mk hva
  have HWE0 := Aside0.mk he
  have HW1 := Aside0.mk (entry_W he raw)
  have HNE := Aside0.mk (show W.heap.size ≠ r from fun e => by have := h.rlt; omega)
  have HGW := Aside0.mk (grown_but hg0 (some r))
  have HR64 := Aside0.mk hr64
  have HR1 := Aside0.mk hr1
  clear h hinv hv hn hva he hg0 hrv hrn hr1 hr64
  obtain ⟨q0, q1, q2, q3, q4, q5, q6, q7, q8, q9, q10, q11, q12, q13, q14, q15⟩ := cz16 HB5.out
  go_enter Try.func29, Try.ntmps29
  have hri := ref_put HRV.out.ok HR64.out HW1.out n
  obtain ⟨er, es2, hpv⟩ : ∃ a b, putOf es n (entryE e raw) = (a, b) := ⟨_, _, rfl⟩
  obtain ⟨er', rs2, hpv'⟩ : ∃ a b, putOf rs n (entryE e raw) = (a, b) := ⟨_, _, rfl⟩
  have hin2 := put_inv HINV.out HW1.out n
  have hil := put_len es (entryE e raw) n
  rw [hpv] at hin2 hil
  rw [hpv'] at hri
  have HRI := Aside0.mk hri
  have HPV := Aside0.mk hpv
  have HIN2 := Aside0.mk hin2
  have HIL := Aside0.mk hil
  clear hri hin2 hil hpv hpv'
  go_wp2
  clear q0 q1 q2 q3 q4 q5 q6 q7 q8 q9 q10 q11 q12 q13 q14 q15
  generalize W.heap.size = h5 at HB5 HNE ⊢
  generalize W.alloc _ = W5 at HB5 HM0 HV0 HGW ⊢
  replace HGW := Aside0.mk (grown_two HGW.out (grown_drew _ (some r)))
  have HV := Aside0.mk (Kd.V_drew HV0.out)
  have HM := Aside0.mk (HM0.out.same (grown_drew _ none))
  refine start_ (n := 11) (S := fun w' => w'.heap[h5]? = some (.cells #[.int .i64 1, .int .i64 n, .int .i64 ctx, .int .u64 va, .int .i64 e.f0, .int .i64 e.f1, .int .u64 e.f2, .int .u64 e.f3, .bool e.f4.f0, .bool e.f4.f1, .bool e.f4.f2, .bool e.f4.f3, .bool e.f4.f4, .bool e.f4.f5, .bool e.f5, .bool raw] 54 (0, 0))) (ds := []) #[false, false, false, false, false, false, false, false, false, false, false] (by kernel_rfl) rfl rfl HB5.out (fun hHeld => ?_)
  refine with_tab does9_tab (fun HT_ => ?_)
  refine pure_ (i := 0) (N := some 72) (v := ?_) (a' := ?_) #[true, false, false, false, false, false, false, false, false, false, false] rfl rfl (any_of HT_.out (by kernel_rfl)) (fun _ _ _ h => h) (Or.inl ⟨by rfl, ?_⟩) ?_ ?_
  rotate_left
  · intro w'
    go_simp
    with_reducible rfl
  rotate_left
  · simp only [Act.put, List.setIfInBounds_toArray, List.set_cons_zero, List.set_cons_succ, i64_w, i32_w]
    rfl
  refine pure_ (i := 1) (N := some 73) (v := ?_) (a' := ?_) #[true, true, false, false, false, false, false, false, false, false, false] rfl rfl (any_of HT_.out (by kernel_rfl)) (fun _ _ _ h => h) (Or.inl ⟨by rfl, ?_⟩) ?_ ?_
  rotate_left
  · intro w'
    go_simp
    with_reducible rfl
  rotate_left
  · simp only [Act.put, List.setIfInBounds_toArray, List.set_cons_zero, List.set_cons_succ, i64_w, i32_w]
    rfl
  refine take_ (i := 2) (N := some 74) (v := .int .i64 n) (a' := ?_) #[true, true, true, false, false, false, false, false, false, false, false] rfl rfl (take_of HT_.out (by kernel_rfl)) (fun _ _ _ h => h) (Or.inl ⟨by rfl, ?_⟩) hHeld ?_ ?_
  · rintro w' s1
    obtain ⟨q0, q1, q2, q3, q4, q5, q6, q7, q8, q9, q10, q11, q12, q13, q14, q15⟩ := cz16 s1
    go_simp
  rotate_left
  · simp only [Act.put, List.setIfInBounds_toArray, List.set_cons_zero, List.set_cons_succ, i64_w, i32_w]
    rfl
  refine take_ (i := 3) (N := some 75) (v := .agg #[.int .i64 1, .int .i64 n, .int .i64 ctx, .int .u64 va, .int .i64 e.f0, .int .i64 e.f1, .int .u64 e.f2, .int .u64 e.f3, .bool e.f4.f0, .bool e.f4.f1, .bool e.f4.f2, .bool e.f4.f3, .bool e.f4.f4, .bool e.f4.f5, .bool e.f5, .bool raw]) (a' := ?_) #[true, true, true, true, false, false, false, false, false, false, false] rfl rfl (take_of HT_.out (by kernel_rfl)) (fun _ _ _ h => h) (Or.inl ⟨by rfl, ?_⟩) hHeld ?_ ?_
  · rintro w' s1
    obtain ⟨q0, q1, q2, q3, q4, q5, q6, q7, q8, q9, q10, q11, q12, q13, q14, q15⟩ := cz16 s1
    go_simp
  rotate_left
  · simp only [Act.put, List.setIfInBounds_toArray, List.set_cons_zero, List.set_cons_succ, i64_w, i32_w]
    rfl
  refine one_ (i := 4) (N := some 76) #[true, true, true, true, true, false, false, false, false, false, false] rfl rfl (one_of HT_.out (by kernel_rfl)) (by decide) (fun K hK => ?_)
  refine goes_ Try.func63 (by kernel_rfl) rfl #[.agg #[.int .i64 1, .int .i64 n, .int .i64 ctx, .int .u64 va, .int .i64 e.f0, .int .i64 e.f1, .int .u64 e.f2, .int .u64 e.f3, .bool e.f4.f0, .bool e.f4.f1, .bool e.f4.f2, .bool e.f4.f3, .bool e.f4.f4, .bool e.f4.f5, .bool e.f5, .bool raw]] (by rfl) rfl rfl (by (try simp only [List.map_toArray, List.map_cons, List.map_nil]); first | done | rfl) ?_
  refine (entry_calls _ n ctx va HWE0.out raw _).mono ?_
  rintro x0 wn ⟨rfl, hg⟩
  try replace HV2 := Aside0.mk (Kd.V_grown HV2.out hg (by simp))
  have hs := blk_grown hHeld hg
  replace HM := Aside0.mk (HM.out.same hg)
  replace HV := Aside0.mk (Kd.V_grown HV.out hg (by simp)); replace HGW := Aside0.mk (grown_two HGW.out (grown_but hg (some r)))
  clear hg
  refine ⟨_, rfl, ?_⟩
  refine hK.out _ _ hs (fun hHeld => ?_)
  clear hK K
  refine norm_ (a' := ?_) ?_ ?_
  rotate_left
  · show Act.put _ (some 76) _ = _
    simp only [Act.put, List.setIfInBounds_toArray, List.set_cons_zero, List.set_cons_succ, i64_w, i32_w]
    rfl
  refine one_ (i := 5) (N := some 77) #[true, true, true, true, true, true, false, false, false, false, false] rfl rfl (one_of HT_.out (by kernel_rfl)) (by decide) (fun K hK => ?_)
  refine goes_ Try.func65 (by kernel_rfl) rfl #[.slice A (refL rs).length c, .int .i64 n, .agg (entA (entryE e raw))] (by rfl) rfl rfl (by (try simp only [List.map_toArray, List.map_cons, List.map_nil]); first | done | rfl) ?_
  refine (lookasideref06_Put.calls 1000 (fun k => k ≠ r) A c (refL rs) n (entryE e raw).f0 (entryE e raw).f1 (entryE e raw).f2 (entryE e raw).f3 (entryE e raw).f4.f0 (entryE e raw).f4.f1 (entryE e raw).f4.f2 (entryE e raw).f4.f3 (entryE e raw).f4.f4 (entryE e raw).f4.f5 (entryE e raw).f5 _ _ _ HV.out HRI.out).mono ?_
  rintro x0 wn ⟨v2, rfl, hV2, hb⟩
  have hg := below_grown hb
  have HV2 := Aside0.mk (Kd.V_mono (ok' := fun k => k ≠ r) hV2 (fun k hk => hk.elim id (fun h e => by subst e; have := HM.out.rlt; omega)))
  have hs := blk_grown hHeld hg
  replace HM := Aside0.mk (HM.out.same hg)
  replace HV := Aside0.mk (Kd.V_grown HV.out hg (by simp)); replace HGW := Aside0.mk (grown_two HGW.out (grown_but hg (some r)))
  clear hV2 hb hg
  refine ⟨_, rfl, ?_⟩
  refine hK.out _ _ hs (fun hHeld => ?_)
  clear hK K
  refine norm_ (a' := ?_) ?_ ?_
  rotate_left
  · show Act.put _ (some 77) _ = _
    simp only [Act.put, List.setIfInBounds_toArray, List.set_cons_zero, List.set_cons_succ, i64_w, i32_w]
    rfl
  refine pure_ (i := 6) (N := some 71) (v := ?_) (a' := ?_) #[true, true, true, true, true, true, true, false, false, false, false] rfl rfl (any_of HT_.out (by kernel_rfl)) (fun _ _ _ h => h) (Or.inl ⟨by rfl, ?_⟩) ?_ ?_
  rotate_left
  · intro w'
    go_simp
    with_reducible rfl
  rotate_left
  · simp only [Act.put, List.setIfInBounds_toArray, List.set_cons_zero, List.set_cons_succ, i64_w, i32_w]
    rfl
  refine pure_ (i := 7) (N := some 78) (v := ?_) (a' := ?_) #[true, true, true, true, true, true, true, true, false, false, false] rfl rfl (any_of HT_.out (by kernel_rfl)) (fun _ _ _ h => h) (Or.inl ⟨by rfl, ?_⟩) ?_ ?_
  rotate_left
  · intro w'
    go_simp
    with_reducible rfl
  rotate_left
  · simp only [Act.put, List.setIfInBounds_toArray, List.set_cons_zero, List.set_cons_succ, i64_w, i32_w]
    rfl
  refine pure_ (i := 8) (N := some 79) (v := ?_) (a' := ?_) #[true, true, true, true, true, true, true, true, true, false, false] rfl rfl (any_of HT_.out (by kernel_rfl)) (fun _ _ _ h => h) (Or.inl ⟨by rfl, ?_⟩) ?_ ?_
  rotate_left
  · intro w'
    go_simp
    with_reducible rfl
  rotate_left
  · simp only [Act.put, List.setIfInBounds_toArray, List.set_cons_zero, List.set_cons_succ, i64_w, i32_w]
    rfl
  refine pure_ (i := 9) (N := some 13) (v := ?_) (a' := ?_) #[true, true, true, true, true, true, true, true, true, true, false] rfl rfl (any_of HT_.out (by kernel_rfl)) (fun _ _ _ h => h) (Or.inl ⟨by rfl, ?_⟩) ?_ ?_
  rotate_left
  · intro w'
    go_simp
    with_reducible rfl
  rotate_left
  · simp only [Act.put, List.setIfInBounds_toArray, List.set_cons_zero, List.set_cons_succ, i64_w, i32_w]
    rfl
  refine pure_ (i := 10) (N := some 14) (v := ?_) (a' := ?_) #[true, true, true, true, true, true, true, true, true, true, true] rfl rfl (any_of HT_.out (by kernel_rfl)) (fun _ _ _ h => h) (Or.inl ⟨by rfl, ?_⟩) ?_ ?_
  rotate_left
  · intro w'
    go_simp
    with_reducible rfl
  rotate_left
  · simp only [Act.put, List.setIfInBounds_toArray, List.set_cons_zero, List.set_cons_succ, i64_w, i32_w]
    rfl
  refine done_ (done_of HT_.out (by kernel_rfl)) ?_
  replace HB5 := Aside0.mk hHeld
  go_wp2
  have HV0 := HV
  have HM0 := HM
  clear HV HM
  replace HGW := Aside0.mk (grown_two HGW.out (grown_drew _ (some r)))
  have HV := Aside0.mk (Kd.V_drew HV0.out)
  have HM := Aside0.mk (HM0.out.same (grown_drew _ none))
  replace HV2 := Aside0.mk (Kd.V_drew HV2.out)
  refine start_ (n := 11) (S := fun w' => w'.heap[h5]? = some (.cells #[.int .i64 1, .int .i64 n, .int .i64 ctx, .int .u64 va, .int .i64 e.f0, .int .i64 e.f1, .int .u64 e.f2, .int .u64 e.f3, .bool e.f4.f0, .bool e.f4.f1, .bool e.f4.f2, .bool e.f4.f3, .bool e.f4.f4, .bool e.f4.f5, .bool e.f5, .bool raw] 54 (0, 0))) (ds := []) #[false, false, false, false, false, false, false, false, false, false, false] (by kernel_rfl) rfl rfl HB5.out (fun hHeld => ?_)
  refine with_tab does10_tab (fun HT_ => ?_)
  refine pure_ (i := 0) (N := some 80) (v := ?_) (a' := ?_) #[true, false, false, false, false, false, false, false, false, false, false] rfl rfl (any_of HT_.out (by kernel_rfl)) (fun _ _ _ h => h) (Or.inl ⟨by rfl, ?_⟩) ?_ ?_
  rotate_left
  · intro w'
    go_simp
    with_reducible rfl
  rotate_left
  · simp only [Act.put, List.setIfInBounds_toArray, List.set_cons_zero, List.set_cons_succ, i64_w, i32_w]
    rfl
  refine pure_ (i := 1) (N := some 81) (v := ?_) (a' := ?_) #[true, true, false, false, false, false, false, false, false, false, false] rfl rfl (any_of HT_.out (by kernel_rfl)) (fun _ _ _ h => h) (Or.inl ⟨by rfl, ?_⟩) ?_ ?_
  rotate_left
  · intro w'
    go_simp
    with_reducible rfl
  rotate_left
  · simp only [Act.put, List.setIfInBounds_toArray, List.set_cons_zero, List.set_cons_succ, i64_w, i32_w]
    rfl
  refine pure_ (i := 2) (N := some 82) (v := ?_) (a' := ?_) #[true, true, true, false, false, false, false, false, false, false, false] rfl rfl (any_of HT_.out (by kernel_rfl)) (fun _ _ _ h => h) (Or.inl ⟨by rfl, ?_⟩) ?_ ?_
  rotate_left
  · intro w'
    go_simp
    with_reducible rfl
  rotate_left
  · simp only [Act.put, List.setIfInBounds_toArray, List.set_cons_zero, List.set_cons_succ, i64_w, i32_w]
    rfl
  refine pure_ (i := 7) (N := some 87) (v := ?_) (a' := ?_) #[true, true, true, false, false, false, false, true, false, false, false] rfl rfl (any_of HT_.out (by kernel_rfl)) (fun _ _ _ h => h) (Or.inl ⟨by rfl, ?_⟩) ?_ ?_
  rotate_left
  · intro w'
    go_simp
    with_reducible rfl
  rotate_left
  · simp only [Act.put, List.setIfInBounds_toArray, List.set_cons_zero, List.set_cons_succ, i64_w, i32_w]
    rfl
  refine take_ (i := 3) (N := some 83) (v := .int .i64 n) (a' := ?_) #[true, true, true, true, false, false, false, true, false, false, false] rfl rfl (take_of HT_.out (by kernel_rfl)) (fun _ _ _ h => h) (Or.inl ⟨by rfl, ?_⟩) hHeld ?_ ?_
  · rintro w' s1
    obtain ⟨q0, q1, q2, q3, q4, q5, q6, q7, q8, q9, q10, q11, q12, q13, q14, q15⟩ := cz16 s1
    go_simp
  rotate_left
  · simp only [Act.put, List.setIfInBounds_toArray, List.set_cons_zero, List.set_cons_succ, i64_w, i32_w]
    rfl
  refine take_ (i := 4) (N := some 84) (v := .agg #[.int .i64 1, .int .i64 n, .int .i64 ctx, .int .u64 va, .int .i64 e.f0, .int .i64 e.f1, .int .u64 e.f2, .int .u64 e.f3, .bool e.f4.f0, .bool e.f4.f1, .bool e.f4.f2, .bool e.f4.f3, .bool e.f4.f4, .bool e.f4.f5, .bool e.f5, .bool raw]) (a' := ?_) #[true, true, true, true, true, false, false, true, false, false, false] rfl rfl (take_of HT_.out (by kernel_rfl)) (fun _ _ _ h => h) (Or.inl ⟨by rfl, ?_⟩) hHeld ?_ ?_
  · rintro w' s1
    obtain ⟨q0, q1, q2, q3, q4, q5, q6, q7, q8, q9, q10, q11, q12, q13, q14, q15⟩ := cz16 s1
    go_simp
  rotate_left
  · simp only [Act.put, List.setIfInBounds_toArray, List.set_cons_zero, List.set_cons_succ, i64_w, i32_w]
    rfl
  refine one_ (i := 5) (N := some 85) #[true, true, true, true, true, true, false, true, false, false, false] rfl rfl (one_of HT_.out (by kernel_rfl)) (by decide) (fun K hK => ?_)
  refine goes_ Try.func63 (by kernel_rfl) rfl #[.agg #[.int .i64 1, .int .i64 n, .int .i64 ctx, .int .u64 va, .int .i64 e.f0, .int .i64 e.f1, .int .u64 e.f2, .int .u64 e.f3, .bool e.f4.f0, .bool e.f4.f1, .bool e.f4.f2, .bool e.f4.f3, .bool e.f4.f4, .bool e.f4.f5, .bool e.f5, .bool raw]] (by rfl) rfl rfl (by (try simp only [List.map_toArray, List.map_cons, List.map_nil]); first | done | rfl) ?_
  refine (entry_calls _ n ctx va HWE0.out raw _).mono ?_
  rintro x0 wn ⟨rfl, hg⟩
  try replace HV2 := Aside0.mk (Kd.V_grown HV2.out hg (by simp))
  have hs := blk_grown hHeld hg
  replace HM := Aside0.mk (HM.out.same hg)
  replace HV := Aside0.mk (Kd.V_grown HV.out hg (by simp)); replace HGW := Aside0.mk (grown_two HGW.out (grown_but hg (some r)))
  clear hg
  refine ⟨_, rfl, ?_⟩
  refine hK.out _ _ hs (fun hHeld => ?_)
  clear hK K
  refine norm_ (a' := ?_) ?_ ?_
  rotate_left
  · show Act.put _ (some 85) _ = _
    simp only [Act.put, List.setIfInBounds_toArray, List.set_cons_zero, List.set_cons_succ, i64_w, i32_w]
    rfl
  refine one_ (i := 6) (N := some 86) #[true, true, true, true, true, true, true, true, false, false, false] rfl rfl (one_of HT_.out (by kernel_rfl)) (by decide) (fun K hK => ?_)
  refine goes_ Try.func66 (by kernel_rfl) rfl #[.pointer (some ⟨p, 0, none⟩), .int .i64 n, .agg (entA (entryE e raw))] (by rfl) rfl rfl (by (try simp only [List.map_toArray, List.map_cons, List.map_nil]); first | done | rfl) ?_
  refine (tl_put HM.out HINV.out.ok n _ HW1.out _ _ HPV.out).mono ?_
  rintro x0 wn ⟨rfl, hM, hg⟩
  have hs := (hg.block h5 (blk_lt hHeld) (fun e => HNE.out (Option.some.inj e))).trans hHeld
  replace HV := Aside0.mk (Kd.V_grown HV.out hg (fun k hk e => hk (Option.some.inj e))); replace HGW := Aside0.mk (grown_two HGW.out hg)
  try replace HV2 := Aside0.mk (Kd.V_grown HV2.out hg (fun k hk e => hk (Option.some.inj e)))
  replace HM := Aside0.mk hM
  clear hM hg
  refine ⟨_, rfl, ?_⟩
  refine hK.out _ _ hs (fun hHeld => ?_)
  clear hK K
  refine norm_ (a' := ?_) ?_ ?_
  rotate_left
  · show Act.put _ (some 86) _ = _
    simp only [Act.put, List.setIfInBounds_toArray, List.set_cons_zero, List.set_cons_succ, i64_w, i32_w]
    rfl
  refine pure_ (i := 8) (N := some 88) (v := .bool (er == er')) (a' := ?_) #[true, true, true, true, true, true, true, true, true, false, false] rfl rfl (any_of HT_.out (by kernel_rfl)) (fun _ _ _ h => h) (Or.inl ⟨by rfl, ?_⟩) ?_ ?_
  · intro w'
    go_simp
  rotate_left
  · simp only [Act.put, List.setIfInBounds_toArray, List.set_cons_zero, List.set_cons_succ, i64_w, i32_w]
    rfl
  refine pure_ (i := 9) (N := some 6) (v := ?_) (a' := ?_) #[true, true, true, true, true, true, true, true, true, true, false] rfl rfl (any_of HT_.out (by kernel_rfl)) (fun _ _ _ h => h) (Or.inl ⟨by rfl, ?_⟩) ?_ ?_
  rotate_left
  · intro w'
    go_simp
    with_reducible rfl
  rotate_left
  · simp only [Act.put, List.setIfInBounds_toArray, List.set_cons_zero, List.set_cons_succ, i64_w, i32_w]
    rfl
  refine pure_ (i := 10) (N := some 7) (v := ?_) (a' := ?_) #[true, true, true, true, true, true, true, true, true, true, true] rfl rfl (any_of HT_.out (by kernel_rfl)) (fun _ _ _ h => h) (Or.inl ⟨by rfl, ?_⟩) ?_ ?_
  rotate_left
  · intro w'
    go_simp
    with_reducible rfl
  rotate_left
  · simp only [Act.put, List.setIfInBounds_toArray, List.set_cons_zero, List.set_cons_succ, i64_w, i32_w]
    rfl
  refine done_ (done_of HT_.out (by kernel_rfl)) ?_
  replace HB5 := Aside0.mk hHeld
  go_wp2
  exact bodyPost_ret (v := .tuple #[v2, .bool _]) (by simp [results, Try.f29]; rfl) rfl ⟨_, _, es2, rfl, HIN2.out, HIL.out, HM.out, HGW.out⟩
theorem once_2 {B w0 p r es rs W} (h : Tl B w0 p r es W) (hinv : Inv es) (hrv : Inv rs) (hr1 : 1 ≤ rs.length) (hr64 : rs.length ≤ 64) (hrn : ∀ i, rs.getD i none = none) {base : Nat} (A : Option Addr) (c : Nat) (hv : Kd.V k26 26 W base (fun k => k ≠ r) (.slice A (refL rs).length c) (refL rs)) (n ctx va : Int) (e : Ent) (raw : Bool) (hn : (Lit.int .i64 n).wf = true) (hva : (Lit.int .u64 va).wf = true) (he : EntW e) :
    Calls Try.prog 29 #[.pointer (some ⟨p, 0, none⟩), .slice A (refL rs).length c, .agg #[.int .i64 2, .int .i64 n, .int .i64 ctx, .int .u64 va, .int .i64 e.f0, .int .i64 e.f1, .int .u64 e.f2, .int .u64 e.f3, .bool e.f4.f0, .bool e.f4.f1, .bool e.f4.f2, .bool e.f4.f3, .bool e.f4.f4, .bool e.f4.f5, .bool e.f5, .bool raw]] W (OnceD B w0 p r es W) := by
  have hu := Try.underlying26
  have hu2 := Try.underlying24
  have hu3 := Try.underlying54
  have hg0 := World.grownBy_alloc W (.cells #[.int .i64 2, .int .i64 n, .int .i64 ctx, .int .u64 va, .int .i64 e.f0, .int .i64 e.f1, .int .u64 e.f2, .int .u64 e.f3, .bool e.f4.f0, .bool e.f4.f1, .bool e.f4.f2, .bool e.f4.f3, .bool e.f4.f4, .bool e.f4.f5, .bool e.f5, .bool raw] 54) none
  have HB5 := Aside0.mk (heap_alloc_new W (.cells #[.int .i64 2, .int .i64 n, .int .i64 ctx, .int .u64 va, .int .i64 e.f0, .int .i64 e.f1, .int .u64 e.f2, .int .u64 e.f3, .bool e.f4.f0, .bool e.f4.f1, .bool e.f4.f2, .bool e.f4.f3, .bool e.f4.f4, .bool e.f4.f5, .bool e.f5, .bool raw] 54))
  have HM0 := Aside0.mk (h.same hg0)
  have HV0 := Aside0.mk (Kd.V_grown hv hg0 (by simp))
  have HINV := Aside0.mk hinv
  have HRV := Aside0.mk hrv
  have HRN := Aside0.mk hrn
  have HN := Aside0.mk hn
  have HVA := Aside0.mk hva
  have HWE0 := Aside0.mk he
  have HW1 := Aside0.mk (entry_W he raw)
  have HNE := Aside0.mk (show W.heap.size ≠ r from fun e => by have := h.rlt; omega)
  have HGW := Aside0.mk (grown_but hg0 (some r))
  have HR64 := Aside0.mk hr64
  have HR1 := Aside0.mk hr1
  clear h hinv hv hn hva he hg0 hrv hrn hr1 hr64
  obtain ⟨q0, q1, q2, q3, q4, q5, q6, q7, q8, q9, q10, q11, q12, q13, q14, q15⟩ := cz16 HB5.out
  go_enter Try.func29, Try.ntmps29
  have HRI := Aside0.mk (ref_demap0 HRV.out.ok HR64.out HVA.out ctx)
  obtain ⟨es2, hes2⟩ : ∃ x, x = clearQ es (fun e => hitsB e va ctx) := ⟨_, rfl⟩
  have HIN2 := Aside0.mk (show Inv es2 by rw [hes2]; exact HINV.out.sub (clear_sub es _))
  have HIL := Aside0.mk (show es2.length = es.length by rw [hes2]; exact clearQ_len es _)
  have HES := Aside0.mk hes2
  clear hes2
  have HV := HV0
  have HM := HM0
  clear HV0 HM0
  go_wp2_with fail
  refine (lookasideref06_Demap.calls 1000 (fun k => k ≠ r) A c (refL rs) 0 va ctx _ _ _ HV.out HRI.out).mono ?_
  rintro x0 wn ⟨v2, rfl, hV2, hb⟩
  have hg := below_grown hb
  have HV2 := Aside0.mk (Kd.V_mono (ok' := fun k => k ≠ r) hV2 (fun k hk => hk.elim id (fun h e => by subst e; have := HM.out.rlt; omega)))
  replace HM := Aside0.mk (HM.out.same hg)
  replace HV := Aside0.mk (Kd.V_grown HV.out hg (by simp)); replace HGW := Aside0.mk (grown_two HGW.out (grown_but hg (some r)))
  clear q0 q1 q2 q3 q4 q5 q6 q7 q8 q9 q10 q11 q12 q13 q14 q15
  replace HB5 := Aside0.mk (blk_grown HB5.out hg)
  obtain ⟨q0, q1, q2, q3, q4, q5, q6, q7, q8, q9, q10, q11, q12, q13, q14, q15⟩ := cz16 HB5.out
  clear hV2 hb hg
  go_wp2_with fail
  refine (tl_dpage HM.out HINV.out.ok va ctx HVA.out).mono ?_
  rintro x0 wn ⟨rfl, hM, hg⟩
  rw [← HES.out] at hM
  replace HV := Aside0.mk (Kd.V_grown HV.out hg (fun k hk e => hk (Option.some.inj e))); replace HGW := Aside0.mk (grown_two HGW.out hg)
  try replace HV2 := Aside0.mk (Kd.V_grown HV2.out hg (fun k hk e => hk (Option.some.inj e)))
  replace HM := Aside0.mk hM
  clear hM hg
  go_wp2
  exact bodyPost_ret (v := .tuple #[v2, .bool _]) (by simp [results, Try.f29]; rfl) rfl ⟨_, _, es2, rfl, HIN2.out, HIL.out, HM.out, HGW.out⟩
theorem once_3 {B w0 p r es rs W} (h : Tl B w0 p r es W) (hinv : Inv es) (hrv : Inv rs) (hr1 : 1 ≤ rs.length) (hr64 : rs.length ≤ 64) (hrn : ∀ i, rs.getD i none = none) {base : Nat} (A : Option Addr) (c : Nat) (hv : Kd.V k26 26 W base (fun k => k ≠ r) (.slice A (refL rs).length c) (refL rs)) (n ctx va : Int) (e : Ent) (raw : Bool) (hn : (Lit.int .i64 n).wf = true) (hva : (Lit.int .u64 va).wf = true) (he : EntW e) :
    Calls Try.prog 29 #[.pointer (some ⟨p, 0, none⟩), .slice A (refL rs).length c, .agg #[.int .i64 3, .int .i64 n, .int .i64 ctx, .int .u64 va, .int .i64 e.f0, .int .i64 e.f1, .int .u64 e.f2, .int .u64 e.f3, .bool e.f4.f0, .bool e.f4.f1, .bool e.f4.f2, .bool e.f4.f3, .bool e.f4.f4, .bool e.f4.f5, .bool e.f5, .bool raw]] W (OnceD B w0 p r es W) := by
  have hu := Try.underlying26
  have hu2 := Try.underlying24
  have hu3 := Try.underlying54
  have hg0 := World.grownBy_alloc W (.cells #[.int .i64 3, .int .i64 n, .int .i64 ctx, .int .u64 va, .int .i64 e.f0, .int .i64 e.f1, .int .u64 e.f2, .int .u64 e.f3, .bool e.f4.f0, .bool e.f4.f1, .bool e.f4.f2, .bool e.f4.f3, .bool e.f4.f4, .bool e.f4.f5, .bool e.f5, .bool raw] 54) none
  have HB5 := Aside0.mk (heap_alloc_new W (.cells #[.int .i64 3, .int .i64 n, .int .i64 ctx, .int .u64 va, .int .i64 e.f0, .int .i64 e.f1, .int .u64 e.f2, .int .u64 e.f3, .bool e.f4.f0, .bool e.f4.f1, .bool e.f4.f2, .bool e.f4.f3, .bool e.f4.f4, .bool e.f4.f5, .bool e.f5, .bool raw] 54))
  have HM0 := Aside0.mk (h.same hg0)
  have HV0 := Aside0.mk (Kd.V_grown hv hg0 (by simp))
  have HINV := Aside0.mk hinv
  have HRV := Aside0.mk hrv
  have HRN := Aside0.mk hrn
  have HN := Aside0.mk hn
  have HVA := Aside0.mk hva
  have HWE0 := Aside0.mk he
  have HW1 := Aside0.mk (entry_W he raw)
  have HNE := Aside0.mk (show W.heap.size ≠ r from fun e => by have := h.rlt; omega)
  have HGW := Aside0.mk (grown_but hg0 (some r))
  have HR64 := Aside0.mk hr64
  have HR1 := Aside0.mk hr1
  clear h hinv hv hn hva he hg0 hrv hrn hr1 hr64
  obtain ⟨q0, q1, q2, q3, q4, q5, q6, q7, q8, q9, q10, q11, q12, q13, q14, q15⟩ := cz16 HB5.out
  go_enter Try.func29, Try.ntmps29
  have HRI := Aside0.mk (ref_demap1 HRV.out.ok HR64.out ctx)
  obtain ⟨es2, hes2⟩ : ∃ x, x = clearQ es (ctxB ctx) := ⟨_, rfl⟩
  have HIN2 := Aside0.mk (show Inv es2 by rw [hes2]; exact HINV.out.sub (clear_sub es _))
  have HIL := Aside0.mk (show es2.length = es.length by rw [hes2]; exact clearQ_len es _)
  have HES := Aside0.mk hes2
  clear hes2
  have HV := HV0
  have HM := HM0
  clear HV0 HM0
  go_wp2_with fail
  refine (lookasideref06_Demap.calls 1000 (fun k => k ≠ r) A c (refL rs) 1 0 ctx _ _ _ HV.out HRI.out).mono ?_
  rintro x0 wn ⟨v2, rfl, hV2, hb⟩
  have hg := below_grown hb
  have HV2 := Aside0.mk (Kd.V_mono (ok' := fun k => k ≠ r) hV2 (fun k hk => hk.elim id (fun h e => by subst e; have := HM.out.rlt; omega)))
  replace HM := Aside0.mk (HM.out.same hg)
  replace HV := Aside0.mk (Kd.V_grown HV.out hg (by simp)); replace HGW := Aside0.mk (grown_two HGW.out (grown_but hg (some r)))
  clear q0 q1 q2 q3 q4 q5 q6 q7 q8 q9 q10 q11 q12 q13 q14 q15
  replace HB5 := Aside0.mk (blk_grown HB5.out hg)
  obtain ⟨q0, q1, q2, q3, q4, q5, q6, q7, q8, q9, q10, q11, q12, q13, q14, q15⟩ := cz16 HB5.out
  clear hV2 hb hg
  go_wp2_with fail
  refine (tl_dctx HM.out ctx).mono ?_
  rintro x0 wn ⟨rfl, hM, hg⟩
  rw [← HES.out] at hM
  replace HV := Aside0.mk (Kd.V_grown HV.out hg (fun k hk e => hk (Option.some.inj e))); replace HGW := Aside0.mk (grown_two HGW.out hg)
  try replace HV2 := Aside0.mk (Kd.V_grown HV2.out hg (fun k hk e => hk (Option.some.inj e)))
  replace HM := Aside0.mk hM
  clear hM hg
  go_wp2
  exact bodyPost_ret (v := .tuple #[v2, .bool _]) (by simp [results, Try.f29]; rfl) rfl ⟨_, _, es2, rfl, HIN2.out, HIL.out, HM.out, HGW.out⟩
theorem once_4 {B w0 p r es rs W} (h : Tl B w0 p r es W) (hinv : Inv es) (hrv : Inv rs) (hr1 : 1 ≤ rs.length) (hr64 : rs.length ≤ 64) (hrn : ∀ i, rs.getD i none = none) {base : Nat} (A : Option Addr) (c : Nat) (hv : Kd.V k26 26 W base (fun k => k ≠ r) (.slice A (refL rs).length c) (refL rs)) (n ctx va : Int) (e : Ent) (raw : Bool) (hn : (Lit.int .i64 n).wf = true) (hva : (Lit.int .u64 va).wf = true) (he : EntW e) :
    Calls Try.prog 29 #[.pointer (some ⟨p, 0, none⟩), .slice A (refL rs).length c, .agg #[.int .i64 4, .int .i64 n, .int .i64 ctx, .int .u64 va, .int .i64 e.f0, .int .i64 e.f1, .int .u64 e.f2, .int .u64 e.f3, .bool e.f4.f0, .bool e.f4.f1, .bool e.f4.f2, .bool e.f4.f3, .bool e.f4.f4, .bool e.f4.f5, .bool e.f5, .bool raw]] W (OnceD B w0 p r es W) := by
  have hu := Try.underlying26
  have hu2 := Try.underlying24
  have hu3 := Try.underlying54
  have hg0 := World.grownBy_alloc W (.cells #[.int .i64 4, .int .i64 n, .int .i64 ctx, .int .u64 va, .int .i64 e.f0, .int .i64 e.f1, .int .u64 e.f2, .int .u64 e.f3, .bool e.f4.f0, .bool e.f4.f1, .bool e.f4.f2, .bool e.f4.f3, .bool e.f4.f4, .bool e.f4.f5, .bool e.f5, .bool raw] 54) none
  have HB5 := Aside0.mk (heap_alloc_new W (.cells #[.int .i64 4, .int .i64 n, .int .i64 ctx, .int .u64 va, .int .i64 e.f0, .int .i64 e.f1, .int .u64 e.f2, .int .u64 e.f3, .bool e.f4.f0, .bool e.f4.f1, .bool e.f4.f2, .bool e.f4.f3, .bool e.f4.f4, .bool e.f4.f5, .bool e.f5, .bool raw] 54))
  have HM0 := Aside0.mk (h.same hg0)
  have HV0 := Aside0.mk (Kd.V_grown hv hg0 (by simp))
  have HINV := Aside0.mk hinv
  have HRV := Aside0.mk hrv
  have HRN := Aside0.mk hrn
  have HN := Aside0.mk hn
  have HVA := Aside0.mk hva
  have HWE0 := Aside0.mk he
  have HW1 := Aside0.mk (entry_W he raw)
  have HNE := Aside0.mk (show W.heap.size ≠ r from fun e => by have := h.rlt; omega)
  have HGW := Aside0.mk (grown_but hg0 (some r))
  have HR64 := Aside0.mk hr64
  have HR1 := Aside0.mk hr1
  clear h hinv hv hn hva he hg0 hrv hrn hr1 hr64
  obtain ⟨q0, q1, q2, q3, q4, q5, q6, q7, q8, q9, q10, q11, q12, q13, q14, q15⟩ := cz16 HB5.out
  go_enter Try.func29, Try.ntmps29
  have HRI := Aside0.mk (ref_demap2 HRV.out.ok HR64.out)
  obtain ⟨es2, hes2⟩ : ∃ x, x = clearQ es openB := ⟨_, rfl⟩
  have HIN2 := Aside0.mk (show Inv es2 by rw [hes2]; exact HINV.out.sub (clear_sub es _))
  have HIL := Aside0.mk (show es2.length = es.length by rw [hes2]; exact clearQ_len es _)
  have HES := Aside0.mk hes2
  clear hes2
  have HV := HV0
  have HM := HM0
  clear HV0 HM0
  go_wp2_with fail
  refine (lookasideref06_Demap.calls 1000 (fun k => k ≠ r) A c (refL rs) 2 0 0 _ _ _ HV.out HRI.out).mono ?_
  rintro x0 wn ⟨v2, rfl, hV2, hb⟩
  have hg := below_grown hb
  have HV2 := Aside0.mk (Kd.V_mono (ok' := fun k => k ≠ r) hV2 (fun k hk => hk.elim id (fun h e => by subst e; have := HM.out.rlt; omega)))
  replace HM := Aside0.mk (HM.out.same hg)
  replace HV := Aside0.mk (Kd.V_grown HV.out hg (by simp)); replace HGW := Aside0.mk (grown_two HGW.out (grown_but hg (some r)))
  clear q0 q1 q2 q3 q4 q5 q6 q7 q8 q9 q10 q11 q12 q13 q14 q15
  replace HB5 := Aside0.mk (blk_grown HB5.out hg)
  obtain ⟨q0, q1, q2, q3, q4, q5, q6, q7, q8, q9, q10, q11, q12, q13, q14, q15⟩ := cz16 HB5.out
  clear hV2 hb hg
  go_wp2_with fail
  refine (tl_dall HM.out).mono ?_
  rintro x0 wn ⟨rfl, hM, hg⟩
  rw [← HES.out] at hM
  replace HV := Aside0.mk (Kd.V_grown HV.out hg (fun k hk e => hk (Option.some.inj e))); replace HGW := Aside0.mk (grown_two HGW.out hg)
  try replace HV2 := Aside0.mk (Kd.V_grown HV2.out hg (fun k hk e => hk (Option.some.inj e)))
  replace HM := Aside0.mk hM
  clear hM hg
  go_wp2
  exact bodyPost_ret (v := .tuple #[v2, .bool _]) (by simp [results, Try.f29]; rfl) rfl ⟨_, _, es2, rfl, HIN2.out, HIL.out, HM.out, HGW.out⟩
theorem once_5 {B w0 p r es rs W} (h : Tl B w0 p r es W) (hinv : Inv es) (hrv : Inv rs) (hr1 : 1 ≤ rs.length) (hr64 : rs.length ≤ 64) (hrn : ∀ i, rs.getD i none = none) {base : Nat} (A : Option Addr) (c : Nat) (hv : Kd.V k26 26 W base (fun k => k ≠ r) (.slice A (refL rs).length c) (refL rs)) (n ctx va : Int) (e : Ent) (raw : Bool) (hn : (Lit.int .i64 n).wf = true) (hva : (Lit.int .u64 va).wf = true) (he : EntW e) :
    Calls Try.prog 29 #[.pointer (some ⟨p, 0, none⟩), .slice A (refL rs).length c, .agg #[.int .i64 5, .int .i64 n, .int .i64 ctx, .int .u64 va, .int .i64 e.f0, .int .i64 e.f1, .int .u64 e.f2, .int .u64 e.f3, .bool e.f4.f0, .bool e.f4.f1, .bool e.f4.f2, .bool e.f4.f3, .bool e.f4.f4, .bool e.f4.f5, .bool e.f5, .bool raw]] W (OnceD B w0 p r es W) := by
  have hu := Try.underlying26
  have hu2 := Try.underlying24
  have hu3 := Try.underlying54
  have hg0 := World.grownBy_alloc W (.cells #[.int .i64 5, .int .i64 n, .int .i64 ctx, .int .u64 va, .int .i64 e.f0, .int .i64 e.f1, .int .u64 e.f2, .int .u64 e.f3, .bool e.f4.f0, .bool e.f4.f1, .bool e.f4.f2, .bool e.f4.f3, .bool e.f4.f4, .bool e.f4.f5, .bool e.f5, .bool raw] 54) none
  have HB5 := Aside0.mk (heap_alloc_new W (.cells #[.int .i64 5, .int .i64 n, .int .i64 ctx, .int .u64 va, .int .i64 e.f0, .int .i64 e.f1, .int .u64 e.f2, .int .u64 e.f3, .bool e.f4.f0, .bool e.f4.f1, .bool e.f4.f2, .bool e.f4.f3, .bool e.f4.f4, .bool e.f4.f5, .bool e.f5, .bool raw] 54))
  have HM0 := Aside0.mk (h.same hg0)
  have HV0 := Aside0.mk (Kd.V_grown hv hg0 (by simp))
  have HINV := Aside0.mk hinv
  have HRV := Aside0.mk hrv
  have HRN := Aside0.mk hrn
  have HN := Aside0.mk hn
  have HVA := Aside0.mk hva
  have HWE0 := Aside0.mk he
  have HW1 := Aside0.mk (entry_W he raw)
  have HNE := Aside0.mk (show W.heap.size ≠ r from fun e => by have := h.rlt; omega)
  have HGW := Aside0.mk (grown_but hg0 (some r))
  have HR64 := Aside0.mk hr64
  have HR1 := Aside0.mk hr1
  clear h hinv hv hn hva he hg0 hrv hrn hr1 hr64
  obtain ⟨q0, q1, q2, q3, q4, q5, q6, q7, q8, q9, q10, q11, q12, q13, q14, q15⟩ := cz16 HB5.out
  go_enter Try.func29, Try.ntmps29
  have HRI := Aside0.mk (ref_clear HRV.out.ok HR64.out n)
  obtain ⟨es2, hes2⟩ : ∃ x, x = clearAt es n := ⟨_, rfl⟩
  have HIN2 := Aside0.mk (show Inv es2 by rw [hes2]; exact clearAt_inv HINV.out n)
  have HIL := Aside0.mk (show es2.length = es.length by rw [hes2]; exact clearAt_len es n)
  have HES := Aside0.mk hes2
  clear hes2
  obtain ⟨bb, hbb⟩ : ∃ x, (atOf es n).isSome = x := ⟨_, rfl⟩
  obtain ⟨bc, hbc⟩ : ∃ x, (atOf rs n).isSome = x := ⟨_, rfl⟩
  rw [hbc] at HRI
  have HBB := Aside0.mk hbb
  clear hbb hbc
  have HV := HV0
  have HM := HM0
  clear HV0 HM0
  go_wp2_with fail
  refine (lookasideref06_Clear.calls (fun k => k ≠ r) A c (refL rs) n _ _ _ HV.out HRI.out).mono ?_
  rintro x0 wn ⟨v2, rfl, hV2, hb⟩
  have hg := below_grown hb
  have HV2 := Aside0.mk (Kd.V_mono (ok' := fun k => k ≠ r) hV2 (fun k hk => hk.elim id (fun h e => by subst e; have := HM.out.rlt; omega)))
  replace HM := Aside0.mk (HM.out.same hg)
  replace HV := Aside0.mk (Kd.V_grown HV.out hg (by simp)); replace HGW := Aside0.mk (grown_two HGW.out (grown_but hg (some r)))
  clear q0 q1 q2 q3 q4 q5 q6 q7 q8 q9 q10 q11 q12 q13 q14 q15
  replace HB5 := Aside0.mk (blk_grown HB5.out hg)
  obtain ⟨q0, q1, q2, q3, q4, q5, q6, q7, q8, q9, q10, q11, q12, q13, q14, q15⟩ := cz16 HB5.out
  clear hV2 hb hg
  go_wp2_with fail
  refine (tl_clear HM.out n bb HBB.out).mono ?_
  rintro x0 wn ⟨rfl, hM, hg⟩
  rw [← HES.out] at hM
  replace HV := Aside0.mk (Kd.V_grown HV.out hg (fun k hk e => hk (Option.some.inj e))); replace HGW := Aside0.mk (grown_two HGW.out hg)
  try replace HV2 := Aside0.mk (Kd.V_grown HV2.out hg (fun k hk e => hk (Option.some.inj e)))
  replace HM := Aside0.mk hM
  clear hM hg
  cases bb
  all_goals
    cases bc
    all_goals
      go_wp2
      first | (refine bodyPost_ret (v := .tuple #[v2, .bool true]) ?_ rfl ⟨_, _, es2, rfl, HIN2.out, HIL.out, HM.out, HGW.out⟩; simp [results, Try.f29]; done) | (refine bodyPost_ret (v := .tuple #[v2, .bool false]) ?_ rfl ⟨_, _, es2, rfl, HIN2.out, HIL.out, HM.out, HGW.out⟩; simp [results, Try.f29]; done)
end
end Go.Proofs.Ythclbckkfgmbaaa.QTlbPlays
namespace Go.Proofs.Ythclbckkfgmbaaa.QTlbPlays
open Go.RowKit Go.Proofs.YthclbckkfgmbaaaW.PrintWords Go.Proofs.YthclbckkfgmbaaaW.PrintLast Go.Proofs.YthclbckkfgmbaaaW.PrintMore
set_option linter.unusedSimpArgs false
set_option linter.unusedVariables false
section
set_option maxHeartbeats 1000000
set_option maxRecDepth 100000
theorem once_6 {B w0 p r es rs W} (h : Tl B w0 p r es W) (hinv : Inv es) (hrv : Inv rs) (hr1 : 1 ≤ rs.length) (hr64 : rs.length ≤ 64) (hrn : ∀ i, rs.getD i none = none) {base : Nat} (A : Option Addr) (c : Nat) (hv : Kd.V k26 26 W base (fun k => k ≠ r) (.slice A (refL rs).length c) (refL rs)) (kd : Int) (k0 : ¬ kd = 0) (k1 : ¬ kd = 1) (k2 : ¬ kd = 2) (k3 : ¬ kd = 3) (k4 : ¬ kd = 4) (k5 : ¬ kd = 5) (n ctx va : Int) (e : Ent) (raw : Bool) (hn : (Lit.int .i64 n).wf = true) (hva : (Lit.int .u64 va).wf = true) (he : EntW e) :
    Calls Try.prog 29 #[.pointer (some ⟨p, 0, none⟩), .slice A (refL rs).length c, .agg #[.int .i64 kd, .int .i64 n, .int .i64 ctx, .int .u64 va, .int .i64 e.f0, .int .i64 e.f1, .int .u64 e.f2, .int .u64 e.f3, .bool e.f4.f0, .bool e.f4.f1, .bool e.f4.f2, .bool e.f4.f3, .bool e.f4.f4, .bool e.f4.f5, .bool e.f5, .bool raw]] W (OnceD B w0 p r es W) := by
  have hu := Try.underlying26
  have hu2 := Try.underlying24
  have hu3 := Try.underlying54
  have hg0 := World.grownBy_alloc W (.cells #[.int .i64 kd, .int .i64 n, .int .i64 ctx, .int .u64 va, .int .i64 e.f0, .int .i64 e.f1, .int .u64 e.f2, .int .u64 e.f3, .bool e.f4.f0, .bool e.f4.f1, .bool e.f4.f2, .bool e.f4.f3, .bool e.f4.f4, .bool e.f4.f5, .bool e.f5, .bool raw] 54) none
  have HB5 := Aside0.mk (heap_alloc_new W (.cells #[.int .i64 kd, .int .i64 n, .int .i64 ctx, .int .u64 va, .int .i64 e.f0, .int .i64 e.f1, .int .u64 e.f2, .int .u64 e.f3, .bool e.f4.f0, .bool e.f4.f1, .bool e.f4.f2, .bool e.f4.f3, .bool e.f4.f4, .bool e.f4.f5, .bool e.f5, .bool raw] 54))
  have HM0 := Aside0.mk (h.same hg0)
  have HV0 := Aside0.mk (Kd.V_grown hv hg0 (by simp))
  have HINV := Aside0.mk hinv
  have HRV := Aside0.mk hrv
  have HRN := Aside0.mk hrn
  have HN := Aside0.mk hn
  have HVA := Aside0.mk hva
  have HWE0 := Aside0.mk he
  have HW1 := Aside0.mk (entry_W he raw)
  have HNE := Aside0.mk (show W.heap.size ≠ r from fun e => by have := h.rlt; omega)
  have HGW := Aside0.mk (grown_but hg0 (some r))
  have HR64 := Aside0.mk hr64
  have HR1 := Aside0.mk hr1
  clear h hinv hv hn hva he hg0 hrv hrn hr1 hr64
  obtain ⟨q0, q1, q2, q3, q4, q5, q6, q7, q8, q9, q10, q11, q12, q13, q14, q15⟩ := cz16 HB5.out
  go_enter Try.func29, Try.ntmps29
  have hri := ref_find HRV.out.ok HR64.out HVA.out ctx
  rw [show findOf rs (fun e => hitsB e va ctx) = none from by unfold findOf; rw [plL_none (fun j b hx => by rw [HRN.out j] at hx; cases hx)]; rfl] at hri
  have HRI := Aside0.mk hri
  clear hri
  have HV := HV0
  have HM := HM0
  clear HV0 HM0
  cases hf : findOf es (fun e => hitsB e va ctx) with
  | none =>
    have HFN := Aside0.mk hf
    clear hf
    go_wp2_with fail
    refine (tl_find_nil HM.out HINV.out.ok va ctx HVA.out HFN.out).mono ?_
    rintro x0 wn ⟨rfl, hg0⟩
    have hg := grown_two hg0 (World.grownBy_alloc wn (.cells #[.int .i64 0, .int .i64 0, .int .u64 0, .int .u64 0, .bool false, .bool false, .bool false, .bool false, .bool false, .bool false, .bool false] 26) none)
    replace HM := Aside0.mk (HM.out.same hg)
    replace HV := Aside0.mk (Kd.V_grown HV.out hg (by simp)); replace HGW := Aside0.mk (grown_two HGW.out (grown_but hg (some r)))
    have HF23 := Aside0.mk (heap_alloc_new wn (.cells #[.int .i64 0, .int .i64 0, .int .u64 0, .int .u64 0, .bool false, .bool false, .bool false, .bool false, .bool false, .bool false, .bool false] 26))
    clear q0 q1 q2 q3 q4 q5 q6 q7 q8 q9 q10 q11 q12 q13 q14 q15
    replace HB5 := Aside0.mk (blk_grown HB5.out hg)
    obtain ⟨q0, q1, q2, q3, q4, q5, q6, q7, q8, q9, q10, q11, q12, q13, q14, q15⟩ := cz16 HB5.out
    clear hg hg0
    go_wp2_with fail
    refine (lookasideref06_Find.calls 1000 A c (refL rs) va ctx _ _ (Kd.V_reads' HV.out).2.2 (Kd.V_reads' HV.out).2.1 HRI.out).mono ?_
    rintro x0 wm ⟨rfl, hb⟩
    have hg0 := below_grown hb
    have hg := grown_two hg0 (World.grownBy_alloc wm (.cells #[.int .i64 0, .int .i64 0, .int .u64 0, .int .u64 0, .bool false, .bool false, .bool false, .bool false, .bool false, .bool false, .bool false] 26) none)
    replace HM := Aside0.mk (HM.out.same hg)
    replace HV := Aside0.mk (Kd.V_grown HV.out hg (by simp)); replace HGW := Aside0.mk (grown_two HGW.out (grown_but hg (some r)))
    replace HF23 := Aside0.mk (blk_grown HF23.out hg)
    have HF26 := Aside0.mk (heap_alloc_new wm (.cells #[.int .i64 0, .int .i64 0, .int .u64 0, .int .u64 0, .bool false, .bool false, .bool false, .bool false, .bool false, .bool false, .bool false] 26))
    clear q0 q1 q2 q3 q4 q5 q6 q7 q8 q9 q10 q11 q12 q13 q14 q15
    replace HB5 := Aside0.mk (blk_grown HB5.out hg)
    obtain ⟨q0, q1, q2, q3, q4, q5, q6, q7, q8, q9, q10, q11, q12, q13, q14, q15⟩ := cz16 HB5.out
    clear hg hg0 hb
    simp only [optV]
    go_wp2
    obtain ⟨f, hfz⟩ : ∃ f : Ent, f = zE := ⟨_, rfl⟩
    replace HF23 := Aside0.mk (HF23.out.trans (show some (Obj.cells #[.int .i64 0, .int .i64 0, .int .u64 0, .int .u64 0, .bool false, .bool false, .bool false, .bool false, .bool false, .bool false, .bool false] 26 (0, 0)) = some (Obj.cells (entA f) 26 (0, 0)) by rw [hfz]; rfl))
    replace HF26 := Aside0.mk (HF26.out.trans (show some (Obj.cells #[.int .i64 0, .int .i64 0, .int .u64 0, .int .u64 0, .bool false, .bool false, .bool false, .bool false, .bool false, .bool false, .bool false] 26 (0, 0)) = some (Obj.cells (entA f) 26 (0, 0)) by rw [hfz]; rfl))
    clear hfz q0 q1 q2 q3 q4 q5 q6 q7 q8 q9 q10 q11 q12 q13 q14 q15
    generalize wn.heap.size = h23 at HF23 ⊢
    generalize wm.heap.size = h26 at HF26 ⊢
    refine start_ (n := 11) (S := fun w' => w'.heap[h23]? = some (.cells (entA f) 26 (0, 0)) ∧ w'.heap[h26]? = some (.cells (entA f) 26 (0, 0))) (ds := []) #[false, false, false, false, false, false, false, false, false, false, false] (by kernel_rfl) rfl rfl ⟨HF23.out, HF26.out⟩ (fun hHeld => ?_)
    refine with_tab does28_tab (fun HT_ => ?_)
    refine pure_ (i := 0) (N := some 175) (v := ?_) (a' := ?_) #[true, false, false, false, false, false, false, false, false, false, false] rfl rfl (any_of HT_.out (by kernel_rfl)) (fun _ _ _ h => h) (Or.inl ⟨by rfl, ?_⟩) ?_ ?_
    rotate_left
    · intro w'
      go_simp
      with_reducible rfl
    rotate_left
    · simp only [Act.put, List.setIfInBounds_toArray, List.set_cons_zero, List.set_cons_succ, i64_w, i32_w]
      rfl
    refine pure_ (i := 1) (N := some 176) (v := ?_) (a' := ?_) #[true, true, false, false, false, false, false, false, false, false, false] rfl rfl (any_of HT_.out (by kernel_rfl)) (fun _ _ _ h => h) (Or.inl ⟨by rfl, ?_⟩) ?_ ?_
    rotate_left
    · intro w'
      go_simp
      with_reducible rfl
    rotate_left
    · simp only [Act.put, List.setIfInBounds_toArray, List.set_cons_zero, List.set_cons_succ, i64_w, i32_w]
      rfl
    refine pure_ (i := 2) (N := some 177) (v := ?_) (a' := ?_) #[true, true, true, false, false, false, false, false, false, false, false] rfl rfl (any_of HT_.out (by kernel_rfl)) (fun _ _ _ h => h) (Or.inl ⟨by rfl, ?_⟩) ?_ ?_
    rotate_left
    · intro w'
      go_simp
      with_reducible rfl
    rotate_left
    · simp only [Act.put, List.setIfInBounds_toArray, List.set_cons_zero, List.set_cons_succ, i64_w, i32_w]
      rfl
    refine pure_ (i := 3) (N := some 178) (v := .bool true) (a' := ?_) #[true, true, true, true, false, false, false, false, false, false, false] rfl rfl (any_of HT_.out (by kernel_rfl)) (fun _ _ _ h => h) (Or.inl ⟨by rfl, ?_⟩) ?_ ?_
    · intro w'
      go_simp
    rotate_left
    · simp only [Act.put, List.setIfInBounds_toArray, List.set_cons_zero, List.set_cons_succ, i64_w, i32_w]
      rfl
    refine pure_ (i := 4) (N := some 179) (v := ?_) (a' := ?_) #[true, true, true, true, true, false, false, false, false, false, false] rfl rfl (any_of HT_.out (by kernel_rfl)) (fun _ _ _ h => h) (Or.inl ⟨by rfl, ?_⟩) ?_ ?_
    rotate_left
    · intro w'
      go_simp
      with_reducible rfl
    rotate_left
    · simp only [Act.put, List.setIfInBounds_toArray, List.set_cons_zero, List.set_cons_succ, i64_w, i32_w]
      rfl
    refine pure_ (i := 9) (N := some 6) (v := ?_) (a' := ?_) #[true, true, true, true, true, false, false, false, false, true, false] rfl rfl (any_of HT_.out (by kernel_rfl)) (fun _ _ _ h => h) (Or.inl ⟨by rfl, ?_⟩) ?_ ?_
    rotate_left
    · intro w'
      go_simp
      with_reducible rfl
    rotate_left
    · simp only [Act.put, List.setIfInBounds_toArray, List.set_cons_zero, List.set_cons_succ, i64_w, i32_w]
      rfl
    refine take_ (i := 5) (N := some 180) (v := .agg (entA f)) (a' := ?_) #[true, true, true, true, true, true, false, false, false, true, false] rfl rfl (take_of HT_.out (by kernel_rfl)) (fun _ _ _ h => h) (Or.inl ⟨by rfl, ?_⟩) hHeld ?_ ?_
    · rintro w' ⟨s1, s2⟩
      obtain ⟨q0, q1, q2, q3, q4, q5, q6, q7, q8, q9, q10⟩ := cz11 s1
      go_simp
    rotate_left
    · simp only [Act.put, List.setIfInBounds_toArray, List.set_cons_zero, List.set_cons_succ, i64_w, i32_w]
      rfl
    refine take_ (i := 6) (N := some 181) (v := .agg (entA f)) (a' := ?_) #[true, true, true, true, true, true, true, false, false, true, false] rfl rfl (take_of HT_.out (by kernel_rfl)) (fun _ _ _ h => h) (Or.inl ⟨by rfl, ?_⟩) hHeld ?_ ?_
    · rintro w' ⟨s1, s2⟩
      obtain ⟨q0, q1, q2, q3, q4, q5, q6, q7, q8, q9, q10⟩ := cz11 s2
      go_simp
    rotate_left
    · simp only [Act.put, List.setIfInBounds_toArray, List.set_cons_zero, List.set_cons_succ, i64_w, i32_w]
      rfl
    refine pure_ (i := 7) (N := some 182) (v := .bool true) (a' := ?_) #[true, true, true, true, true, true, true, true, false, true, false] rfl rfl (any_of HT_.out (by kernel_rfl)) (fun _ _ _ h => h) (Or.inl ⟨by rfl, ?_⟩) ?_ ?_
    · intro w'
      go_simp
    rotate_left
    · simp only [Act.put, List.setIfInBounds_toArray, List.set_cons_zero, List.set_cons_succ, i64_w, i32_w]
      rfl
    refine pure_ (i := 8) (N := some 183) (v := ?_) (a' := ?_) #[true, true, true, true, true, true, true, true, true, true, false] rfl rfl (any_of HT_.out (by kernel_rfl)) (fun _ _ _ h => h) (Or.inl ⟨by rfl, ?_⟩) ?_ ?_
    rotate_left
    · intro w'
      go_simp
      with_reducible rfl
    rotate_left
    · simp only [Act.put, List.setIfInBounds_toArray, List.set_cons_zero, List.set_cons_succ, i64_w, i32_w]
      rfl
    refine pure_ (i := 10) (N := some 7) (v := ?_) (a' := ?_) #[true, true, true, true, true, true, true, true, true, true, true] rfl rfl (any_of HT_.out (by kernel_rfl)) (fun _ _ _ h => h) (Or.inl ⟨by rfl, ?_⟩) ?_ ?_
    rotate_left
    · intro w'
      go_simp
      with_reducible rfl
    rotate_left
    · simp only [Act.put, List.setIfInBounds_toArray, List.set_cons_zero, List.set_cons_succ, i64_w, i32_w]
      rfl
    refine done_ (done_of HT_.out (by kernel_rfl)) ?_
    go_wp2
    replace HGW := Aside0.mk (grown_two HGW.out (grown_drew _ (some r)))
    exact bodyPost_ret (v := .tuple #[.slice A (refL rs).length c, .bool true]) (by first | (simp [results, Try.f29]; done) | (simp [results, Try.f29]; rfl)) rfl ⟨_, _, es, rfl, HINV.out, rfl, HM.out.same (grown_drew _ none), HGW.out⟩
  | some i =>
    have HFN := Aside0.mk hf
    clear hf
    obtain ⟨f, hx, hl⟩ : ∃ f, es.getD i none = some f ∧ i < es.length := by
      have hm : i ∈ plL es (fun e => hitsB e va ctx) := by
        have := HFN.out
        unfold findOf at this
        exact List.mem_of_mem_head? this
      obtain ⟨b, hb, _⟩ := mem_plL.1 hm
      exact ⟨b, hb, lt_of_getD hb⟩
    have HX := Aside0.mk hx
    have hi1 : ((i : Int) == -1) = false := beq_eq_false_iff_ne.2 (by omega)
    clear hx hl
    go_wp2_with fail
    refine (tl_find_some HM.out HINV.out.ok va ctx HVA.out i f HFN.out HX.out).mono ?_
    rintro x0 wn ⟨rfl, hg0⟩
    have hg := grown_two hg0 (World.grownBy_alloc wn (.cells (entA f) 26) none)
    replace HM := Aside0.mk (HM.out.same hg)
    replace HV := Aside0.mk (Kd.V_grown HV.out hg (by simp)); replace HGW := Aside0.mk (grown_two HGW.out (grown_but hg (some r)))
    clear q0 q1 q2 q3 q4 q5 q6 q7 q8 q9 q10 q11 q12 q13 q14 q15
    replace HB5 := Aside0.mk (blk_grown HB5.out hg)
    obtain ⟨q0, q1, q2, q3, q4, q5, q6, q7, q8, q9, q10, q11, q12, q13, q14, q15⟩ := cz16 HB5.out
    clear hg hg0
    go_wp2_with fail
    refine (lookasideref06_Find.calls 1000 A c (refL rs) va ctx _ _ (Kd.V_reads' HV.out).2.2 (Kd.V_reads' HV.out).2.1 HRI.out).mono ?_
    rintro x0 wm ⟨rfl, hb⟩
    have hg0 := below_grown hb
    have hg := grown_two hg0 (World.grownBy_alloc wm (.cells #[.int .i64 0, .int .i64 0, .int .u64 0, .int .u64 0, .bool false, .bool false, .bool false, .bool false, .bool false, .bool false, .bool false] 26) none)
    replace HM := Aside0.mk (HM.out.same hg)
    replace HV := Aside0.mk (Kd.V_grown HV.out hg (by simp)); replace HGW := Aside0.mk (grown_two HGW.out (grown_but hg (some r)))
    clear hg hg0 hb q0 q1 q2 q3 q4 q5 q6 q7 q8 q9 q10 q11 q12 q13 q14 q15
    simp only [optV]
    go_wp2
    refine start_ (n := 11) (S := fun w' => True) (ds := []) #[false, false, false, false, false, false, false, false, false, false, false] (by kernel_rfl) rfl rfl trivial (fun hHeld => ?_)
    refine with_tab does28_tab (fun HT_ => ?_)
    refine pure_ (i := 0) (N := some 175) (v := ?_) (a' := ?_) #[true, false, false, false, false, false, false, false, false, false, false] rfl rfl (any_of HT_.out (by kernel_rfl)) (fun _ _ _ h => h) (Or.inl ⟨by rfl, ?_⟩) ?_ ?_
    rotate_left
    · intro w'
      go_simp
      with_reducible rfl
    rotate_left
    · simp only [Act.put, List.setIfInBounds_toArray, List.set_cons_zero, List.set_cons_succ, i64_w, i32_w]
      rfl
    refine pure_ (i := 1) (N := some 176) (v := ?_) (a' := ?_) #[true, true, false, false, false, false, false, false, false, false, false] rfl rfl (any_of HT_.out (by kernel_rfl)) (fun _ _ _ h => h) (Or.inl ⟨by rfl, ?_⟩) ?_ ?_
    rotate_left
    · intro w'
      go_simp
      with_reducible rfl
    rotate_left
    · simp only [Act.put, List.setIfInBounds_toArray, List.set_cons_zero, List.set_cons_succ, i64_w, i32_w]
      rfl
    refine pure_ (i := 2) (N := some 177) (v := ?_) (a' := ?_) #[true, true, true, false, false, false, false, false, false, false, false] rfl rfl (any_of HT_.out (by kernel_rfl)) (fun _ _ _ h => h) (Or.inl ⟨by rfl, ?_⟩) ?_ ?_
    rotate_left
    · intro w'
      go_simp
      with_reducible rfl
    rotate_left
    · simp only [Act.put, List.setIfInBounds_toArray, List.set_cons_zero, List.set_cons_succ, i64_w, i32_w]
      rfl
    refine pure_ (i := 3) (N := some 178) (v := .bool false) (a' := ?_) #[true, true, true, true, false, false, false, false, false, false, false] rfl rfl (any_of HT_.out (by kernel_rfl)) (fun _ _ _ h => h) (Or.inl ⟨by rfl, ?_⟩) ?_ ?_
    · intro w'
      go_simp
    rotate_left
    · simp only [Act.put, List.setIfInBounds_toArray, List.set_cons_zero, List.set_cons_succ, i64_w, i32_w]
      rfl
    refine pure_ (i := 4) (N := some 179) (v := ?_) (a' := ?_) #[true, true, true, true, true, false, false, false, false, false, false] rfl rfl (any_of HT_.out (by kernel_rfl)) (fun _ _ _ h => h) (Or.inl ⟨by rfl, ?_⟩) ?_ ?_
    rotate_left
    · intro w'
      go_simp
      with_reducible rfl
    rotate_left
    · simp only [Act.put, List.setIfInBounds_toArray, List.set_cons_zero, List.set_cons_succ, i64_w, i32_w]
      rfl
    refine pure_ (i := 5) (N := some 180) (v := undef) (a' := ?_) #[true, true, true, true, true, true, false, false, false, false, false] rfl rfl (any_of HT_.out (by kernel_rfl)) (fun _ _ _ h => h) (Or.inr ⟨by rfl, rfl⟩) ?_ ?_
    rotate_left
    · simp only [Act.put, List.setIfInBounds_toArray, List.set_cons_zero, List.set_cons_succ, i64_w, i32_w]
      rfl
    refine pure_ (i := 6) (N := some 181) (v := undef) (a' := ?_) #[true, true, true, true, true, true, true, false, false, false, false] rfl rfl (any_of HT_.out (by kernel_rfl)) (fun _ _ _ h => h) (Or.inr ⟨by rfl, rfl⟩) ?_ ?_
    rotate_left
    · simp only [Act.put, List.setIfInBounds_toArray, List.set_cons_zero, List.set_cons_succ, i64_w, i32_w]
      rfl
    refine pure_ (i := 7) (N := some 182) (v := undef) (a' := ?_) #[true, true, true, true, true, true, true, true, false, false, false] rfl rfl (any_of HT_.out (by kernel_rfl)) (fun _ _ _ h => h) (Or.inr ⟨by rfl, rfl⟩) ?_ ?_
    rotate_left
    · simp only [Act.put, List.setIfInBounds_toArray, List.set_cons_zero, List.set_cons_succ, i64_w, i32_w]
      rfl
    refine pure_ (i := 8) (N := some 183) (v := ?_) (a' := ?_) #[true, true, true, true, true, true, true, true, true, false, false] rfl rfl (any_of HT_.out (by kernel_rfl)) (fun _ _ _ h => h) (Or.inl ⟨by rfl, ?_⟩) ?_ ?_
    rotate_left
    · intro w'
      go_simp
      with_reducible rfl
    rotate_left
    · simp only [Act.put, List.setIfInBounds_toArray, List.set_cons_zero, List.set_cons_succ, i64_w, i32_w]
      rfl
    refine pure_ (i := 9) (N := some 6) (v := ?_) (a' := ?_) #[true, true, true, true, true, true, true, true, true, true, false] rfl rfl (any_of HT_.out (by kernel_rfl)) (fun _ _ _ h => h) (Or.inl ⟨by rfl, ?_⟩) ?_ ?_
    rotate_left
    · intro w'
      go_simp
      with_reducible rfl
    rotate_left
    · simp only [Act.put, List.setIfInBounds_toArray, List.set_cons_zero, List.set_cons_succ, i64_w, i32_w]
      rfl
    refine pure_ (i := 10) (N := some 7) (v := ?_) (a' := ?_) #[true, true, true, true, true, true, true, true, true, true, true] rfl rfl (any_of HT_.out (by kernel_rfl)) (fun _ _ _ h => h) (Or.inl ⟨by rfl, ?_⟩) ?_ ?_
    rotate_left
    · intro w'
      go_simp
      with_reducible rfl
    rotate_left
    · simp only [Act.put, List.setIfInBounds_toArray, List.set_cons_zero, List.set_cons_succ, i64_w, i32_w]
      rfl
    refine done_ (done_of HT_.out (by kernel_rfl)) ?_
    go_wp2
    replace HGW := Aside0.mk (grown_two HGW.out (grown_drew _ (some r)))
    exact bodyPost_ret (v := .tuple #[.slice A (refL rs).length c, .bool false]) (by first | (simp [results, Try.f29]; done) | (simp [results, Try.f29]; rfl)) rfl ⟨_, _, es, rfl, HINV.out, rfl, HM.out.same (grown_drew _ none), HGW.out⟩
theorem once_any {B w0 p r es rs W} (h : Tl B w0 p r es W) (hinv : Inv es) (hrv : Inv rs) (hr1 : 1 ≤ rs.length) (hr64 : rs.length ≤ 64) (hrn : ∀ i, rs.getD i none = none) {base : Nat} (A : Option Addr) (c : Nat) (hv : Kd.V k26 26 W base (fun k => k ≠ r) (.slice A (refL rs).length c) (refL rs)) (kd n ctx va : Int) (e : Ent) (raw : Bool) (hn : (Lit.int .i64 n).wf = true) (hva : (Lit.int .u64 va).wf = true) (he : EntW e) :
    Calls Try.prog 29 #[.pointer (some ⟨p, 0, none⟩), .slice A (refL rs).length c, .agg #[.int .i64 kd, .int .i64 n, .int .i64 ctx, .int .u64 va, .int .i64 e.f0, .int .i64 e.f1, .int .u64 e.f2, .int .u64 e.f3, .bool e.f4.f0, .bool e.f4.f1, .bool e.f4.f2, .bool e.f4.f3, .bool e.f4.f4, .bool e.f4.f5, .bool e.f5, .bool raw]] W (OnceD B w0 p r es W) := by
  by_cases k0 : kd = 0
  · subst k0; exact once_0 h hinv hrv hr1 hr64 hrn A c hv n ctx va e raw hn hva he
  by_cases k1 : kd = 1
  · subst k1; exact once_1 h hinv hrv hr1 hr64 hrn A c hv n ctx va e raw hn hva he
  by_cases k2 : kd = 2
  · subst k2; exact once_2 h hinv hrv hr1 hr64 hrn A c hv n ctx va e raw hn hva he
  by_cases k3 : kd = 3
  · subst k3; exact once_3 h hinv hrv hr1 hr64 hrn A c hv n ctx va e raw hn hva he
  by_cases k4 : kd = 4
  · subst k4; exact once_4 h hinv hrv hr1 hr64 hrn A c hv n ctx va e raw hn hva he
  by_cases k5 : kd = 5
  · subst k5; exact once_5 h hinv hrv hr1 hr64 hrn A c hv n ctx va e raw hn hva he
  exact once_6 h hinv hrv hr1 hr64 hrn A c hv kd k0 k1 k2 k3 k4 k5 n ctx va e raw hn hva he
end
end Go.Proofs.Ythclbckkfgmbaaa.QTlbPlays
