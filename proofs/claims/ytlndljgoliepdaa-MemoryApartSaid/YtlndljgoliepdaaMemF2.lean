/- Deeds that put a pair, that copy, where they may not: at whatever numbers. -/
import Derived.Test.YtlndljgoliepdaaMemE
namespace Go.Proofs.Ytlndljgoliepdaa.Mem
open Go.RowKit Go.Maps Go.Proofs.YtlndljgoliepdaaW.PrintWords Go.Proofs.YtlndljgoliepdaaW.PrintLast Go.Proofs.YtlndljgoliepdaaW.PrintMore Go.Proofs.Ytlndljgoliepdaa.QMemoryApart
set_option linter.unusedSimpArgs false
set_option linter.unusedVariables false
section
set_option maxHeartbeats 8000000
set_option maxRecDepth 100000
theorem did_2b {B w0 p mb n D W} (h : Mem B w0 p mb 1000 n D W) (hG : Good D) (hI : ∀ t, 1000 ≤ t → byteAt D t = 0) {l : List Bt} (hR : RefL 1000 (byteAt D) l) (hl : l.length ≤ 100000000) (A : Option Addr) (c : Nat) (hv : Kd.V k106 106 W 0 (fun k => k ≠ mb) (.slice A l.length c) l) (at_ a b : Int) (hat : (Lit.int .u64 at_).wf = true) (ha : (Lit.int .u64 a).wf = true) (hb : (Lit.int .u64 b).wf = true) (hf : ¬ mayOf 1000 at_ 16 16 = 0) :
    Calls Try.prog 26 #[.pointer (some ⟨p, 0, none⟩), .agg #[.int .u64 1000, .slice A l.length c], .agg #[.int .i64 2, .int .u64 at_, .int .u64 a, .int .u64 b]] W (DidM B w0 p mb l.length W) := by
  have hu := Try.underlying43
  have hu2 := Try.underlying52
  have hb3 := box3 W #[.int .u64 1000, .slice A l.length c] #[.int .i64 2, .int .u64 at_, .int .u64 a, .int .u64 b] #[.int .u64 0, .slice none 0 0] 43 52 43
  obtain ⟨N0, hN0⟩ : ∃ N0, N0 = W.heap.size := ⟨_, rfl⟩
  have HB4 := Aside0.mk hb3.1
  have HB5 := Aside0.mk hb3.2.1
  have HB6 := Aside0.mk hb3.2.2.1
  have hs125 := size_few h hG 125 (fun t ht => hI t (by omega))
  have HM := Aside0.mk (h.tight.same hb3.2.2.2)
  have hv1 := Kd.V_mono (ok' := fun k => k ≠ mb ∧ k ≠ W.heap.size ∧ k ≠ W.heap.size + 1 + 1) (Kd.V_bound hv) (fun k hk => ⟨hk.1, by omega, by omega⟩)
  have HV := Aside0.mk (Kd.V_grown hv1 hb3.2.2.2 (by simp))
  have HGW := Aside0.mk (grown_but hb3.2.2.2 (some mb))
  have HK := Aside0.mk (show mb < W.heap.size ∧ p < W.heap.size ∧ B ≤ W.heap.size ∧ N0 ≤ W.heap.size ∧ W.heap.size < W.heap.size + 1 ∧ W.heap.size + 1 < W.heap.size + 1 + 1 from ⟨h.own.lt, h.lt, h.hB, by omega, by omega, by omega⟩)
  have HN0 := Aside0.mk hN0
  have HGD := Aside0.mk hG
  have HI := Aside0.mk hI
  have HR := Aside0.mk hR
  have HAT := Aside0.mk hat
  have HA := Aside0.mk ha
  have HBB := Aside0.mk hb
  have HL := Aside0.mk hl
  have HS := Aside0.mk hs125
  clear h hG hI hR hl hv hv1 hat ha hb hb3 hs125 hN0
  obtain ⟨q0, q1⟩ := cz2 HB4.out
  obtain ⟨y0, y1, y2, y3⟩ := cz4 HB5.out
  go_enter Try.func26, Try.ntmps26
  go_wp2_with fail
  generalize W.heap.size + 1 + 1 = h6 at HB6 HV HK ⊢
  generalize W.heap.size + 1 = h5 at HB5 HK ⊢
  generalize W.heap.size = h4 at HB4 HV HK ⊢
  refine (mayL_calls (each := 16) (by decide) at_ 16 _ (Kd.V_reads' HV.out) HAT.out (by decide)).mono ?_
  rintro x0 wn ⟨rfl, hg⟩
  replace HB4 := Aside0.mk (blk_grown HB4.out hg)
  replace HB5 := Aside0.mk (blk_grown HB5.out hg)
  replace HB6 := Aside0.mk (blk_grown HB6.out hg)
  replace HM := Aside0.mk (HM.out.same hg)
  replace HV := Aside0.mk (Kd.V_grown HV.out hg (by simp))
  replace HGW := Aside0.mk (grown_two HGW.out (grown_but hg (some mb)))
  clear hg
  obtain ⟨f, hff⟩ : ∃ f, mayOf 1000 at_ 16 16 = f := ⟨_, rfl⟩
  rw [hff] at hf ⊢
  have hfb : (f == 0) = false := beq_eq_false_iff_ne.2 hf
  have hfc : (f != 0) = true := bne_iff_ne.2 hf
  have HF := Aside0.mk hff
  have HFB := Aside0.mk hfb
  have HFC := Aside0.mk hfc
  clear hf hff hfc
  clear q0 q1 y0 y1 y2 y3
  obtain ⟨q0, q1⟩ := cz2 HB4.out
  obtain ⟨y0, y1, y2, y3⟩ := cz4 HB5.out
  go_wp2_with fail
  clear q0 q1 y0 y1 y2 y3 hfb
  have hg := grown_drew wn none
  replace HB4 := Aside0.mk (blk_grown HB4.out hg)
  replace HB5 := Aside0.mk (blk_grown HB5.out hg)
  replace HB6 := Aside0.mk (blk_grown HB6.out hg)
  replace HM := Aside0.mk (HM.out.same hg)
  replace HV := Aside0.mk (Kd.V_grown HV.out hg (by simp))
  replace HGW := Aside0.mk (grown_two HGW.out (grown_but hg (some mb)))
  clear hg
  refine start_ (n := 13) (S := fun w' => w'.heap[h4]? = some (.cells #[.int .u64 1000, .slice A l.length c] 43 (0, 0)) ∧ w'.heap[h5]? = some (.cells #[.int .i64 2, .int .u64 at_, .int .u64 a, .int .u64 b] 52 (0, 0)) ∧ w'.heap[h6]? = some (.cells #[.int .u64 0, .slice none 0 0] 43 (0, 0))) (ds := [11]) #[false, false, false, false, false, false, false, false, false, false, false, false, false] (by kernel_rfl) rfl rfl ⟨HB4.out, HB5.out, HB6.out⟩ (fun hHeld => ?_)
  refine with_tab didm16_tab (fun HT_ => ?_)
  refine pure_ (i := 1) (N := some 84) (v := ?_) (a' := ?_) #[false, true, false, false, false, false, false, false, false, false, false, false, false] rfl rfl (any_of HT_.out (by kernel_rfl)) (fun _ _ _ h => h) (Or.inl ⟨by rfl, ?_⟩) ?_ ?_
  rotate_left
  · intro w'
    go_simp
    with_reducible rfl
  rotate_left
  · simp only [Act.put, List.setIfInBounds_toArray, List.set_cons_zero, List.set_cons_succ, i64_w, i32_w]
    rfl
  refine pure_ (i := 2) (N := some 85) (v := ?_) (a' := ?_) #[false, true, true, false, false, false, false, false, false, false, false, false, false] rfl rfl (any_of HT_.out (by kernel_rfl)) (fun _ _ _ h => h) (Or.inl ⟨by rfl, ?_⟩) ?_ ?_
  rotate_left
  · intro w'
    go_simp
    with_reducible rfl
  rotate_left
  · simp only [Act.put, List.setIfInBounds_toArray, List.set_cons_zero, List.set_cons_succ, i64_w, i32_w]
    rfl
  refine pure_ (i := 4) (N := some 87) (v := ?_) (a' := ?_) #[false, true, true, false, true, false, false, false, false, false, false, false, false] rfl rfl (any_of HT_.out (by kernel_rfl)) (fun _ _ _ h => h) (Or.inl ⟨by rfl, ?_⟩) ?_ ?_
  rotate_left
  · intro w'
    go_simp
    with_reducible rfl
  rotate_left
  · simp only [Act.put, List.setIfInBounds_toArray, List.set_cons_zero, List.set_cons_succ, i64_w, i32_w]
    rfl
  refine pure_ (i := 6) (N := some 89) (v := ?_) (a' := ?_) #[false, true, true, false, true, false, true, false, false, false, false, false, false] rfl rfl (any_of HT_.out (by kernel_rfl)) (fun _ _ _ h => h) (Or.inl ⟨by rfl, ?_⟩) ?_ ?_
  rotate_left
  · intro w'
    go_simp
    with_reducible rfl
  rotate_left
  · simp only [Act.put, List.setIfInBounds_toArray, List.set_cons_zero, List.set_cons_succ, i64_w, i32_w]
    rfl
  refine pure_ (i := 9) (N := some 92) (v := ?_) (a' := ?_) #[false, true, true, false, true, false, true, false, false, true, false, false, false] rfl rfl (any_of HT_.out (by kernel_rfl)) (fun _ _ _ h => h) (Or.inl ⟨by rfl, ?_⟩) ?_ ?_
  rotate_left
  · intro w'
    go_simp
    with_reducible rfl
  rotate_left
  · simp only [Act.put, List.setIfInBounds_toArray, List.set_cons_zero, List.set_cons_succ, i64_w, i32_w]
    rfl
  refine take_ (i := 0) (N := some 83) (v := .agg #[.int .u64 1000, .slice A l.length c]) (a' := ?_) #[true, true, true, false, true, false, true, false, false, true, false, false, false] rfl rfl (take_of HT_.out (by kernel_rfl)) (fun _ _ _ h => h) (Or.inl ⟨by rfl, ?_⟩) hHeld ?_ ?_
  · rintro w' ⟨s1, s2, s3⟩
    obtain ⟨q0, q1⟩ := cz2 s1
    go_simp
  rotate_left
  · simp only [Act.put, List.setIfInBounds_toArray, List.set_cons_zero, List.set_cons_succ, i64_w, i32_w]
    rfl
  refine take_ (i := 3) (N := some 86) (v := .int .u64 at_) (a' := ?_) #[true, true, true, true, true, false, true, false, false, true, false, false, false] rfl rfl (take_of HT_.out (by kernel_rfl)) (fun _ _ _ h => h) (Or.inl ⟨by rfl, ?_⟩) hHeld ?_ ?_
  · rintro w' ⟨s1, s2, s3⟩
    obtain ⟨y0, y1, y2, y3⟩ := cz4 s2
    go_simp
  rotate_left
  · simp only [Act.put, List.setIfInBounds_toArray, List.set_cons_zero, List.set_cons_succ, i64_w, i32_w]
    rfl
  refine take_ (i := 5) (N := some 88) (v := .int .u64 a) (a' := ?_) #[true, true, true, true, true, true, true, false, false, true, false, false, false] rfl rfl (take_of HT_.out (by kernel_rfl)) (fun _ _ _ h => h) (Or.inl ⟨by rfl, ?_⟩) hHeld ?_ ?_
  · rintro w' ⟨s1, s2, s3⟩
    obtain ⟨y0, y1, y2, y3⟩ := cz4 s2
    go_simp
  rotate_left
  · simp only [Act.put, List.setIfInBounds_toArray, List.set_cons_zero, List.set_cons_succ, i64_w, i32_w]
    rfl
  refine take_ (i := 7) (N := some 90) (v := .int .u64 b) (a' := ?_) #[true, true, true, true, true, true, true, true, false, true, false, false, false] rfl rfl (take_of HT_.out (by kernel_rfl)) (fun _ _ _ h => h) (Or.inl ⟨by rfl, ?_⟩) hHeld ?_ ?_
  · rintro w' ⟨s1, s2, s3⟩
    obtain ⟨y0, y1, y2, y3⟩ := cz4 s2
    go_simp
  rotate_left
  · simp only [Act.put, List.setIfInBounds_toArray, List.set_cons_zero, List.set_cons_succ, i64_w, i32_w]
    rfl
  refine one_ (i := 8) (N := some 91) #[true, true, true, true, true, true, true, true, true, true, false, false, false] rfl rfl (one_of HT_.out (by kernel_rfl)) (by decide) (fun K hK => ?_)
  refine goes_ Try.func18 (by kernel_rfl) rfl #[.pointer (some ⟨p, 0, none⟩), .int .u64 at_, .int .u64 a, .int .u64 b] (by rfl) rfl rfl (by (try simp only [List.map_toArray, List.map_cons, List.map_nil]); first | done | rfl) ?_
  refine (badG (putPair_bad HM.out at_ HAT.out a b HFB.out HF.out)).mono ?_
  rintro x0 wn ⟨rfl, hg⟩
  have hs : wn.heap[h4]? = some (.cells #[.int .u64 1000, .slice A l.length c] 43 (0, 0)) ∧ wn.heap[h5]? = some (.cells #[.int .i64 2, .int .u64 at_, .int .u64 a, .int .u64 b] 52 (0, 0)) ∧ wn.heap[h6]? = some (.cells #[.int .u64 0, .slice none 0 0] 43 (0, 0)) := ⟨blk_grown hHeld.1 hg, blk_grown hHeld.2.1 hg, blk_grown hHeld.2.2 hg⟩
  replace HV := Aside0.mk (Kd.V_grown HV.out hg (by simp))
  replace HGW := Aside0.mk (grown_two HGW.out (grown_but hg (some mb)))
  replace HM := Aside0.mk (HM.out.same hg)
  clear hg
  refine ⟨_, rfl, ?_⟩
  refine hK.out _ _ hs (fun hHeld => ?_)
  clear hK K
  refine norm_ (a' := ?_) ?_ ?_
  rotate_left
  · show Act.put _ (some 91) _ = _
    simp only [Act.put, List.setIfInBounds_toArray, List.set_cons_zero, List.set_cons_succ, i64_w, i32_w]
    rfl
  refine pure_ (i := 10) (N := some 93) (v := .bool true) (a' := ?_) #[true, true, true, true, true, true, true, true, true, true, true, false, false] rfl rfl (any_of HT_.out (by kernel_rfl)) (fun _ _ _ h => h) (Or.inl ⟨by rfl, ?_⟩) ?_ ?_
  · intro w'
    go_simp
  rotate_left
  · simp only [Act.put, List.setIfInBounds_toArray, List.set_cons_zero, List.set_cons_succ, i64_w, i32_w]
    rfl
  refine last_ (i := 11) (N := none) #[true, true, true, true, true, true, true, true, true, true, true, true, false] rfl rfl (one_of HT_.out (by kernel_rfl)) (by decide) (fun K hK => ?_)
  rw [if_pos (by rfl)]
  refine wp_store_row 43 (.tmp 6) (.tmp 83) rfl h6 #[.int .u64 1000, .slice A l.length c] rfl rfl 43 #[.int .u64 0, .slice none 0 0] hHeld.2.2 (by kernel_rfl) rfl (by kernel_rfl) ?_
  have hb2 := setRow_heap wn h6 _ #[.int .u64 1000, .slice A l.length c] _ _ hHeld.2.2
  have hgr := grown_row wn h6 #[.int .u64 1000, .slice A l.length c]
  generalize World.setRow wn h6 #[.int .u64 1000, .slice A l.length c] = we at hb2 hgr ⊢
  have HBE := Aside0.mk hb2
  have HGE := Aside0.mk hgr
  clear hb2 hgr
  refine hK.out _ _ ?_
  clear hK K
  refine pure_ (i := 12) (N := some 7) (v := ?_) (a' := ?_) #[true, true, true, true, true, true, true, true, true, true, true, true, true] rfl rfl (any_of HT_.out (by kernel_rfl)) (fun _ _ _ h => h) (Or.inl ⟨by rfl, ?_⟩) ?_ ?_
  rotate_left
  · intro w'
    go_simp
    with_reducible rfl
  rotate_left
  · simp only [Act.put, List.setIfInBounds_toArray, List.set_cons_zero, List.set_cons_succ, i64_w, i32_w]
    rfl
  refine done_ (done_of HT_.out (by kernel_rfl)) ?_
  have HMe := Aside0.mk (HM.out.kept HGE.out (fun e => by have := Option.some.inj e; have := HK.out; omega) (fun e => by have := Option.some.inj e; have := HK.out; omega) (fun k e => by cases e; have := HK.out; omega))
  have HVe := Aside0.mk (Kd.V_mono (ok' := fun k => k ≠ mb) (Kd.V_grown HV.out HGE.out (fun k hk e => hk.2.2 (Option.some.inj e))) (fun k hk => hk.1))
  have HGe := Aside0.mk (grown_loc HGW.out HGE.out (by rw [← HN0.out]; have := HK.out; omega))
  obtain ⟨q0, q1⟩ := cz2 HBE.out
  go_wp2
  exact bodyPost_ret (v := .tuple #[.agg #[.int .u64 1000, .slice A l.length c], .bool true]) (by simp [results, Try.f26, go_sem, q0, q1]) rfl ⟨_, _, _, rfl, HMe.out.tight, HGD.out, HI.out, HR.out, by omega, HVe.out, HGe.out⟩
theorem did_7b {B w0 p mb n D W} (h : Mem B w0 p mb 1000 n D W) (hG : Good D) (hI : ∀ t, 1000 ≤ t → byteAt D t = 0) {l : List Bt} (hR : RefL 1000 (byteAt D) l) (hl : l.length ≤ 100000000) (A : Option Addr) (c : Nat) (hv : Kd.V k106 106 W 0 (fun k => k ≠ mb) (.slice A l.length c) l) (at_ a b : Int) (hat : (Lit.int .u64 at_).wf = true) (ha : (Lit.int .u64 a).wf = true) (hb : (Lit.int .u64 b).wf = true) (hf0 : mayOf 1000 at_ b 1 = 0) (hf : ¬ mayOf 1000 a b 1 = 0) :
    Calls Try.prog 26 #[.pointer (some ⟨p, 0, none⟩), .agg #[.int .u64 1000, .slice A l.length c], .agg #[.int .i64 7, .int .u64 at_, .int .u64 a, .int .u64 b]] W (DidM B w0 p mb l.length W) := by
  have hu := Try.underlying43
  have hu2 := Try.underlying52
  have hb3 := box3 W #[.int .u64 1000, .slice A l.length c] #[.int .i64 7, .int .u64 at_, .int .u64 a, .int .u64 b] #[.int .u64 0, .slice none 0 0] 43 52 43
  obtain ⟨N0, hN0⟩ : ∃ N0, N0 = W.heap.size := ⟨_, rfl⟩
  have HB4 := Aside0.mk hb3.1
  have HB5 := Aside0.mk hb3.2.1
  have HB6 := Aside0.mk hb3.2.2.1
  have hs125 := size_few h hG 125 (fun t ht => hI t (by omega))
  have HM := Aside0.mk (h.tight.same hb3.2.2.2)
  have hv1 := Kd.V_mono (ok' := fun k => k ≠ mb ∧ k ≠ W.heap.size ∧ k ≠ W.heap.size + 1 + 1) (Kd.V_bound hv) (fun k hk => ⟨hk.1, by omega, by omega⟩)
  have HV := Aside0.mk (Kd.V_grown hv1 hb3.2.2.2 (by simp))
  have HGW := Aside0.mk (grown_but hb3.2.2.2 (some mb))
  have HK := Aside0.mk (show mb < W.heap.size ∧ p < W.heap.size ∧ B ≤ W.heap.size ∧ N0 ≤ W.heap.size ∧ W.heap.size < W.heap.size + 1 ∧ W.heap.size + 1 < W.heap.size + 1 + 1 from ⟨h.own.lt, h.lt, h.hB, by omega, by omega, by omega⟩)
  have HN0 := Aside0.mk hN0
  have HGD := Aside0.mk hG
  have HI := Aside0.mk hI
  have HR := Aside0.mk hR
  have HAT := Aside0.mk hat
  have HA := Aside0.mk ha
  have HBB := Aside0.mk hb
  have HL := Aside0.mk hl
  have HS := Aside0.mk hs125
  clear h hG hI hR hl hv hv1 hat ha hb hb3 hs125 hN0
  obtain ⟨q0, q1⟩ := cz2 HB4.out
  obtain ⟨y0, y1, y2, y3⟩ := cz4 HB5.out
  go_enter Try.func26, Try.ntmps26
  go_wp2_with fail
  generalize W.heap.size + 1 + 1 = h6 at HB6 HV HK ⊢
  generalize W.heap.size + 1 = h5 at HB5 HK ⊢
  generalize W.heap.size = h4 at HB4 HV HK ⊢
  refine (mayL_calls (each := 1) (by decide) at_ b _ (Kd.V_reads' HV.out) HAT.out HBB.out).mono ?_
  rintro x0 wn ⟨rfl, hg⟩
  replace HB4 := Aside0.mk (blk_grown HB4.out hg)
  replace HB5 := Aside0.mk (blk_grown HB5.out hg)
  replace HB6 := Aside0.mk (blk_grown HB6.out hg)
  replace HM := Aside0.mk (HM.out.same hg)
  replace HV := Aside0.mk (Kd.V_grown HV.out hg (by simp))
  replace HGW := Aside0.mk (grown_two HGW.out (grown_but hg (some mb)))
  clear hg
  rw [hf0]
  have HF1 := Aside0.mk hf0
  clear hf0
  clear q0 q1 y0 y1 y2 y3
  obtain ⟨q0, q1⟩ := cz2 HB4.out
  obtain ⟨y0, y1, y2, y3⟩ := cz4 HB5.out
  go_wp2_with fail
  refine (mayL_calls (each := 1) (by decide) a b _ (Kd.V_reads' HV.out) HA.out HBB.out).mono ?_
  rintro x0 wn ⟨rfl, hg⟩
  replace HB4 := Aside0.mk (blk_grown HB4.out hg)
  replace HB5 := Aside0.mk (blk_grown HB5.out hg)
  replace HB6 := Aside0.mk (blk_grown HB6.out hg)
  replace HM := Aside0.mk (HM.out.same hg)
  replace HV := Aside0.mk (Kd.V_grown HV.out hg (by simp))
  replace HGW := Aside0.mk (grown_two HGW.out (grown_but hg (some mb)))
  clear hg
  obtain ⟨f, hff⟩ : ∃ f, mayOf 1000 a b 1 = f := ⟨_, rfl⟩
  rw [hff] at hf ⊢
  have hfb : (f == 0) = false := beq_eq_false_iff_ne.2 hf
  have hfc : (f != 0) = true := bne_iff_ne.2 hf
  have HF := Aside0.mk hff
  have HFB := Aside0.mk hfb
  have HFC := Aside0.mk hfc
  clear hf hff hfc
  clear q0 q1 y0 y1 y2 y3
  obtain ⟨q0, q1⟩ := cz2 HB4.out
  obtain ⟨y0, y1, y2, y3⟩ := cz4 HB5.out
  go_wp2_with fail
  clear q0 q1 y0 y1 y2 y3 hfb
  have hg := grown_drew wn none
  replace HB4 := Aside0.mk (blk_grown HB4.out hg)
  replace HB5 := Aside0.mk (blk_grown HB5.out hg)
  replace HB6 := Aside0.mk (blk_grown HB6.out hg)
  replace HM := Aside0.mk (HM.out.same hg)
  replace HV := Aside0.mk (Kd.V_grown HV.out hg (by simp))
  replace HGW := Aside0.mk (grown_two HGW.out (grown_but hg (some mb)))
  clear hg
  refine start_ (n := 13) (S := fun w' => w'.heap[h4]? = some (.cells #[.int .u64 1000, .slice A l.length c] 43 (0, 0)) ∧ w'.heap[h5]? = some (.cells #[.int .i64 7, .int .u64 at_, .int .u64 a, .int .u64 b] 52 (0, 0)) ∧ w'.heap[h6]? = some (.cells #[.int .u64 0, .slice none 0 0] 43 (0, 0))) (ds := [11]) #[false, false, false, false, false, false, false, false, false, false, false, false, false] (by kernel_rfl) rfl rfl ⟨HB4.out, HB5.out, HB6.out⟩ (fun hHeld => ?_)
  refine with_tab didm28_tab (fun HT_ => ?_)
  refine pure_ (i := 1) (N := some 146) (v := ?_) (a' := ?_) #[false, true, false, false, false, false, false, false, false, false, false, false, false] rfl rfl (any_of HT_.out (by kernel_rfl)) (fun _ _ _ h => h) (Or.inl ⟨by rfl, ?_⟩) ?_ ?_
  rotate_left
  · intro w'
    go_simp
    with_reducible rfl
  rotate_left
  · simp only [Act.put, List.setIfInBounds_toArray, List.set_cons_zero, List.set_cons_succ, i64_w, i32_w]
    rfl
  refine pure_ (i := 2) (N := some 147) (v := ?_) (a' := ?_) #[false, true, true, false, false, false, false, false, false, false, false, false, false] rfl rfl (any_of HT_.out (by kernel_rfl)) (fun _ _ _ h => h) (Or.inl ⟨by rfl, ?_⟩) ?_ ?_
  rotate_left
  · intro w'
    go_simp
    with_reducible rfl
  rotate_left
  · simp only [Act.put, List.setIfInBounds_toArray, List.set_cons_zero, List.set_cons_succ, i64_w, i32_w]
    rfl
  refine pure_ (i := 4) (N := some 149) (v := ?_) (a' := ?_) #[false, true, true, false, true, false, false, false, false, false, false, false, false] rfl rfl (any_of HT_.out (by kernel_rfl)) (fun _ _ _ h => h) (Or.inl ⟨by rfl, ?_⟩) ?_ ?_
  rotate_left
  · intro w'
    go_simp
    with_reducible rfl
  rotate_left
  · simp only [Act.put, List.setIfInBounds_toArray, List.set_cons_zero, List.set_cons_succ, i64_w, i32_w]
    rfl
  refine pure_ (i := 6) (N := some 151) (v := ?_) (a' := ?_) #[false, true, true, false, true, false, true, false, false, false, false, false, false] rfl rfl (any_of HT_.out (by kernel_rfl)) (fun _ _ _ h => h) (Or.inl ⟨by rfl, ?_⟩) ?_ ?_
  rotate_left
  · intro w'
    go_simp
    with_reducible rfl
  rotate_left
  · simp only [Act.put, List.setIfInBounds_toArray, List.set_cons_zero, List.set_cons_succ, i64_w, i32_w]
    rfl
  refine pure_ (i := 9) (N := some 154) (v := ?_) (a' := ?_) #[false, true, true, false, true, false, true, false, false, true, false, false, false] rfl rfl (any_of HT_.out (by kernel_rfl)) (fun _ _ _ h => h) (Or.inl ⟨by rfl, ?_⟩) ?_ ?_
  rotate_left
  · intro w'
    go_simp
    with_reducible rfl
  rotate_left
  · simp only [Act.put, List.setIfInBounds_toArray, List.set_cons_zero, List.set_cons_succ, i64_w, i32_w]
    rfl
  refine take_ (i := 0) (N := some 145) (v := .agg #[.int .u64 1000, .slice A l.length c]) (a' := ?_) #[true, true, true, false, true, false, true, false, false, true, false, false, false] rfl rfl (take_of HT_.out (by kernel_rfl)) (fun _ _ _ h => h) (Or.inl ⟨by rfl, ?_⟩) hHeld ?_ ?_
  · rintro w' ⟨s1, s2, s3⟩
    obtain ⟨q0, q1⟩ := cz2 s1
    go_simp
  rotate_left
  · simp only [Act.put, List.setIfInBounds_toArray, List.set_cons_zero, List.set_cons_succ, i64_w, i32_w]
    rfl
  refine take_ (i := 3) (N := some 148) (v := .int .u64 at_) (a' := ?_) #[true, true, true, true, true, false, true, false, false, true, false, false, false] rfl rfl (take_of HT_.out (by kernel_rfl)) (fun _ _ _ h => h) (Or.inl ⟨by rfl, ?_⟩) hHeld ?_ ?_
  · rintro w' ⟨s1, s2, s3⟩
    obtain ⟨y0, y1, y2, y3⟩ := cz4 s2
    go_simp
  rotate_left
  · simp only [Act.put, List.setIfInBounds_toArray, List.set_cons_zero, List.set_cons_succ, i64_w, i32_w]
    rfl
  refine take_ (i := 5) (N := some 150) (v := .int .u64 a) (a' := ?_) #[true, true, true, true, true, true, true, false, false, true, false, false, false] rfl rfl (take_of HT_.out (by kernel_rfl)) (fun _ _ _ h => h) (Or.inl ⟨by rfl, ?_⟩) hHeld ?_ ?_
  · rintro w' ⟨s1, s2, s3⟩
    obtain ⟨y0, y1, y2, y3⟩ := cz4 s2
    go_simp
  rotate_left
  · simp only [Act.put, List.setIfInBounds_toArray, List.set_cons_zero, List.set_cons_succ, i64_w, i32_w]
    rfl
  refine take_ (i := 7) (N := some 152) (v := .int .u64 b) (a' := ?_) #[true, true, true, true, true, true, true, true, false, true, false, false, false] rfl rfl (take_of HT_.out (by kernel_rfl)) (fun _ _ _ h => h) (Or.inl ⟨by rfl, ?_⟩) hHeld ?_ ?_
  · rintro w' ⟨s1, s2, s3⟩
    obtain ⟨y0, y1, y2, y3⟩ := cz4 s2
    go_simp
  rotate_left
  · simp only [Act.put, List.setIfInBounds_toArray, List.set_cons_zero, List.set_cons_succ, i64_w, i32_w]
    rfl
  refine one_ (i := 8) (N := some 153) #[true, true, true, true, true, true, true, true, true, true, false, false, false] rfl rfl (one_of HT_.out (by kernel_rfl)) (by decide) (fun K hK => ?_)
  refine goes_ Try.func22 (by kernel_rfl) rfl #[.pointer (some ⟨p, 0, none⟩), .int .u64 at_, .int .u64 a, .int .u64 b] (by rfl) rfl rfl (by (try simp only [List.map_toArray, List.map_cons, List.map_nil]); first | done | rfl) ?_
  refine (badG (copy_bad2 HM.out at_ a b HAT.out HA.out HBB.out HFC.out HF1.out HF.out)).mono ?_
  rintro x0 wn ⟨rfl, hg⟩
  have hs : wn.heap[h4]? = some (.cells #[.int .u64 1000, .slice A l.length c] 43 (0, 0)) ∧ wn.heap[h5]? = some (.cells #[.int .i64 7, .int .u64 at_, .int .u64 a, .int .u64 b] 52 (0, 0)) ∧ wn.heap[h6]? = some (.cells #[.int .u64 0, .slice none 0 0] 43 (0, 0)) := ⟨blk_grown hHeld.1 hg, blk_grown hHeld.2.1 hg, blk_grown hHeld.2.2 hg⟩
  replace HV := Aside0.mk (Kd.V_grown HV.out hg (by simp))
  replace HGW := Aside0.mk (grown_two HGW.out (grown_but hg (some mb)))
  replace HM := Aside0.mk (HM.out.same hg)
  clear hg
  refine ⟨_, rfl, ?_⟩
  refine hK.out _ _ hs (fun hHeld => ?_)
  clear hK K
  refine norm_ (a' := ?_) ?_ ?_
  rotate_left
  · show Act.put _ (some 153) _ = _
    simp only [Act.put, List.setIfInBounds_toArray, List.set_cons_zero, List.set_cons_succ, i64_w, i32_w]
    rfl
  refine pure_ (i := 10) (N := some 155) (v := .bool true) (a' := ?_) #[true, true, true, true, true, true, true, true, true, true, true, false, false] rfl rfl (any_of HT_.out (by kernel_rfl)) (fun _ _ _ h => h) (Or.inl ⟨by rfl, ?_⟩) ?_ ?_
  · intro w'
    go_simp
  rotate_left
  · simp only [Act.put, List.setIfInBounds_toArray, List.set_cons_zero, List.set_cons_succ, i64_w, i32_w]
    rfl
  refine last_ (i := 11) (N := none) #[true, true, true, true, true, true, true, true, true, true, true, true, false] rfl rfl (one_of HT_.out (by kernel_rfl)) (by decide) (fun K hK => ?_)
  rw [if_pos (by rfl)]
  refine wp_store_row 43 (.tmp 6) (.tmp 145) rfl h6 #[.int .u64 1000, .slice A l.length c] rfl rfl 43 #[.int .u64 0, .slice none 0 0] hHeld.2.2 (by kernel_rfl) rfl (by kernel_rfl) ?_
  have hb2 := setRow_heap wn h6 _ #[.int .u64 1000, .slice A l.length c] _ _ hHeld.2.2
  have hgr := grown_row wn h6 #[.int .u64 1000, .slice A l.length c]
  generalize World.setRow wn h6 #[.int .u64 1000, .slice A l.length c] = we at hb2 hgr ⊢
  have HBE := Aside0.mk hb2
  have HGE := Aside0.mk hgr
  clear hb2 hgr
  refine hK.out _ _ ?_
  clear hK K
  refine pure_ (i := 12) (N := some 7) (v := ?_) (a' := ?_) #[true, true, true, true, true, true, true, true, true, true, true, true, true] rfl rfl (any_of HT_.out (by kernel_rfl)) (fun _ _ _ h => h) (Or.inl ⟨by rfl, ?_⟩) ?_ ?_
  rotate_left
  · intro w'
    go_simp
    with_reducible rfl
  rotate_left
  · simp only [Act.put, List.setIfInBounds_toArray, List.set_cons_zero, List.set_cons_succ, i64_w, i32_w]
    rfl
  refine done_ (done_of HT_.out (by kernel_rfl)) ?_
  have HMe := Aside0.mk (HM.out.kept HGE.out (fun e => by have := Option.some.inj e; have := HK.out; omega) (fun e => by have := Option.some.inj e; have := HK.out; omega) (fun k e => by cases e; have := HK.out; omega))
  have HVe := Aside0.mk (Kd.V_mono (ok' := fun k => k ≠ mb) (Kd.V_grown HV.out HGE.out (fun k hk e => hk.2.2 (Option.some.inj e))) (fun k hk => hk.1))
  have HGe := Aside0.mk (grown_loc HGW.out HGE.out (by rw [← HN0.out]; have := HK.out; omega))
  obtain ⟨q0, q1⟩ := cz2 HBE.out
  go_wp2
  exact bodyPost_ret (v := .tuple #[.agg #[.int .u64 1000, .slice A l.length c], .bool true]) (by simp [results, Try.f26, go_sem, q0, q1]) rfl ⟨_, _, _, rfl, HMe.out.tight, HGD.out, HI.out, HR.out, by omega, HVe.out, HGe.out⟩
theorem did_7c {B w0 p mb n D W} (h : Mem B w0 p mb 1000 n D W) (hG : Good D) (hI : ∀ t, 1000 ≤ t → byteAt D t = 0) {l : List Bt} (hR : RefL 1000 (byteAt D) l) (hl : l.length ≤ 100000000) (A : Option Addr) (c : Nat) (hv : Kd.V k106 106 W 0 (fun k => k ≠ mb) (.slice A l.length c) l) (at_ a b : Int) (hat : (Lit.int .u64 at_).wf = true) (ha : (Lit.int .u64 a).wf = true) (hb : (Lit.int .u64 b).wf = true) (hf : ¬ mayOf 1000 at_ b 1 = 0) :
    Calls Try.prog 26 #[.pointer (some ⟨p, 0, none⟩), .agg #[.int .u64 1000, .slice A l.length c], .agg #[.int .i64 7, .int .u64 at_, .int .u64 a, .int .u64 b]] W (DidM B w0 p mb l.length W) := by
  have hu := Try.underlying43
  have hu2 := Try.underlying52
  have hb3 := box3 W #[.int .u64 1000, .slice A l.length c] #[.int .i64 7, .int .u64 at_, .int .u64 a, .int .u64 b] #[.int .u64 0, .slice none 0 0] 43 52 43
  obtain ⟨N0, hN0⟩ : ∃ N0, N0 = W.heap.size := ⟨_, rfl⟩
  have HB4 := Aside0.mk hb3.1
  have HB5 := Aside0.mk hb3.2.1
  have HB6 := Aside0.mk hb3.2.2.1
  have hs125 := size_few h hG 125 (fun t ht => hI t (by omega))
  have HM := Aside0.mk (h.tight.same hb3.2.2.2)
  have hv1 := Kd.V_mono (ok' := fun k => k ≠ mb ∧ k ≠ W.heap.size ∧ k ≠ W.heap.size + 1 + 1) (Kd.V_bound hv) (fun k hk => ⟨hk.1, by omega, by omega⟩)
  have HV := Aside0.mk (Kd.V_grown hv1 hb3.2.2.2 (by simp))
  have HGW := Aside0.mk (grown_but hb3.2.2.2 (some mb))
  have HK := Aside0.mk (show mb < W.heap.size ∧ p < W.heap.size ∧ B ≤ W.heap.size ∧ N0 ≤ W.heap.size ∧ W.heap.size < W.heap.size + 1 ∧ W.heap.size + 1 < W.heap.size + 1 + 1 from ⟨h.own.lt, h.lt, h.hB, by omega, by omega, by omega⟩)
  have HN0 := Aside0.mk hN0
  have HGD := Aside0.mk hG
  have HI := Aside0.mk hI
  have HR := Aside0.mk hR
  have HAT := Aside0.mk hat
  have HA := Aside0.mk ha
  have HBB := Aside0.mk hb
  have HL := Aside0.mk hl
  have HS := Aside0.mk hs125
  clear h hG hI hR hl hv hv1 hat ha hb hb3 hs125 hN0
  obtain ⟨q0, q1⟩ := cz2 HB4.out
  obtain ⟨y0, y1, y2, y3⟩ := cz4 HB5.out
  go_enter Try.func26, Try.ntmps26
  go_wp2_with fail
  generalize W.heap.size + 1 + 1 = h6 at HB6 HV HK ⊢
  generalize W.heap.size + 1 = h5 at HB5 HK ⊢
  generalize W.heap.size = h4 at HB4 HV HK ⊢
  refine (mayL_calls (each := 1) (by decide) at_ b _ (Kd.V_reads' HV.out) HAT.out HBB.out).mono ?_
  rintro x0 wn ⟨rfl, hg⟩
  replace HB4 := Aside0.mk (blk_grown HB4.out hg)
  replace HB5 := Aside0.mk (blk_grown HB5.out hg)
  replace HB6 := Aside0.mk (blk_grown HB6.out hg)
  replace HM := Aside0.mk (HM.out.same hg)
  replace HV := Aside0.mk (Kd.V_grown HV.out hg (by simp))
  replace HGW := Aside0.mk (grown_two HGW.out (grown_but hg (some mb)))
  clear hg
  obtain ⟨f, hff⟩ : ∃ f, mayOf 1000 at_ b 1 = f := ⟨_, rfl⟩
  rw [hff] at hf ⊢
  have hfb : (f == 0) = false := beq_eq_false_iff_ne.2 hf
  have hfc : (f != 0) = true := bne_iff_ne.2 hf
  have HF := Aside0.mk hff
  have HFB := Aside0.mk hfb
  have HFC := Aside0.mk hfc
  clear hf hff hfc
  clear q0 q1 y0 y1 y2 y3
  obtain ⟨q0, q1⟩ := cz2 HB4.out
  obtain ⟨y0, y1, y2, y3⟩ := cz4 HB5.out
  go_wp2_with fail
  clear q0 q1 y0 y1 y2 y3 hfb
  have hg := grown_drew wn none
  replace HB4 := Aside0.mk (blk_grown HB4.out hg)
  replace HB5 := Aside0.mk (blk_grown HB5.out hg)
  replace HB6 := Aside0.mk (blk_grown HB6.out hg)
  replace HM := Aside0.mk (HM.out.same hg)
  replace HV := Aside0.mk (Kd.V_grown HV.out hg (by simp))
  replace HGW := Aside0.mk (grown_two HGW.out (grown_but hg (some mb)))
  clear hg
  refine start_ (n := 13) (S := fun w' => w'.heap[h4]? = some (.cells #[.int .u64 1000, .slice A l.length c] 43 (0, 0)) ∧ w'.heap[h5]? = some (.cells #[.int .i64 7, .int .u64 at_, .int .u64 a, .int .u64 b] 52 (0, 0)) ∧ w'.heap[h6]? = some (.cells #[.int .u64 0, .slice none 0 0] 43 (0, 0))) (ds := [11]) #[false, false, false, false, false, false, false, false, false, false, false, false, false] (by kernel_rfl) rfl rfl ⟨HB4.out, HB5.out, HB6.out⟩ (fun hHeld => ?_)
  refine with_tab didm28_tab (fun HT_ => ?_)
  refine pure_ (i := 1) (N := some 146) (v := ?_) (a' := ?_) #[false, true, false, false, false, false, false, false, false, false, false, false, false] rfl rfl (any_of HT_.out (by kernel_rfl)) (fun _ _ _ h => h) (Or.inl ⟨by rfl, ?_⟩) ?_ ?_
  rotate_left
  · intro w'
    go_simp
    with_reducible rfl
  rotate_left
  · simp only [Act.put, List.setIfInBounds_toArray, List.set_cons_zero, List.set_cons_succ, i64_w, i32_w]
    rfl
  refine pure_ (i := 2) (N := some 147) (v := ?_) (a' := ?_) #[false, true, true, false, false, false, false, false, false, false, false, false, false] rfl rfl (any_of HT_.out (by kernel_rfl)) (fun _ _ _ h => h) (Or.inl ⟨by rfl, ?_⟩) ?_ ?_
  rotate_left
  · intro w'
    go_simp
    with_reducible rfl
  rotate_left
  · simp only [Act.put, List.setIfInBounds_toArray, List.set_cons_zero, List.set_cons_succ, i64_w, i32_w]
    rfl
  refine pure_ (i := 4) (N := some 149) (v := ?_) (a' := ?_) #[false, true, true, false, true, false, false, false, false, false, false, false, false] rfl rfl (any_of HT_.out (by kernel_rfl)) (fun _ _ _ h => h) (Or.inl ⟨by rfl, ?_⟩) ?_ ?_
  rotate_left
  · intro w'
    go_simp
    with_reducible rfl
  rotate_left
  · simp only [Act.put, List.setIfInBounds_toArray, List.set_cons_zero, List.set_cons_succ, i64_w, i32_w]
    rfl
  refine pure_ (i := 6) (N := some 151) (v := ?_) (a' := ?_) #[false, true, true, false, true, false, true, false, false, false, false, false, false] rfl rfl (any_of HT_.out (by kernel_rfl)) (fun _ _ _ h => h) (Or.inl ⟨by rfl, ?_⟩) ?_ ?_
  rotate_left
  · intro w'
    go_simp
    with_reducible rfl
  rotate_left
  · simp only [Act.put, List.setIfInBounds_toArray, List.set_cons_zero, List.set_cons_succ, i64_w, i32_w]
    rfl
  refine pure_ (i := 9) (N := some 154) (v := ?_) (a' := ?_) #[false, true, true, false, true, false, true, false, false, true, false, false, false] rfl rfl (any_of HT_.out (by kernel_rfl)) (fun _ _ _ h => h) (Or.inl ⟨by rfl, ?_⟩) ?_ ?_
  rotate_left
  · intro w'
    go_simp
    with_reducible rfl
  rotate_left
  · simp only [Act.put, List.setIfInBounds_toArray, List.set_cons_zero, List.set_cons_succ, i64_w, i32_w]
    rfl
  refine take_ (i := 0) (N := some 145) (v := .agg #[.int .u64 1000, .slice A l.length c]) (a' := ?_) #[true, true, true, false, true, false, true, false, false, true, false, false, false] rfl rfl (take_of HT_.out (by kernel_rfl)) (fun _ _ _ h => h) (Or.inl ⟨by rfl, ?_⟩) hHeld ?_ ?_
  · rintro w' ⟨s1, s2, s3⟩
    obtain ⟨q0, q1⟩ := cz2 s1
    go_simp
  rotate_left
  · simp only [Act.put, List.setIfInBounds_toArray, List.set_cons_zero, List.set_cons_succ, i64_w, i32_w]
    rfl
  refine take_ (i := 3) (N := some 148) (v := .int .u64 at_) (a' := ?_) #[true, true, true, true, true, false, true, false, false, true, false, false, false] rfl rfl (take_of HT_.out (by kernel_rfl)) (fun _ _ _ h => h) (Or.inl ⟨by rfl, ?_⟩) hHeld ?_ ?_
  · rintro w' ⟨s1, s2, s3⟩
    obtain ⟨y0, y1, y2, y3⟩ := cz4 s2
    go_simp
  rotate_left
  · simp only [Act.put, List.setIfInBounds_toArray, List.set_cons_zero, List.set_cons_succ, i64_w, i32_w]
    rfl
  refine take_ (i := 5) (N := some 150) (v := .int .u64 a) (a' := ?_) #[true, true, true, true, true, true, true, false, false, true, false, false, false] rfl rfl (take_of HT_.out (by kernel_rfl)) (fun _ _ _ h => h) (Or.inl ⟨by rfl, ?_⟩) hHeld ?_ ?_
  · rintro w' ⟨s1, s2, s3⟩
    obtain ⟨y0, y1, y2, y3⟩ := cz4 s2
    go_simp
  rotate_left
  · simp only [Act.put, List.setIfInBounds_toArray, List.set_cons_zero, List.set_cons_succ, i64_w, i32_w]
    rfl
  refine take_ (i := 7) (N := some 152) (v := .int .u64 b) (a' := ?_) #[true, true, true, true, true, true, true, true, false, true, false, false, false] rfl rfl (take_of HT_.out (by kernel_rfl)) (fun _ _ _ h => h) (Or.inl ⟨by rfl, ?_⟩) hHeld ?_ ?_
  · rintro w' ⟨s1, s2, s3⟩
    obtain ⟨y0, y1, y2, y3⟩ := cz4 s2
    go_simp
  rotate_left
  · simp only [Act.put, List.setIfInBounds_toArray, List.set_cons_zero, List.set_cons_succ, i64_w, i32_w]
    rfl
  refine one_ (i := 8) (N := some 153) #[true, true, true, true, true, true, true, true, true, true, false, false, false] rfl rfl (one_of HT_.out (by kernel_rfl)) (by decide) (fun K hK => ?_)
  refine goes_ Try.func22 (by kernel_rfl) rfl #[.pointer (some ⟨p, 0, none⟩), .int .u64 at_, .int .u64 a, .int .u64 b] (by rfl) rfl rfl (by (try simp only [List.map_toArray, List.map_cons, List.map_nil]); first | done | rfl) ?_
  refine (badG (copy_bad1 HM.out at_ a b HAT.out HBB.out HFC.out HF.out)).mono ?_
  rintro x0 wn ⟨rfl, hg⟩
  have hs : wn.heap[h4]? = some (.cells #[.int .u64 1000, .slice A l.length c] 43 (0, 0)) ∧ wn.heap[h5]? = some (.cells #[.int .i64 7, .int .u64 at_, .int .u64 a, .int .u64 b] 52 (0, 0)) ∧ wn.heap[h6]? = some (.cells #[.int .u64 0, .slice none 0 0] 43 (0, 0)) := ⟨blk_grown hHeld.1 hg, blk_grown hHeld.2.1 hg, blk_grown hHeld.2.2 hg⟩
  replace HV := Aside0.mk (Kd.V_grown HV.out hg (by simp))
  replace HGW := Aside0.mk (grown_two HGW.out (grown_but hg (some mb)))
  replace HM := Aside0.mk (HM.out.same hg)
  clear hg
  refine ⟨_, rfl, ?_⟩
  refine hK.out _ _ hs (fun hHeld => ?_)
  clear hK K
  refine norm_ (a' := ?_) ?_ ?_
  rotate_left
  · show Act.put _ (some 153) _ = _
    simp only [Act.put, List.setIfInBounds_toArray, List.set_cons_zero, List.set_cons_succ, i64_w, i32_w]
    rfl
  refine pure_ (i := 10) (N := some 155) (v := .bool true) (a' := ?_) #[true, true, true, true, true, true, true, true, true, true, true, false, false] rfl rfl (any_of HT_.out (by kernel_rfl)) (fun _ _ _ h => h) (Or.inl ⟨by rfl, ?_⟩) ?_ ?_
  · intro w'
    go_simp
  rotate_left
  · simp only [Act.put, List.setIfInBounds_toArray, List.set_cons_zero, List.set_cons_succ, i64_w, i32_w]
    rfl
  refine last_ (i := 11) (N := none) #[true, true, true, true, true, true, true, true, true, true, true, true, false] rfl rfl (one_of HT_.out (by kernel_rfl)) (by decide) (fun K hK => ?_)
  rw [if_pos (by rfl)]
  refine wp_store_row 43 (.tmp 6) (.tmp 145) rfl h6 #[.int .u64 1000, .slice A l.length c] rfl rfl 43 #[.int .u64 0, .slice none 0 0] hHeld.2.2 (by kernel_rfl) rfl (by kernel_rfl) ?_
  have hb2 := setRow_heap wn h6 _ #[.int .u64 1000, .slice A l.length c] _ _ hHeld.2.2
  have hgr := grown_row wn h6 #[.int .u64 1000, .slice A l.length c]
  generalize World.setRow wn h6 #[.int .u64 1000, .slice A l.length c] = we at hb2 hgr ⊢
  have HBE := Aside0.mk hb2
  have HGE := Aside0.mk hgr
  clear hb2 hgr
  refine hK.out _ _ ?_
  clear hK K
  refine pure_ (i := 12) (N := some 7) (v := ?_) (a' := ?_) #[true, true, true, true, true, true, true, true, true, true, true, true, true] rfl rfl (any_of HT_.out (by kernel_rfl)) (fun _ _ _ h => h) (Or.inl ⟨by rfl, ?_⟩) ?_ ?_
  rotate_left
  · intro w'
    go_simp
    with_reducible rfl
  rotate_left
  · simp only [Act.put, List.setIfInBounds_toArray, List.set_cons_zero, List.set_cons_succ, i64_w, i32_w]
    rfl
  refine done_ (done_of HT_.out (by kernel_rfl)) ?_
  have HMe := Aside0.mk (HM.out.kept HGE.out (fun e => by have := Option.some.inj e; have := HK.out; omega) (fun e => by have := Option.some.inj e; have := HK.out; omega) (fun k e => by cases e; have := HK.out; omega))
  have HVe := Aside0.mk (Kd.V_mono (ok' := fun k => k ≠ mb) (Kd.V_grown HV.out HGE.out (fun k hk e => hk.2.2 (Option.some.inj e))) (fun k hk => hk.1))
  have HGe := Aside0.mk (grown_loc HGW.out HGE.out (by rw [← HN0.out]; have := HK.out; omega))
  obtain ⟨q0, q1⟩ := cz2 HBE.out
  go_wp2
  exact bodyPost_ret (v := .tuple #[.agg #[.int .u64 1000, .slice A l.length c], .bool true]) (by simp [results, Try.f26, go_sem, q0, q1]) rfl ⟨_, _, _, rfl, HMe.out.tight, HGD.out, HI.out, HR.out, by omega, HVe.out, HGe.out⟩
end
end Go.Proofs.Ytlndljgoliepdaa.Mem
