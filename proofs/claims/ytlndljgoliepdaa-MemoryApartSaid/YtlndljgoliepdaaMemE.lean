/- Deeds that put a byte, a word: done to a memory, and to the document's; at whatever numbers. -/
import Derived.Test.YtlndljgoliepdaaMemD
namespace Go.Proofs.Ytlndljgoliepdaa.Mem
open Go.RowKit Go.Maps Go.Proofs.YtlndljgoliepdaaW.PrintWords Go.Proofs.YtlndljgoliepdaaW.PrintLast Go.Proofs.YtlndljgoliepdaaW.PrintMore Go.Proofs.Ytlndljgoliepdaa.QMemoryApart
set_option linter.unusedSimpArgs false
set_option linter.unusedVariables false
section
set_option maxHeartbeats 2000000
set_option maxRecDepth 100000
theorem grown_loc {W W1 W2 : World} {row : Option Nat} {j : Nat} (h : W.grownBy W1 row) (k : W1.grownBy W2 (some j)) (hj : W.heap.size ≤ j) : W.grownBy W2 row :=
  ⟨k.os.trans h.os, k.tape.trans h.tape, k.output.trans h.output, Nat.le_trans h.size k.size, fun i hi hn => (k.block i (Nat.lt_of_lt_of_le hi h.size) (fun e => by have := Option.some.inj e; omega)).trans (h.block i hi hn)⟩
theorem badG {P : Program} {f : FuncId} {vs : Array Value} {W : World} {e : Ending} (h : Calls P f vs W fun x W' => x = e ∧ W' = W) : Calls P f vs W fun x W' => x = e ∧ W.grownBy W' none := h.mono fun x W' z => ⟨z.1, by rw [z.2]; exact grown_refl _ _⟩
theorem Mem.nb {B w0 p mb sz n D W} (h : Mem B w0 p mb sz n D W) (b : Nat) (cs : Array Value) (t : TypeId) (hb : W.heap[b]? = some (.cells cs t (0, 0))) : b ≠ mb := by
  rintro rfl
  obtain ⟨es, clock, he, _⟩ := h.own
  rw [he] at hb
  cases hb
noncomputable def didm6_T : Bool × List (List Nat × List Nat) := rtab .any (opsOf Try.f26 6)
theorem didm6_tab : rtab .any (opsOf Try.f26 6) = didm6_T := rfl
noncomputable def didm11_T : Bool × List (List Nat × List Nat) := rtab .any (opsOf Try.f26 11)
theorem didm11_tab : rtab .any (opsOf Try.f26 11) = didm11_T := rfl
noncomputable def didm15_T : Bool × List (List Nat × List Nat) := rtab .any (opsOf Try.f26 15)
theorem didm15_tab : rtab .any (opsOf Try.f26 15) = didm15_T := rfl
noncomputable def didm16_T : Bool × List (List Nat × List Nat) := rtab .any (opsOf Try.f26 16)
theorem didm16_tab : rtab .any (opsOf Try.f26 16) = didm16_T := rfl
noncomputable def didm21_T : Bool × List (List Nat × List Nat) := rtab .any (opsOf Try.f26 21)
theorem didm21_tab : rtab .any (opsOf Try.f26 21) = didm21_T := rfl
noncomputable def didm28_T : Bool × List (List Nat × List Nat) := rtab .any (opsOf Try.f26 28)
theorem didm28_tab : rtab .any (opsOf Try.f26 28) = didm28_T := rfl
noncomputable def didm29_T : Bool × List (List Nat × List Nat) := rtab .any (opsOf Try.f26 29)
theorem didm29_tab : rtab .any (opsOf Try.f26 29) = didm29_T := rfl
theorem may_ok {a n each : Int} (h : mayOf 1000 a n each = 0) (hn : 0 < n) : a % each = 0 ∧ a + n ≤ 1000 := by
  unfold mayOf at h
  by_cases h1 : a % each ≠ 0
  · rw [if_pos h1] at h; omega
  · rw [if_neg h1] at h
    by_cases h2 : n > 0 ∧ (a ≥ 1000 ∨ n > 1000 - a)
    · rw [if_pos h2] at h; omega
    · exact ⟨by omega, by omega⟩
theorem div_low {a : Int} (h : (Lit.int .u64 a).wf = true) (h2 : a < 1000) : 0 ≤ a / 8 ∧ a / 8 < 1152921504606846976 := by
  have := u64_b h
  omega
theorem did_0 {B w0 p mb n D W} (h : Mem B w0 p mb 1000 n D W) (hG : Good D) (hI : ∀ t, 1000 ≤ t → byteAt D t = 0) {l : List Bt} (hR : RefL 1000 (byteAt D) l) (hl : l.length ≤ 100000000) (A : Option Addr) (c : Nat) (hv : Kd.V k106 106 W 0 (fun k => k ≠ mb) (.slice A l.length c) l) (at_ a b : Int) (hat : (Lit.int .u64 at_).wf = true) (ha : (Lit.int .u64 a).wf = true) (hb : (Lit.int .u64 b).wf = true) :
    Calls Try.prog 26 #[.pointer (some ⟨p, 0, none⟩), .agg #[.int .u64 1000, .slice A l.length c], .agg #[.int .i64 0, .int .u64 at_, .int .u64 a, .int .u64 b]] W (DidM B w0 p mb l.length W) := by
  have hu := Try.underlying43
  have hu2 := Try.underlying52
  have hb3 := box3 W #[.int .u64 1000, .slice A l.length c] #[.int .i64 0, .int .u64 at_, .int .u64 a, .int .u64 b] #[.int .u64 0, .slice none 0 0] 43 52 43
  obtain ⟨N0, hN0⟩ : ∃ N0, N0 = W.heap.size := ⟨_, rfl⟩
  have HB4 := Aside0.mk hb3.1
  have HB5 := Aside0.mk hb3.2.1
  have HB6 := Aside0.mk hb3.2.2.1
  have hs125 := size_few h hG 125 (fun t ht => hI t (by omega))
  have HM := Aside0.mk (h.tight.same hb3.2.2.2)
  have hv1 := Kd.V_mono (ok' := fun k => k ≠ mb ∧ k ≠ W.heap.size ∧ k ≠ W.heap.size + 1 + 1) (Kd.V_bound hv) (fun k hk => ⟨hk.1, by omega, by omega⟩)
  have HV := Aside0.mk (Kd.V_grown hv1 hb3.2.2.2 (by simp))
  have HGW := Aside0.mk (grown_but hb3.2.2.2 (some mb))
  have HK := Aside0.mk (show mb < W.heap.size ∧ p < W.heap.size ∧ B ≤ W.heap.size ∧ N0 ≤ W.heap.size ∧ W.heap.size < W.heap.size + 1 ∧ W.heap.size + 1 < W.heap.size + 1 + 1 from ⟨h.own.lt, h.lt, h.hB, by omega, by omega, by omega⟩)
  have HN0 := Aside0.mk hN0
  have HGD := Aside0.mk hG
  have HI := Aside0.mk hI
  have HR := Aside0.mk hR
  have HAT := Aside0.mk hat
  have HA := Aside0.mk ha
  have HBB := Aside0.mk hb
  have HL := Aside0.mk hl
  have HS := Aside0.mk hs125
  clear h hG hI hR hl hv hv1 hat ha hb hb3 hs125 hN0
  obtain ⟨q0, q1⟩ := cz2 HB4.out
  obtain ⟨y0, y1, y2, y3⟩ := cz4 HB5.out
  go_enter Try.func26, Try.ntmps26
  go_wp2_with fail
  generalize W.heap.size + 1 + 1 = h6 at HB6 HV HK ⊢
  generalize W.heap.size + 1 = h5 at HB5 HK ⊢
  generalize W.heap.size = h4 at HB4 HV HK ⊢
  refine (mayL_calls (each := 1) (by decide) at_ 1 _ (Kd.V_reads' HV.out) HAT.out (by decide)).mono ?_
  rintro x0 wn ⟨rfl, hg⟩
  replace HB4 := Aside0.mk (blk_grown HB4.out hg)
  replace HB5 := Aside0.mk (blk_grown HB5.out hg)
  replace HB6 := Aside0.mk (blk_grown HB6.out hg)
  replace HM := Aside0.mk (HM.out.same hg)
  replace HV := Aside0.mk (Kd.V_grown HV.out hg (by simp))
  replace HGW := Aside0.mk (grown_two HGW.out (grown_but hg (some mb)))
  clear hg
  by_cases hf : mayOf 1000 at_ 1 1 = 0
  · rw [hf]
    have hfa := hf
    clear q0 q1 y0 y1 y2 y3
    obtain ⟨q0, q1⟩ := cz2 HB4.out
    obtain ⟨y0, y1, y2, y3⟩ := cz4 HB5.out
    have HF := Aside0.mk hf
    clear hf
    have HAB := Aside0.mk (show at_ < 1000 by have := may_one hfa; omega)
    have HB2 := Aside0.mk (show 0 ≤ a % 256 ∧ a % 256 < 256 by omega)
    clear hfa
    go_wp2_with fail
    refine (ref_put (ok' := (fun k => k ≠ mb ∧ k ≠ h4 ∧ k ≠ h6)) HV.out (by have := HL.out; omega) (fun k hk => ⟨by have := HM.out.own.lt; omega, by have := blk_lt HB4.out; omega, by have := blk_lt HB6.out; omega⟩) at_ (a % 256)).mono ?_
    rintro x0 wn ⟨v2, rfl, hV, hg⟩
    obtain ⟨A2, c2, rfl⟩ := Kd.V_slice hV
    replace HB4 := Aside0.mk (blk_grown HB4.out hg)
    replace HB5 := Aside0.mk (blk_grown HB5.out hg)
    replace HB6 := Aside0.mk (blk_grown HB6.out hg)
    replace HM := Aside0.mk (HM.out.same hg)
    replace HV := Aside0.mk hV
    replace HGW := Aside0.mk (grown_two HGW.out (grown_but hg (some mb)))
    clear hg
    clear hV
    go_wp2_with ((refine wpList_store_row rfl 43 (.tmp 4) (.tmp 29) rfl h4 #[.int .u64 1000, .slice A2 (putL l at_ (a % 256)).length c2] rfl rfl 43 _ HB4.out (by kernel_rfl) rfl (by kernel_rfl) ?_); (have hb2 := setRow_heap wn h4 _ #[.int .u64 1000, .slice A2 (putL l at_ (a % 256)).length c2] _ _ HB4.out); (have hgr := grown_row wn h4 #[.int .u64 1000, .slice A2 (putL l at_ (a % 256)).length c2]); (generalize World.setRow wn h4 #[.int .u64 1000, .slice A2 (putL l at_ (a % 256)).length c2] = ws at hb2 hgr ⊢); (obtain ⟨q0, q1⟩ := cz2 hb2))
    replace HB4 := Aside0.mk hb2
    replace HB5 := Aside0.mk ((hgr.block h5 (blk_lt HB5.out) (fun e => by have := Option.some.inj e; have := HK.out.2.2.2.2.1; omega)).trans HB5.out)
    replace HB6 := Aside0.mk ((hgr.block h6 (blk_lt HB6.out) (fun e => by have := Option.some.inj e; have := HK.out.2.2.2.2; omega)).trans HB6.out)
    replace HM := Aside0.mk (HM.out.kept hgr (fun e => by have := Option.some.inj e; have := HK.out.1; omega) (fun e => by have := Option.some.inj e; have := HK.out.2.1; omega) (fun k e => by cases e; exact HK.out.2.2.1))
    replace HV := Aside0.mk (Kd.V_grown HV.out hgr (fun k hk e => hk.2.1 (Option.some.inj e)))
    replace HGW := Aside0.mk (grown_loc HGW.out hgr (by rw [← HN0.out]; exact HK.out.2.2.2.1))
    clear hb2 hgr
    clear q0 q1 y0 y1 y2 y3
    have hg := grown_drew ws none
    replace HB4 := Aside0.mk (blk_grown HB4.out hg)
    replace HB5 := Aside0.mk (blk_grown HB5.out hg)
    replace HB6 := Aside0.mk (blk_grown HB6.out hg)
    replace HM := Aside0.mk (HM.out.same hg)
    replace HV := Aside0.mk (Kd.V_grown HV.out hg (by simp))
    replace HGW := Aside0.mk (grown_two HGW.out (grown_but hg (some mb)))
    clear hg
    refine start_ (n := 12) (S := fun w' => w'.heap[h4]? = some (.cells #[.int .u64 1000, .slice A2 (putL l at_ (a % 256)).length c2] 43 (0, 0)) ∧ w'.heap[h5]? = some (.cells #[.int .i64 0, .int .u64 at_, .int .u64 a, .int .u64 b] 52 (0, 0)) ∧ w'.heap[h6]? = some (.cells #[.int .u64 0, .slice none 0 0] 43 (0, 0))) (ds := [10]) #[false, false, false, false, false, false, false, false, false, false, false, false] (by kernel_rfl) rfl rfl ⟨HB4.out, HB5.out, HB6.out⟩ (fun hHeld => ?_)
    refine with_tab didm6_tab (fun HT_ => ?_)
    refine pure_ (i := 1) (N := some 31) (v := ?_) (a' := ?_) #[false, true, false, false, false, false, false, false, false, false, false, false] rfl rfl (any_of HT_.out (by kernel_rfl)) (fun _ _ _ h => h) (Or.inl ⟨by rfl, ?_⟩) ?_ ?_
    rotate_left
    · intro w'
      go_simp
      with_reducible rfl
    rotate_left
    · simp only [Act.put, List.setIfInBounds_toArray, List.set_cons_zero, List.set_cons_succ, i64_w, i32_w]
      rfl
    refine pure_ (i := 2) (N := some 32) (v := ?_) (a' := ?_) #[false, true, true, false, false, false, false, false, false, false, false, false] rfl rfl (any_of HT_.out (by kernel_rfl)) (fun _ _ _ h => h) (Or.inl ⟨by rfl, ?_⟩) ?_ ?_
    rotate_left
    · intro w'
      go_simp
      with_reducible rfl
    rotate_left
    · simp only [Act.put, List.setIfInBounds_toArray, List.set_cons_zero, List.set_cons_succ, i64_w, i32_w]
      rfl
    refine pure_ (i := 4) (N := some 34) (v := ?_) (a' := ?_) #[false, true, true, false, true, false, false, false, false, false, false, false] rfl rfl (any_of HT_.out (by kernel_rfl)) (fun _ _ _ h => h) (Or.inl ⟨by rfl, ?_⟩) ?_ ?_
    rotate_left
    · intro w'
      go_simp
      with_reducible rfl
    rotate_left
    · simp only [Act.put, List.setIfInBounds_toArray, List.set_cons_zero, List.set_cons_succ, i64_w, i32_w]
      rfl
    refine pure_ (i := 8) (N := some 38) (v := ?_) (a' := ?_) #[false, true, true, false, true, false, false, false, true, false, false, false] rfl rfl (any_of HT_.out (by kernel_rfl)) (fun _ _ _ h => h) (Or.inl ⟨by rfl, ?_⟩) ?_ ?_
    rotate_left
    · intro w'
      go_simp
      with_reducible rfl
    rotate_left
    · simp only [Act.put, List.setIfInBounds_toArray, List.set_cons_zero, List.set_cons_succ, i64_w, i32_w]
      rfl
    refine take_ (i := 0) (N := some 30) (v := .agg #[.int .u64 1000, .slice A2 (putL l at_ (a % 256)).length c2]) (a' := ?_) #[true, true, true, false, true, false, false, false, true, false, false, false] rfl rfl (take_of HT_.out (by kernel_rfl)) (fun _ _ _ h => h) (Or.inl ⟨by rfl, ?_⟩) hHeld ?_ ?_
    · rintro w' ⟨s1, s2, s3⟩
      obtain ⟨q0, q1⟩ := cz2 s1
      go_simp
    rotate_left
    · simp only [Act.put, List.setIfInBounds_toArray, List.set_cons_zero, List.set_cons_succ, i64_w, i32_w]
      rfl
    refine take_ (i := 3) (N := some 33) (v := .int .u64 at_) (a' := ?_) #[true, true, true, true, true, false, false, false, true, false, false, false] rfl rfl (take_of HT_.out (by kernel_rfl)) (fun _ _ _ h => h) (Or.inl ⟨by rfl, ?_⟩) hHeld ?_ ?_
    · rintro w' ⟨s1, s2, s3⟩
      obtain ⟨y0, y1, y2, y3⟩ := cz4 s2
      go_simp
    rotate_left
    · simp only [Act.put, List.setIfInBounds_toArray, List.set_cons_zero, List.set_cons_succ, i64_w, i32_w]
      rfl
    refine take_ (i := 5) (N := some 35) (v := .int .u64 a) (a' := ?_) #[true, true, true, true, true, true, false, false, true, false, false, false] rfl rfl (take_of HT_.out (by kernel_rfl)) (fun _ _ _ h => h) (Or.inl ⟨by rfl, ?_⟩) hHeld ?_ ?_
    · rintro w' ⟨s1, s2, s3⟩
      obtain ⟨y0, y1, y2, y3⟩ := cz4 s2
      go_simp
    rotate_left
    · simp only [Act.put, List.setIfInBounds_toArray, List.set_cons_zero, List.set_cons_succ, i64_w, i32_w]
      rfl
    refine pure_ (i := 6) (N := some 36) (v := .int .u8 (a % 256)) (a' := ?_) #[true, true, true, true, true, true, true, false, true, false, false, false] rfl rfl (any_of HT_.out (by kernel_rfl)) (fun _ _ _ h => h) (Or.inl ⟨by rfl, ?_⟩) ?_ ?_
    · intro w'
      go_simp
      first | done | rfl | (rw [wrap_u8])
    rotate_left
    · simp only [Act.put, List.setIfInBounds_toArray, List.set_cons_zero, List.set_cons_succ, i64_w, i32_w]
      rfl
    refine one_ (i := 7) (N := some 37) #[true, true, true, true, true, true, true, true, true, false, false, false] rfl rfl (one_of HT_.out (by kernel_rfl)) (by decide) (fun K hK => ?_)
    refine goes_ Try.func19 (by kernel_rfl) rfl #[.pointer (some ⟨p, 0, none⟩), .int .u64 at_, .int .u8 (a % 256)] (by rfl) rfl rfl (by (try simp only [List.map_toArray, List.map_cons, List.map_nil]); first | done | rfl) ?_
    refine (putByte_ok HM.out at_ HAT.out (a % 256) (by have := HS.out; omega) HF.out).mono ?_
    rintro x0 wn ⟨rfl, hM, hg⟩
    have hs : wn.heap[h4]? = some (.cells #[.int .u64 1000, .slice A2 (putL l at_ (a % 256)).length c2] 43 (0, 0)) ∧ wn.heap[h5]? = some (.cells #[.int .i64 0, .int .u64 at_, .int .u64 a, .int .u64 b] 52 (0, 0)) ∧ wn.heap[h6]? = some (.cells #[.int .u64 0, .slice none 0 0] 43 (0, 0)) := ⟨(hg.block h4 (blk_lt hHeld.1) (fun e => HM.out.nb _ _ _ hHeld.1 (Option.some.inj e))).trans hHeld.1, (hg.block h5 (blk_lt hHeld.2.1) (fun e => HM.out.nb _ _ _ hHeld.2.1 (Option.some.inj e))).trans hHeld.2.1, (hg.block h6 (blk_lt hHeld.2.2) (fun e => HM.out.nb _ _ _ hHeld.2.2 (Option.some.inj e))).trans hHeld.2.2⟩
    replace HV := Aside0.mk (Kd.V_grown HV.out hg (fun k hk e => hk.1 (Option.some.inj e)))
    replace HGW := Aside0.mk (grown_two HGW.out hg)
    replace HM := Aside0.mk hM
    clear hM hg
    refine ⟨_, rfl, ?_⟩
    refine hK.out _ _ hs (fun hHeld => ?_)
    clear hK K
    refine norm_ (a' := ?_) ?_ ?_
    rotate_left
    · show Act.put _ (some 37) _ = _
      simp only [Act.put, List.setIfInBounds_toArray, List.set_cons_zero, List.set_cons_succ, i64_w, i32_w]
      rfl
    refine pure_ (i := 9) (N := some 39) (v := .bool true) (a' := ?_) #[true, true, true, true, true, true, true, true, true, true, false, false] rfl rfl (any_of HT_.out (by kernel_rfl)) (fun _ _ _ h => h) (Or.inl ⟨by rfl, ?_⟩) ?_ ?_
    · intro w'
      go_simp
    rotate_left
    · simp only [Act.put, List.setIfInBounds_toArray, List.set_cons_zero, List.set_cons_succ, i64_w, i32_w]
      rfl
    refine last_ (i := 10) (N := none) #[true, true, true, true, true, true, true, true, true, true, true, false] rfl rfl (one_of HT_.out (by kernel_rfl)) (by decide) (fun K hK => ?_)
    rw [if_pos (by rfl)]
    refine wp_store_row 43 (.tmp 6) (.tmp 30) rfl h6 #[.int .u64 1000, .slice A2 (putL l at_ (a % 256)).length c2] rfl rfl 43 #[.int .u64 0, .slice none 0 0] hHeld.2.2 (by kernel_rfl) rfl (by kernel_rfl) ?_
    have hb2 := setRow_heap wn h6 _ #[.int .u64 1000, .slice A2 (putL l at_ (a % 256)).length c2] _ _ hHeld.2.2
    have hgr := grown_row wn h6 #[.int .u64 1000, .slice A2 (putL l at_ (a % 256)).length c2]
    generalize World.setRow wn h6 #[.int .u64 1000, .slice A2 (putL l at_ (a % 256)).length c2] = we at hb2 hgr ⊢
    have HBE := Aside0.mk hb2
    have HGE := Aside0.mk hgr
    clear hb2 hgr
    refine hK.out _ _ ?_
    clear hK K
    refine pure_ (i := 11) (N := some 7) (v := ?_) (a' := ?_) #[true, true, true, true, true, true, true, true, true, true, true, true] rfl rfl (any_of HT_.out (by kernel_rfl)) (fun _ _ _ h => h) (Or.inl ⟨by rfl, ?_⟩) ?_ ?_
    rotate_left
    · intro w'
      go_simp
      with_reducible rfl
    rotate_left
    · simp only [Act.put, List.setIfInBounds_toArray, List.set_cons_zero, List.set_cons_succ, i64_w, i32_w]
      rfl
    refine done_ (done_of HT_.out (by kernel_rfl)) ?_
    have HMe := Aside0.mk (HM.out.kept HGE.out (fun e => by have := Option.some.inj e; have := HK.out; omega) (fun e => by have := Option.some.inj e; have := HK.out; omega) (fun k e => by cases e; have := HK.out; omega))
    have HVe := Aside0.mk (Kd.V_mono (ok' := fun k => k ≠ mb) (Kd.V_grown HV.out HGE.out (fun k hk e => hk.2.2 (Option.some.inj e))) (fun k hk => hk.1))
    have HGe := Aside0.mk (grown_loc HGW.out HGE.out (by rw [← HN0.out]; have := HK.out; omega))
    obtain ⟨q0, q1⟩ := cz2 HBE.out
    go_wp2
    exact bodyPost_ret (v := .tuple #[.agg #[.int .u64 1000, .slice A2 (putL l at_ (a % 256)).length c2], .bool true]) (by simp [results, Try.f26, go_sem, q0, q1]) rfl ⟨_, _, _, rfl, HMe.out.tight, good_st HGD.out (div_low HAT.out HAB.out) (putB_wf _ _ _), fun t ht => by rw [byte_put HGD.out (u64_b HAT.out).1 HB2.out.1 HB2.out.2]; rw [if_neg (by have := HAB.out; omega)]; exact HI.out t ht, (HR.out.put ⟨(u64_b HAT.out).1, HAB.out⟩ HB2.out).eq (fun t _ _ => (byte_put HGD.out (u64_b HAT.out).1 HB2.out.1 HB2.out.2 t).symm), by have := put_len l at_ (a % 256); omega, HVe.out, HGe.out⟩
  · obtain ⟨f, hff⟩ : ∃ f, mayOf 1000 at_ 1 1 = f := ⟨_, rfl⟩
    rw [hff] at hf ⊢
    have hfb : (f == 0) = false := beq_eq_false_iff_ne.2 hf
    have hfc : (f != 0) = true := bne_iff_ne.2 hf
    have HF := Aside0.mk hff
    have HFB := Aside0.mk hfb
    have HFC := Aside0.mk hfc
    clear hf hff hfc
    clear q0 q1 y0 y1 y2 y3
    obtain ⟨q0, q1⟩ := cz2 HB4.out
    obtain ⟨y0, y1, y2, y3⟩ := cz4 HB5.out
    go_wp2_with fail
    clear q0 q1 y0 y1 y2 y3 hfb
    have hg := grown_drew wn none
    replace HB4 := Aside0.mk (blk_grown HB4.out hg)
    replace HB5 := Aside0.mk (blk_grown HB5.out hg)
    replace HB6 := Aside0.mk (blk_grown HB6.out hg)
    replace HM := Aside0.mk (HM.out.same hg)
    replace HV := Aside0.mk (Kd.V_grown HV.out hg (by simp))
    replace HGW := Aside0.mk (grown_two HGW.out (grown_but hg (some mb)))
    clear hg
    refine start_ (n := 12) (S := fun w' => w'.heap[h4]? = some (.cells #[.int .u64 1000, .slice A l.length c] 43 (0, 0)) ∧ w'.heap[h5]? = some (.cells #[.int .i64 0, .int .u64 at_, .int .u64 a, .int .u64 b] 52 (0, 0)) ∧ w'.heap[h6]? = some (.cells #[.int .u64 0, .slice none 0 0] 43 (0, 0))) (ds := [10]) #[false, false, false, false, false, false, false, false, false, false, false, false] (by kernel_rfl) rfl rfl ⟨HB4.out, HB5.out, HB6.out⟩ (fun hHeld => ?_)
    refine with_tab didm6_tab (fun HT_ => ?_)
    refine pure_ (i := 1) (N := some 31) (v := ?_) (a' := ?_) #[false, true, false, false, false, false, false, false, false, false, false, false] rfl rfl (any_of HT_.out (by kernel_rfl)) (fun _ _ _ h => h) (Or.inl ⟨by rfl, ?_⟩) ?_ ?_
    rotate_left
    · intro w'
      go_simp
      with_reducible rfl
    rotate_left
    · simp only [Act.put, List.setIfInBounds_toArray, List.set_cons_zero, List.set_cons_succ, i64_w, i32_w]
      rfl
    refine pure_ (i := 2) (N := some 32) (v := ?_) (a' := ?_) #[false, true, true, false, false, false, false, false, false, false, false, false] rfl rfl (any_of HT_.out (by kernel_rfl)) (fun _ _ _ h => h) (Or.inl ⟨by rfl, ?_⟩) ?_ ?_
    rotate_left
    · intro w'
      go_simp
      with_reducible rfl
    rotate_left
    · simp only [Act.put, List.setIfInBounds_toArray, List.set_cons_zero, List.set_cons_succ, i64_w, i32_w]
      rfl
    refine pure_ (i := 4) (N := some 34) (v := ?_) (a' := ?_) #[false, true, true, false, true, false, false, false, false, false, false, false] rfl rfl (any_of HT_.out (by kernel_rfl)) (fun _ _ _ h => h) (Or.inl ⟨by rfl, ?_⟩) ?_ ?_
    rotate_left
    · intro w'
      go_simp
      with_reducible rfl
    rotate_left
    · simp only [Act.put, List.setIfInBounds_toArray, List.set_cons_zero, List.set_cons_succ, i64_w, i32_w]
      rfl
    refine pure_ (i := 8) (N := some 38) (v := ?_) (a' := ?_) #[false, true, true, false, true, false, false, false, true, false, false, false] rfl rfl (any_of HT_.out (by kernel_rfl)) (fun _ _ _ h => h) (Or.inl ⟨by rfl, ?_⟩) ?_ ?_
    rotate_left
    · intro w'
      go_simp
      with_reducible rfl
    rotate_left
    · simp only [Act.put, List.setIfInBounds_toArray, List.set_cons_zero, List.set_cons_succ, i64_w, i32_w]
      rfl
    refine take_ (i := 0) (N := some 30) (v := .agg #[.int .u64 1000, .slice A l.length c]) (a' := ?_) #[true, true, true, false, true, false, false, false, true, false, false, false] rfl rfl (take_of HT_.out (by kernel_rfl)) (fun _ _ _ h => h) (Or.inl ⟨by rfl, ?_⟩) hHeld ?_ ?_
    · rintro w' ⟨s1, s2, s3⟩
      obtain ⟨q0, q1⟩ := cz2 s1
      go_simp
    rotate_left
    · simp only [Act.put, List.setIfInBounds_toArray, List.set_cons_zero, List.set_cons_succ, i64_w, i32_w]
      rfl
    refine take_ (i := 3) (N := some 33) (v := .int .u64 at_) (a' := ?_) #[true, true, true, true, true, false, false, false, true, false, false, false] rfl rfl (take_of HT_.out (by kernel_rfl)) (fun _ _ _ h => h) (Or.inl ⟨by rfl, ?_⟩) hHeld ?_ ?_
    · rintro w' ⟨s1, s2, s3⟩
      obtain ⟨y0, y1, y2, y3⟩ := cz4 s2
      go_simp
    rotate_left
    · simp only [Act.put, List.setIfInBounds_toArray, List.set_cons_zero, List.set_cons_succ, i64_w, i32_w]
      rfl
    refine take_ (i := 5) (N := some 35) (v := .int .u64 a) (a' := ?_) #[true, true, true, true, true, true, false, false, true, false, false, false] rfl rfl (take_of HT_.out (by kernel_rfl)) (fun _ _ _ h => h) (Or.inl ⟨by rfl, ?_⟩) hHeld ?_ ?_
    · rintro w' ⟨s1, s2, s3⟩
      obtain ⟨y0, y1, y2, y3⟩ := cz4 s2
      go_simp
    rotate_left
    · simp only [Act.put, List.setIfInBounds_toArray, List.set_cons_zero, List.set_cons_succ, i64_w, i32_w]
      rfl
    refine pure_ (i := 6) (N := some 36) (v := .int .u8 (a % 256)) (a' := ?_) #[true, true, true, true, true, true, true, false, true, false, false, false] rfl rfl (any_of HT_.out (by kernel_rfl)) (fun _ _ _ h => h) (Or.inl ⟨by rfl, ?_⟩) ?_ ?_
    · intro w'
      go_simp
      first | done | rfl | (rw [wrap_u8])
    rotate_left
    · simp only [Act.put, List.setIfInBounds_toArray, List.set_cons_zero, List.set_cons_succ, i64_w, i32_w]
      rfl
    refine one_ (i := 7) (N := some 37) #[true, true, true, true, true, true, true, true, true, false, false, false] rfl rfl (one_of HT_.out (by kernel_rfl)) (by decide) (fun K hK => ?_)
    refine goes_ Try.func19 (by kernel_rfl) rfl #[.pointer (some ⟨p, 0, none⟩), .int .u64 at_, .int .u8 (a % 256)] (by rfl) rfl rfl (by (try simp only [List.map_toArray, List.map_cons, List.map_nil]); first | done | rfl) ?_
    refine (badG (putByte_bad HM.out at_ HAT.out (a % 256) HFB.out HF.out)).mono ?_
    rintro x0 wn ⟨rfl, hg⟩
    have hs : wn.heap[h4]? = some (.cells #[.int .u64 1000, .slice A l.length c] 43 (0, 0)) ∧ wn.heap[h5]? = some (.cells #[.int .i64 0, .int .u64 at_, .int .u64 a, .int .u64 b] 52 (0, 0)) ∧ wn.heap[h6]? = some (.cells #[.int .u64 0, .slice none 0 0] 43 (0, 0)) := ⟨blk_grown hHeld.1 hg, blk_grown hHeld.2.1 hg, blk_grown hHeld.2.2 hg⟩
    replace HV := Aside0.mk (Kd.V_grown HV.out hg (by simp))
    replace HGW := Aside0.mk (grown_two HGW.out (grown_but hg (some mb)))
    replace HM := Aside0.mk (HM.out.same hg)
    clear hg
    refine ⟨_, rfl, ?_⟩
    refine hK.out _ _ hs (fun hHeld => ?_)
    clear hK K
    refine norm_ (a' := ?_) ?_ ?_
    rotate_left
    · show Act.put _ (some 37) _ = _
      simp only [Act.put, List.setIfInBounds_toArray, List.set_cons_zero, List.set_cons_succ, i64_w, i32_w]
      rfl
    refine pure_ (i := 9) (N := some 39) (v := .bool true) (a' := ?_) #[true, true, true, true, true, true, true, true, true, true, false, false] rfl rfl (any_of HT_.out (by kernel_rfl)) (fun _ _ _ h => h) (Or.inl ⟨by rfl, ?_⟩) ?_ ?_
    · intro w'
      go_simp
    rotate_left
    · simp only [Act.put, List.setIfInBounds_toArray, List.set_cons_zero, List.set_cons_succ, i64_w, i32_w]
      rfl
    refine last_ (i := 10) (N := none) #[true, true, true, true, true, true, true, true, true, true, true, false] rfl rfl (one_of HT_.out (by kernel_rfl)) (by decide) (fun K hK => ?_)
    rw [if_pos (by rfl)]
    refine wp_store_row 43 (.tmp 6) (.tmp 30) rfl h6 #[.int .u64 1000, .slice A l.length c] rfl rfl 43 #[.int .u64 0, .slice none 0 0] hHeld.2.2 (by kernel_rfl) rfl (by kernel_rfl) ?_
    have hb2 := setRow_heap wn h6 _ #[.int .u64 1000, .slice A l.length c] _ _ hHeld.2.2
    have hgr := grown_row wn h6 #[.int .u64 1000, .slice A l.length c]
    generalize World.setRow wn h6 #[.int .u64 1000, .slice A l.length c] = we at hb2 hgr ⊢
    have HBE := Aside0.mk hb2
    have HGE := Aside0.mk hgr
    clear hb2 hgr
    refine hK.out _ _ ?_
    clear hK K
    refine pure_ (i := 11) (N := some 7) (v := ?_) (a' := ?_) #[true, true, true, true, true, true, true, true, true, true, true, true] rfl rfl (any_of HT_.out (by kernel_rfl)) (fun _ _ _ h => h) (Or.inl ⟨by rfl, ?_⟩) ?_ ?_
    rotate_left
    · intro w'
      go_simp
      with_reducible rfl
    rotate_left
    · simp only [Act.put, List.setIfInBounds_toArray, List.set_cons_zero, List.set_cons_succ, i64_w, i32_w]
      rfl
    refine done_ (done_of HT_.out (by kernel_rfl)) ?_
    have HMe := Aside0.mk (HM.out.kept HGE.out (fun e => by have := Option.some.inj e; have := HK.out; omega) (fun e => by have := Option.some.inj e; have := HK.out; omega) (fun k e => by cases e; have := HK.out; omega))
    have HVe := Aside0.mk (Kd.V_mono (ok' := fun k => k ≠ mb) (Kd.V_grown HV.out HGE.out (fun k hk e => hk.2.2 (Option.some.inj e))) (fun k hk => hk.1))
    have HGe := Aside0.mk (grown_loc HGW.out HGE.out (by rw [← HN0.out]; have := HK.out; omega))
    obtain ⟨q0, q1⟩ := cz2 HBE.out
    go_wp2
    exact bodyPost_ret (v := .tuple #[.agg #[.int .u64 1000, .slice A l.length c], .bool true]) (by simp [results, Try.f26, go_sem, q0, q1]) rfl ⟨_, _, _, rfl, HMe.out.tight, HGD.out, HI.out, HR.out, by omega, HVe.out, HGe.out⟩
theorem did_1 {B w0 p mb n D W} (h : Mem B w0 p mb 1000 n D W) (hG : Good D) (hI : ∀ t, 1000 ≤ t → byteAt D t = 0) {l : List Bt} (hR : RefL 1000 (byteAt D) l) (hl : l.length ≤ 100000000) (A : Option Addr) (c : Nat) (hv : Kd.V k106 106 W 0 (fun k => k ≠ mb) (.slice A l.length c) l) (at_ a b : Int) (hat : (Lit.int .u64 at_).wf = true) (ha : (Lit.int .u64 a).wf = true) (hb : (Lit.int .u64 b).wf = true) :
    Calls Try.prog 26 #[.pointer (some ⟨p, 0, none⟩), .agg #[.int .u64 1000, .slice A l.length c], .agg #[.int .i64 1, .int .u64 at_, .int .u64 a, .int .u64 b]] W (DidM B w0 p mb l.length W) := by
  have hu := Try.underlying43
  have hu2 := Try.underlying52
  have hb3 := box3 W #[.int .u64 1000, .slice A l.length c] #[.int .i64 1, .int .u64 at_, .int .u64 a, .int .u64 b] #[.int .u64 0, .slice none 0 0] 43 52 43
  obtain ⟨N0, hN0⟩ : ∃ N0, N0 = W.heap.size := ⟨_, rfl⟩
  have HB4 := Aside0.mk hb3.1
  have HB5 := Aside0.mk hb3.2.1
  have HB6 := Aside0.mk hb3.2.2.1
  have hs125 := size_few h hG 125 (fun t ht => hI t (by omega))
  have HM := Aside0.mk (h.tight.same hb3.2.2.2)
  have hv1 := Kd.V_mono (ok' := fun k => k ≠ mb ∧ k ≠ W.heap.size ∧ k ≠ W.heap.size + 1 + 1) (Kd.V_bound hv) (fun k hk => ⟨hk.1, by omega, by omega⟩)
  have HV := Aside0.mk (Kd.V_grown hv1 hb3.2.2.2 (by simp))
  have HGW := Aside0.mk (grown_but hb3.2.2.2 (some mb))
  have HK := Aside0.mk (show mb < W.heap.size ∧ p < W.heap.size ∧ B ≤ W.heap.size ∧ N0 ≤ W.heap.size ∧ W.heap.size < W.heap.size + 1 ∧ W.heap.size + 1 < W.heap.size + 1 + 1 from ⟨h.own.lt, h.lt, h.hB, by omega, by omega, by omega⟩)
  have HN0 := Aside0.mk hN0
  have HGD := Aside0.mk hG
  have HI := Aside0.mk hI
  have HR := Aside0.mk hR
  have HAT := Aside0.mk hat
  have HA := Aside0.mk ha
  have HBB := Aside0.mk hb
  have HL := Aside0.mk hl
  have HS := Aside0.mk hs125
  clear h hG hI hR hl hv hv1 hat ha hb hb3 hs125 hN0
  obtain ⟨q0, q1⟩ := cz2 HB4.out
  obtain ⟨y0, y1, y2, y3⟩ := cz4 HB5.out
  go_enter Try.func26, Try.ntmps26
  go_wp2_with fail
  generalize W.heap.size + 1 + 1 = h6 at HB6 HV HK ⊢
  generalize W.heap.size + 1 = h5 at HB5 HK ⊢
  generalize W.heap.size = h4 at HB4 HV HK ⊢
  refine (mayL_calls (each := 8) (by decide) at_ 8 _ (Kd.V_reads' HV.out) HAT.out (by decide)).mono ?_
  rintro x0 wn ⟨rfl, hg⟩
  replace HB4 := Aside0.mk (blk_grown HB4.out hg)
  replace HB5 := Aside0.mk (blk_grown HB5.out hg)
  replace HB6 := Aside0.mk (blk_grown HB6.out hg)
  replace HM := Aside0.mk (HM.out.same hg)
  replace HV := Aside0.mk (Kd.V_grown HV.out hg (by simp))
  replace HGW := Aside0.mk (grown_two HGW.out (grown_but hg (some mb)))
  clear hg
  by_cases hf : mayOf 1000 at_ 8 8 = 0
  · rw [hf]
    have hfa := hf
    clear q0 q1 y0 y1 y2 y3
    obtain ⟨q0, q1⟩ := cz2 HB4.out
    obtain ⟨y0, y1, y2, y3⟩ := cz4 HB5.out
    have HF := Aside0.mk hf
    clear hf
    have hin := may_ok hfa (by decide)
    obtain ⟨l2, hp, hR2, hn2⟩ := puts_f 1000 HGD.out.clean.1.isMap hin.1 (u64_b HAT.out).1 hin.2 (by decide) HA.out l (by have := HL.out; omega) HR.out (k := l.length + 18) (Nat.le_refl _)
    have HP := Aside0.mk hp
    have HR2 := Aside0.mk hR2
    have HAB := Aside0.mk (show at_ + 8 ≤ 1000 from hin.2)
    have HA8 := Aside0.mk hin.1
    clear hfa hin hp hR2
    go_wp2_with fail
    refine (ref_puts (ok := (fun k => k ≠ mb ∧ k ≠ h4 ∧ k ≠ h6)) HV.out (fun k hk => ⟨by have := HM.out.own.lt; omega, by have := blk_lt HB4.out; omega, by have := blk_lt HB6.out; omega⟩) at_ a _ HP.out).mono ?_
    rintro x0 wn ⟨v2, rfl, hV, hg⟩
    obtain ⟨A2, c2, rfl⟩ := Kd.V_slice hV
    replace HB4 := Aside0.mk (blk_grown HB4.out hg)
    replace HB5 := Aside0.mk (blk_grown HB5.out hg)
    replace HB6 := Aside0.mk (blk_grown HB6.out hg)
    replace HM := Aside0.mk (HM.out.same hg)
    replace HV := Aside0.mk hV
    replace HGW := Aside0.mk (grown_two HGW.out (grown_but hg (some mb)))
    clear hg
    clear hV
    go_wp2_with ((refine wpList_store_row rfl 43 (.tmp 4) (.tmp 53) rfl h4 #[.int .u64 1000, .slice A2 (l2).length c2] rfl rfl 43 _ HB4.out (by kernel_rfl) rfl (by kernel_rfl) ?_); (have hb2 := setRow_heap wn h4 _ #[.int .u64 1000, .slice A2 (l2).length c2] _ _ HB4.out); (have hgr := grown_row wn h4 #[.int .u64 1000, .slice A2 (l2).length c2]); (generalize World.setRow wn h4 #[.int .u64 1000, .slice A2 (l2).length c2] = ws at hb2 hgr ⊢); (obtain ⟨q0, q1⟩ := cz2 hb2))
    replace HB4 := Aside0.mk hb2
    replace HB5 := Aside0.mk ((hgr.block h5 (blk_lt HB5.out) (fun e => by have := Option.some.inj e; have := HK.out.2.2.2.2.1; omega)).trans HB5.out)
    replace HB6 := Aside0.mk ((hgr.block h6 (blk_lt HB6.out) (fun e => by have := Option.some.inj e; have := HK.out.2.2.2.2; omega)).trans HB6.out)
    replace HM := Aside0.mk (HM.out.kept hgr (fun e => by have := Option.some.inj e; have := HK.out.1; omega) (fun e => by have := Option.some.inj e; have := HK.out.2.1; omega) (fun k e => by cases e; exact HK.out.2.2.1))
    replace HV := Aside0.mk (Kd.V_grown HV.out hgr (fun k hk e => hk.2.1 (Option.some.inj e)))
    replace HGW := Aside0.mk (grown_loc HGW.out hgr (by rw [← HN0.out]; exact HK.out.2.2.2.1))
    clear hb2 hgr
    clear q0 q1 y0 y1 y2 y3
    have hg := grown_drew ws none
    replace HB4 := Aside0.mk (blk_grown HB4.out hg)
    replace HB5 := Aside0.mk (blk_grown HB5.out hg)
    replace HB6 := Aside0.mk (blk_grown HB6.out hg)
    replace HM := Aside0.mk (HM.out.same hg)
    replace HV := Aside0.mk (Kd.V_grown HV.out hg (by simp))
    replace HGW := Aside0.mk (grown_two HGW.out (grown_but hg (some mb)))
    clear hg
    refine start_ (n := 11) (S := fun w' => w'.heap[h4]? = some (.cells #[.int .u64 1000, .slice A2 (l2).length c2] 43 (0, 0)) ∧ w'.heap[h5]? = some (.cells #[.int .i64 1, .int .u64 at_, .int .u64 a, .int .u64 b] 52 (0, 0)) ∧ w'.heap[h6]? = some (.cells #[.int .u64 0, .slice none 0 0] 43 (0, 0))) (ds := [9]) #[false, false, false, false, false, false, false, false, false, false, false] (by kernel_rfl) rfl rfl ⟨HB4.out, HB5.out, HB6.out⟩ (fun hHeld => ?_)
    refine with_tab didm11_tab (fun HT_ => ?_)
    refine pure_ (i := 1) (N := some 55) (v := ?_) (a' := ?_) #[false, true, false, false, false, false, false, false, false, false, false] rfl rfl (any_of HT_.out (by kernel_rfl)) (fun _ _ _ h => h) (Or.inl ⟨by rfl, ?_⟩) ?_ ?_
    rotate_left
    · intro w'
      go_simp
      with_reducible rfl
    rotate_left
    · simp only [Act.put, List.setIfInBounds_toArray, List.set_cons_zero, List.set_cons_succ, i64_w, i32_w]
      rfl
    refine pure_ (i := 2) (N := some 56) (v := ?_) (a' := ?_) #[false, true, true, false, false, false, false, false, false, false, false] rfl rfl (any_of HT_.out (by kernel_rfl)) (fun _ _ _ h => h) (Or.inl ⟨by rfl, ?_⟩) ?_ ?_
    rotate_left
    · intro w'
      go_simp
      with_reducible rfl
    rotate_left
    · simp only [Act.put, List.setIfInBounds_toArray, List.set_cons_zero, List.set_cons_succ, i64_w, i32_w]
      rfl
    refine pure_ (i := 4) (N := some 58) (v := ?_) (a' := ?_) #[false, true, true, false, true, false, false, false, false, false, false] rfl rfl (any_of HT_.out (by kernel_rfl)) (fun _ _ _ h => h) (Or.inl ⟨by rfl, ?_⟩) ?_ ?_
    rotate_left
    · intro w'
      go_simp
      with_reducible rfl
    rotate_left
    · simp only [Act.put, List.setIfInBounds_toArray, List.set_cons_zero, List.set_cons_succ, i64_w, i32_w]
      rfl
    refine pure_ (i := 7) (N := some 61) (v := ?_) (a' := ?_) #[false, true, true, false, true, false, false, true, false, false, false] rfl rfl (any_of HT_.out (by kernel_rfl)) (fun _ _ _ h => h) (Or.inl ⟨by rfl, ?_⟩) ?_ ?_
    rotate_left
    · intro w'
      go_simp
      with_reducible rfl
    rotate_left
    · simp only [Act.put, List.setIfInBounds_toArray, List.set_cons_zero, List.set_cons_succ, i64_w, i32_w]
      rfl
    refine take_ (i := 0) (N := some 54) (v := .agg #[.int .u64 1000, .slice A2 (l2).length c2]) (a' := ?_) #[true, true, true, false, true, false, false, true, false, false, false] rfl rfl (take_of HT_.out (by kernel_rfl)) (fun _ _ _ h => h) (Or.inl ⟨by rfl, ?_⟩) hHeld ?_ ?_
    · rintro w' ⟨s1, s2, s3⟩
      obtain ⟨q0, q1⟩ := cz2 s1
      go_simp
    rotate_left
    · simp only [Act.put, List.setIfInBounds_toArray, List.set_cons_zero, List.set_cons_succ, i64_w, i32_w]
      rfl
    refine take_ (i := 3) (N := some 57) (v := .int .u64 at_) (a' := ?_) #[true, true, true, true, true, false, false, true, false, false, false] rfl rfl (take_of HT_.out (by kernel_rfl)) (fun _ _ _ h => h) (Or.inl ⟨by rfl, ?_⟩) hHeld ?_ ?_
    · rintro w' ⟨s1, s2, s3⟩
      obtain ⟨y0, y1, y2, y3⟩ := cz4 s2
      go_simp
    rotate_left
    · simp only [Act.put, List.setIfInBounds_toArray, List.set_cons_zero, List.set_cons_succ, i64_w, i32_w]
      rfl
    refine take_ (i := 5) (N := some 59) (v := .int .u64 a) (a' := ?_) #[true, true, true, true, true, true, false, true, false, false, false] rfl rfl (take_of HT_.out (by kernel_rfl)) (fun _ _ _ h => h) (Or.inl ⟨by rfl, ?_⟩) hHeld ?_ ?_
    · rintro w' ⟨s1, s2, s3⟩
      obtain ⟨y0, y1, y2, y3⟩ := cz4 s2
      go_simp
    rotate_left
    · simp only [Act.put, List.setIfInBounds_toArray, List.set_cons_zero, List.set_cons_succ, i64_w, i32_w]
      rfl
    refine one_ (i := 6) (N := some 60) #[true, true, true, true, true, true, true, true, false, false, false] rfl rfl (one_of HT_.out (by kernel_rfl)) (by decide) (fun K hK => ?_)
    refine goes_ Try.func14 (by kernel_rfl) rfl #[.pointer (some ⟨p, 0, none⟩), .int .u64 at_, .int .u64 a] (by rfl) rfl rfl (by (try simp only [List.map_toArray, List.map_cons, List.map_nil]); first | done | rfl) ?_
    refine (putWord_ok HM.out at_ HAT.out a HA.out (by have := HS.out; omega) HF.out).mono ?_
    rintro x0 wn ⟨rfl, hM, hg⟩
    have hs : wn.heap[h4]? = some (.cells #[.int .u64 1000, .slice A2 (l2).length c2] 43 (0, 0)) ∧ wn.heap[h5]? = some (.cells #[.int .i64 1, .int .u64 at_, .int .u64 a, .int .u64 b] 52 (0, 0)) ∧ wn.heap[h6]? = some (.cells #[.int .u64 0, .slice none 0 0] 43 (0, 0)) := ⟨(hg.block h4 (blk_lt hHeld.1) (fun e => HM.out.nb _ _ _ hHeld.1 (Option.some.inj e))).trans hHeld.1, (hg.block h5 (blk_lt hHeld.2.1) (fun e => HM.out.nb _ _ _ hHeld.2.1 (Option.some.inj e))).trans hHeld.2.1, (hg.block h6 (blk_lt hHeld.2.2) (fun e => HM.out.nb _ _ _ hHeld.2.2 (Option.some.inj e))).trans hHeld.2.2⟩
    replace HV := Aside0.mk (Kd.V_grown HV.out hg (fun k hk e => hk.1 (Option.some.inj e)))
    replace HGW := Aside0.mk (grown_two HGW.out hg)
    replace HM := Aside0.mk hM
    clear hM hg
    refine ⟨_, rfl, ?_⟩
    refine hK.out _ _ hs (fun hHeld => ?_)
    clear hK K
    refine norm_ (a' := ?_) ?_ ?_
    rotate_left
    · show Act.put _ (some 60) _ = _
      simp only [Act.put, List.setIfInBounds_toArray, List.set_cons_zero, List.set_cons_succ, i64_w, i32_w]
      rfl
    refine pure_ (i := 8) (N := some 62) (v := .bool true) (a' := ?_) #[true, true, true, true, true, true, true, true, true, false, false] rfl rfl (any_of HT_.out (by kernel_rfl)) (fun _ _ _ h => h) (Or.inl ⟨by rfl, ?_⟩) ?_ ?_
    · intro w'
      go_simp
    rotate_left
    · simp only [Act.put, List.setIfInBounds_toArray, List.set_cons_zero, List.set_cons_succ, i64_w, i32_w]
      rfl
    refine last_ (i := 9) (N := none) #[true, true, true, true, true, true, true, true, true, true, false] rfl rfl (one_of HT_.out (by kernel_rfl)) (by decide) (fun K hK => ?_)
    rw [if_pos (by rfl)]
    refine wp_store_row 43 (.tmp 6) (.tmp 54) rfl h6 #[.int .u64 1000, .slice A2 (l2).length c2] rfl rfl 43 #[.int .u64 0, .slice none 0 0] hHeld.2.2 (by kernel_rfl) rfl (by kernel_rfl) ?_
    have hb2 := setRow_heap wn h6 _ #[.int .u64 1000, .slice A2 (l2).length c2] _ _ hHeld.2.2
    have hgr := grown_row wn h6 #[.int .u64 1000, .slice A2 (l2).length c2]
    generalize World.setRow wn h6 #[.int .u64 1000, .slice A2 (l2).length c2] = we at hb2 hgr ⊢
    have HBE := Aside0.mk hb2
    have HGE := Aside0.mk hgr
    clear hb2 hgr
    refine hK.out _ _ ?_
    clear hK K
    refine pure_ (i := 10) (N := some 7) (v := ?_) (a' := ?_) #[true, true, true, true, true, true, true, true, true, true, true] rfl rfl (any_of HT_.out (by kernel_rfl)) (fun _ _ _ h => h) (Or.inl ⟨by rfl, ?_⟩) ?_ ?_
    rotate_left
    · intro w'
      go_simp
      with_reducible rfl
    rotate_left
    · simp only [Act.put, List.setIfInBounds_toArray, List.set_cons_zero, List.set_cons_succ, i64_w, i32_w]
      rfl
    refine done_ (done_of HT_.out (by kernel_rfl)) ?_
    have HMe := Aside0.mk (HM.out.kept HGE.out (fun e => by have := Option.some.inj e; have := HK.out; omega) (fun e => by have := Option.some.inj e; have := HK.out; omega) (fun k e => by cases e; have := HK.out; omega))
    have HVe := Aside0.mk (Kd.V_mono (ok' := fun k => k ≠ mb) (Kd.V_grown HV.out HGE.out (fun k hk e => hk.2.2 (Option.some.inj e))) (fun k hk => hk.1))
    have HGe := Aside0.mk (grown_loc HGW.out HGE.out (by rw [← HN0.out]; have := HK.out; omega))
    obtain ⟨q0, q1⟩ := cz2 HBE.out
    go_wp2
    exact bodyPost_ret (v := .tuple #[.agg #[.int .u64 1000, .slice A2 (l2).length c2], .bool true]) (by simp [results, Try.f26, go_sem, q0, q1]) rfl ⟨_, _, _, rfl, HMe.out.tight, good_st HGD.out (div_low HAT.out (by have := HAB.out; omega)) HA.out, fun t ht => by rw [byte_word HGD.out.clean.1.isMap HA8.out t (by omega), if_neg (by have := HAB.out; omega)]; exact HI.out t ht, HR2.out, by omega, HVe.out, HGe.out⟩
  · obtain ⟨f, hff⟩ : ∃ f, mayOf 1000 at_ 8 8 = f := ⟨_, rfl⟩
    rw [hff] at hf ⊢
    have hfb : (f == 0) = false := beq_eq_false_iff_ne.2 hf
    have hfc : (f != 0) = true := bne_iff_ne.2 hf
    have HF := Aside0.mk hff
    have HFB := Aside0.mk hfb
    have HFC := Aside0.mk hfc
    clear hf hff hfc
    clear q0 q1 y0 y1 y2 y3
    obtain ⟨q0, q1⟩ := cz2 HB4.out
    obtain ⟨y0, y1, y2, y3⟩ := cz4 HB5.out
    go_wp2_with fail
    clear q0 q1 y0 y1 y2 y3 hfb
    have hg := grown_drew wn none
    replace HB4 := Aside0.mk (blk_grown HB4.out hg)
    replace HB5 := Aside0.mk (blk_grown HB5.out hg)
    replace HB6 := Aside0.mk (blk_grown HB6.out hg)
    replace HM := Aside0.mk (HM.out.same hg)
    replace HV := Aside0.mk (Kd.V_grown HV.out hg (by simp))
    replace HGW := Aside0.mk (grown_two HGW.out (grown_but hg (some mb)))
    clear hg
    refine start_ (n := 11) (S := fun w' => w'.heap[h4]? = some (.cells #[.int .u64 1000, .slice A l.length c] 43 (0, 0)) ∧ w'.heap[h5]? = some (.cells #[.int .i64 1, .int .u64 at_, .int .u64 a, .int .u64 b] 52 (0, 0)) ∧ w'.heap[h6]? = some (.cells #[.int .u64 0, .slice none 0 0] 43 (0, 0))) (ds := [9]) #[false, false, false, false, false, false, false, false, false, false, false] (by kernel_rfl) rfl rfl ⟨HB4.out, HB5.out, HB6.out⟩ (fun hHeld => ?_)
    refine with_tab didm11_tab (fun HT_ => ?_)
    refine pure_ (i := 1) (N := some 55) (v := ?_) (a' := ?_) #[false, true, false, false, false, false, false, false, false, false, false] rfl rfl (any_of HT_.out (by kernel_rfl)) (fun _ _ _ h => h) (Or.inl ⟨by rfl, ?_⟩) ?_ ?_
    rotate_left
    · intro w'
      go_simp
      with_reducible rfl
    rotate_left
    · simp only [Act.put, List.setIfInBounds_toArray, List.set_cons_zero, List.set_cons_succ, i64_w, i32_w]
      rfl
    refine pure_ (i := 2) (N := some 56) (v := ?_) (a' := ?_) #[false, true, true, false, false, false, false, false, false, false, false] rfl rfl (any_of HT_.out (by kernel_rfl)) (fun _ _ _ h => h) (Or.inl ⟨by rfl, ?_⟩) ?_ ?_
    rotate_left
    · intro w'
      go_simp
      with_reducible rfl
    rotate_left
    · simp only [Act.put, List.setIfInBounds_toArray, List.set_cons_zero, List.set_cons_succ, i64_w, i32_w]
      rfl
    refine pure_ (i := 4) (N := some 58) (v := ?_) (a' := ?_) #[false, true, true, false, true, false, false, false, false, false, false] rfl rfl (any_of HT_.out (by kernel_rfl)) (fun _ _ _ h => h) (Or.inl ⟨by rfl, ?_⟩) ?_ ?_
    rotate_left
    · intro w'
      go_simp
      with_reducible rfl
    rotate_left
    · simp only [Act.put, List.setIfInBounds_toArray, List.set_cons_zero, List.set_cons_succ, i64_w, i32_w]
      rfl
    refine pure_ (i := 7) (N := some 61) (v := ?_) (a' := ?_) #[false, true, true, false, true, false, false, true, false, false, false] rfl rfl (any_of HT_.out (by kernel_rfl)) (fun _ _ _ h => h) (Or.inl ⟨by rfl, ?_⟩) ?_ ?_
    rotate_left
    · intro w'
      go_simp
      with_reducible rfl
    rotate_left
    · simp only [Act.put, List.setIfInBounds_toArray, List.set_cons_zero, List.set_cons_succ, i64_w, i32_w]
      rfl
    refine take_ (i := 0) (N := some 54) (v := .agg #[.int .u64 1000, .slice A l.length c]) (a' := ?_) #[true, true, true, false, true, false, false, true, false, false, false] rfl rfl (take_of HT_.out (by kernel_rfl)) (fun _ _ _ h => h) (Or.inl ⟨by rfl, ?_⟩) hHeld ?_ ?_
    · rintro w' ⟨s1, s2, s3⟩
      obtain ⟨q0, q1⟩ := cz2 s1
      go_simp
    rotate_left
    · simp only [Act.put, List.setIfInBounds_toArray, List.set_cons_zero, List.set_cons_succ, i64_w, i32_w]
      rfl
    refine take_ (i := 3) (N := some 57) (v := .int .u64 at_) (a' := ?_) #[true, true, true, true, true, false, false, true, false, false, false] rfl rfl (take_of HT_.out (by kernel_rfl)) (fun _ _ _ h => h) (Or.inl ⟨by rfl, ?_⟩) hHeld ?_ ?_
    · rintro w' ⟨s1, s2, s3⟩
      obtain ⟨y0, y1, y2, y3⟩ := cz4 s2
      go_simp
    rotate_left
    · simp only [Act.put, List.setIfInBounds_toArray, List.set_cons_zero, List.set_cons_succ, i64_w, i32_w]
      rfl
    refine take_ (i := 5) (N := some 59) (v := .int .u64 a) (a' := ?_) #[true, true, true, true, true, true, false, true, false, false, false] rfl rfl (take_of HT_.out (by kernel_rfl)) (fun _ _ _ h => h) (Or.inl ⟨by rfl, ?_⟩) hHeld ?_ ?_
    · rintro w' ⟨s1, s2, s3⟩
      obtain ⟨y0, y1, y2, y3⟩ := cz4 s2
      go_simp
    rotate_left
    · simp only [Act.put, List.setIfInBounds_toArray, List.set_cons_zero, List.set_cons_succ, i64_w, i32_w]
      rfl
    refine one_ (i := 6) (N := some 60) #[true, true, true, true, true, true, true, true, false, false, false] rfl rfl (one_of HT_.out (by kernel_rfl)) (by decide) (fun K hK => ?_)
    refine goes_ Try.func14 (by kernel_rfl) rfl #[.pointer (some ⟨p, 0, none⟩), .int .u64 at_, .int .u64 a] (by rfl) rfl rfl (by (try simp only [List.map_toArray, List.map_cons, List.map_nil]); first | done | rfl) ?_
    refine (badG (putWord_bad HM.out at_ HAT.out a HFB.out HF.out)).mono ?_
    rintro x0 wn ⟨rfl, hg⟩
    have hs : wn.heap[h4]? = some (.cells #[.int .u64 1000, .slice A l.length c] 43 (0, 0)) ∧ wn.heap[h5]? = some (.cells #[.int .i64 1, .int .u64 at_, .int .u64 a, .int .u64 b] 52 (0, 0)) ∧ wn.heap[h6]? = some (.cells #[.int .u64 0, .slice none 0 0] 43 (0, 0)) := ⟨blk_grown hHeld.1 hg, blk_grown hHeld.2.1 hg, blk_grown hHeld.2.2 hg⟩
    replace HV := Aside0.mk (Kd.V_grown HV.out hg (by simp))
    replace HGW := Aside0.mk (grown_two HGW.out (grown_but hg (some mb)))
    replace HM := Aside0.mk (HM.out.same hg)
    clear hg
    refine ⟨_, rfl, ?_⟩
    refine hK.out _ _ hs (fun hHeld => ?_)
    clear hK K
    refine norm_ (a' := ?_) ?_ ?_
    rotate_left
    · show Act.put _ (some 60) _ = _
      simp only [Act.put, List.setIfInBounds_toArray, List.set_cons_zero, List.set_cons_succ, i64_w, i32_w]
      rfl
    refine pure_ (i := 8) (N := some 62) (v := .bool true) (a' := ?_) #[true, true, true, true, true, true, true, true, true, false, false] rfl rfl (any_of HT_.out (by kernel_rfl)) (fun _ _ _ h => h) (Or.inl ⟨by rfl, ?_⟩) ?_ ?_
    · intro w'
      go_simp
    rotate_left
    · simp only [Act.put, List.setIfInBounds_toArray, List.set_cons_zero, List.set_cons_succ, i64_w, i32_w]
      rfl
    refine last_ (i := 9) (N := none) #[true, true, true, true, true, true, true, true, true, true, false] rfl rfl (one_of HT_.out (by kernel_rfl)) (by decide) (fun K hK => ?_)
    rw [if_pos (by rfl)]
    refine wp_store_row 43 (.tmp 6) (.tmp 54) rfl h6 #[.int .u64 1000, .slice A l.length c] rfl rfl 43 #[.int .u64 0, .slice none 0 0] hHeld.2.2 (by kernel_rfl) rfl (by kernel_rfl) ?_
    have hb2 := setRow_heap wn h6 _ #[.int .u64 1000, .slice A l.length c] _ _ hHeld.2.2
    have hgr := grown_row wn h6 #[.int .u64 1000, .slice A l.length c]
    generalize World.setRow wn h6 #[.int .u64 1000, .slice A l.length c] = we at hb2 hgr ⊢
    have HBE := Aside0.mk hb2
    have HGE := Aside0.mk hgr
    clear hb2 hgr
    refine hK.out _ _ ?_
    clear hK K
    refine pure_ (i := 10) (N := some 7) (v := ?_) (a' := ?_) #[true, true, true, true, true, true, true, true, true, true, true] rfl rfl (any_of HT_.out (by kernel_rfl)) (fun _ _ _ h => h) (Or.inl ⟨by rfl, ?_⟩) ?_ ?_
    rotate_left
    · intro w'
      go_simp
      with_reducible rfl
    rotate_left
    · simp only [Act.put, List.setIfInBounds_toArray, List.set_cons_zero, List.set_cons_succ, i64_w, i32_w]
      rfl
    refine done_ (done_of HT_.out (by kernel_rfl)) ?_
    have HMe := Aside0.mk (HM.out.kept HGE.out (fun e => by have := Option.some.inj e; have := HK.out; omega) (fun e => by have := Option.some.inj e; have := HK.out; omega) (fun k e => by cases e; have := HK.out; omega))
    have HVe := Aside0.mk (Kd.V_mono (ok' := fun k => k ≠ mb) (Kd.V_grown HV.out HGE.out (fun k hk e => hk.2.2 (Option.some.inj e))) (fun k hk => hk.1))
    have HGe := Aside0.mk (grown_loc HGW.out HGE.out (by rw [← HN0.out]; have := HK.out; omega))
    obtain ⟨q0, q1⟩ := cz2 HBE.out
    go_wp2
    exact bodyPost_ret (v := .tuple #[.agg #[.int .u64 1000, .slice A l.length c], .bool true]) (by simp [results, Try.f26, go_sem, q0, q1]) rfl ⟨_, _, _, rfl, HMe.out.tight, HGD.out, HI.out, HR.out, by omega, HVe.out, HGe.out⟩
theorem did_6 {B w0 p mb n D W} (h : Mem B w0 p mb 1000 n D W) (hG : Good D) (hI : ∀ t, 1000 ≤ t → byteAt D t = 0) {l : List Bt} (hR : RefL 1000 (byteAt D) l) (hl : l.length ≤ 100000000) (A : Option Addr) (c : Nat) (hv : Kd.V k106 106 W 0 (fun k => k ≠ mb) (.slice A l.length c) l) (at_ a b : Int) (hat : (Lit.int .u64 at_).wf = true) (ha : (Lit.int .u64 a).wf = true) (hb : (Lit.int .u64 b).wf = true) :
    Calls Try.prog 26 #[.pointer (some ⟨p, 0, none⟩), .agg #[.int .u64 1000, .slice A l.length c], .agg #[.int .i64 6, .int .u64 at_, .int .u64 a, .int .u64 b]] W (DidM B w0 p mb l.length W) := by
  have hu := Try.underlying43
  have hu2 := Try.underlying52
  have hb3 := box3 W #[.int .u64 1000, .slice A l.length c] #[.int .i64 6, .int .u64 at_, .int .u64 a, .int .u64 b] #[.int .u64 0, .slice none 0 0] 43 52 43
  obtain ⟨N0, hN0⟩ : ∃ N0, N0 = W.heap.size := ⟨_, rfl⟩
  have HB4 := Aside0.mk hb3.1
  have HB5 := Aside0.mk hb3.2.1
  have HB6 := Aside0.mk hb3.2.2.1
  have hs125 := size_few h hG 125 (fun t ht => hI t (by omega))
  have HM := Aside0.mk (h.tight.same hb3.2.2.2)
  have hv1 := Kd.V_mono (ok' := fun k => k ≠ mb ∧ k ≠ W.heap.size ∧ k ≠ W.heap.size + 1 + 1) (Kd.V_bound hv) (fun k hk => ⟨hk.1, by omega, by omega⟩)
  have HV := Aside0.mk (Kd.V_grown hv1 hb3.2.2.2 (by simp))
  have HGW := Aside0.mk (grown_but hb3.2.2.2 (some mb))
  have HK := Aside0.mk (show mb < W.heap.size ∧ p < W.heap.size ∧ B ≤ W.heap.size ∧ N0 ≤ W.heap.size ∧ W.heap.size < W.heap.size + 1 ∧ W.heap.size + 1 < W.heap.size + 1 + 1 from ⟨h.own.lt, h.lt, h.hB, by omega, by omega, by omega⟩)
  have HN0 := Aside0.mk hN0
  have HGD := Aside0.mk hG
  have HI := Aside0.mk hI
  have HR := Aside0.mk hR
  have HAT := Aside0.mk hat
  have HA := Aside0.mk ha
  have HBB := Aside0.mk hb
  have HL := Aside0.mk hl
  have HS := Aside0.mk hs125
  clear h hG hI hR hl hv hv1 hat ha hb hb3 hs125 hN0
  obtain ⟨q0, q1⟩ := cz2 HB4.out
  obtain ⟨y0, y1, y2, y3⟩ := cz4 HB5.out
  go_enter Try.func26, Try.ntmps26
  go_wp2_with fail
  generalize W.heap.size + 1 + 1 = h6 at HB6 HV HK ⊢
  generalize W.heap.size + 1 = h5 at HB5 HK ⊢
  generalize W.heap.size = h4 at HB4 HV HK ⊢
  refine (mayL_calls (each := 1) (by decide) at_ b _ (Kd.V_reads' HV.out) HAT.out HBB.out).mono ?_
  rintro x0 wn ⟨rfl, hg⟩
  replace HB4 := Aside0.mk (blk_grown HB4.out hg)
  replace HB5 := Aside0.mk (blk_grown HB5.out hg)
  replace HB6 := Aside0.mk (blk_grown HB6.out hg)
  replace HM := Aside0.mk (HM.out.same hg)
  replace HV := Aside0.mk (Kd.V_grown HV.out hg (by simp))
  replace HGW := Aside0.mk (grown_two HGW.out (grown_but hg (some mb)))
  clear hg
  by_cases hf : mayOf 1000 at_ b 1 = 0
  · rw [hf]
    have hfa := hf
    clear q0 q1 y0 y1 y2 y3
    obtain ⟨q0, q1⟩ := cz2 HB4.out
    obtain ⟨y0, y1, y2, y3⟩ := cz4 HB5.out
    have HF := Aside0.mk hf
    clear hf
    clear hfa
    go_wp2_with fail
    refine (ref_clr (ok' := (fun k => k ≠ mb ∧ k ≠ h4 ∧ k ≠ h6)) HV.out (by have := HL.out; omega) (fun k hk => ⟨by have := HM.out.own.lt; omega, by have := blk_lt HB4.out; omega, by have := blk_lt HB6.out; omega⟩) at_ b (u64_b HAT.out).1 (fun x hx => by have := HR.out.rng x hx; omega)).mono ?_
    rintro x0 wn ⟨v2, rfl, hV, hg⟩
    obtain ⟨A2, c2, rfl⟩ := Kd.V_slice hV
    replace HB4 := Aside0.mk (blk_grown HB4.out hg)
    replace HB5 := Aside0.mk (blk_grown HB5.out hg)
    replace HB6 := Aside0.mk (blk_grown HB6.out hg)
    replace HM := Aside0.mk (HM.out.same hg)
    replace HV := Aside0.mk hV
    replace HGW := Aside0.mk (grown_two HGW.out (grown_but hg (some mb)))
    clear hg
    clear hV
    go_wp2_with ((refine wpList_store_row rfl 43 (.tmp 4) (.tmp 109) rfl h4 #[.int .u64 1000, .slice A2 (clrL l at_ b).length c2] rfl rfl 43 _ HB4.out (by kernel_rfl) rfl (by kernel_rfl) ?_); (have hb2 := setRow_heap wn h4 _ #[.int .u64 1000, .slice A2 (clrL l at_ b).length c2] _ _ HB4.out); (have hgr := grown_row wn h4 #[.int .u64 1000, .slice A2 (clrL l at_ b).length c2]); (generalize World.setRow wn h4 #[.int .u64 1000, .slice A2 (clrL l at_ b).length c2] = ws at hb2 hgr ⊢); (obtain ⟨q0, q1⟩ := cz2 hb2))
    replace HB4 := Aside0.mk hb2
    replace HB5 := Aside0.mk ((hgr.block h5 (blk_lt HB5.out) (fun e => by have := Option.some.inj e; have := HK.out.2.2.2.2.1; omega)).trans HB5.out)
    replace HB6 := Aside0.mk ((hgr.block h6 (blk_lt HB6.out) (fun e => by have := Option.some.inj e; have := HK.out.2.2.2.2; omega)).trans HB6.out)
    replace HM := Aside0.mk (HM.out.kept hgr (fun e => by have := Option.some.inj e; have := HK.out.1; omega) (fun e => by have := Option.some.inj e; have := HK.out.2.1; omega) (fun k e => by cases e; exact HK.out.2.2.1))
    replace HV := Aside0.mk (Kd.V_grown HV.out hgr (fun k hk e => hk.2.1 (Option.some.inj e)))
    replace HGW := Aside0.mk (grown_loc HGW.out hgr (by rw [← HN0.out]; exact HK.out.2.2.2.1))
    clear hb2 hgr
    clear q0 q1 y0 y1 y2 y3
    have hg := grown_drew ws none
    replace HB4 := Aside0.mk (blk_grown HB4.out hg)
    replace HB5 := Aside0.mk (blk_grown HB5.out hg)
    replace HB6 := Aside0.mk (blk_grown HB6.out hg)
    replace HM := Aside0.mk (HM.out.same hg)
    replace HV := Aside0.mk (Kd.V_grown HV.out hg (by simp))
    replace HGW := Aside0.mk (grown_two HGW.out (grown_but hg (some mb)))
    clear hg
    refine start_ (n := 11) (S := fun w' => w'.heap[h4]? = some (.cells #[.int .u64 1000, .slice A2 (clrL l at_ b).length c2] 43 (0, 0)) ∧ w'.heap[h5]? = some (.cells #[.int .i64 6, .int .u64 at_, .int .u64 a, .int .u64 b] 52 (0, 0)) ∧ w'.heap[h6]? = some (.cells #[.int .u64 0, .slice none 0 0] 43 (0, 0))) (ds := [9]) #[false, false, false, false, false, false, false, false, false, false, false] (by kernel_rfl) rfl rfl ⟨HB4.out, HB5.out, HB6.out⟩ (fun hHeld => ?_)
    refine with_tab didm21_tab (fun HT_ => ?_)
    refine pure_ (i := 1) (N := some 111) (v := ?_) (a' := ?_) #[false, true, false, false, false, false, false, false, false, false, false] rfl rfl (any_of HT_.out (by kernel_rfl)) (fun _ _ _ h => h) (Or.inl ⟨by rfl, ?_⟩) ?_ ?_
    rotate_left
    · intro w'
      go_simp
      with_reducible rfl
    rotate_left
    · simp only [Act.put, List.setIfInBounds_toArray, List.set_cons_zero, List.set_cons_succ, i64_w, i32_w]
      rfl
    refine pure_ (i := 2) (N := some 112) (v := ?_) (a' := ?_) #[false, true, true, false, false, false, false, false, false, false, false] rfl rfl (any_of HT_.out (by kernel_rfl)) (fun _ _ _ h => h) (Or.inl ⟨by rfl, ?_⟩) ?_ ?_
    rotate_left
    · intro w'
      go_simp
      with_reducible rfl
    rotate_left
    · simp only [Act.put, List.setIfInBounds_toArray, List.set_cons_zero, List.set_cons_succ, i64_w, i32_w]
      rfl
    refine pure_ (i := 4) (N := some 114) (v := ?_) (a' := ?_) #[false, true, true, false, true, false, false, false, false, false, false] rfl rfl (any_of HT_.out (by kernel_rfl)) (fun _ _ _ h => h) (Or.inl ⟨by rfl, ?_⟩) ?_ ?_
    rotate_left
    · intro w'
      go_simp
      with_reducible rfl
    rotate_left
    · simp only [Act.put, List.setIfInBounds_toArray, List.set_cons_zero, List.set_cons_succ, i64_w, i32_w]
      rfl
    refine pure_ (i := 7) (N := some 117) (v := ?_) (a' := ?_) #[false, true, true, false, true, false, false, true, false, false, false] rfl rfl (any_of HT_.out (by kernel_rfl)) (fun _ _ _ h => h) (Or.inl ⟨by rfl, ?_⟩) ?_ ?_
    rotate_left
    · intro w'
      go_simp
      with_reducible rfl
    rotate_left
    · simp only [Act.put, List.setIfInBounds_toArray, List.set_cons_zero, List.set_cons_succ, i64_w, i32_w]
      rfl
    refine take_ (i := 0) (N := some 110) (v := .agg #[.int .u64 1000, .slice A2 (clrL l at_ b).length c2]) (a' := ?_) #[true, true, true, false, true, false, false, true, false, false, false] rfl rfl (take_of HT_.out (by kernel_rfl)) (fun _ _ _ h => h) (Or.inl ⟨by rfl, ?_⟩) hHeld ?_ ?_
    · rintro w' ⟨s1, s2, s3⟩
      obtain ⟨q0, q1⟩ := cz2 s1
      go_simp
    rotate_left
    · simp only [Act.put, List.setIfInBounds_toArray, List.set_cons_zero, List.set_cons_succ, i64_w, i32_w]
      rfl
    refine take_ (i := 3) (N := some 113) (v := .int .u64 at_) (a' := ?_) #[true, true, true, true, true, false, false, true, false, false, false] rfl rfl (take_of HT_.out (by kernel_rfl)) (fun _ _ _ h => h) (Or.inl ⟨by rfl, ?_⟩) hHeld ?_ ?_
    · rintro w' ⟨s1, s2, s3⟩
      obtain ⟨y0, y1, y2, y3⟩ := cz4 s2
      go_simp
    rotate_left
    · simp only [Act.put, List.setIfInBounds_toArray, List.set_cons_zero, List.set_cons_succ, i64_w, i32_w]
      rfl
    refine take_ (i := 5) (N := some 115) (v := .int .u64 b) (a' := ?_) #[true, true, true, true, true, true, false, true, false, false, false] rfl rfl (take_of HT_.out (by kernel_rfl)) (fun _ _ _ h => h) (Or.inl ⟨by rfl, ?_⟩) hHeld ?_ ?_
    · rintro w' ⟨s1, s2, s3⟩
      obtain ⟨y0, y1, y2, y3⟩ := cz4 s2
      go_simp
    rotate_left
    · simp only [Act.put, List.setIfInBounds_toArray, List.set_cons_zero, List.set_cons_succ, i64_w, i32_w]
      rfl
    refine one_ (i := 6) (N := some 116) #[true, true, true, true, true, true, true, true, false, false, false] rfl rfl (one_of HT_.out (by kernel_rfl)) (by decide) (fun K hK => ?_)
    refine goes_ Try.func25 (by kernel_rfl) rfl #[.pointer (some ⟨p, 0, none⟩), .int .u64 at_, .int .u64 b] (by rfl) rfl rfl (by (try simp only [List.map_toArray, List.map_cons, List.map_nil]); first | done | rfl) ?_
    refine (clear_calls HM.out (by decide) at_ b HAT.out HBB.out HF.out HGD.out (by have := HS.out; omega)).mono ?_
    rintro x0 wn ⟨rfl, D2, hM, hG2, hS2, hB2, hg⟩
    have hs : wn.heap[h4]? = some (.cells #[.int .u64 1000, .slice A2 (clrL l at_ b).length c2] 43 (0, 0)) ∧ wn.heap[h5]? = some (.cells #[.int .i64 6, .int .u64 at_, .int .u64 a, .int .u64 b] 52 (0, 0)) ∧ wn.heap[h6]? = some (.cells #[.int .u64 0, .slice none 0 0] 43 (0, 0)) := ⟨(hg.block h4 (blk_lt hHeld.1) (fun e => HM.out.nb _ _ _ hHeld.1 (Option.some.inj e))).trans hHeld.1, (hg.block h5 (blk_lt hHeld.2.1) (fun e => HM.out.nb _ _ _ hHeld.2.1 (Option.some.inj e))).trans hHeld.2.1, (hg.block h6 (blk_lt hHeld.2.2) (fun e => HM.out.nb _ _ _ hHeld.2.2 (Option.some.inj e))).trans hHeld.2.2⟩
    replace HV := Aside0.mk (Kd.V_grown HV.out hg (fun k hk e => hk.1 (Option.some.inj e)))
    replace HGW := Aside0.mk (grown_two HGW.out hg)
    replace HM := Aside0.mk hM
    clear hM hg
    have HG2 := Aside0.mk hG2
    have HB2 := Aside0.mk hB2
    clear hG2 hS2 hB2
    refine ⟨_, rfl, ?_⟩
    refine hK.out _ _ hs (fun hHeld => ?_)
    clear hK K
    refine norm_ (a' := ?_) ?_ ?_
    rotate_left
    · show Act.put _ (some 116) _ = _
      simp only [Act.put, List.setIfInBounds_toArray, List.set_cons_zero, List.set_cons_succ, i64_w, i32_w]
      rfl
    refine pure_ (i := 8) (N := some 118) (v := .bool true) (a' := ?_) #[true, true, true, true, true, true, true, true, true, false, false] rfl rfl (any_of HT_.out (by kernel_rfl)) (fun _ _ _ h => h) (Or.inl ⟨by rfl, ?_⟩) ?_ ?_
    · intro w'
      go_simp
    rotate_left
    · simp only [Act.put, List.setIfInBounds_toArray, List.set_cons_zero, List.set_cons_succ, i64_w, i32_w]
      rfl
    refine last_ (i := 9) (N := none) #[true, true, true, true, true, true, true, true, true, true, false] rfl rfl (one_of HT_.out (by kernel_rfl)) (by decide) (fun K hK => ?_)
    rw [if_pos (by rfl)]
    refine wp_store_row 43 (.tmp 6) (.tmp 110) rfl h6 #[.int .u64 1000, .slice A2 (clrL l at_ b).length c2] rfl rfl 43 #[.int .u64 0, .slice none 0 0] hHeld.2.2 (by kernel_rfl) rfl (by kernel_rfl) ?_
    have hb2 := setRow_heap wn h6 _ #[.int .u64 1000, .slice A2 (clrL l at_ b).length c2] _ _ hHeld.2.2
    have hgr := grown_row wn h6 #[.int .u64 1000, .slice A2 (clrL l at_ b).length c2]
    generalize World.setRow wn h6 #[.int .u64 1000, .slice A2 (clrL l at_ b).length c2] = we at hb2 hgr ⊢
    have HBE := Aside0.mk hb2
    have HGE := Aside0.mk hgr
    clear hb2 hgr
    refine hK.out _ _ ?_
    clear hK K
    refine pure_ (i := 10) (N := some 7) (v := ?_) (a' := ?_) #[true, true, true, true, true, true, true, true, true, true, true] rfl rfl (any_of HT_.out (by kernel_rfl)) (fun _ _ _ h => h) (Or.inl ⟨by rfl, ?_⟩) ?_ ?_
    rotate_left
    · intro w'
      go_simp
      with_reducible rfl
    rotate_left
    · simp only [Act.put, List.setIfInBounds_toArray, List.set_cons_zero, List.set_cons_succ, i64_w, i32_w]
      rfl
    refine done_ (done_of HT_.out (by kernel_rfl)) ?_
    have HMe := Aside0.mk (HM.out.kept HGE.out (fun e => by have := Option.some.inj e; have := HK.out; omega) (fun e => by have := Option.some.inj e; have := HK.out; omega) (fun k e => by cases e; have := HK.out; omega))
    have HVe := Aside0.mk (Kd.V_mono (ok' := fun k => k ≠ mb) (Kd.V_grown HV.out HGE.out (fun k hk e => hk.2.2 (Option.some.inj e))) (fun k hk => hk.1))
    have HGe := Aside0.mk (grown_loc HGW.out HGE.out (by rw [← HN0.out]; have := HK.out; omega))
    obtain ⟨q0, q1⟩ := cz2 HBE.out
    go_wp2
    exact bodyPost_ret (v := .tuple #[.agg #[.int .u64 1000, .slice A2 (clrL l at_ b).length c2], .bool true]) (by simp [results, Try.f26, go_sem, q0, q1]) rfl ⟨_, _, _, rfl, HMe.out.tight, HG2.out, fun t ht => by rw [HB2.out t (by omega)]; split; rfl; exact HI.out t ht, (HR.out.clr at_ b).eq (fun t t0 _ => (HB2.out t t0).symm), by have := clr_len l at_ b; omega, HVe.out, HGe.out⟩
  · obtain ⟨f, hff⟩ : ∃ f, mayOf 1000 at_ b 1 = f := ⟨_, rfl⟩
    rw [hff] at hf ⊢
    have hfb : (f == 0) = false := beq_eq_false_iff_ne.2 hf
    have hfc : (f != 0) = true := bne_iff_ne.2 hf
    have HF := Aside0.mk hff
    have HFB := Aside0.mk hfb
    have HFC := Aside0.mk hfc
    clear hf hff hfc
    clear q0 q1 y0 y1 y2 y3
    obtain ⟨q0, q1⟩ := cz2 HB4.out
    obtain ⟨y0, y1, y2, y3⟩ := cz4 HB5.out
    go_wp2_with fail
    clear q0 q1 y0 y1 y2 y3 hfb
    have hg := grown_drew wn none
    replace HB4 := Aside0.mk (blk_grown HB4.out hg)
    replace HB5 := Aside0.mk (blk_grown HB5.out hg)
    replace HB6 := Aside0.mk (blk_grown HB6.out hg)
    replace HM := Aside0.mk (HM.out.same hg)
    replace HV := Aside0.mk (Kd.V_grown HV.out hg (by simp))
    replace HGW := Aside0.mk (grown_two HGW.out (grown_but hg (some mb)))
    clear hg
    refine start_ (n := 11) (S := fun w' => w'.heap[h4]? = some (.cells #[.int .u64 1000, .slice A l.length c] 43 (0, 0)) ∧ w'.heap[h5]? = some (.cells #[.int .i64 6, .int .u64 at_, .int .u64 a, .int .u64 b] 52 (0, 0)) ∧ w'.heap[h6]? = some (.cells #[.int .u64 0, .slice none 0 0] 43 (0, 0))) (ds := [9]) #[false, false, false, false, false, false, false, false, false, false, false] (by kernel_rfl) rfl rfl ⟨HB4.out, HB5.out, HB6.out⟩ (fun hHeld => ?_)
    refine with_tab didm21_tab (fun HT_ => ?_)
    refine pure_ (i := 1) (N := some 111) (v := ?_) (a' := ?_) #[false, true, false, false, false, false, false, false, false, false, false] rfl rfl (any_of HT_.out (by kernel_rfl)) (fun _ _ _ h => h) (Or.inl ⟨by rfl, ?_⟩) ?_ ?_
    rotate_left
    · intro w'
      go_simp
      with_reducible rfl
    rotate_left
    · simp only [Act.put, List.setIfInBounds_toArray, List.set_cons_zero, List.set_cons_succ, i64_w, i32_w]
      rfl
    refine pure_ (i := 2) (N := some 112) (v := ?_) (a' := ?_) #[false, true, true, false, false, false, false, false, false, false, false] rfl rfl (any_of HT_.out (by kernel_rfl)) (fun _ _ _ h => h) (Or.inl ⟨by rfl, ?_⟩) ?_ ?_
    rotate_left
    · intro w'
      go_simp
      with_reducible rfl
    rotate_left
    · simp only [Act.put, List.setIfInBounds_toArray, List.set_cons_zero, List.set_cons_succ, i64_w, i32_w]
      rfl
    refine pure_ (i := 4) (N := some 114) (v := ?_) (a' := ?_) #[false, true, true, false, true, false, false, false, false, false, false] rfl rfl (any_of HT_.out (by kernel_rfl)) (fun _ _ _ h => h) (Or.inl ⟨by rfl, ?_⟩) ?_ ?_
    rotate_left
    · intro w'
      go_simp
      with_reducible rfl
    rotate_left
    · simp only [Act.put, List.setIfInBounds_toArray, List.set_cons_zero, List.set_cons_succ, i64_w, i32_w]
      rfl
    refine pure_ (i := 7) (N := some 117) (v := ?_) (a' := ?_) #[false, true, true, false, true, false, false, true, false, false, false] rfl rfl (any_of HT_.out (by kernel_rfl)) (fun _ _ _ h => h) (Or.inl ⟨by rfl, ?_⟩) ?_ ?_
    rotate_left
    · intro w'
      go_simp
      with_reducible rfl
    rotate_left
    · simp only [Act.put, List.setIfInBounds_toArray, List.set_cons_zero, List.set_cons_succ, i64_w, i32_w]
      rfl
    refine take_ (i := 0) (N := some 110) (v := .agg #[.int .u64 1000, .slice A l.length c]) (a' := ?_) #[true, true, true, false, true, false, false, true, false, false, false] rfl rfl (take_of HT_.out (by kernel_rfl)) (fun _ _ _ h => h) (Or.inl ⟨by rfl, ?_⟩) hHeld ?_ ?_
    · rintro w' ⟨s1, s2, s3⟩
      obtain ⟨q0, q1⟩ := cz2 s1
      go_simp
    rotate_left
    · simp only [Act.put, List.setIfInBounds_toArray, List.set_cons_zero, List.set_cons_succ, i64_w, i32_w]
      rfl
    refine take_ (i := 3) (N := some 113) (v := .int .u64 at_) (a' := ?_) #[true, true, true, true, true, false, false, true, false, false, false] rfl rfl (take_of HT_.out (by kernel_rfl)) (fun _ _ _ h => h) (Or.inl ⟨by rfl, ?_⟩) hHeld ?_ ?_
    · rintro w' ⟨s1, s2, s3⟩
      obtain ⟨y0, y1, y2, y3⟩ := cz4 s2
      go_simp
    rotate_left
    · simp only [Act.put, List.setIfInBounds_toArray, List.set_cons_zero, List.set_cons_succ, i64_w, i32_w]
      rfl
    refine take_ (i := 5) (N := some 115) (v := .int .u64 b) (a' := ?_) #[true, true, true, true, true, true, false, true, false, false, false] rfl rfl (take_of HT_.out (by kernel_rfl)) (fun _ _ _ h => h) (Or.inl ⟨by rfl, ?_⟩) hHeld ?_ ?_
    · rintro w' ⟨s1, s2, s3⟩
      obtain ⟨y0, y1, y2, y3⟩ := cz4 s2
      go_simp
    rotate_left
    · simp only [Act.put, List.setIfInBounds_toArray, List.set_cons_zero, List.set_cons_succ, i64_w, i32_w]
      rfl
    refine one_ (i := 6) (N := some 116) #[true, true, true, true, true, true, true, true, false, false, false] rfl rfl (one_of HT_.out (by kernel_rfl)) (by decide) (fun K hK => ?_)
    refine goes_ Try.func25 (by kernel_rfl) rfl #[.pointer (some ⟨p, 0, none⟩), .int .u64 at_, .int .u64 b] (by rfl) rfl rfl (by (try simp only [List.map_toArray, List.map_cons, List.map_nil]); first | done | rfl) ?_
    refine (badG (clear_bad HM.out at_ b HAT.out HBB.out HFC.out HF.out)).mono ?_
    rintro x0 wn ⟨rfl, hg⟩
    have hs : wn.heap[h4]? = some (.cells #[.int .u64 1000, .slice A l.length c] 43 (0, 0)) ∧ wn.heap[h5]? = some (.cells #[.int .i64 6, .int .u64 at_, .int .u64 a, .int .u64 b] 52 (0, 0)) ∧ wn.heap[h6]? = some (.cells #[.int .u64 0, .slice none 0 0] 43 (0, 0)) := ⟨blk_grown hHeld.1 hg, blk_grown hHeld.2.1 hg, blk_grown hHeld.2.2 hg⟩
    replace HV := Aside0.mk (Kd.V_grown HV.out hg (by simp))
    replace HGW := Aside0.mk (grown_two HGW.out (grown_but hg (some mb)))
    replace HM := Aside0.mk (HM.out.same hg)
    clear hg
    refine ⟨_, rfl, ?_⟩
    refine hK.out _ _ hs (fun hHeld => ?_)
    clear hK K
    refine norm_ (a' := ?_) ?_ ?_
    rotate_left
    · show Act.put _ (some 116) _ = _
      simp only [Act.put, List.setIfInBounds_toArray, List.set_cons_zero, List.set_cons_succ, i64_w, i32_w]
      rfl
    refine pure_ (i := 8) (N := some 118) (v := .bool true) (a' := ?_) #[true, true, true, true, true, true, true, true, true, false, false] rfl rfl (any_of HT_.out (by kernel_rfl)) (fun _ _ _ h => h) (Or.inl ⟨by rfl, ?_⟩) ?_ ?_
    · intro w'
      go_simp
    rotate_left
    · simp only [Act.put, List.setIfInBounds_toArray, List.set_cons_zero, List.set_cons_succ, i64_w, i32_w]
      rfl
    refine last_ (i := 9) (N := none) #[true, true, true, true, true, true, true, true, true, true, false] rfl rfl (one_of HT_.out (by kernel_rfl)) (by decide) (fun K hK => ?_)
    rw [if_pos (by rfl)]
    refine wp_store_row 43 (.tmp 6) (.tmp 110) rfl h6 #[.int .u64 1000, .slice A l.length c] rfl rfl 43 #[.int .u64 0, .slice none 0 0] hHeld.2.2 (by kernel_rfl) rfl (by kernel_rfl) ?_
    have hb2 := setRow_heap wn h6 _ #[.int .u64 1000, .slice A l.length c] _ _ hHeld.2.2
    have hgr := grown_row wn h6 #[.int .u64 1000, .slice A l.length c]
    generalize World.setRow wn h6 #[.int .u64 1000, .slice A l.length c] = we at hb2 hgr ⊢
    have HBE := Aside0.mk hb2
    have HGE := Aside0.mk hgr
    clear hb2 hgr
    refine hK.out _ _ ?_
    clear hK K
    refine pure_ (i := 10) (N := some 7) (v := ?_) (a' := ?_) #[true, true, true, true, true, true, true, true, true, true, true] rfl rfl (any_of HT_.out (by kernel_rfl)) (fun _ _ _ h => h) (Or.inl ⟨by rfl, ?_⟩) ?_ ?_
    rotate_left
    · intro w'
      go_simp
      with_reducible rfl
    rotate_left
    · simp only [Act.put, List.setIfInBounds_toArray, List.set_cons_zero, List.set_cons_succ, i64_w, i32_w]
      rfl
    refine done_ (done_of HT_.out (by kernel_rfl)) ?_
    have HMe := Aside0.mk (HM.out.kept HGE.out (fun e => by have := Option.some.inj e; have := HK.out; omega) (fun e => by have := Option.some.inj e; have := HK.out; omega) (fun k e => by cases e; have := HK.out; omega))
    have HVe := Aside0.mk (Kd.V_mono (ok' := fun k => k ≠ mb) (Kd.V_grown HV.out HGE.out (fun k hk e => hk.2.2 (Option.some.inj e))) (fun k hk => hk.1))
    have HGe := Aside0.mk (grown_loc HGW.out HGE.out (by rw [← HN0.out]; have := HK.out; omega))
    obtain ⟨q0, q1⟩ := cz2 HBE.out
    go_wp2
    exact bodyPost_ret (v := .tuple #[.agg #[.int .u64 1000, .slice A l.length c], .bool true]) (by simp [results, Try.f26, go_sem, q0, q1]) rfl ⟨_, _, _, rfl, HMe.out.tight, HGD.out, HI.out, HR.out, by omega, HVe.out, HGe.out⟩
end
end Go.Proofs.Ytlndljgoliepdaa.Mem
