/- RegsMisses, walked: whatever was done ahead. -/
import Derived.Test.YtdfejnakhpgekaaRegsDeeds
namespace Go.Proofs.Ytdfejnakhpgekaa.QRegsPlays
open Go.RowKit Go.Maps Go.Proofs.YtdfejnakhpgekaaW.PrintWords Go.Proofs.YtdfejnakhpgekaaW.PrintLast Go.Proofs.YtdfejnakhpgekaaW.PrintMore
set_option linter.unusedSimpArgs false
set_option linter.unusedVariables false
section
set_option maxHeartbeats 1000000
set_option maxRecDepth 100000
theorem tgt_miss {v c : Int} (h : (Lit.int .u64 v).wf = true) (h0 : 0 ≤ c) (h1 : c ≤ 8191) : tgt (v / 8192 * 8192 + c) = c * 281474976710656 + v / 4194304 := by
  have e0 := (m_u64 h).1
  have e1 : (v / 8192 * 8192 + c) % 8192 = c := by omega
  have e2 : (v / 8192 * 8192 + c) / 4194304 = v / 4194304 := by omega
  unfold tgt
  rw [e1, e2]
theorem miss_w1 {v c : Int} (h : (Lit.int .u64 v).wf = true) (h0 : 0 ≤ c) (h1 : c ≤ 8191) : IntKind.u64.wrap (IntKind.u64.wrap (IntKind.u64.wrap (v.tdiv 8192) * 8192) + c) = v / 8192 * 8192 + c := by
  obtain ⟨e0, e1⟩ := m_u64 h
  simp only [IntKind.wrap_u64]
  rw [Int.tdiv_eq_ediv_of_nonneg e0]
  omega
theorem miss_w2 {v c : Int} (h : (Lit.int .u64 v).wf = true) (h0 : 0 ≤ c) (h1 : c ≤ 8191) : IntKind.u64.wrap (c * 281474976710656 + IntKind.u64.wrap (v.tdiv 4194304)) = c * 281474976710656 + v / 4194304 := by
  obtain ⟨e0, e1⟩ := m_u64 h
  simp only [IntKind.wrap_u64]
  rw [Int.tdiv_eq_ediv_of_nonneg e0]
  omega
noncomputable def missesr_T : Bool × List (List Nat × List Nat) := rtab .any (opsOf Try.f6 8)
theorem missesr_tab : rtab .any (opsOf Try.f6 8) = missesr_T := rfl
theorem misses_pp (a0 : Option Addr) (len cap : Nat) (unit va ctx : Int) (w : World) (h0 : Deeds w a0 len) (hlen : len ≤ maxLen) (hu : (Lit.int .i64 unit).wf = true) (hva : (Lit.int .u64 va).wf = true) (hc : (Lit.int .i64 ctx).wf = true) (hu0 : 0 ≤ unit) (hc0 : 0 ≤ ctx) :
    Calls Try.prog 6 #[.slice a0 len cap, .int .i64 unit, .int .u64 va, .int .i64 ctx] w fun e w' => e = .returned (.bool true) ∧ Below w.heap.size w w' := by
  have HB := Aside0.mk (Below.refl w.heap.size w)
  have H0 := Aside0.mk h0
  clear h0
  have HL := Aside0.mk hlen
  clear hlen
  have hR := Try.underlying38
  have hD := Try.underlying42
  obtain ⟨hu1, hu2⟩ := m_i64 hu
  obtain ⟨hc1, hc2⟩ := m_i64 hc
  go_enter Try.func6, Try.ntmps6
  go_wp2_with (first | (go_at_call 15; refine (new_calls HB.out (Nat.le_refl _)).mono ?_; rintro e wn ⟨p, mb, rfl, hM, hg⟩; have HM0 := Aside0.mk hM; clear hM hg) | ((with_reducible refine gate_dst (N := 10) rfl ?_); refine box_event ?hg (N := 10) ?hd (cs := #[.int .u64 0, .int .u64 0, .int .u64 0, .int .u64 0, .int .u64 0, .int .u64 0, .int .u64 0, .int .u64 0, .int .u64 0]) (t := 38) ?hr ?_; (case hd => rfl); (case hg => rfl); (case hr => first | (go_simp; done) | (go_simp; rfl)); intro gt hgb w2 hbox hb; have HT0 := Aside0.mk hbox; have GHT0 := Aside0.mk (below_grown hb); have LHT0 := Aside0.mk (Nat.le_of_eq hgb.symm); clear hgb hbox hb; have HM := Aside0.mk (HM0.out.same GHT0.out); have HT := Aside0.mk (show w2.heap[gt]? = some (.cells #[.int .u64 (rdk (.map []) 80 24), .int .u64 (rdk (.map []) 80 40), .int .u64 (rdk (.map []) 80 48), .int .u64 (rdk (.map []) 88 8), .int .u64 (rdk (.map []) 88 16), .int .u64 (rdk (.map []) 88 24), .int .u64 (rdk (.map []) 88 32), .int .u64 (rdk (.map []) 88 40), .int .u64 (rdk (.map []) 88 48)] 38 (0, 0)) from HT0.out); have HK := Aside0.mk (show mb ≠ gt ∧ p ≠ gt ∧ w.heap.size ≤ gt from ⟨Nat.ne_of_lt (Nat.lt_of_lt_of_le HM0.out.own.lt LHT0.out), Nat.ne_of_lt (Nat.lt_of_lt_of_le HM0.out.lt LHT0.out), Nat.le_trans HM0.out.hB LHT0.out⟩); clear HM0 HT0 GHT0 LHT0) | go_in)
  go_loopw [11] (fun v11 wr => ∃ (i n : Nat) (D : DataW Unit), v11 = .int .i64 i ∧ i ≤ 20 ∧ i ≤ len ∧ n ≤ 2 * i ∧ Aside0 (wr.heap[gt]? = some (.cells #[.int .u64 (rdk D 80 24), .int .u64 (rdk D 80 40), .int .u64 (rdk D 80 48), .int .u64 (rdk D 88 8), .int .u64 (rdk D 88 16), .int .u64 (rdk D 88 24), .int .u64 (rdk D 88 32), .int .u64 (rdk D 88 40), .int .u64 (rdk D 88 48)] 38 (0, 0))) ∧ Aside0 (Regs w.heap.size w p mb n D wr)) (fun v11 _ => 20 - (intOf v11).toNat)
  case atStart => exact ⟨0, 0, .map [], rfl, by omega, by omega, by omega, HT, HM⟩
  case round =>
    clear HT HM
    obtain ⟨i, n, D, rfl, hi, hil, hn, HT, HM⟩ := hrel
    by_cases h1 : i < len
    · by_cases h2 : i < 20
      · have h1' : (i : Int) < (len : Int) := by omega
        have h2' : (i : Int) < 20 := by omega
        have h3' : (0 : Int) ≤ (i : Int) := by omega
        obtain ⟨x, rfl, hd⟩ := H0.out.at i h1
        obtain ⟨kind, asi, un, num, place, v, store, priv, wa, wq, wv, e0, e1, e2, e3, e4, e5, e6, e7⟩ := hd
        have HWF := Aside0.mk (And.intro wa (And.intro wq wv))
        have E0 := Aside0.mk e0
        have E1 := Aside0.mk e1
        have E2 := Aside0.mk e2
        have E3 := Aside0.mk e3
        have E4 := Aside0.mk e4
        have E5 := Aside0.mk e5
        have E6 := Aside0.mk e6
        have E7 := Aside0.mk e7
        clear wa wq wv e0 e1 e2 e3 e4 e5 e6 e7
        go_wp2
        have HMd := Aside0.mk (HM.out.same (grown_drew _ _))
        have AHS := Aside0.mk (show wr.drew.heap[gt]? = some (.cells #[.int .u64 (rdk D 80 24), .int .u64 (rdk D 80 40), .int .u64 (rdk D 80 48), .int .u64 (rdk D 88 8), .int .u64 (rdk D 88 16), .int .u64 (rdk D 88 24), .int .u64 (rdk D 88 32), .int .u64 (rdk D 88 40), .int .u64 (rdk D 88 48)] 38 (0, 0)) ∧ wr.drew.cell? (x.add (i * 8)) = some (.int .i64 kind) ∧ wr.drew.cell? ⟨(x.add (i * 8)).block, (x.add (i * 8)).off + 1, none⟩ = some (.int .i64 asi) ∧ wr.drew.cell? ⟨(x.add (i * 8)).block, (x.add (i * 8)).off + 2, none⟩ = some (.int .i64 un) ∧ wr.drew.cell? ⟨(x.add (i * 8)).block, (x.add (i * 8)).off + 3, none⟩ = some (.int .i64 num) ∧ wr.drew.cell? ⟨(x.add (i * 8)).block, (x.add (i * 8)).off + 4, none⟩ = some (.int .u64 place) ∧ wr.drew.cell? ⟨(x.add (i * 8)).block, (x.add (i * 8)).off + 5, none⟩ = some (.int .u64 v) ∧ wr.drew.cell? ⟨(x.add (i * 8)).block, (x.add (i * 8)).off + 6, none⟩ = some (.bool store) ∧ wr.drew.cell? ⟨(x.add (i * 8)).block, (x.add (i * 8)).off + 7, none⟩ = some (.bool priv) from ⟨HT.out, (HMd.out.below.cell (cell_lt E0.out)).trans E0.out, (HMd.out.below.cell (cell_lt E1.out)).trans E1.out, (HMd.out.below.cell (cell_lt E2.out)).trans E2.out, (HMd.out.below.cell (cell_lt E3.out)).trans E3.out, (HMd.out.below.cell (cell_lt E4.out)).trans E4.out, (HMd.out.below.cell (cell_lt E5.out)).trans E5.out, (HMd.out.below.cell (cell_lt E6.out)).trans E6.out, (HMd.out.below.cell (cell_lt E7.out)).trans E7.out⟩)
        refine start_ (n := 11) (S := fun w' => w'.heap[gt]? = some (.cells #[.int .u64 (rdk D 80 24), .int .u64 (rdk D 80 40), .int .u64 (rdk D 80 48), .int .u64 (rdk D 88 8), .int .u64 (rdk D 88 16), .int .u64 (rdk D 88 24), .int .u64 (rdk D 88 32), .int .u64 (rdk D 88 40), .int .u64 (rdk D 88 48)] 38 (0, 0)) ∧ w'.cell? (x.add (i * 8)) = some (.int .i64 kind) ∧ w'.cell? ⟨(x.add (i * 8)).block, (x.add (i * 8)).off + 1, none⟩ = some (.int .i64 asi) ∧ w'.cell? ⟨(x.add (i * 8)).block, (x.add (i * 8)).off + 2, none⟩ = some (.int .i64 un) ∧ w'.cell? ⟨(x.add (i * 8)).block, (x.add (i * 8)).off + 3, none⟩ = some (.int .i64 num) ∧ w'.cell? ⟨(x.add (i * 8)).block, (x.add (i * 8)).off + 4, none⟩ = some (.int .u64 place) ∧ w'.cell? ⟨(x.add (i * 8)).block, (x.add (i * 8)).off + 5, none⟩ = some (.int .u64 v) ∧ w'.cell? ⟨(x.add (i * 8)).block, (x.add (i * 8)).off + 6, none⟩ = some (.bool store) ∧ w'.cell? ⟨(x.add (i * 8)).block, (x.add (i * 8)).off + 7, none⟩ = some (.bool priv)) (ds := [10]) #[false, false, false, false, false, false, false, false, false, false, false] (by kernel_rfl) rfl rfl AHS.out (fun hHeld => ?_)
        refine with_tab missesr_tab (fun HT_ => ?_)
        refine pure_ (i := 0) (N := some 32) (v := ?_) (a' := ?_) #[true, false, false, false, false, false, false, false, false, false, false] rfl rfl (any_of HT_.out (by kernel_rfl)) (fun _ _ _ h => h) (Or.inl ⟨by rfl, ?_⟩) ?_ ?_
        rotate_left
        · intro w'
          go_simp
          with_reducible rfl
        rotate_left
        · simp only [Act.put, List.setIfInBounds_toArray, List.set_cons_zero, List.set_cons_succ, i64_w, i32_w]
          rfl
        refine pure_ (i := 2) (N := some 34) (v := ?_) (a' := ?_) #[true, false, true, false, false, false, false, false, false, false, false] rfl rfl (any_of HT_.out (by kernel_rfl)) (fun _ _ _ h => h) (Or.inl ⟨by rfl, ?_⟩) ?_ ?_
        rotate_left
        · intro w'
          go_simp
          with_reducible rfl
        rotate_left
        · simp only [Act.put, List.setIfInBounds_toArray, List.set_cons_zero, List.set_cons_succ, i64_w, i32_w]
          rfl
        refine pure_ (i := 3) (N := some 35) (v := ?_) (a' := ?_) #[true, false, true, true, false, false, false, false, false, false, false] rfl rfl (any_of HT_.out (by kernel_rfl)) (fun _ _ _ h => h) (Or.inl ⟨by rfl, ?_⟩) ?_ ?_
        rotate_left
        · intro w'
          go_simp
          with_reducible rfl
        rotate_left
        · simp only [Act.put, List.setIfInBounds_toArray, List.set_cons_zero, List.set_cons_succ, i64_w, i32_w]
          rfl
        refine pure_ (i := 4) (N := some 36) (v := ?_) (a' := ?_) #[true, false, true, true, true, false, false, false, false, false, false] rfl rfl (any_of HT_.out (by kernel_rfl)) (fun _ _ _ h => h) (Or.inl ⟨by rfl, ?_⟩) ?_ ?_
        rotate_left
        · intro w'
          go_simp
          with_reducible rfl
        rotate_left
        · simp only [Act.put, List.setIfInBounds_toArray, List.set_cons_zero, List.set_cons_succ, i64_w, i32_w]
          rfl
        refine take_ (i := 1) (N := some 33) (v := .agg #[.int .u64 (rdk D 80 24), .int .u64 (rdk D 80 40), .int .u64 (rdk D 80 48), .int .u64 (rdk D 88 8), .int .u64 (rdk D 88 16), .int .u64 (rdk D 88 24), .int .u64 (rdk D 88 32), .int .u64 (rdk D 88 40), .int .u64 (rdk D 88 48)]) (a' := ?_) #[true, true, true, true, true, false, false, false, false, false, false] rfl rfl (take_of HT_.out (by kernel_rfl)) (fun _ _ _ h => h) (Or.inl ⟨by rfl, ?_⟩) hHeld ?_ ?_
        · rintro w' ⟨s8, s0, s1, s2, s3, s4, s5, s6, s7⟩
          obtain ⟨q0, q1, q2, q3, q4, q5, q6, q7, q8⟩ := cz9 s8
          go_simp
          first | done | (rw [hrun])
        rotate_left
        · simp only [Act.put, List.setIfInBounds_toArray, List.set_cons_zero, List.set_cons_succ, i64_w, i32_w]
          rfl
        refine take_ (i := 5) (N := some 37) (v := .agg #[.int .i64 kind, .int .i64 asi, .int .i64 un, .int .i64 num, .int .u64 place, .int .u64 v, .bool store, .bool priv]) (a' := ?_) #[true, true, true, true, true, true, false, false, false, false, false] rfl rfl (take_of HT_.out (by kernel_rfl)) (fun _ _ _ h => h) (Or.inl ⟨by rfl, ?_⟩) hHeld ?_ ?_
        · rintro w' ⟨s8, s0, s1, s2, s3, s4, s5, s6, s7⟩
          go_simp
          first | done | (rw [hrun])
        rotate_left
        · simp only [Act.put, List.setIfInBounds_toArray, List.set_cons_zero, List.set_cons_succ, i64_w, i32_w]
          rfl
        refine one_ (i := 6) (N := some 38) #[true, true, true, true, true, true, true, false, false, false, false] rfl rfl (one_of HT_.out (by kernel_rfl)) (by decide) (fun K hK => ?_)
        refine goes_ Try.func22 (by kernel_rfl) rfl #[.pointer (some ⟨p, 0, none⟩), .agg #[.int .u64 (rdk D 80 24), .int .u64 (rdk D 80 40), .int .u64 (rdk D 80 48), .int .u64 (rdk D 88 8), .int .u64 (rdk D 88 16), .int .u64 (rdk D 88 24), .int .u64 (rdk D 88 32), .int .u64 (rdk D 88 40), .int .u64 (rdk D 88 48)], .agg #[.int .i64 kind, .int .i64 asi, .int .i64 un, .int .i64 num, .int .u64 place, .int .u64 v, .bool store, .bool priv]] (by rfl) rfl rfl (by (try simp only [List.map_toArray, List.map_cons, List.map_nil]); first | done | rfl) ?_
        refine (does_lit HMd.out kind asi un num place v store priv HWF.out.1 HWF.out.2.1 HWF.out.2.2 (by omega)).mono ?_
        rintro e wn ⟨D', rfl, hR', hg'⟩
        obtain ⟨es, cl, hmb, hmo⟩ := HMd.out.own
        have SN := Aside0.mk (blk_mb AHS.out.1 hmb hg')
        have SNR := Aside0.mk hR'
        have SNE := Aside0.mk (show wn.heap[gt]? = some (.cells #[.int .u64 (rdk D 80 24), .int .u64 (rdk D 80 40), .int .u64 (rdk D 80 48), .int .u64 (rdk D 88 8), .int .u64 (rdk D 88 16), .int .u64 (rdk D 88 24), .int .u64 (rdk D 88 32), .int .u64 (rdk D 88 40), .int .u64 (rdk D 88 48)] 38 (0, 0)) ∧ wn.cell? (x.add (i * 8)) = some (.int .i64 kind) ∧ wn.cell? ⟨(x.add (i * 8)).block, (x.add (i * 8)).off + 1, none⟩ = some (.int .i64 asi) ∧ wn.cell? ⟨(x.add (i * 8)).block, (x.add (i * 8)).off + 2, none⟩ = some (.int .i64 un) ∧ wn.cell? ⟨(x.add (i * 8)).block, (x.add (i * 8)).off + 3, none⟩ = some (.int .i64 num) ∧ wn.cell? ⟨(x.add (i * 8)).block, (x.add (i * 8)).off + 4, none⟩ = some (.int .u64 place) ∧ wn.cell? ⟨(x.add (i * 8)).block, (x.add (i * 8)).off + 5, none⟩ = some (.int .u64 v) ∧ wn.cell? ⟨(x.add (i * 8)).block, (x.add (i * 8)).off + 6, none⟩ = some (.bool store) ∧ wn.cell? ⟨(x.add (i * 8)).block, (x.add (i * 8)).off + 7, none⟩ = some (.bool priv) from ⟨SN.out, (SNR.out.below.cell (cell_lt E0.out)).trans E0.out, (SNR.out.below.cell (cell_lt E1.out)).trans E1.out, (SNR.out.below.cell (cell_lt E2.out)).trans E2.out, (SNR.out.below.cell (cell_lt E3.out)).trans E3.out, (SNR.out.below.cell (cell_lt E4.out)).trans E4.out, (SNR.out.below.cell (cell_lt E5.out)).trans E5.out, (SNR.out.below.cell (cell_lt E6.out)).trans E6.out, (SNR.out.below.cell (cell_lt E7.out)).trans E7.out⟩)
        clear hmo hg' hR' hmb es cl
        refine ⟨_, rfl, ?_⟩
        refine hK.out _ _ SNE.out (fun hHeld => ?_)
        clear hK K
        refine norm_ (a' := ?_) ?_ ?_
        rotate_left
        · show Act.put _ (some 38) _ = _
          simp only [Act.put, List.setIfInBounds_toArray, List.set_cons_zero, List.set_cons_succ, i64_w, i32_w]
          rfl
        refine pure_ (i := 7) (N := some 31) (v := ?_) (a' := ?_) #[true, true, true, true, true, true, true, true, false, false, false] rfl rfl (any_of HT_.out (by kernel_rfl)) (fun _ _ _ h => h) (Or.inl ⟨by rfl, ?_⟩) ?_ ?_
        rotate_left
        · intro w'
          go_simp
          with_reducible rfl
        rotate_left
        · simp only [Act.put, List.setIfInBounds_toArray, List.set_cons_zero, List.set_cons_succ, i64_w, i32_w]
          rfl
        refine pure_ (i := 8) (N := some 39) (v := ?_) (a' := ?_) #[true, true, true, true, true, true, true, true, true, false, false] rfl rfl (any_of HT_.out (by kernel_rfl)) (fun _ _ _ h => h) (Or.inl ⟨by rfl, ?_⟩) ?_ ?_
        rotate_left
        · intro w'
          go_simp
          with_reducible rfl
        rotate_left
        · simp only [Act.put, List.setIfInBounds_toArray, List.set_cons_zero, List.set_cons_succ, i64_w, i32_w]
          rfl
        refine pure_ (i := 9) (N := some 40) (v := ?_) (a' := ?_) #[true, true, true, true, true, true, true, true, true, true, false] rfl rfl (any_of HT_.out (by kernel_rfl)) (fun _ _ _ h => h) (Or.inl ⟨by rfl, ?_⟩) ?_ ?_
        rotate_left
        · intro w'
          go_simp
          with_reducible rfl
        rotate_left
        · simp only [Act.put, List.setIfInBounds_toArray, List.set_cons_zero, List.set_cons_succ, i64_w, i32_w]
          rfl
        refine last_ (i := 10) (N := none) #[true, true, true, true, true, true, true, true, true, true, true] rfl rfl (one_of HT_.out (by kernel_rfl)) (by decide) (fun K hK => ?_)
        rw [if_pos (by rfl)]
        refine wp_store_row 38 (.tmp 10) (.tmp 39) rfl gt #[.int .u64 (rdk D' 80 24), .int .u64 (rdk D' 80 40), .int .u64 (rdk D' 80 48), .int .u64 (rdk D' 88 8), .int .u64 (rdk D' 88 16), .int .u64 (rdk D' 88 24), .int .u64 (rdk D' 88 32), .int .u64 (rdk D' 88 40), .int .u64 (rdk D' 88 48)] rfl rfl 38 #[.int .u64 (rdk D 80 24), .int .u64 (rdk D 80 40), .int .u64 (rdk D 80 48), .int .u64 (rdk D 88 8), .int .u64 (rdk D 88 16), .int .u64 (rdk D 88 24), .int .u64 (rdk D 88 32), .int .u64 (rdk D 88 40), .int .u64 (rdk D 88 48)] SN.out (by kernel_rfl) rfl (by kernel_rfl) ?_
        have SO := Aside0.mk (setRow_heap _ gt _ #[.int .u64 (rdk D' 80 24), .int .u64 (rdk D' 80 40), .int .u64 (rdk D' 80 48), .int .u64 (rdk D' 88 8), .int .u64 (rdk D' 88 16), .int .u64 (rdk D' 88 24), .int .u64 (rdk D' 88 32), .int .u64 (rdk D' 88 40), .int .u64 (rdk D' 88 48)] _ _ SN.out)
        have HRN := Aside0.mk (SNR.out.kept (grown_row wn gt #[.int .u64 (rdk D' 80 24), .int .u64 (rdk D' 80 40), .int .u64 (rdk D' 80 48), .int .u64 (rdk D' 88 8), .int .u64 (rdk D' 88 16), .int .u64 (rdk D' 88 24), .int .u64 (rdk D' 88 32), .int .u64 (rdk D' 88 40), .int .u64 (rdk D' 88 48)]) (fun e => HK.out.1 (Option.some.inj e)) (fun e => HK.out.2.1 (Option.some.inj e)) (fun k e => by cases e; exact HK.out.2.2))
        refine hK.out _ _ ?_
        clear hK K
        refine norm_ (a' := ?_) ?_ ?_
        rotate_left
        · show Act.put _ none _ = _
          rfl
        refine done_ (done_of HT_.out (by kernel_rfl)) ?_
        go_wp2
        go_roundw
        case rel => exact ⟨i + 1, n + 2, D', by go_num, by omega, by omega, by omega, SO, HRN⟩
        case measure => simp [intOf]; omega
      · obtain rfl : i = 20 := by omega
        have h1' : (20 : Int) < (len : Int) := by omega
        obtain ⟨r, hr⟩ : ∃ r, va / 8192 * 8192 + ctx % 8192 = r := ⟨_, rfl⟩
        obtain ⟨t, ht⟩ : ∃ t, ctx % 8192 * 281474976710656 + va / 4194304 = t := ⟨_, rfl⟩
        have HR1 := Aside0.mk ((miss_put (c := ctx % 8192) hva (by omega) (by omega)).trans (congrArg some hr))
        have HR2 := Aside0.mk (show (Lit.int .u64 r).wf = true by rw [← hr]; exact miss_wf hva (by omega) (by omega))
        have HR3 := Aside0.mk (show tgt r = t by rw [← hr, ← ht]; exact tgt_miss hva (by omega) (by omega))
        have hw1 := (miss_w1 (c := ctx % 8192) hva (by omega) (by omega)).trans hr
        have hw2 := (miss_w2 (c := ctx % 8192) hva (by omega) (by omega)).trans ht
        clear hr ht
        rcases (show unit % 2 = 0 ∨ unit % 2 = 1 by omega) with hz | hz
        · go_wp2_with (first | (go_at_call 25; refine (miss_ok HM.out 0 80 rfl rfl (by decide) va (ctx % 8192) r (by omega) (by omega) HR1.out HR2.out (by omega)).mono ?_; rintro e w5 ⟨rfl, hM, hg⟩; have HM1 := Aside0.mk hM; have R1 := Aside0.mk (show getOf (pk D 80 48 r) 80 48 = r by unfold getOf; rw [if_neg (by decide), rdk_same HM.out.own.isMap]); have R2 := Aside0.mk (show getOf (pk D 80 48 r) 80 0 = t by unfold getOf; rw [if_pos rfl, rdk_same HM.out.own.isMap]; exact HR3.out); clear HM hM hg) | (go_at_call 17; first | (refine (read_eq HM1.out 80 48 (by decide) (by decide) (by decide) r R1.out).mono ?_; rintro e wr2 ⟨rfl, hM, hg⟩; have HM2 := Aside0.mk hM; clear HM1 hM hg) | (refine (read_eq HM2.out 80 0 (by decide) (by decide) (by decide) t R2.out).mono ?_; rintro e wr3 ⟨rfl, hM, hg⟩; have HM3 := Aside0.mk hM; clear HM2 hM hg)) | (go_at_call 18; refine (lives_calls _).mono ?_; rintro e wl ⟨rfl, hg⟩; have HMl := Aside0.mk (HM3.out.same hg); clear hg) | go_in)
          go_ret
          exact ⟨rfl, HMl.out.below⟩
        · go_wp2_with (first | (go_at_call 25; refine (miss_ok HM.out 1 88 rfl rfl (by decide) va (ctx % 8192) r (by omega) (by omega) HR1.out HR2.out (by omega)).mono ?_; rintro e w5 ⟨rfl, hM, hg⟩; have HM1 := Aside0.mk hM; have R1 := Aside0.mk (show getOf (pk D 88 48 r) 88 48 = r by unfold getOf; rw [if_neg (by decide), rdk_same HM.out.own.isMap]); have R2 := Aside0.mk (show getOf (pk D 88 48 r) 88 0 = t by unfold getOf; rw [if_pos rfl, rdk_same HM.out.own.isMap]; exact HR3.out); clear HM hM hg) | (go_at_call 17; first | (refine (read_eq HM1.out 88 48 (by decide) (by decide) (by decide) r R1.out).mono ?_; rintro e wr2 ⟨rfl, hM, hg⟩; have HM2 := Aside0.mk hM; clear HM1 hM hg) | (refine (read_eq HM2.out 88 0 (by decide) (by decide) (by decide) t R2.out).mono ?_; rintro e wr3 ⟨rfl, hM, hg⟩; have HM3 := Aside0.mk hM; clear HM2 hM hg)) | (go_at_call 18; refine (lives_calls _).mono ?_; rintro e wl ⟨rfl, hg⟩; have HMl := Aside0.mk (HM3.out.same hg); clear hg) | go_in)
          go_ret
          exact ⟨rfl, HMl.out.below⟩
    · obtain rfl : i = len := by omega
      obtain ⟨r, hr⟩ : ∃ r, va / 8192 * 8192 + ctx % 8192 = r := ⟨_, rfl⟩
      obtain ⟨t, ht⟩ : ∃ t, ctx % 8192 * 281474976710656 + va / 4194304 = t := ⟨_, rfl⟩
      have HR1 := Aside0.mk ((miss_put (c := ctx % 8192) hva (by omega) (by omega)).trans (congrArg some hr))
      have HR2 := Aside0.mk (show (Lit.int .u64 r).wf = true by rw [← hr]; exact miss_wf hva (by omega) (by omega))
      have HR3 := Aside0.mk (show tgt r = t by rw [← hr, ← ht]; exact tgt_miss hva (by omega) (by omega))
      have hw1 := (miss_w1 (c := ctx % 8192) hva (by omega) (by omega)).trans hr
      have hw2 := (miss_w2 (c := ctx % 8192) hva (by omega) (by omega)).trans ht
      clear hr ht
      rcases (show unit % 2 = 0 ∨ unit % 2 = 1 by omega) with hz | hz
      · go_wp2_with (first | (go_at_call 25; refine (miss_ok HM.out 0 80 rfl rfl (by decide) va (ctx % 8192) r (by omega) (by omega) HR1.out HR2.out (by omega)).mono ?_; rintro e w5 ⟨rfl, hM, hg⟩; have HM1 := Aside0.mk hM; have R1 := Aside0.mk (show getOf (pk D 80 48 r) 80 48 = r by unfold getOf; rw [if_neg (by decide), rdk_same HM.out.own.isMap]); have R2 := Aside0.mk (show getOf (pk D 80 48 r) 80 0 = t by unfold getOf; rw [if_pos rfl, rdk_same HM.out.own.isMap]; exact HR3.out); clear HM hM hg) | (go_at_call 17; first | (refine (read_eq HM1.out 80 48 (by decide) (by decide) (by decide) r R1.out).mono ?_; rintro e wr2 ⟨rfl, hM, hg⟩; have HM2 := Aside0.mk hM; clear HM1 hM hg) | (refine (read_eq HM2.out 80 0 (by decide) (by decide) (by decide) t R2.out).mono ?_; rintro e wr3 ⟨rfl, hM, hg⟩; have HM3 := Aside0.mk hM; clear HM2 hM hg)) | (go_at_call 18; refine (lives_calls _).mono ?_; rintro e wl ⟨rfl, hg⟩; have HMl := Aside0.mk (HM3.out.same hg); clear hg) | go_in)
        go_ret
        exact ⟨rfl, HMl.out.below⟩
      · go_wp2_with (first | (go_at_call 25; refine (miss_ok HM.out 1 88 rfl rfl (by decide) va (ctx % 8192) r (by omega) (by omega) HR1.out HR2.out (by omega)).mono ?_; rintro e w5 ⟨rfl, hM, hg⟩; have HM1 := Aside0.mk hM; have R1 := Aside0.mk (show getOf (pk D 88 48 r) 88 48 = r by unfold getOf; rw [if_neg (by decide), rdk_same HM.out.own.isMap]); have R2 := Aside0.mk (show getOf (pk D 88 48 r) 88 0 = t by unfold getOf; rw [if_pos rfl, rdk_same HM.out.own.isMap]; exact HR3.out); clear HM hM hg) | (go_at_call 17; first | (refine (read_eq HM1.out 88 48 (by decide) (by decide) (by decide) r R1.out).mono ?_; rintro e wr2 ⟨rfl, hM, hg⟩; have HM2 := Aside0.mk hM; clear HM1 hM hg) | (refine (read_eq HM2.out 88 0 (by decide) (by decide) (by decide) t R2.out).mono ?_; rintro e wr3 ⟨rfl, hM, hg⟩; have HM3 := Aside0.mk hM; clear HM2 hM hg)) | (go_at_call 18; refine (lives_calls _).mono ?_; rintro e wl ⟨rfl, hg⟩; have HMl := Aside0.mk (HM3.out.same hg); clear hg) | go_in)
        go_ret
        exact ⟨rfl, HMl.out.below⟩
theorem misses_np (a0 : Option Addr) (len cap : Nat) (unit va ctx : Int) (w : World) (h0 : Deeds w a0 len) (hlen : len ≤ maxLen) (hu : (Lit.int .i64 (-unit - 1)).wf = true) (hva : (Lit.int .u64 va).wf = true) (hc : (Lit.int .i64 ctx).wf = true) (hu0 : 0 ≤ unit) (hc0 : 0 ≤ ctx) :
    Calls Try.prog 6 #[.slice a0 len cap, .int .i64 (-unit - 1), .int .u64 va, .int .i64 ctx] w fun e w' => e = .returned (.bool true) ∧ Below w.heap.size w w' := by
  have HB := Aside0.mk (Below.refl w.heap.size w)
  have H0 := Aside0.mk h0
  clear h0
  have HL := Aside0.mk hlen
  clear hlen
  have hR := Try.underlying38
  have hD := Try.underlying42
  obtain ⟨hu1, hu2⟩ := m_i64 hu
  obtain ⟨hc1, hc2⟩ := m_i64 hc
  go_enter Try.func6, Try.ntmps6
  go_wp2_with (first | (go_at_call 15; refine (new_calls HB.out (Nat.le_refl _)).mono ?_; rintro e wn ⟨p, mb, rfl, hM, hg⟩; have HM0 := Aside0.mk hM; clear hM hg) | ((with_reducible refine gate_dst (N := 10) rfl ?_); refine box_event ?hg (N := 10) ?hd (cs := #[.int .u64 0, .int .u64 0, .int .u64 0, .int .u64 0, .int .u64 0, .int .u64 0, .int .u64 0, .int .u64 0, .int .u64 0]) (t := 38) ?hr ?_; (case hd => rfl); (case hg => rfl); (case hr => first | (go_simp; done) | (go_simp; rfl)); intro gt hgb w2 hbox hb; have HT0 := Aside0.mk hbox; have GHT0 := Aside0.mk (below_grown hb); have LHT0 := Aside0.mk (Nat.le_of_eq hgb.symm); clear hgb hbox hb; have HM := Aside0.mk (HM0.out.same GHT0.out); have HT := Aside0.mk (show w2.heap[gt]? = some (.cells #[.int .u64 (rdk (.map []) 80 24), .int .u64 (rdk (.map []) 80 40), .int .u64 (rdk (.map []) 80 48), .int .u64 (rdk (.map []) 88 8), .int .u64 (rdk (.map []) 88 16), .int .u64 (rdk (.map []) 88 24), .int .u64 (rdk (.map []) 88 32), .int .u64 (rdk (.map []) 88 40), .int .u64 (rdk (.map []) 88 48)] 38 (0, 0)) from HT0.out); have HK := Aside0.mk (show mb ≠ gt ∧ p ≠ gt ∧ w.heap.size ≤ gt from ⟨Nat.ne_of_lt (Nat.lt_of_lt_of_le HM0.out.own.lt LHT0.out), Nat.ne_of_lt (Nat.lt_of_lt_of_le HM0.out.lt LHT0.out), Nat.le_trans HM0.out.hB LHT0.out⟩); clear HM0 HT0 GHT0 LHT0) | go_in)
  go_loopw [11] (fun v11 wr => ∃ (i n : Nat) (D : DataW Unit), v11 = .int .i64 i ∧ i ≤ 20 ∧ i ≤ len ∧ n ≤ 2 * i ∧ Aside0 (wr.heap[gt]? = some (.cells #[.int .u64 (rdk D 80 24), .int .u64 (rdk D 80 40), .int .u64 (rdk D 80 48), .int .u64 (rdk D 88 8), .int .u64 (rdk D 88 16), .int .u64 (rdk D 88 24), .int .u64 (rdk D 88 32), .int .u64 (rdk D 88 40), .int .u64 (rdk D 88 48)] 38 (0, 0))) ∧ Aside0 (Regs w.heap.size w p mb n D wr)) (fun v11 _ => 20 - (intOf v11).toNat)
  case atStart => exact ⟨0, 0, .map [], rfl, by omega, by omega, by omega, HT, HM⟩
  case round =>
    clear HT HM
    obtain ⟨i, n, D, rfl, hi, hil, hn, HT, HM⟩ := hrel
    by_cases h1 : i < len
    · by_cases h2 : i < 20
      · have h1' : (i : Int) < (len : Int) := by omega
        have h2' : (i : Int) < 20 := by omega
        have h3' : (0 : Int) ≤ (i : Int) := by omega
        obtain ⟨x, rfl, hd⟩ := H0.out.at i h1
        obtain ⟨kind, asi, un, num, place, v, store, priv, wa, wq, wv, e0, e1, e2, e3, e4, e5, e6, e7⟩ := hd
        have HWF := Aside0.mk (And.intro wa (And.intro wq wv))
        have E0 := Aside0.mk e0
        have E1 := Aside0.mk e1
        have E2 := Aside0.mk e2
        have E3 := Aside0.mk e3
        have E4 := Aside0.mk e4
        have E5 := Aside0.mk e5
        have E6 := Aside0.mk e6
        have E7 := Aside0.mk e7
        clear wa wq wv e0 e1 e2 e3 e4 e5 e6 e7
        go_wp2
        have HMd := Aside0.mk (HM.out.same (grown_drew _ _))
        have AHS := Aside0.mk (show wr.drew.heap[gt]? = some (.cells #[.int .u64 (rdk D 80 24), .int .u64 (rdk D 80 40), .int .u64 (rdk D 80 48), .int .u64 (rdk D 88 8), .int .u64 (rdk D 88 16), .int .u64 (rdk D 88 24), .int .u64 (rdk D 88 32), .int .u64 (rdk D 88 40), .int .u64 (rdk D 88 48)] 38 (0, 0)) ∧ wr.drew.cell? (x.add (i * 8)) = some (.int .i64 kind) ∧ wr.drew.cell? ⟨(x.add (i * 8)).block, (x.add (i * 8)).off + 1, none⟩ = some (.int .i64 asi) ∧ wr.drew.cell? ⟨(x.add (i * 8)).block, (x.add (i * 8)).off + 2, none⟩ = some (.int .i64 un) ∧ wr.drew.cell? ⟨(x.add (i * 8)).block, (x.add (i * 8)).off + 3, none⟩ = some (.int .i64 num) ∧ wr.drew.cell? ⟨(x.add (i * 8)).block, (x.add (i * 8)).off + 4, none⟩ = some (.int .u64 place) ∧ wr.drew.cell? ⟨(x.add (i * 8)).block, (x.add (i * 8)).off + 5, none⟩ = some (.int .u64 v) ∧ wr.drew.cell? ⟨(x.add (i * 8)).block, (x.add (i * 8)).off + 6, none⟩ = some (.bool store) ∧ wr.drew.cell? ⟨(x.add (i * 8)).block, (x.add (i * 8)).off + 7, none⟩ = some (.bool priv) from ⟨HT.out, (HMd.out.below.cell (cell_lt E0.out)).trans E0.out, (HMd.out.below.cell (cell_lt E1.out)).trans E1.out, (HMd.out.below.cell (cell_lt E2.out)).trans E2.out, (HMd.out.below.cell (cell_lt E3.out)).trans E3.out, (HMd.out.below.cell (cell_lt E4.out)).trans E4.out, (HMd.out.below.cell (cell_lt E5.out)).trans E5.out, (HMd.out.below.cell (cell_lt E6.out)).trans E6.out, (HMd.out.below.cell (cell_lt E7.out)).trans E7.out⟩)
        refine start_ (n := 11) (S := fun w' => w'.heap[gt]? = some (.cells #[.int .u64 (rdk D 80 24), .int .u64 (rdk D 80 40), .int .u64 (rdk D 80 48), .int .u64 (rdk D 88 8), .int .u64 (rdk D 88 16), .int .u64 (rdk D 88 24), .int .u64 (rdk D 88 32), .int .u64 (rdk D 88 40), .int .u64 (rdk D 88 48)] 38 (0, 0)) ∧ w'.cell? (x.add (i * 8)) = some (.int .i64 kind) ∧ w'.cell? ⟨(x.add (i * 8)).block, (x.add (i * 8)).off + 1, none⟩ = some (.int .i64 asi) ∧ w'.cell? ⟨(x.add (i * 8)).block, (x.add (i * 8)).off + 2, none⟩ = some (.int .i64 un) ∧ w'.cell? ⟨(x.add (i * 8)).block, (x.add (i * 8)).off + 3, none⟩ = some (.int .i64 num) ∧ w'.cell? ⟨(x.add (i * 8)).block, (x.add (i * 8)).off + 4, none⟩ = some (.int .u64 place) ∧ w'.cell? ⟨(x.add (i * 8)).block, (x.add (i * 8)).off + 5, none⟩ = some (.int .u64 v) ∧ w'.cell? ⟨(x.add (i * 8)).block, (x.add (i * 8)).off + 6, none⟩ = some (.bool store) ∧ w'.cell? ⟨(x.add (i * 8)).block, (x.add (i * 8)).off + 7, none⟩ = some (.bool priv)) (ds := [10]) #[false, false, false, false, false, false, false, false, false, false, false] (by kernel_rfl) rfl rfl AHS.out (fun hHeld => ?_)
        refine with_tab missesr_tab (fun HT_ => ?_)
        refine pure_ (i := 0) (N := some 32) (v := ?_) (a' := ?_) #[true, false, false, false, false, false, false, false, false, false, false] rfl rfl (any_of HT_.out (by kernel_rfl)) (fun _ _ _ h => h) (Or.inl ⟨by rfl, ?_⟩) ?_ ?_
        rotate_left
        · intro w'
          go_simp
          with_reducible rfl
        rotate_left
        · simp only [Act.put, List.setIfInBounds_toArray, List.set_cons_zero, List.set_cons_succ, i64_w, i32_w]
          rfl
        refine pure_ (i := 2) (N := some 34) (v := ?_) (a' := ?_) #[true, false, true, false, false, false, false, false, false, false, false] rfl rfl (any_of HT_.out (by kernel_rfl)) (fun _ _ _ h => h) (Or.inl ⟨by rfl, ?_⟩) ?_ ?_
        rotate_left
        · intro w'
          go_simp
          with_reducible rfl
        rotate_left
        · simp only [Act.put, List.setIfInBounds_toArray, List.set_cons_zero, List.set_cons_succ, i64_w, i32_w]
          rfl
        refine pure_ (i := 3) (N := some 35) (v := ?_) (a' := ?_) #[true, false, true, true, false, false, false, false, false, false, false] rfl rfl (any_of HT_.out (by kernel_rfl)) (fun _ _ _ h => h) (Or.inl ⟨by rfl, ?_⟩) ?_ ?_
        rotate_left
        · intro w'
          go_simp
          with_reducible rfl
        rotate_left
        · simp only [Act.put, List.setIfInBounds_toArray, List.set_cons_zero, List.set_cons_succ, i64_w, i32_w]
          rfl
        refine pure_ (i := 4) (N := some 36) (v := ?_) (a' := ?_) #[true, false, true, true, true, false, false, false, false, false, false] rfl rfl (any_of HT_.out (by kernel_rfl)) (fun _ _ _ h => h) (Or.inl ⟨by rfl, ?_⟩) ?_ ?_
        rotate_left
        · intro w'
          go_simp
          with_reducible rfl
        rotate_left
        · simp only [Act.put, List.setIfInBounds_toArray, List.set_cons_zero, List.set_cons_succ, i64_w, i32_w]
          rfl
        refine take_ (i := 1) (N := some 33) (v := .agg #[.int .u64 (rdk D 80 24), .int .u64 (rdk D 80 40), .int .u64 (rdk D 80 48), .int .u64 (rdk D 88 8), .int .u64 (rdk D 88 16), .int .u64 (rdk D 88 24), .int .u64 (rdk D 88 32), .int .u64 (rdk D 88 40), .int .u64 (rdk D 88 48)]) (a' := ?_) #[true, true, true, true, true, false, false, false, false, false, false] rfl rfl (take_of HT_.out (by kernel_rfl)) (fun _ _ _ h => h) (Or.inl ⟨by rfl, ?_⟩) hHeld ?_ ?_
        · rintro w' ⟨s8, s0, s1, s2, s3, s4, s5, s6, s7⟩
          obtain ⟨q0, q1, q2, q3, q4, q5, q6, q7, q8⟩ := cz9 s8
          go_simp
          first | done | (rw [hrun])
        rotate_left
        · simp only [Act.put, List.setIfInBounds_toArray, List.set_cons_zero, List.set_cons_succ, i64_w, i32_w]
          rfl
        refine take_ (i := 5) (N := some 37) (v := .agg #[.int .i64 kind, .int .i64 asi, .int .i64 un, .int .i64 num, .int .u64 place, .int .u64 v, .bool store, .bool priv]) (a' := ?_) #[true, true, true, true, true, true, false, false, false, false, false] rfl rfl (take_of HT_.out (by kernel_rfl)) (fun _ _ _ h => h) (Or.inl ⟨by rfl, ?_⟩) hHeld ?_ ?_
        · rintro w' ⟨s8, s0, s1, s2, s3, s4, s5, s6, s7⟩
          go_simp
          first | done | (rw [hrun])
        rotate_left
        · simp only [Act.put, List.setIfInBounds_toArray, List.set_cons_zero, List.set_cons_succ, i64_w, i32_w]
          rfl
        refine one_ (i := 6) (N := some 38) #[true, true, true, true, true, true, true, false, false, false, false] rfl rfl (one_of HT_.out (by kernel_rfl)) (by decide) (fun K hK => ?_)
        refine goes_ Try.func22 (by kernel_rfl) rfl #[.pointer (some ⟨p, 0, none⟩), .agg #[.int .u64 (rdk D 80 24), .int .u64 (rdk D 80 40), .int .u64 (rdk D 80 48), .int .u64 (rdk D 88 8), .int .u64 (rdk D 88 16), .int .u64 (rdk D 88 24), .int .u64 (rdk D 88 32), .int .u64 (rdk D 88 40), .int .u64 (rdk D 88 48)], .agg #[.int .i64 kind, .int .i64 asi, .int .i64 un, .int .i64 num, .int .u64 place, .int .u64 v, .bool store, .bool priv]] (by rfl) rfl rfl (by (try simp only [List.map_toArray, List.map_cons, List.map_nil]); first | done | rfl) ?_
        refine (does_lit HMd.out kind asi un num place v store priv HWF.out.1 HWF.out.2.1 HWF.out.2.2 (by omega)).mono ?_
        rintro e wn ⟨D', rfl, hR', hg'⟩
        obtain ⟨es, cl, hmb, hmo⟩ := HMd.out.own
        have SN := Aside0.mk (blk_mb AHS.out.1 hmb hg')
        have SNR := Aside0.mk hR'
        have SNE := Aside0.mk (show wn.heap[gt]? = some (.cells #[.int .u64 (rdk D 80 24), .int .u64 (rdk D 80 40), .int .u64 (rdk D 80 48), .int .u64 (rdk D 88 8), .int .u64 (rdk D 88 16), .int .u64 (rdk D 88 24), .int .u64 (rdk D 88 32), .int .u64 (rdk D 88 40), .int .u64 (rdk D 88 48)] 38 (0, 0)) ∧ wn.cell? (x.add (i * 8)) = some (.int .i64 kind) ∧ wn.cell? ⟨(x.add (i * 8)).block, (x.add (i * 8)).off + 1, none⟩ = some (.int .i64 asi) ∧ wn.cell? ⟨(x.add (i * 8)).block, (x.add (i * 8)).off + 2, none⟩ = some (.int .i64 un) ∧ wn.cell? ⟨(x.add (i * 8)).block, (x.add (i * 8)).off + 3, none⟩ = some (.int .i64 num) ∧ wn.cell? ⟨(x.add (i * 8)).block, (x.add (i * 8)).off + 4, none⟩ = some (.int .u64 place) ∧ wn.cell? ⟨(x.add (i * 8)).block, (x.add (i * 8)).off + 5, none⟩ = some (.int .u64 v) ∧ wn.cell? ⟨(x.add (i * 8)).block, (x.add (i * 8)).off + 6, none⟩ = some (.bool store) ∧ wn.cell? ⟨(x.add (i * 8)).block, (x.add (i * 8)).off + 7, none⟩ = some (.bool priv) from ⟨SN.out, (SNR.out.below.cell (cell_lt E0.out)).trans E0.out, (SNR.out.below.cell (cell_lt E1.out)).trans E1.out, (SNR.out.below.cell (cell_lt E2.out)).trans E2.out, (SNR.out.below.cell (cell_lt E3.out)).trans E3.out, (SNR.out.below.cell (cell_lt E4.out)).trans E4.out, (SNR.out.below.cell (cell_lt E5.out)).trans E5.out, (SNR.out.below.cell (cell_lt E6.out)).trans E6.out, (SNR.out.below.cell (cell_lt E7.out)).trans E7.out⟩)
        clear hmo hg' hR' hmb es cl
        refine ⟨_, rfl, ?_⟩
        refine hK.out _ _ SNE.out (fun hHeld => ?_)
        clear hK K
        refine norm_ (a' := ?_) ?_ ?_
        rotate_left
        · show Act.put _ (some 38) _ = _
          simp only [Act.put, List.setIfInBounds_toArray, List.set_cons_zero, List.set_cons_succ, i64_w, i32_w]
          rfl
        refine pure_ (i := 7) (N := some 31) (v := ?_) (a' := ?_) #[true, true, true, true, true, true, true, true, false, false, false] rfl rfl (any_of HT_.out (by kernel_rfl)) (fun _ _ _ h => h) (Or.inl ⟨by rfl, ?_⟩) ?_ ?_
        rotate_left
        · intro w'
          go_simp
          with_reducible rfl
        rotate_left
        · simp only [Act.put, List.setIfInBounds_toArray, List.set_cons_zero, List.set_cons_succ, i64_w, i32_w]
          rfl
        refine pure_ (i := 8) (N := some 39) (v := ?_) (a' := ?_) #[true, true, true, true, true, true, true, true, true, false, false] rfl rfl (any_of HT_.out (by kernel_rfl)) (fun _ _ _ h => h) (Or.inl ⟨by rfl, ?_⟩) ?_ ?_
        rotate_left
        · intro w'
          go_simp
          with_reducible rfl
        rotate_left
        · simp only [Act.put, List.setIfInBounds_toArray, List.set_cons_zero, List.set_cons_succ, i64_w, i32_w]
          rfl
        refine pure_ (i := 9) (N := some 40) (v := ?_) (a' := ?_) #[true, true, true, true, true, true, true, true, true, true, false] rfl rfl (any_of HT_.out (by kernel_rfl)) (fun _ _ _ h => h) (Or.inl ⟨by rfl, ?_⟩) ?_ ?_
        rotate_left
        · intro w'
          go_simp
          with_reducible rfl
        rotate_left
        · simp only [Act.put, List.setIfInBounds_toArray, List.set_cons_zero, List.set_cons_succ, i64_w, i32_w]
          rfl
        refine last_ (i := 10) (N := none) #[true, true, true, true, true, true, true, true, true, true, true] rfl rfl (one_of HT_.out (by kernel_rfl)) (by decide) (fun K hK => ?_)
        rw [if_pos (by rfl)]
        refine wp_store_row 38 (.tmp 10) (.tmp 39) rfl gt #[.int .u64 (rdk D' 80 24), .int .u64 (rdk D' 80 40), .int .u64 (rdk D' 80 48), .int .u64 (rdk D' 88 8), .int .u64 (rdk D' 88 16), .int .u64 (rdk D' 88 24), .int .u64 (rdk D' 88 32), .int .u64 (rdk D' 88 40), .int .u64 (rdk D' 88 48)] rfl rfl 38 #[.int .u64 (rdk D 80 24), .int .u64 (rdk D 80 40), .int .u64 (rdk D 80 48), .int .u64 (rdk D 88 8), .int .u64 (rdk D 88 16), .int .u64 (rdk D 88 24), .int .u64 (rdk D 88 32), .int .u64 (rdk D 88 40), .int .u64 (rdk D 88 48)] SN.out (by kernel_rfl) rfl (by kernel_rfl) ?_
        have SO := Aside0.mk (setRow_heap _ gt _ #[.int .u64 (rdk D' 80 24), .int .u64 (rdk D' 80 40), .int .u64 (rdk D' 80 48), .int .u64 (rdk D' 88 8), .int .u64 (rdk D' 88 16), .int .u64 (rdk D' 88 24), .int .u64 (rdk D' 88 32), .int .u64 (rdk D' 88 40), .int .u64 (rdk D' 88 48)] _ _ SN.out)
        have HRN := Aside0.mk (SNR.out.kept (grown_row wn gt #[.int .u64 (rdk D' 80 24), .int .u64 (rdk D' 80 40), .int .u64 (rdk D' 80 48), .int .u64 (rdk D' 88 8), .int .u64 (rdk D' 88 16), .int .u64 (rdk D' 88 24), .int .u64 (rdk D' 88 32), .int .u64 (rdk D' 88 40), .int .u64 (rdk D' 88 48)]) (fun e => HK.out.1 (Option.some.inj e)) (fun e => HK.out.2.1 (Option.some.inj e)) (fun k e => by cases e; exact HK.out.2.2))
        refine hK.out _ _ ?_
        clear hK K
        refine norm_ (a' := ?_) ?_ ?_
        rotate_left
        · show Act.put _ none _ = _
          rfl
        refine done_ (done_of HT_.out (by kernel_rfl)) ?_
        go_wp2
        go_roundw
        case rel => exact ⟨i + 1, n + 2, D', by go_num, by omega, by omega, by omega, SO, HRN⟩
        case measure => simp [intOf]; omega
      · obtain rfl : i = 20 := by omega
        have h1' : (20 : Int) < (len : Int) := by omega
        obtain ⟨r, hr⟩ : ∃ r, va / 8192 * 8192 + ctx % 8192 = r := ⟨_, rfl⟩
        obtain ⟨t, ht⟩ : ∃ t, ctx % 8192 * 281474976710656 + va / 4194304 = t := ⟨_, rfl⟩
        have HR1 := Aside0.mk ((miss_put (c := ctx % 8192) hva (by omega) (by omega)).trans (congrArg some hr))
        have HR2 := Aside0.mk (show (Lit.int .u64 r).wf = true by rw [← hr]; exact miss_wf hva (by omega) (by omega))
        have HR3 := Aside0.mk (show tgt r = t by rw [← hr, ← ht]; exact tgt_miss hva (by omega) (by omega))
        have hw1 := (miss_w1 (c := ctx % 8192) hva (by omega) (by omega)).trans hr
        have hw2 := (miss_w2 (c := ctx % 8192) hva (by omega) (by omega)).trans ht
        clear hr ht
        rcases (show unit % 2 = 0 ∨ unit % 2 = 1 by omega) with hz | hz
        · go_wp2_with (first | (go_at_call 25; refine (miss_ok HM.out 0 80 rfl rfl (by decide) va (ctx % 8192) r (by omega) (by omega) HR1.out HR2.out (by omega)).mono ?_; rintro e w5 ⟨rfl, hM, hg⟩; have HM1 := Aside0.mk hM; have R1 := Aside0.mk (show getOf (pk D 80 48 r) 80 48 = r by unfold getOf; rw [if_neg (by decide), rdk_same HM.out.own.isMap]); have R2 := Aside0.mk (show getOf (pk D 80 48 r) 80 0 = t by unfold getOf; rw [if_pos rfl, rdk_same HM.out.own.isMap]; exact HR3.out); clear HM hM hg) | (go_at_call 17; first | (refine (read_eq HM1.out 80 48 (by decide) (by decide) (by decide) r R1.out).mono ?_; rintro e wr2 ⟨rfl, hM, hg⟩; have HM2 := Aside0.mk hM; clear HM1 hM hg) | (refine (read_eq HM2.out 80 0 (by decide) (by decide) (by decide) t R2.out).mono ?_; rintro e wr3 ⟨rfl, hM, hg⟩; have HM3 := Aside0.mk hM; clear HM2 hM hg)) | (go_at_call 18; refine (lives_calls _).mono ?_; rintro e wl ⟨rfl, hg⟩; have HMl := Aside0.mk (HM3.out.same hg); clear hg) | go_in)
          go_ret
          exact ⟨rfl, HMl.out.below⟩
        · go_wp2_with (first | (go_at_call 25; refine (miss_ok HM.out 1 88 rfl rfl (by decide) va (ctx % 8192) r (by omega) (by omega) HR1.out HR2.out (by omega)).mono ?_; rintro e w5 ⟨rfl, hM, hg⟩; have HM1 := Aside0.mk hM; have R1 := Aside0.mk (show getOf (pk D 88 48 r) 88 48 = r by unfold getOf; rw [if_neg (by decide), rdk_same HM.out.own.isMap]); have R2 := Aside0.mk (show getOf (pk D 88 48 r) 88 0 = t by unfold getOf; rw [if_pos rfl, rdk_same HM.out.own.isMap]; exact HR3.out); clear HM hM hg) | (go_at_call 17; first | (refine (read_eq HM1.out 88 48 (by decide) (by decide) (by decide) r R1.out).mono ?_; rintro e wr2 ⟨rfl, hM, hg⟩; have HM2 := Aside0.mk hM; clear HM1 hM hg) | (refine (read_eq HM2.out 88 0 (by decide) (by decide) (by decide) t R2.out).mono ?_; rintro e wr3 ⟨rfl, hM, hg⟩; have HM3 := Aside0.mk hM; clear HM2 hM hg)) | (go_at_call 18; refine (lives_calls _).mono ?_; rintro e wl ⟨rfl, hg⟩; have HMl := Aside0.mk (HM3.out.same hg); clear hg) | go_in)
          go_ret
          exact ⟨rfl, HMl.out.below⟩
    · obtain rfl : i = len := by omega
      obtain ⟨r, hr⟩ : ∃ r, va / 8192 * 8192 + ctx % 8192 = r := ⟨_, rfl⟩
      obtain ⟨t, ht⟩ : ∃ t, ctx % 8192 * 281474976710656 + va / 4194304 = t := ⟨_, rfl⟩
      have HR1 := Aside0.mk ((miss_put (c := ctx % 8192) hva (by omega) (by omega)).trans (congrArg some hr))
      have HR2 := Aside0.mk (show (Lit.int .u64 r).wf = true by rw [← hr]; exact miss_wf hva (by omega) (by omega))
      have HR3 := Aside0.mk (show tgt r = t by rw [← hr, ← ht]; exact tgt_miss hva (by omega) (by omega))
      have hw1 := (miss_w1 (c := ctx % 8192) hva (by omega) (by omega)).trans hr
      have hw2 := (miss_w2 (c := ctx % 8192) hva (by omega) (by omega)).trans ht
      clear hr ht
      rcases (show unit % 2 = 0 ∨ unit % 2 = 1 by omega) with hz | hz
      · go_wp2_with (first | (go_at_call 25; refine (miss_ok HM.out 0 80 rfl rfl (by decide) va (ctx % 8192) r (by omega) (by omega) HR1.out HR2.out (by omega)).mono ?_; rintro e w5 ⟨rfl, hM, hg⟩; have HM1 := Aside0.mk hM; have R1 := Aside0.mk (show getOf (pk D 80 48 r) 80 48 = r by unfold getOf; rw [if_neg (by decide), rdk_same HM.out.own.isMap]); have R2 := Aside0.mk (show getOf (pk D 80 48 r) 80 0 = t by unfold getOf; rw [if_pos rfl, rdk_same HM.out.own.isMap]; exact HR3.out); clear HM hM hg) | (go_at_call 17; first | (refine (read_eq HM1.out 80 48 (by decide) (by decide) (by decide) r R1.out).mono ?_; rintro e wr2 ⟨rfl, hM, hg⟩; have HM2 := Aside0.mk hM; clear HM1 hM hg) | (refine (read_eq HM2.out 80 0 (by decide) (by decide) (by decide) t R2.out).mono ?_; rintro e wr3 ⟨rfl, hM, hg⟩; have HM3 := Aside0.mk hM; clear HM2 hM hg)) | (go_at_call 18; refine (lives_calls _).mono ?_; rintro e wl ⟨rfl, hg⟩; have HMl := Aside0.mk (HM3.out.same hg); clear hg) | go_in)
        go_ret
        exact ⟨rfl, HMl.out.below⟩
      · go_wp2_with (first | (go_at_call 25; refine (miss_ok HM.out 1 88 rfl rfl (by decide) va (ctx % 8192) r (by omega) (by omega) HR1.out HR2.out (by omega)).mono ?_; rintro e w5 ⟨rfl, hM, hg⟩; have HM1 := Aside0.mk hM; have R1 := Aside0.mk (show getOf (pk D 88 48 r) 88 48 = r by unfold getOf; rw [if_neg (by decide), rdk_same HM.out.own.isMap]); have R2 := Aside0.mk (show getOf (pk D 88 48 r) 88 0 = t by unfold getOf; rw [if_pos rfl, rdk_same HM.out.own.isMap]; exact HR3.out); clear HM hM hg) | (go_at_call 17; first | (refine (read_eq HM1.out 88 48 (by decide) (by decide) (by decide) r R1.out).mono ?_; rintro e wr2 ⟨rfl, hM, hg⟩; have HM2 := Aside0.mk hM; clear HM1 hM hg) | (refine (read_eq HM2.out 88 0 (by decide) (by decide) (by decide) t R2.out).mono ?_; rintro e wr3 ⟨rfl, hM, hg⟩; have HM3 := Aside0.mk hM; clear HM2 hM hg)) | (go_at_call 18; refine (lives_calls _).mono ?_; rintro e wl ⟨rfl, hg⟩; have HMl := Aside0.mk (HM3.out.same hg); clear hg) | go_in)
        go_ret
        exact ⟨rfl, HMl.out.below⟩
theorem misses_pn (a0 : Option Addr) (len cap : Nat) (unit va ctx : Int) (w : World) (h0 : Deeds w a0 len) (hlen : len ≤ maxLen) (hu : (Lit.int .i64 unit).wf = true) (hva : (Lit.int .u64 va).wf = true) (hc : (Lit.int .i64 (-ctx - 1)).wf = true) (hu0 : 0 ≤ unit) (hc0 : 0 ≤ ctx) :
    Calls Try.prog 6 #[.slice a0 len cap, .int .i64 unit, .int .u64 va, .int .i64 (-ctx - 1)] w fun e w' => e = .returned (.bool true) ∧ Below w.heap.size w w' := by
  have HB := Aside0.mk (Below.refl w.heap.size w)
  have H0 := Aside0.mk h0
  clear h0
  have HL := Aside0.mk hlen
  clear hlen
  have hR := Try.underlying38
  have hD := Try.underlying42
  obtain ⟨hu1, hu2⟩ := m_i64 hu
  obtain ⟨hc1, hc2⟩ := m_i64 hc
  go_enter Try.func6, Try.ntmps6
  go_wp2_with (first | (go_at_call 15; refine (new_calls HB.out (Nat.le_refl _)).mono ?_; rintro e wn ⟨p, mb, rfl, hM, hg⟩; have HM0 := Aside0.mk hM; clear hM hg) | ((with_reducible refine gate_dst (N := 10) rfl ?_); refine box_event ?hg (N := 10) ?hd (cs := #[.int .u64 0, .int .u64 0, .int .u64 0, .int .u64 0, .int .u64 0, .int .u64 0, .int .u64 0, .int .u64 0, .int .u64 0]) (t := 38) ?hr ?_; (case hd => rfl); (case hg => rfl); (case hr => first | (go_simp; done) | (go_simp; rfl)); intro gt hgb w2 hbox hb; have HT0 := Aside0.mk hbox; have GHT0 := Aside0.mk (below_grown hb); have LHT0 := Aside0.mk (Nat.le_of_eq hgb.symm); clear hgb hbox hb; have HM := Aside0.mk (HM0.out.same GHT0.out); have HT := Aside0.mk (show w2.heap[gt]? = some (.cells #[.int .u64 (rdk (.map []) 80 24), .int .u64 (rdk (.map []) 80 40), .int .u64 (rdk (.map []) 80 48), .int .u64 (rdk (.map []) 88 8), .int .u64 (rdk (.map []) 88 16), .int .u64 (rdk (.map []) 88 24), .int .u64 (rdk (.map []) 88 32), .int .u64 (rdk (.map []) 88 40), .int .u64 (rdk (.map []) 88 48)] 38 (0, 0)) from HT0.out); have HK := Aside0.mk (show mb ≠ gt ∧ p ≠ gt ∧ w.heap.size ≤ gt from ⟨Nat.ne_of_lt (Nat.lt_of_lt_of_le HM0.out.own.lt LHT0.out), Nat.ne_of_lt (Nat.lt_of_lt_of_le HM0.out.lt LHT0.out), Nat.le_trans HM0.out.hB LHT0.out⟩); clear HM0 HT0 GHT0 LHT0) | go_in)
  go_loopw [11] (fun v11 wr => ∃ (i n : Nat) (D : DataW Unit), v11 = .int .i64 i ∧ i ≤ 20 ∧ i ≤ len ∧ n ≤ 2 * i ∧ Aside0 (wr.heap[gt]? = some (.cells #[.int .u64 (rdk D 80 24), .int .u64 (rdk D 80 40), .int .u64 (rdk D 80 48), .int .u64 (rdk D 88 8), .int .u64 (rdk D 88 16), .int .u64 (rdk D 88 24), .int .u64 (rdk D 88 32), .int .u64 (rdk D 88 40), .int .u64 (rdk D 88 48)] 38 (0, 0))) ∧ Aside0 (Regs w.heap.size w p mb n D wr)) (fun v11 _ => 20 - (intOf v11).toNat)
  case atStart => exact ⟨0, 0, .map [], rfl, by omega, by omega, by omega, HT, HM⟩
  case round =>
    clear HT HM
    obtain ⟨i, n, D, rfl, hi, hil, hn, HT, HM⟩ := hrel
    by_cases h1 : i < len
    · by_cases h2 : i < 20
      · have h1' : (i : Int) < (len : Int) := by omega
        have h2' : (i : Int) < 20 := by omega
        have h3' : (0 : Int) ≤ (i : Int) := by omega
        obtain ⟨x, rfl, hd⟩ := H0.out.at i h1
        obtain ⟨kind, asi, un, num, place, v, store, priv, wa, wq, wv, e0, e1, e2, e3, e4, e5, e6, e7⟩ := hd
        have HWF := Aside0.mk (And.intro wa (And.intro wq wv))
        have E0 := Aside0.mk e0
        have E1 := Aside0.mk e1
        have E2 := Aside0.mk e2
        have E3 := Aside0.mk e3
        have E4 := Aside0.mk e4
        have E5 := Aside0.mk e5
        have E6 := Aside0.mk e6
        have E7 := Aside0.mk e7
        clear wa wq wv e0 e1 e2 e3 e4 e5 e6 e7
        go_wp2
        have HMd := Aside0.mk (HM.out.same (grown_drew _ _))
        have AHS := Aside0.mk (show wr.drew.heap[gt]? = some (.cells #[.int .u64 (rdk D 80 24), .int .u64 (rdk D 80 40), .int .u64 (rdk D 80 48), .int .u64 (rdk D 88 8), .int .u64 (rdk D 88 16), .int .u64 (rdk D 88 24), .int .u64 (rdk D 88 32), .int .u64 (rdk D 88 40), .int .u64 (rdk D 88 48)] 38 (0, 0)) ∧ wr.drew.cell? (x.add (i * 8)) = some (.int .i64 kind) ∧ wr.drew.cell? ⟨(x.add (i * 8)).block, (x.add (i * 8)).off + 1, none⟩ = some (.int .i64 asi) ∧ wr.drew.cell? ⟨(x.add (i * 8)).block, (x.add (i * 8)).off + 2, none⟩ = some (.int .i64 un) ∧ wr.drew.cell? ⟨(x.add (i * 8)).block, (x.add (i * 8)).off + 3, none⟩ = some (.int .i64 num) ∧ wr.drew.cell? ⟨(x.add (i * 8)).block, (x.add (i * 8)).off + 4, none⟩ = some (.int .u64 place) ∧ wr.drew.cell? ⟨(x.add (i * 8)).block, (x.add (i * 8)).off + 5, none⟩ = some (.int .u64 v) ∧ wr.drew.cell? ⟨(x.add (i * 8)).block, (x.add (i * 8)).off + 6, none⟩ = some (.bool store) ∧ wr.drew.cell? ⟨(x.add (i * 8)).block, (x.add (i * 8)).off + 7, none⟩ = some (.bool priv) from ⟨HT.out, (HMd.out.below.cell (cell_lt E0.out)).trans E0.out, (HMd.out.below.cell (cell_lt E1.out)).trans E1.out, (HMd.out.below.cell (cell_lt E2.out)).trans E2.out, (HMd.out.below.cell (cell_lt E3.out)).trans E3.out, (HMd.out.below.cell (cell_lt E4.out)).trans E4.out, (HMd.out.below.cell (cell_lt E5.out)).trans E5.out, (HMd.out.below.cell (cell_lt E6.out)).trans E6.out, (HMd.out.below.cell (cell_lt E7.out)).trans E7.out⟩)
        refine start_ (n := 11) (S := fun w' => w'.heap[gt]? = some (.cells #[.int .u64 (rdk D 80 24), .int .u64 (rdk D 80 40), .int .u64 (rdk D 80 48), .int .u64 (rdk D 88 8), .int .u64 (rdk D 88 16), .int .u64 (rdk D 88 24), .int .u64 (rdk D 88 32), .int .u64 (rdk D 88 40), .int .u64 (rdk D 88 48)] 38 (0, 0)) ∧ w'.cell? (x.add (i * 8)) = some (.int .i64 kind) ∧ w'.cell? ⟨(x.add (i * 8)).block, (x.add (i * 8)).off + 1, none⟩ = some (.int .i64 asi) ∧ w'.cell? ⟨(x.add (i * 8)).block, (x.add (i * 8)).off + 2, none⟩ = some (.int .i64 un) ∧ w'.cell? ⟨(x.add (i * 8)).block, (x.add (i * 8)).off + 3, none⟩ = some (.int .i64 num) ∧ w'.cell? ⟨(x.add (i * 8)).block, (x.add (i * 8)).off + 4, none⟩ = some (.int .u64 place) ∧ w'.cell? ⟨(x.add (i * 8)).block, (x.add (i * 8)).off + 5, none⟩ = some (.int .u64 v) ∧ w'.cell? ⟨(x.add (i * 8)).block, (x.add (i * 8)).off + 6, none⟩ = some (.bool store) ∧ w'.cell? ⟨(x.add (i * 8)).block, (x.add (i * 8)).off + 7, none⟩ = some (.bool priv)) (ds := [10]) #[false, false, false, false, false, false, false, false, false, false, false] (by kernel_rfl) rfl rfl AHS.out (fun hHeld => ?_)
        refine with_tab missesr_tab (fun HT_ => ?_)
        refine pure_ (i := 0) (N := some 32) (v := ?_) (a' := ?_) #[true, false, false, false, false, false, false, false, false, false, false] rfl rfl (any_of HT_.out (by kernel_rfl)) (fun _ _ _ h => h) (Or.inl ⟨by rfl, ?_⟩) ?_ ?_
        rotate_left
        · intro w'
          go_simp
          with_reducible rfl
        rotate_left
        · simp only [Act.put, List.setIfInBounds_toArray, List.set_cons_zero, List.set_cons_succ, i64_w, i32_w]
          rfl
        refine pure_ (i := 2) (N := some 34) (v := ?_) (a' := ?_) #[true, false, true, false, false, false, false, false, false, false, false] rfl rfl (any_of HT_.out (by kernel_rfl)) (fun _ _ _ h => h) (Or.inl ⟨by rfl, ?_⟩) ?_ ?_
        rotate_left
        · intro w'
          go_simp
          with_reducible rfl
        rotate_left
        · simp only [Act.put, List.setIfInBounds_toArray, List.set_cons_zero, List.set_cons_succ, i64_w, i32_w]
          rfl
        refine pure_ (i := 3) (N := some 35) (v := ?_) (a' := ?_) #[true, false, true, true, false, false, false, false, false, false, false] rfl rfl (any_of HT_.out (by kernel_rfl)) (fun _ _ _ h => h) (Or.inl ⟨by rfl, ?_⟩) ?_ ?_
        rotate_left
        · intro w'
          go_simp
          with_reducible rfl
        rotate_left
        · simp only [Act.put, List.setIfInBounds_toArray, List.set_cons_zero, List.set_cons_succ, i64_w, i32_w]
          rfl
        refine pure_ (i := 4) (N := some 36) (v := ?_) (a' := ?_) #[true, false, true, true, true, false, false, false, false, false, false] rfl rfl (any_of HT_.out (by kernel_rfl)) (fun _ _ _ h => h) (Or.inl ⟨by rfl, ?_⟩) ?_ ?_
        rotate_left
        · intro w'
          go_simp
          with_reducible rfl
        rotate_left
        · simp only [Act.put, List.setIfInBounds_toArray, List.set_cons_zero, List.set_cons_succ, i64_w, i32_w]
          rfl
        refine take_ (i := 1) (N := some 33) (v := .agg #[.int .u64 (rdk D 80 24), .int .u64 (rdk D 80 40), .int .u64 (rdk D 80 48), .int .u64 (rdk D 88 8), .int .u64 (rdk D 88 16), .int .u64 (rdk D 88 24), .int .u64 (rdk D 88 32), .int .u64 (rdk D 88 40), .int .u64 (rdk D 88 48)]) (a' := ?_) #[true, true, true, true, true, false, false, false, false, false, false] rfl rfl (take_of HT_.out (by kernel_rfl)) (fun _ _ _ h => h) (Or.inl ⟨by rfl, ?_⟩) hHeld ?_ ?_
        · rintro w' ⟨s8, s0, s1, s2, s3, s4, s5, s6, s7⟩
          obtain ⟨q0, q1, q2, q3, q4, q5, q6, q7, q8⟩ := cz9 s8
          go_simp
          first | done | (rw [hrun])
        rotate_left
        · simp only [Act.put, List.setIfInBounds_toArray, List.set_cons_zero, List.set_cons_succ, i64_w, i32_w]
          rfl
        refine take_ (i := 5) (N := some 37) (v := .agg #[.int .i64 kind, .int .i64 asi, .int .i64 un, .int .i64 num, .int .u64 place, .int .u64 v, .bool store, .bool priv]) (a' := ?_) #[true, true, true, true, true, true, false, false, false, false, false] rfl rfl (take_of HT_.out (by kernel_rfl)) (fun _ _ _ h => h) (Or.inl ⟨by rfl, ?_⟩) hHeld ?_ ?_
        · rintro w' ⟨s8, s0, s1, s2, s3, s4, s5, s6, s7⟩
          go_simp
          first | done | (rw [hrun])
        rotate_left
        · simp only [Act.put, List.setIfInBounds_toArray, List.set_cons_zero, List.set_cons_succ, i64_w, i32_w]
          rfl
        refine one_ (i := 6) (N := some 38) #[true, true, true, true, true, true, true, false, false, false, false] rfl rfl (one_of HT_.out (by kernel_rfl)) (by decide) (fun K hK => ?_)
        refine goes_ Try.func22 (by kernel_rfl) rfl #[.pointer (some ⟨p, 0, none⟩), .agg #[.int .u64 (rdk D 80 24), .int .u64 (rdk D 80 40), .int .u64 (rdk D 80 48), .int .u64 (rdk D 88 8), .int .u64 (rdk D 88 16), .int .u64 (rdk D 88 24), .int .u64 (rdk D 88 32), .int .u64 (rdk D 88 40), .int .u64 (rdk D 88 48)], .agg #[.int .i64 kind, .int .i64 asi, .int .i64 un, .int .i64 num, .int .u64 place, .int .u64 v, .bool store, .bool priv]] (by rfl) rfl rfl (by (try simp only [List.map_toArray, List.map_cons, List.map_nil]); first | done | rfl) ?_
        refine (does_lit HMd.out kind asi un num place v store priv HWF.out.1 HWF.out.2.1 HWF.out.2.2 (by omega)).mono ?_
        rintro e wn ⟨D', rfl, hR', hg'⟩
        obtain ⟨es, cl, hmb, hmo⟩ := HMd.out.own
        have SN := Aside0.mk (blk_mb AHS.out.1 hmb hg')
        have SNR := Aside0.mk hR'
        have SNE := Aside0.mk (show wn.heap[gt]? = some (.cells #[.int .u64 (rdk D 80 24), .int .u64 (rdk D 80 40), .int .u64 (rdk D 80 48), .int .u64 (rdk D 88 8), .int .u64 (rdk D 88 16), .int .u64 (rdk D 88 24), .int .u64 (rdk D 88 32), .int .u64 (rdk D 88 40), .int .u64 (rdk D 88 48)] 38 (0, 0)) ∧ wn.cell? (x.add (i * 8)) = some (.int .i64 kind) ∧ wn.cell? ⟨(x.add (i * 8)).block, (x.add (i * 8)).off + 1, none⟩ = some (.int .i64 asi) ∧ wn.cell? ⟨(x.add (i * 8)).block, (x.add (i * 8)).off + 2, none⟩ = some (.int .i64 un) ∧ wn.cell? ⟨(x.add (i * 8)).block, (x.add (i * 8)).off + 3, none⟩ = some (.int .i64 num) ∧ wn.cell? ⟨(x.add (i * 8)).block, (x.add (i * 8)).off + 4, none⟩ = some (.int .u64 place) ∧ wn.cell? ⟨(x.add (i * 8)).block, (x.add (i * 8)).off + 5, none⟩ = some (.int .u64 v) ∧ wn.cell? ⟨(x.add (i * 8)).block, (x.add (i * 8)).off + 6, none⟩ = some (.bool store) ∧ wn.cell? ⟨(x.add (i * 8)).block, (x.add (i * 8)).off + 7, none⟩ = some (.bool priv) from ⟨SN.out, (SNR.out.below.cell (cell_lt E0.out)).trans E0.out, (SNR.out.below.cell (cell_lt E1.out)).trans E1.out, (SNR.out.below.cell (cell_lt E2.out)).trans E2.out, (SNR.out.below.cell (cell_lt E3.out)).trans E3.out, (SNR.out.below.cell (cell_lt E4.out)).trans E4.out, (SNR.out.below.cell (cell_lt E5.out)).trans E5.out, (SNR.out.below.cell (cell_lt E6.out)).trans E6.out, (SNR.out.below.cell (cell_lt E7.out)).trans E7.out⟩)
        clear hmo hg' hR' hmb es cl
        refine ⟨_, rfl, ?_⟩
        refine hK.out _ _ SNE.out (fun hHeld => ?_)
        clear hK K
        refine norm_ (a' := ?_) ?_ ?_
        rotate_left
        · show Act.put _ (some 38) _ = _
          simp only [Act.put, List.setIfInBounds_toArray, List.set_cons_zero, List.set_cons_succ, i64_w, i32_w]
          rfl
        refine pure_ (i := 7) (N := some 31) (v := ?_) (a' := ?_) #[true, true, true, true, true, true, true, true, false, false, false] rfl rfl (any_of HT_.out (by kernel_rfl)) (fun _ _ _ h => h) (Or.inl ⟨by rfl, ?_⟩) ?_ ?_
        rotate_left
        · intro w'
          go_simp
          with_reducible rfl
        rotate_left
        · simp only [Act.put, List.setIfInBounds_toArray, List.set_cons_zero, List.set_cons_succ, i64_w, i32_w]
          rfl
        refine pure_ (i := 8) (N := some 39) (v := ?_) (a' := ?_) #[true, true, true, true, true, true, true, true, true, false, false] rfl rfl (any_of HT_.out (by kernel_rfl)) (fun _ _ _ h => h) (Or.inl ⟨by rfl, ?_⟩) ?_ ?_
        rotate_left
        · intro w'
          go_simp
          with_reducible rfl
        rotate_left
        · simp only [Act.put, List.setIfInBounds_toArray, List.set_cons_zero, List.set_cons_succ, i64_w, i32_w]
          rfl
        refine pure_ (i := 9) (N := some 40) (v := ?_) (a' := ?_) #[true, true, true, true, true, true, true, true, true, true, false] rfl rfl (any_of HT_.out (by kernel_rfl)) (fun _ _ _ h => h) (Or.inl ⟨by rfl, ?_⟩) ?_ ?_
        rotate_left
        · intro w'
          go_simp
          with_reducible rfl
        rotate_left
        · simp only [Act.put, List.setIfInBounds_toArray, List.set_cons_zero, List.set_cons_succ, i64_w, i32_w]
          rfl
        refine last_ (i := 10) (N := none) #[true, true, true, true, true, true, true, true, true, true, true] rfl rfl (one_of HT_.out (by kernel_rfl)) (by decide) (fun K hK => ?_)
        rw [if_pos (by rfl)]
        refine wp_store_row 38 (.tmp 10) (.tmp 39) rfl gt #[.int .u64 (rdk D' 80 24), .int .u64 (rdk D' 80 40), .int .u64 (rdk D' 80 48), .int .u64 (rdk D' 88 8), .int .u64 (rdk D' 88 16), .int .u64 (rdk D' 88 24), .int .u64 (rdk D' 88 32), .int .u64 (rdk D' 88 40), .int .u64 (rdk D' 88 48)] rfl rfl 38 #[.int .u64 (rdk D 80 24), .int .u64 (rdk D 80 40), .int .u64 (rdk D 80 48), .int .u64 (rdk D 88 8), .int .u64 (rdk D 88 16), .int .u64 (rdk D 88 24), .int .u64 (rdk D 88 32), .int .u64 (rdk D 88 40), .int .u64 (rdk D 88 48)] SN.out (by kernel_rfl) rfl (by kernel_rfl) ?_
        have SO := Aside0.mk (setRow_heap _ gt _ #[.int .u64 (rdk D' 80 24), .int .u64 (rdk D' 80 40), .int .u64 (rdk D' 80 48), .int .u64 (rdk D' 88 8), .int .u64 (rdk D' 88 16), .int .u64 (rdk D' 88 24), .int .u64 (rdk D' 88 32), .int .u64 (rdk D' 88 40), .int .u64 (rdk D' 88 48)] _ _ SN.out)
        have HRN := Aside0.mk (SNR.out.kept (grown_row wn gt #[.int .u64 (rdk D' 80 24), .int .u64 (rdk D' 80 40), .int .u64 (rdk D' 80 48), .int .u64 (rdk D' 88 8), .int .u64 (rdk D' 88 16), .int .u64 (rdk D' 88 24), .int .u64 (rdk D' 88 32), .int .u64 (rdk D' 88 40), .int .u64 (rdk D' 88 48)]) (fun e => HK.out.1 (Option.some.inj e)) (fun e => HK.out.2.1 (Option.some.inj e)) (fun k e => by cases e; exact HK.out.2.2))
        refine hK.out _ _ ?_
        clear hK K
        refine norm_ (a' := ?_) ?_ ?_
        rotate_left
        · show Act.put _ none _ = _
          rfl
        refine done_ (done_of HT_.out (by kernel_rfl)) ?_
        go_wp2
        go_roundw
        case rel => exact ⟨i + 1, n + 2, D', by go_num, by omega, by omega, by omega, SO, HRN⟩
        case measure => simp [intOf]; omega
      · obtain rfl : i = 20 := by omega
        have h1' : (20 : Int) < (len : Int) := by omega
        obtain ⟨r, hr⟩ : ∃ r, va / 8192 * 8192 + ctx % 8192 = r := ⟨_, rfl⟩
        obtain ⟨t, ht⟩ : ∃ t, ctx % 8192 * 281474976710656 + va / 4194304 = t := ⟨_, rfl⟩
        have HR1 := Aside0.mk ((miss_put (c := ctx % 8192) hva (by omega) (by omega)).trans (congrArg some hr))
        have HR2 := Aside0.mk (show (Lit.int .u64 r).wf = true by rw [← hr]; exact miss_wf hva (by omega) (by omega))
        have HR3 := Aside0.mk (show tgt r = t by rw [← hr, ← ht]; exact tgt_miss hva (by omega) (by omega))
        have hw1 := (miss_w1 (c := ctx % 8192) hva (by omega) (by omega)).trans hr
        have hw2 := (miss_w2 (c := ctx % 8192) hva (by omega) (by omega)).trans ht
        clear hr ht
        rcases (show unit % 2 = 0 ∨ unit % 2 = 1 by omega) with hz | hz
        · go_wp2_with (first | (go_at_call 25; refine (miss_ok HM.out 0 80 rfl rfl (by decide) va (ctx % 8192) r (by omega) (by omega) HR1.out HR2.out (by omega)).mono ?_; rintro e w5 ⟨rfl, hM, hg⟩; have HM1 := Aside0.mk hM; have R1 := Aside0.mk (show getOf (pk D 80 48 r) 80 48 = r by unfold getOf; rw [if_neg (by decide), rdk_same HM.out.own.isMap]); have R2 := Aside0.mk (show getOf (pk D 80 48 r) 80 0 = t by unfold getOf; rw [if_pos rfl, rdk_same HM.out.own.isMap]; exact HR3.out); clear HM hM hg) | (go_at_call 17; first | (refine (read_eq HM1.out 80 48 (by decide) (by decide) (by decide) r R1.out).mono ?_; rintro e wr2 ⟨rfl, hM, hg⟩; have HM2 := Aside0.mk hM; clear HM1 hM hg) | (refine (read_eq HM2.out 80 0 (by decide) (by decide) (by decide) t R2.out).mono ?_; rintro e wr3 ⟨rfl, hM, hg⟩; have HM3 := Aside0.mk hM; clear HM2 hM hg)) | (go_at_call 18; refine (lives_calls _).mono ?_; rintro e wl ⟨rfl, hg⟩; have HMl := Aside0.mk (HM3.out.same hg); clear hg) | go_in)
          go_ret
          exact ⟨rfl, HMl.out.below⟩
        · go_wp2_with (first | (go_at_call 25; refine (miss_ok HM.out 1 88 rfl rfl (by decide) va (ctx % 8192) r (by omega) (by omega) HR1.out HR2.out (by omega)).mono ?_; rintro e w5 ⟨rfl, hM, hg⟩; have HM1 := Aside0.mk hM; have R1 := Aside0.mk (show getOf (pk D 88 48 r) 88 48 = r by unfold getOf; rw [if_neg (by decide), rdk_same HM.out.own.isMap]); have R2 := Aside0.mk (show getOf (pk D 88 48 r) 88 0 = t by unfold getOf; rw [if_pos rfl, rdk_same HM.out.own.isMap]; exact HR3.out); clear HM hM hg) | (go_at_call 17; first | (refine (read_eq HM1.out 88 48 (by decide) (by decide) (by decide) r R1.out).mono ?_; rintro e wr2 ⟨rfl, hM, hg⟩; have HM2 := Aside0.mk hM; clear HM1 hM hg) | (refine (read_eq HM2.out 88 0 (by decide) (by decide) (by decide) t R2.out).mono ?_; rintro e wr3 ⟨rfl, hM, hg⟩; have HM3 := Aside0.mk hM; clear HM2 hM hg)) | (go_at_call 18; refine (lives_calls _).mono ?_; rintro e wl ⟨rfl, hg⟩; have HMl := Aside0.mk (HM3.out.same hg); clear hg) | go_in)
          go_ret
          exact ⟨rfl, HMl.out.below⟩
    · obtain rfl : i = len := by omega
      obtain ⟨r, hr⟩ : ∃ r, va / 8192 * 8192 + ctx % 8192 = r := ⟨_, rfl⟩
      obtain ⟨t, ht⟩ : ∃ t, ctx % 8192 * 281474976710656 + va / 4194304 = t := ⟨_, rfl⟩
      have HR1 := Aside0.mk ((miss_put (c := ctx % 8192) hva (by omega) (by omega)).trans (congrArg some hr))
      have HR2 := Aside0.mk (show (Lit.int .u64 r).wf = true by rw [← hr]; exact miss_wf hva (by omega) (by omega))
      have HR3 := Aside0.mk (show tgt r = t by rw [← hr, ← ht]; exact tgt_miss hva (by omega) (by omega))
      have hw1 := (miss_w1 (c := ctx % 8192) hva (by omega) (by omega)).trans hr
      have hw2 := (miss_w2 (c := ctx % 8192) hva (by omega) (by omega)).trans ht
      clear hr ht
      rcases (show unit % 2 = 0 ∨ unit % 2 = 1 by omega) with hz | hz
      · go_wp2_with (first | (go_at_call 25; refine (miss_ok HM.out 0 80 rfl rfl (by decide) va (ctx % 8192) r (by omega) (by omega) HR1.out HR2.out (by omega)).mono ?_; rintro e w5 ⟨rfl, hM, hg⟩; have HM1 := Aside0.mk hM; have R1 := Aside0.mk (show getOf (pk D 80 48 r) 80 48 = r by unfold getOf; rw [if_neg (by decide), rdk_same HM.out.own.isMap]); have R2 := Aside0.mk (show getOf (pk D 80 48 r) 80 0 = t by unfold getOf; rw [if_pos rfl, rdk_same HM.out.own.isMap]; exact HR3.out); clear HM hM hg) | (go_at_call 17; first | (refine (read_eq HM1.out 80 48 (by decide) (by decide) (by decide) r R1.out).mono ?_; rintro e wr2 ⟨rfl, hM, hg⟩; have HM2 := Aside0.mk hM; clear HM1 hM hg) | (refine (read_eq HM2.out 80 0 (by decide) (by decide) (by decide) t R2.out).mono ?_; rintro e wr3 ⟨rfl, hM, hg⟩; have HM3 := Aside0.mk hM; clear HM2 hM hg)) | (go_at_call 18; refine (lives_calls _).mono ?_; rintro e wl ⟨rfl, hg⟩; have HMl := Aside0.mk (HM3.out.same hg); clear hg) | go_in)
        go_ret
        exact ⟨rfl, HMl.out.below⟩
      · go_wp2_with (first | (go_at_call 25; refine (miss_ok HM.out 1 88 rfl rfl (by decide) va (ctx % 8192) r (by omega) (by omega) HR1.out HR2.out (by omega)).mono ?_; rintro e w5 ⟨rfl, hM, hg⟩; have HM1 := Aside0.mk hM; have R1 := Aside0.mk (show getOf (pk D 88 48 r) 88 48 = r by unfold getOf; rw [if_neg (by decide), rdk_same HM.out.own.isMap]); have R2 := Aside0.mk (show getOf (pk D 88 48 r) 88 0 = t by unfold getOf; rw [if_pos rfl, rdk_same HM.out.own.isMap]; exact HR3.out); clear HM hM hg) | (go_at_call 17; first | (refine (read_eq HM1.out 88 48 (by decide) (by decide) (by decide) r R1.out).mono ?_; rintro e wr2 ⟨rfl, hM, hg⟩; have HM2 := Aside0.mk hM; clear HM1 hM hg) | (refine (read_eq HM2.out 88 0 (by decide) (by decide) (by decide) t R2.out).mono ?_; rintro e wr3 ⟨rfl, hM, hg⟩; have HM3 := Aside0.mk hM; clear HM2 hM hg)) | (go_at_call 18; refine (lives_calls _).mono ?_; rintro e wl ⟨rfl, hg⟩; have HMl := Aside0.mk (HM3.out.same hg); clear hg) | go_in)
        go_ret
        exact ⟨rfl, HMl.out.below⟩
theorem misses_nn (a0 : Option Addr) (len cap : Nat) (unit va ctx : Int) (w : World) (h0 : Deeds w a0 len) (hlen : len ≤ maxLen) (hu : (Lit.int .i64 (-unit - 1)).wf = true) (hva : (Lit.int .u64 va).wf = true) (hc : (Lit.int .i64 (-ctx - 1)).wf = true) (hu0 : 0 ≤ unit) (hc0 : 0 ≤ ctx) :
    Calls Try.prog 6 #[.slice a0 len cap, .int .i64 (-unit - 1), .int .u64 va, .int .i64 (-ctx - 1)] w fun e w' => e = .returned (.bool true) ∧ Below w.heap.size w w' := by
  have HB := Aside0.mk (Below.refl w.heap.size w)
  have H0 := Aside0.mk h0
  clear h0
  have HL := Aside0.mk hlen
  clear hlen
  have hR := Try.underlying38
  have hD := Try.underlying42
  obtain ⟨hu1, hu2⟩ := m_i64 hu
  obtain ⟨hc1, hc2⟩ := m_i64 hc
  go_enter Try.func6, Try.ntmps6
  go_wp2_with (first | (go_at_call 15; refine (new_calls HB.out (Nat.le_refl _)).mono ?_; rintro e wn ⟨p, mb, rfl, hM, hg⟩; have HM0 := Aside0.mk hM; clear hM hg) | ((with_reducible refine gate_dst (N := 10) rfl ?_); refine box_event ?hg (N := 10) ?hd (cs := #[.int .u64 0, .int .u64 0, .int .u64 0, .int .u64 0, .int .u64 0, .int .u64 0, .int .u64 0, .int .u64 0, .int .u64 0]) (t := 38) ?hr ?_; (case hd => rfl); (case hg => rfl); (case hr => first | (go_simp; done) | (go_simp; rfl)); intro gt hgb w2 hbox hb; have HT0 := Aside0.mk hbox; have GHT0 := Aside0.mk (below_grown hb); have LHT0 := Aside0.mk (Nat.le_of_eq hgb.symm); clear hgb hbox hb; have HM := Aside0.mk (HM0.out.same GHT0.out); have HT := Aside0.mk (show w2.heap[gt]? = some (.cells #[.int .u64 (rdk (.map []) 80 24), .int .u64 (rdk (.map []) 80 40), .int .u64 (rdk (.map []) 80 48), .int .u64 (rdk (.map []) 88 8), .int .u64 (rdk (.map []) 88 16), .int .u64 (rdk (.map []) 88 24), .int .u64 (rdk (.map []) 88 32), .int .u64 (rdk (.map []) 88 40), .int .u64 (rdk (.map []) 88 48)] 38 (0, 0)) from HT0.out); have HK := Aside0.mk (show mb ≠ gt ∧ p ≠ gt ∧ w.heap.size ≤ gt from ⟨Nat.ne_of_lt (Nat.lt_of_lt_of_le HM0.out.own.lt LHT0.out), Nat.ne_of_lt (Nat.lt_of_lt_of_le HM0.out.lt LHT0.out), Nat.le_trans HM0.out.hB LHT0.out⟩); clear HM0 HT0 GHT0 LHT0) | go_in)
  go_loopw [11] (fun v11 wr => ∃ (i n : Nat) (D : DataW Unit), v11 = .int .i64 i ∧ i ≤ 20 ∧ i ≤ len ∧ n ≤ 2 * i ∧ Aside0 (wr.heap[gt]? = some (.cells #[.int .u64 (rdk D 80 24), .int .u64 (rdk D 80 40), .int .u64 (rdk D 80 48), .int .u64 (rdk D 88 8), .int .u64 (rdk D 88 16), .int .u64 (rdk D 88 24), .int .u64 (rdk D 88 32), .int .u64 (rdk D 88 40), .int .u64 (rdk D 88 48)] 38 (0, 0))) ∧ Aside0 (Regs w.heap.size w p mb n D wr)) (fun v11 _ => 20 - (intOf v11).toNat)
  case atStart => exact ⟨0, 0, .map [], rfl, by omega, by omega, by omega, HT, HM⟩
  case round =>
    clear HT HM
    obtain ⟨i, n, D, rfl, hi, hil, hn, HT, HM⟩ := hrel
    by_cases h1 : i < len
    · by_cases h2 : i < 20
      · have h1' : (i : Int) < (len : Int) := by omega
        have h2' : (i : Int) < 20 := by omega
        have h3' : (0 : Int) ≤ (i : Int) := by omega
        obtain ⟨x, rfl, hd⟩ := H0.out.at i h1
        obtain ⟨kind, asi, un, num, place, v, store, priv, wa, wq, wv, e0, e1, e2, e3, e4, e5, e6, e7⟩ := hd
        have HWF := Aside0.mk (And.intro wa (And.intro wq wv))
        have E0 := Aside0.mk e0
        have E1 := Aside0.mk e1
        have E2 := Aside0.mk e2
        have E3 := Aside0.mk e3
        have E4 := Aside0.mk e4
        have E5 := Aside0.mk e5
        have E6 := Aside0.mk e6
        have E7 := Aside0.mk e7
        clear wa wq wv e0 e1 e2 e3 e4 e5 e6 e7
        go_wp2
        have HMd := Aside0.mk (HM.out.same (grown_drew _ _))
        have AHS := Aside0.mk (show wr.drew.heap[gt]? = some (.cells #[.int .u64 (rdk D 80 24), .int .u64 (rdk D 80 40), .int .u64 (rdk D 80 48), .int .u64 (rdk D 88 8), .int .u64 (rdk D 88 16), .int .u64 (rdk D 88 24), .int .u64 (rdk D 88 32), .int .u64 (rdk D 88 40), .int .u64 (rdk D 88 48)] 38 (0, 0)) ∧ wr.drew.cell? (x.add (i * 8)) = some (.int .i64 kind) ∧ wr.drew.cell? ⟨(x.add (i * 8)).block, (x.add (i * 8)).off + 1, none⟩ = some (.int .i64 asi) ∧ wr.drew.cell? ⟨(x.add (i * 8)).block, (x.add (i * 8)).off + 2, none⟩ = some (.int .i64 un) ∧ wr.drew.cell? ⟨(x.add (i * 8)).block, (x.add (i * 8)).off + 3, none⟩ = some (.int .i64 num) ∧ wr.drew.cell? ⟨(x.add (i * 8)).block, (x.add (i * 8)).off + 4, none⟩ = some (.int .u64 place) ∧ wr.drew.cell? ⟨(x.add (i * 8)).block, (x.add (i * 8)).off + 5, none⟩ = some (.int .u64 v) ∧ wr.drew.cell? ⟨(x.add (i * 8)).block, (x.add (i * 8)).off + 6, none⟩ = some (.bool store) ∧ wr.drew.cell? ⟨(x.add (i * 8)).block, (x.add (i * 8)).off + 7, none⟩ = some (.bool priv) from ⟨HT.out, (HMd.out.below.cell (cell_lt E0.out)).trans E0.out, (HMd.out.below.cell (cell_lt E1.out)).trans E1.out, (HMd.out.below.cell (cell_lt E2.out)).trans E2.out, (HMd.out.below.cell (cell_lt E3.out)).trans E3.out, (HMd.out.below.cell (cell_lt E4.out)).trans E4.out, (HMd.out.below.cell (cell_lt E5.out)).trans E5.out, (HMd.out.below.cell (cell_lt E6.out)).trans E6.out, (HMd.out.below.cell (cell_lt E7.out)).trans E7.out⟩)
        refine start_ (n := 11) (S := fun w' => w'.heap[gt]? = some (.cells #[.int .u64 (rdk D 80 24), .int .u64 (rdk D 80 40), .int .u64 (rdk D 80 48), .int .u64 (rdk D 88 8), .int .u64 (rdk D 88 16), .int .u64 (rdk D 88 24), .int .u64 (rdk D 88 32), .int .u64 (rdk D 88 40), .int .u64 (rdk D 88 48)] 38 (0, 0)) ∧ w'.cell? (x.add (i * 8)) = some (.int .i64 kind) ∧ w'.cell? ⟨(x.add (i * 8)).block, (x.add (i * 8)).off + 1, none⟩ = some (.int .i64 asi) ∧ w'.cell? ⟨(x.add (i * 8)).block, (x.add (i * 8)).off + 2, none⟩ = some (.int .i64 un) ∧ w'.cell? ⟨(x.add (i * 8)).block, (x.add (i * 8)).off + 3, none⟩ = some (.int .i64 num) ∧ w'.cell? ⟨(x.add (i * 8)).block, (x.add (i * 8)).off + 4, none⟩ = some (.int .u64 place) ∧ w'.cell? ⟨(x.add (i * 8)).block, (x.add (i * 8)).off + 5, none⟩ = some (.int .u64 v) ∧ w'.cell? ⟨(x.add (i * 8)).block, (x.add (i * 8)).off + 6, none⟩ = some (.bool store) ∧ w'.cell? ⟨(x.add (i * 8)).block, (x.add (i * 8)).off + 7, none⟩ = some (.bool priv)) (ds := [10]) #[false, false, false, false, false, false, false, false, false, false, false] (by kernel_rfl) rfl rfl AHS.out (fun hHeld => ?_)
        refine with_tab missesr_tab (fun HT_ => ?_)
        refine pure_ (i := 0) (N := some 32) (v := ?_) (a' := ?_) #[true, false, false, false, false, false, false, false, false, false, false] rfl rfl (any_of HT_.out (by kernel_rfl)) (fun _ _ _ h => h) (Or.inl ⟨by rfl, ?_⟩) ?_ ?_
        rotate_left
        · intro w'
          go_simp
          with_reducible rfl
        rotate_left
        · simp only [Act.put, List.setIfInBounds_toArray, List.set_cons_zero, List.set_cons_succ, i64_w, i32_w]
          rfl
        refine pure_ (i := 2) (N := some 34) (v := ?_) (a' := ?_) #[true, false, true, false, false, false, false, false, false, false, false] rfl rfl (any_of HT_.out (by kernel_rfl)) (fun _ _ _ h => h) (Or.inl ⟨by rfl, ?_⟩) ?_ ?_
        rotate_left
        · intro w'
          go_simp
          with_reducible rfl
        rotate_left
        · simp only [Act.put, List.setIfInBounds_toArray, List.set_cons_zero, List.set_cons_succ, i64_w, i32_w]
          rfl
        refine pure_ (i := 3) (N := some 35) (v := ?_) (a' := ?_) #[true, false, true, true, false, false, false, false, false, false, false] rfl rfl (any_of HT_.out (by kernel_rfl)) (fun _ _ _ h => h) (Or.inl ⟨by rfl, ?_⟩) ?_ ?_
        rotate_left
        · intro w'
          go_simp
          with_reducible rfl
        rotate_left
        · simp only [Act.put, List.setIfInBounds_toArray, List.set_cons_zero, List.set_cons_succ, i64_w, i32_w]
          rfl
        refine pure_ (i := 4) (N := some 36) (v := ?_) (a' := ?_) #[true, false, true, true, true, false, false, false, false, false, false] rfl rfl (any_of HT_.out (by kernel_rfl)) (fun _ _ _ h => h) (Or.inl ⟨by rfl, ?_⟩) ?_ ?_
        rotate_left
        · intro w'
          go_simp
          with_reducible rfl
        rotate_left
        · simp only [Act.put, List.setIfInBounds_toArray, List.set_cons_zero, List.set_cons_succ, i64_w, i32_w]
          rfl
        refine take_ (i := 1) (N := some 33) (v := .agg #[.int .u64 (rdk D 80 24), .int .u64 (rdk D 80 40), .int .u64 (rdk D 80 48), .int .u64 (rdk D 88 8), .int .u64 (rdk D 88 16), .int .u64 (rdk D 88 24), .int .u64 (rdk D 88 32), .int .u64 (rdk D 88 40), .int .u64 (rdk D 88 48)]) (a' := ?_) #[true, true, true, true, true, false, false, false, false, false, false] rfl rfl (take_of HT_.out (by kernel_rfl)) (fun _ _ _ h => h) (Or.inl ⟨by rfl, ?_⟩) hHeld ?_ ?_
        · rintro w' ⟨s8, s0, s1, s2, s3, s4, s5, s6, s7⟩
          obtain ⟨q0, q1, q2, q3, q4, q5, q6, q7, q8⟩ := cz9 s8
          go_simp
          first | done | (rw [hrun])
        rotate_left
        · simp only [Act.put, List.setIfInBounds_toArray, List.set_cons_zero, List.set_cons_succ, i64_w, i32_w]
          rfl
        refine take_ (i := 5) (N := some 37) (v := .agg #[.int .i64 kind, .int .i64 asi, .int .i64 un, .int .i64 num, .int .u64 place, .int .u64 v, .bool store, .bool priv]) (a' := ?_) #[true, true, true, true, true, true, false, false, false, false, false] rfl rfl (take_of HT_.out (by kernel_rfl)) (fun _ _ _ h => h) (Or.inl ⟨by rfl, ?_⟩) hHeld ?_ ?_
        · rintro w' ⟨s8, s0, s1, s2, s3, s4, s5, s6, s7⟩
          go_simp
          first | done | (rw [hrun])
        rotate_left
        · simp only [Act.put, List.setIfInBounds_toArray, List.set_cons_zero, List.set_cons_succ, i64_w, i32_w]
          rfl
        refine one_ (i := 6) (N := some 38) #[true, true, true, true, true, true, true, false, false, false, false] rfl rfl (one_of HT_.out (by kernel_rfl)) (by decide) (fun K hK => ?_)
        refine goes_ Try.func22 (by kernel_rfl) rfl #[.pointer (some ⟨p, 0, none⟩), .agg #[.int .u64 (rdk D 80 24), .int .u64 (rdk D 80 40), .int .u64 (rdk D 80 48), .int .u64 (rdk D 88 8), .int .u64 (rdk D 88 16), .int .u64 (rdk D 88 24), .int .u64 (rdk D 88 32), .int .u64 (rdk D 88 40), .int .u64 (rdk D 88 48)], .agg #[.int .i64 kind, .int .i64 asi, .int .i64 un, .int .i64 num, .int .u64 place, .int .u64 v, .bool store, .bool priv]] (by rfl) rfl rfl (by (try simp only [List.map_toArray, List.map_cons, List.map_nil]); first | done | rfl) ?_
        refine (does_lit HMd.out kind asi un num place v store priv HWF.out.1 HWF.out.2.1 HWF.out.2.2 (by omega)).mono ?_
        rintro e wn ⟨D', rfl, hR', hg'⟩
        obtain ⟨es, cl, hmb, hmo⟩ := HMd.out.own
        have SN := Aside0.mk (blk_mb AHS.out.1 hmb hg')
        have SNR := Aside0.mk hR'
        have SNE := Aside0.mk (show wn.heap[gt]? = some (.cells #[.int .u64 (rdk D 80 24), .int .u64 (rdk D 80 40), .int .u64 (rdk D 80 48), .int .u64 (rdk D 88 8), .int .u64 (rdk D 88 16), .int .u64 (rdk D 88 24), .int .u64 (rdk D 88 32), .int .u64 (rdk D 88 40), .int .u64 (rdk D 88 48)] 38 (0, 0)) ∧ wn.cell? (x.add (i * 8)) = some (.int .i64 kind) ∧ wn.cell? ⟨(x.add (i * 8)).block, (x.add (i * 8)).off + 1, none⟩ = some (.int .i64 asi) ∧ wn.cell? ⟨(x.add (i * 8)).block, (x.add (i * 8)).off + 2, none⟩ = some (.int .i64 un) ∧ wn.cell? ⟨(x.add (i * 8)).block, (x.add (i * 8)).off + 3, none⟩ = some (.int .i64 num) ∧ wn.cell? ⟨(x.add (i * 8)).block, (x.add (i * 8)).off + 4, none⟩ = some (.int .u64 place) ∧ wn.cell? ⟨(x.add (i * 8)).block, (x.add (i * 8)).off + 5, none⟩ = some (.int .u64 v) ∧ wn.cell? ⟨(x.add (i * 8)).block, (x.add (i * 8)).off + 6, none⟩ = some (.bool store) ∧ wn.cell? ⟨(x.add (i * 8)).block, (x.add (i * 8)).off + 7, none⟩ = some (.bool priv) from ⟨SN.out, (SNR.out.below.cell (cell_lt E0.out)).trans E0.out, (SNR.out.below.cell (cell_lt E1.out)).trans E1.out, (SNR.out.below.cell (cell_lt E2.out)).trans E2.out, (SNR.out.below.cell (cell_lt E3.out)).trans E3.out, (SNR.out.below.cell (cell_lt E4.out)).trans E4.out, (SNR.out.below.cell (cell_lt E5.out)).trans E5.out, (SNR.out.below.cell (cell_lt E6.out)).trans E6.out, (SNR.out.below.cell (cell_lt E7.out)).trans E7.out⟩)
        clear hmo hg' hR' hmb es cl
        refine ⟨_, rfl, ?_⟩
        refine hK.out _ _ SNE.out (fun hHeld => ?_)
        clear hK K
        refine norm_ (a' := ?_) ?_ ?_
        rotate_left
        · show Act.put _ (some 38) _ = _
          simp only [Act.put, List.setIfInBounds_toArray, List.set_cons_zero, List.set_cons_succ, i64_w, i32_w]
          rfl
        refine pure_ (i := 7) (N := some 31) (v := ?_) (a' := ?_) #[true, true, true, true, true, true, true, true, false, false, false] rfl rfl (any_of HT_.out (by kernel_rfl)) (fun _ _ _ h => h) (Or.inl ⟨by rfl, ?_⟩) ?_ ?_
        rotate_left
        · intro w'
          go_simp
          with_reducible rfl
        rotate_left
        · simp only [Act.put, List.setIfInBounds_toArray, List.set_cons_zero, List.set_cons_succ, i64_w, i32_w]
          rfl
        refine pure_ (i := 8) (N := some 39) (v := ?_) (a' := ?_) #[true, true, true, true, true, true, true, true, true, false, false] rfl rfl (any_of HT_.out (by kernel_rfl)) (fun _ _ _ h => h) (Or.inl ⟨by rfl, ?_⟩) ?_ ?_
        rotate_left
        · intro w'
          go_simp
          with_reducible rfl
        rotate_left
        · simp only [Act.put, List.setIfInBounds_toArray, List.set_cons_zero, List.set_cons_succ, i64_w, i32_w]
          rfl
        refine pure_ (i := 9) (N := some 40) (v := ?_) (a' := ?_) #[true, true, true, true, true, true, true, true, true, true, false] rfl rfl (any_of HT_.out (by kernel_rfl)) (fun _ _ _ h => h) (Or.inl ⟨by rfl, ?_⟩) ?_ ?_
        rotate_left
        · intro w'
          go_simp
          with_reducible rfl
        rotate_left
        · simp only [Act.put, List.setIfInBounds_toArray, List.set_cons_zero, List.set_cons_succ, i64_w, i32_w]
          rfl
        refine last_ (i := 10) (N := none) #[true, true, true, true, true, true, true, true, true, true, true] rfl rfl (one_of HT_.out (by kernel_rfl)) (by decide) (fun K hK => ?_)
        rw [if_pos (by rfl)]
        refine wp_store_row 38 (.tmp 10) (.tmp 39) rfl gt #[.int .u64 (rdk D' 80 24), .int .u64 (rdk D' 80 40), .int .u64 (rdk D' 80 48), .int .u64 (rdk D' 88 8), .int .u64 (rdk D' 88 16), .int .u64 (rdk D' 88 24), .int .u64 (rdk D' 88 32), .int .u64 (rdk D' 88 40), .int .u64 (rdk D' 88 48)] rfl rfl 38 #[.int .u64 (rdk D 80 24), .int .u64 (rdk D 80 40), .int .u64 (rdk D 80 48), .int .u64 (rdk D 88 8), .int .u64 (rdk D 88 16), .int .u64 (rdk D 88 24), .int .u64 (rdk D 88 32), .int .u64 (rdk D 88 40), .int .u64 (rdk D 88 48)] SN.out (by kernel_rfl) rfl (by kernel_rfl) ?_
        have SO := Aside0.mk (setRow_heap _ gt _ #[.int .u64 (rdk D' 80 24), .int .u64 (rdk D' 80 40), .int .u64 (rdk D' 80 48), .int .u64 (rdk D' 88 8), .int .u64 (rdk D' 88 16), .int .u64 (rdk D' 88 24), .int .u64 (rdk D' 88 32), .int .u64 (rdk D' 88 40), .int .u64 (rdk D' 88 48)] _ _ SN.out)
        have HRN := Aside0.mk (SNR.out.kept (grown_row wn gt #[.int .u64 (rdk D' 80 24), .int .u64 (rdk D' 80 40), .int .u64 (rdk D' 80 48), .int .u64 (rdk D' 88 8), .int .u64 (rdk D' 88 16), .int .u64 (rdk D' 88 24), .int .u64 (rdk D' 88 32), .int .u64 (rdk D' 88 40), .int .u64 (rdk D' 88 48)]) (fun e => HK.out.1 (Option.some.inj e)) (fun e => HK.out.2.1 (Option.some.inj e)) (fun k e => by cases e; exact HK.out.2.2))
        refine hK.out _ _ ?_
        clear hK K
        refine norm_ (a' := ?_) ?_ ?_
        rotate_left
        · show Act.put _ none _ = _
          rfl
        refine done_ (done_of HT_.out (by kernel_rfl)) ?_
        go_wp2
        go_roundw
        case rel => exact ⟨i + 1, n + 2, D', by go_num, by omega, by omega, by omega, SO, HRN⟩
        case measure => simp [intOf]; omega
      · obtain rfl : i = 20 := by omega
        have h1' : (20 : Int) < (len : Int) := by omega
        obtain ⟨r, hr⟩ : ∃ r, va / 8192 * 8192 + ctx % 8192 = r := ⟨_, rfl⟩
        obtain ⟨t, ht⟩ : ∃ t, ctx % 8192 * 281474976710656 + va / 4194304 = t := ⟨_, rfl⟩
        have HR1 := Aside0.mk ((miss_put (c := ctx % 8192) hva (by omega) (by omega)).trans (congrArg some hr))
        have HR2 := Aside0.mk (show (Lit.int .u64 r).wf = true by rw [← hr]; exact miss_wf hva (by omega) (by omega))
        have HR3 := Aside0.mk (show tgt r = t by rw [← hr, ← ht]; exact tgt_miss hva (by omega) (by omega))
        have hw1 := (miss_w1 (c := ctx % 8192) hva (by omega) (by omega)).trans hr
        have hw2 := (miss_w2 (c := ctx % 8192) hva (by omega) (by omega)).trans ht
        clear hr ht
        rcases (show unit % 2 = 0 ∨ unit % 2 = 1 by omega) with hz | hz
        · go_wp2_with (first | (go_at_call 25; refine (miss_ok HM.out 0 80 rfl rfl (by decide) va (ctx % 8192) r (by omega) (by omega) HR1.out HR2.out (by omega)).mono ?_; rintro e w5 ⟨rfl, hM, hg⟩; have HM1 := Aside0.mk hM; have R1 := Aside0.mk (show getOf (pk D 80 48 r) 80 48 = r by unfold getOf; rw [if_neg (by decide), rdk_same HM.out.own.isMap]); have R2 := Aside0.mk (show getOf (pk D 80 48 r) 80 0 = t by unfold getOf; rw [if_pos rfl, rdk_same HM.out.own.isMap]; exact HR3.out); clear HM hM hg) | (go_at_call 17; first | (refine (read_eq HM1.out 80 48 (by decide) (by decide) (by decide) r R1.out).mono ?_; rintro e wr2 ⟨rfl, hM, hg⟩; have HM2 := Aside0.mk hM; clear HM1 hM hg) | (refine (read_eq HM2.out 80 0 (by decide) (by decide) (by decide) t R2.out).mono ?_; rintro e wr3 ⟨rfl, hM, hg⟩; have HM3 := Aside0.mk hM; clear HM2 hM hg)) | (go_at_call 18; refine (lives_calls _).mono ?_; rintro e wl ⟨rfl, hg⟩; have HMl := Aside0.mk (HM3.out.same hg); clear hg) | go_in)
          go_ret
          exact ⟨rfl, HMl.out.below⟩
        · go_wp2_with (first | (go_at_call 25; refine (miss_ok HM.out 1 88 rfl rfl (by decide) va (ctx % 8192) r (by omega) (by omega) HR1.out HR2.out (by omega)).mono ?_; rintro e w5 ⟨rfl, hM, hg⟩; have HM1 := Aside0.mk hM; have R1 := Aside0.mk (show getOf (pk D 88 48 r) 88 48 = r by unfold getOf; rw [if_neg (by decide), rdk_same HM.out.own.isMap]); have R2 := Aside0.mk (show getOf (pk D 88 48 r) 88 0 = t by unfold getOf; rw [if_pos rfl, rdk_same HM.out.own.isMap]; exact HR3.out); clear HM hM hg) | (go_at_call 17; first | (refine (read_eq HM1.out 88 48 (by decide) (by decide) (by decide) r R1.out).mono ?_; rintro e wr2 ⟨rfl, hM, hg⟩; have HM2 := Aside0.mk hM; clear HM1 hM hg) | (refine (read_eq HM2.out 88 0 (by decide) (by decide) (by decide) t R2.out).mono ?_; rintro e wr3 ⟨rfl, hM, hg⟩; have HM3 := Aside0.mk hM; clear HM2 hM hg)) | (go_at_call 18; refine (lives_calls _).mono ?_; rintro e wl ⟨rfl, hg⟩; have HMl := Aside0.mk (HM3.out.same hg); clear hg) | go_in)
          go_ret
          exact ⟨rfl, HMl.out.below⟩
    · obtain rfl : i = len := by omega
      obtain ⟨r, hr⟩ : ∃ r, va / 8192 * 8192 + ctx % 8192 = r := ⟨_, rfl⟩
      obtain ⟨t, ht⟩ : ∃ t, ctx % 8192 * 281474976710656 + va / 4194304 = t := ⟨_, rfl⟩
      have HR1 := Aside0.mk ((miss_put (c := ctx % 8192) hva (by omega) (by omega)).trans (congrArg some hr))
      have HR2 := Aside0.mk (show (Lit.int .u64 r).wf = true by rw [← hr]; exact miss_wf hva (by omega) (by omega))
      have HR3 := Aside0.mk (show tgt r = t by rw [← hr, ← ht]; exact tgt_miss hva (by omega) (by omega))
      have hw1 := (miss_w1 (c := ctx % 8192) hva (by omega) (by omega)).trans hr
      have hw2 := (miss_w2 (c := ctx % 8192) hva (by omega) (by omega)).trans ht
      clear hr ht
      rcases (show unit % 2 = 0 ∨ unit % 2 = 1 by omega) with hz | hz
      · go_wp2_with (first | (go_at_call 25; refine (miss_ok HM.out 0 80 rfl rfl (by decide) va (ctx % 8192) r (by omega) (by omega) HR1.out HR2.out (by omega)).mono ?_; rintro e w5 ⟨rfl, hM, hg⟩; have HM1 := Aside0.mk hM; have R1 := Aside0.mk (show getOf (pk D 80 48 r) 80 48 = r by unfold getOf; rw [if_neg (by decide), rdk_same HM.out.own.isMap]); have R2 := Aside0.mk (show getOf (pk D 80 48 r) 80 0 = t by unfold getOf; rw [if_pos rfl, rdk_same HM.out.own.isMap]; exact HR3.out); clear HM hM hg) | (go_at_call 17; first | (refine (read_eq HM1.out 80 48 (by decide) (by decide) (by decide) r R1.out).mono ?_; rintro e wr2 ⟨rfl, hM, hg⟩; have HM2 := Aside0.mk hM; clear HM1 hM hg) | (refine (read_eq HM2.out 80 0 (by decide) (by decide) (by decide) t R2.out).mono ?_; rintro e wr3 ⟨rfl, hM, hg⟩; have HM3 := Aside0.mk hM; clear HM2 hM hg)) | (go_at_call 18; refine (lives_calls _).mono ?_; rintro e wl ⟨rfl, hg⟩; have HMl := Aside0.mk (HM3.out.same hg); clear hg) | go_in)
        go_ret
        exact ⟨rfl, HMl.out.below⟩
      · go_wp2_with (first | (go_at_call 25; refine (miss_ok HM.out 1 88 rfl rfl (by decide) va (ctx % 8192) r (by omega) (by omega) HR1.out HR2.out (by omega)).mono ?_; rintro e w5 ⟨rfl, hM, hg⟩; have HM1 := Aside0.mk hM; have R1 := Aside0.mk (show getOf (pk D 88 48 r) 88 48 = r by unfold getOf; rw [if_neg (by decide), rdk_same HM.out.own.isMap]); have R2 := Aside0.mk (show getOf (pk D 88 48 r) 88 0 = t by unfold getOf; rw [if_pos rfl, rdk_same HM.out.own.isMap]; exact HR3.out); clear HM hM hg) | (go_at_call 17; first | (refine (read_eq HM1.out 88 48 (by decide) (by decide) (by decide) r R1.out).mono ?_; rintro e wr2 ⟨rfl, hM, hg⟩; have HM2 := Aside0.mk hM; clear HM1 hM hg) | (refine (read_eq HM2.out 88 0 (by decide) (by decide) (by decide) t R2.out).mono ?_; rintro e wr3 ⟨rfl, hM, hg⟩; have HM3 := Aside0.mk hM; clear HM2 hM hg)) | (go_at_call 18; refine (lives_calls _).mono ?_; rintro e wl ⟨rfl, hg⟩; have HMl := Aside0.mk (HM3.out.same hg); clear hg) | go_in)
        go_ret
        exact ⟨rfl, HMl.out.below⟩
theorem misses_walk (a0 : Option Addr) (len cap : Nat) (unit va ctx : Int) (w : World) (h0 : Deeds w a0 len ∧ len ≤ maxLen) (hu : (Lit.int .i64 unit).wf = true) (hva : (Lit.int .u64 va).wf = true) (hc : (Lit.int .i64 ctx).wf = true) :
    Calls Try.prog 6 #[.slice a0 len cap, .int .i64 unit, .int .u64 va, .int .i64 ctx] w fun e w' => e = .returned (.bool true) ∧ Below w.heap.size w w' := by
  by_cases h1 : unit < 0
  · obtain ⟨A, rfl⟩ : ∃ A, unit = -A - 1 := ⟨-unit - 1, by omega⟩
    by_cases h2 : ctx < 0
    · obtain ⟨C, rfl⟩ : ∃ C, ctx = -C - 1 := ⟨-ctx - 1, by omega⟩
      exact misses_nn a0 len cap A va C w h0.1 h0.2 hu hva hc (by omega) (by omega)
    · exact misses_np a0 len cap A va ctx w h0.1 h0.2 hu hva hc (by omega) (by omega)
  · by_cases h2 : ctx < 0
    · obtain ⟨C, rfl⟩ : ∃ C, ctx = -C - 1 := ⟨-ctx - 1, by omega⟩
      exact misses_pn a0 len cap unit va C w h0.1 h0.2 hu hva hc (by omega) (by omega)
    · exact misses_pp a0 len cap unit va ctx w h0.1 h0.2 hu hva hc (by omega) (by omega)
end
end Go.Proofs.Ytdfejnakhpgekaa.QRegsPlays
