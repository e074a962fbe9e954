/- RegsOwn, walked: a Write changes its own register, and what hangs on it, alone. -/
import Derived.Test.YtdfejnakhpgekaaRegsOwnLaws
namespace Go.Proofs.Ytdfejnakhpgekaa.QRegsPlays
open Go.RowKit Go.Maps Go.Proofs.YtdfejnakhpgekaaW.PrintWords Go.Proofs.YtdfejnakhpgekaaW.PrintLast Go.Proofs.YtdfejnakhpgekaaW.PrintMore
set_option linter.unusedSimpArgs false
set_option linter.unusedVariables false
section
set_option maxHeartbeats 1000000
set_option maxRecDepth 100000
noncomputable def ownr_T : Bool × List (List Nat × List Nat) := rtab .any (opsOf Try.f5 8)
theorem ownr_tab : rtab .any (opsOf Try.f5 8) = ownr_T := rfl
theorem own_walk (a0 : Option Addr) (len cap : Nat) (asi place v : Int) (w : World) (hh : Deeds w a0 len ∧ len ≤ maxLen) (ha : (Lit.int .i64 asi).wf = true) (hq : (Lit.int .u64 place).wf = true) (hv : (Lit.int .u64 v).wf = true) :
    Calls Try.prog 5 #[.slice a0 len cap, .int .i64 asi, .int .u64 place, .int .u64 v] w fun e w' => e = .returned (.bool true) ∧ Below w.heap.size w w' := by
  obtain ⟨h0, hlen⟩ := hh
  have HB := Aside0.mk (Below.refl w.heap.size w)
  have H0 := Aside0.mk h0
  clear h0
  have HL := Aside0.mk hlen
  clear hlen
  have hR := Try.underlying38
  have hD := Try.underlying42
  have HA := Aside0.mk ha
  have HQ := Aside0.mk hq
  have HV := Aside0.mk hv
  clear ha hq hv
  go_enter Try.func5, Try.ntmps5
  go_wp2_with (first | (go_at_call 15; refine (new_calls HB.out (Nat.le_refl _)).mono ?_; rintro e wn ⟨p, mb, rfl, hM, hg⟩; have HM0 := Aside0.mk hM; clear hM hg) | ((with_reducible refine gate_dst (N := 10) rfl ?_); refine box_event ?hg (N := 10) ?hd (cs := #[.int .u64 0, .int .u64 0, .int .u64 0, .int .u64 0, .int .u64 0, .int .u64 0, .int .u64 0, .int .u64 0, .int .u64 0]) (t := 38) ?hr ?_; (case hd => rfl); (case hg => rfl); (case hr => first | (go_simp; done) | (go_simp; rfl)); intro gt hgb w2 hbox hb; have HT0 := Aside0.mk hbox; have GHT0 := Aside0.mk (below_grown hb); have LHT0 := Aside0.mk (Nat.le_of_eq hgb.symm); clear hgb hbox hb; have HM := Aside0.mk (HM0.out.same GHT0.out); have HT := Aside0.mk (show w2.heap[gt]? = some (.cells #[.int .u64 (rdk (.map []) 80 24), .int .u64 (rdk (.map []) 80 40), .int .u64 (rdk (.map []) 80 48), .int .u64 (rdk (.map []) 88 8), .int .u64 (rdk (.map []) 88 16), .int .u64 (rdk (.map []) 88 24), .int .u64 (rdk (.map []) 88 32), .int .u64 (rdk (.map []) 88 40), .int .u64 (rdk (.map []) 88 48)] 38 (0, 0)) from HT0.out); have HK := Aside0.mk (show mb ≠ gt ∧ p ≠ gt ∧ w.heap.size ≤ gt from ⟨Nat.ne_of_lt (Nat.lt_of_lt_of_le HM0.out.own.lt LHT0.out), Nat.ne_of_lt (Nat.lt_of_lt_of_le HM0.out.lt LHT0.out), Nat.le_trans HM0.out.hB LHT0.out⟩); clear HM0 HT0 GHT0 LHT0) | go_in)
  go_loopw [11] (fun v11 wr => ∃ (i n : Nat) (D : DataW Unit), v11 = .int .i64 i ∧ i ≤ 20 ∧ i ≤ len ∧ n ≤ 2 * i ∧ Aside0 (wr.heap[gt]? = some (.cells #[.int .u64 (rdk D 80 24), .int .u64 (rdk D 80 40), .int .u64 (rdk D 80 48), .int .u64 (rdk D 88 8), .int .u64 (rdk D 88 16), .int .u64 (rdk D 88 24), .int .u64 (rdk D 88 32), .int .u64 (rdk D 88 40), .int .u64 (rdk D 88 48)] 38 (0, 0))) ∧ Aside0 (Regs w.heap.size w p mb n D wr)) (fun v11 _ => 20 - (intOf v11).toNat)
  case atStart => exact ⟨0, 0, .map [], rfl, by omega, by omega, by omega, HT, HM⟩
  case round =>
    clear HT HM
    obtain ⟨i, n, D, rfl, hi, hil, hn, HT, HM⟩ := hrel
    by_cases h1 : i < len
    · by_cases h2 : i < 20
      · have h1' : (i : Int) < (len : Int) := by omega
        have h2' : (i : Int) < 20 := by omega
        have h3' : (0 : Int) ≤ (i : Int) := by omega
        obtain ⟨x, rfl, hd⟩ := H0.out.at i h1
        obtain ⟨kind, asi, un, num, place, v, store, priv, wa, wq, wv, e0, e1, e2, e3, e4, e5, e6, e7⟩ := hd
        have HWF := Aside0.mk (And.intro wa (And.intro wq wv))
        have E0 := Aside0.mk e0
        have E1 := Aside0.mk e1
        have E2 := Aside0.mk e2
        have E3 := Aside0.mk e3
        have E4 := Aside0.mk e4
        have E5 := Aside0.mk e5
        have E6 := Aside0.mk e6
        have E7 := Aside0.mk e7
        clear wa wq wv e0 e1 e2 e3 e4 e5 e6 e7
        go_wp2
        have HMd := Aside0.mk (HM.out.same (grown_drew _ _))
        have AHS := Aside0.mk (show wr.drew.heap[gt]? = some (.cells #[.int .u64 (rdk D 80 24), .int .u64 (rdk D 80 40), .int .u64 (rdk D 80 48), .int .u64 (rdk D 88 8), .int .u64 (rdk D 88 16), .int .u64 (rdk D 88 24), .int .u64 (rdk D 88 32), .int .u64 (rdk D 88 40), .int .u64 (rdk D 88 48)] 38 (0, 0)) ∧ wr.drew.cell? (x.add (i * 8)) = some (.int .i64 kind) ∧ wr.drew.cell? ⟨(x.add (i * 8)).block, (x.add (i * 8)).off + 1, none⟩ = some (.int .i64 asi) ∧ wr.drew.cell? ⟨(x.add (i * 8)).block, (x.add (i * 8)).off + 2, none⟩ = some (.int .i64 un) ∧ wr.drew.cell? ⟨(x.add (i * 8)).block, (x.add (i * 8)).off + 3, none⟩ = some (.int .i64 num) ∧ wr.drew.cell? ⟨(x.add (i * 8)).block, (x.add (i * 8)).off + 4, none⟩ = some (.int .u64 place) ∧ wr.drew.cell? ⟨(x.add (i * 8)).block, (x.add (i * 8)).off + 5, none⟩ = some (.int .u64 v) ∧ wr.drew.cell? ⟨(x.add (i * 8)).block, (x.add (i * 8)).off + 6, none⟩ = some (.bool store) ∧ wr.drew.cell? ⟨(x.add (i * 8)).block, (x.add (i * 8)).off + 7, none⟩ = some (.bool priv) from ⟨HT.out, (HMd.out.below.cell (cell_lt E0.out)).trans E0.out, (HMd.out.below.cell (cell_lt E1.out)).trans E1.out, (HMd.out.below.cell (cell_lt E2.out)).trans E2.out, (HMd.out.below.cell (cell_lt E3.out)).trans E3.out, (HMd.out.below.cell (cell_lt E4.out)).trans E4.out, (HMd.out.below.cell (cell_lt E5.out)).trans E5.out, (HMd.out.below.cell (cell_lt E6.out)).trans E6.out, (HMd.out.below.cell (cell_lt E7.out)).trans E7.out⟩)
        refine start_ (n := 11) (S := fun w' => w'.heap[gt]? = some (.cells #[.int .u64 (rdk D 80 24), .int .u64 (rdk D 80 40), .int .u64 (rdk D 80 48), .int .u64 (rdk D 88 8), .int .u64 (rdk D 88 16), .int .u64 (rdk D 88 24), .int .u64 (rdk D 88 32), .int .u64 (rdk D 88 40), .int .u64 (rdk D 88 48)] 38 (0, 0)) ∧ w'.cell? (x.add (i * 8)) = some (.int .i64 kind) ∧ w'.cell? ⟨(x.add (i * 8)).block, (x.add (i * 8)).off + 1, none⟩ = some (.int .i64 asi) ∧ w'.cell? ⟨(x.add (i * 8)).block, (x.add (i * 8)).off + 2, none⟩ = some (.int .i64 un) ∧ w'.cell? ⟨(x.add (i * 8)).block, (x.add (i * 8)).off + 3, none⟩ = some (.int .i64 num) ∧ w'.cell? ⟨(x.add (i * 8)).block, (x.add (i * 8)).off + 4, none⟩ = some (.int .u64 place) ∧ w'.cell? ⟨(x.add (i * 8)).block, (x.add (i * 8)).off + 5, none⟩ = some (.int .u64 v) ∧ w'.cell? ⟨(x.add (i * 8)).block, (x.add (i * 8)).off + 6, none⟩ = some (.bool store) ∧ w'.cell? ⟨(x.add (i * 8)).block, (x.add (i * 8)).off + 7, none⟩ = some (.bool priv)) (ds := [10]) #[false, false, false, false, false, false, false, false, false, false, false] (by kernel_rfl) rfl rfl AHS.out (fun hHeld => ?_)
        refine with_tab ownr_tab (fun HT_ => ?_)
        refine pure_ (i := 0) (N := some 34) (v := ?_) (a' := ?_) #[true, false, false, false, false, false, false, false, false, false, false] rfl rfl (any_of HT_.out (by kernel_rfl)) (fun _ _ _ h => h) (Or.inl ⟨by rfl, ?_⟩) ?_ ?_
        rotate_left
        · intro w'
          go_simp
          with_reducible rfl
        rotate_left
        · simp only [Act.put, List.setIfInBounds_toArray, List.set_cons_zero, List.set_cons_succ, i64_w, i32_w]
          rfl
        refine pure_ (i := 2) (N := some 36) (v := ?_) (a' := ?_) #[true, false, true, false, false, false, false, false, false, false, false] rfl rfl (any_of HT_.out (by kernel_rfl)) (fun _ _ _ h => h) (Or.inl ⟨by rfl, ?_⟩) ?_ ?_
        rotate_left
        · intro w'
          go_simp
          with_reducible rfl
        rotate_left
        · simp only [Act.put, List.setIfInBounds_toArray, List.set_cons_zero, List.set_cons_succ, i64_w, i32_w]
          rfl
        refine pure_ (i := 3) (N := some 37) (v := ?_) (a' := ?_) #[true, false, true, true, false, false, false, false, false, false, false] rfl rfl (any_of HT_.out (by kernel_rfl)) (fun _ _ _ h => h) (Or.inl ⟨by rfl, ?_⟩) ?_ ?_
        rotate_left
        · intro w'
          go_simp
          with_reducible rfl
        rotate_left
        · simp only [Act.put, List.setIfInBounds_toArray, List.set_cons_zero, List.set_cons_succ, i64_w, i32_w]
          rfl
        refine pure_ (i := 4) (N := some 38) (v := ?_) (a' := ?_) #[true, false, true, true, true, false, false, false, false, false, false] rfl rfl (any_of HT_.out (by kernel_rfl)) (fun _ _ _ h => h) (Or.inl ⟨by rfl, ?_⟩) ?_ ?_
        rotate_left
        · intro w'
          go_simp
          with_reducible rfl
        rotate_left
        · simp only [Act.put, List.setIfInBounds_toArray, List.set_cons_zero, List.set_cons_succ, i64_w, i32_w]
          rfl
        refine take_ (i := 1) (N := some 35) (v := .agg #[.int .u64 (rdk D 80 24), .int .u64 (rdk D 80 40), .int .u64 (rdk D 80 48), .int .u64 (rdk D 88 8), .int .u64 (rdk D 88 16), .int .u64 (rdk D 88 24), .int .u64 (rdk D 88 32), .int .u64 (rdk D 88 40), .int .u64 (rdk D 88 48)]) (a' := ?_) #[true, true, true, true, true, false, false, false, false, false, false] rfl rfl (take_of HT_.out (by kernel_rfl)) (fun _ _ _ h => h) (Or.inl ⟨by rfl, ?_⟩) hHeld ?_ ?_
        · rintro w' ⟨s8, s0, s1, s2, s3, s4, s5, s6, s7⟩
          obtain ⟨q0, q1, q2, q3, q4, q5, q6, q7, q8⟩ := cz9 s8
          go_simp
          first | done | (rw [hrun])
        rotate_left
        · simp only [Act.put, List.setIfInBounds_toArray, List.set_cons_zero, List.set_cons_succ, i64_w, i32_w]
          rfl
        refine take_ (i := 5) (N := some 39) (v := .agg #[.int .i64 kind, .int .i64 asi, .int .i64 un, .int .i64 num, .int .u64 place, .int .u64 v, .bool store, .bool priv]) (a' := ?_) #[true, true, true, true, true, true, false, false, false, false, false] rfl rfl (take_of HT_.out (by kernel_rfl)) (fun _ _ _ h => h) (Or.inl ⟨by rfl, ?_⟩) hHeld ?_ ?_
        · rintro w' ⟨s8, s0, s1, s2, s3, s4, s5, s6, s7⟩
          go_simp
          first | done | (rw [hrun])
        rotate_left
        · simp only [Act.put, List.setIfInBounds_toArray, List.set_cons_zero, List.set_cons_succ, i64_w, i32_w]
          rfl
        refine one_ (i := 6) (N := some 40) #[true, true, true, true, true, true, true, false, false, false, false] rfl rfl (one_of HT_.out (by kernel_rfl)) (by decide) (fun K hK => ?_)
        refine goes_ Try.func22 (by kernel_rfl) rfl #[.pointer (some ⟨p, 0, none⟩), .agg #[.int .u64 (rdk D 80 24), .int .u64 (rdk D 80 40), .int .u64 (rdk D 80 48), .int .u64 (rdk D 88 8), .int .u64 (rdk D 88 16), .int .u64 (rdk D 88 24), .int .u64 (rdk D 88 32), .int .u64 (rdk D 88 40), .int .u64 (rdk D 88 48)], .agg #[.int .i64 kind, .int .i64 asi, .int .i64 un, .int .i64 num, .int .u64 place, .int .u64 v, .bool store, .bool priv]] (by rfl) rfl rfl (by (try simp only [List.map_toArray, List.map_cons, List.map_nil]); first | done | rfl) ?_
        refine (does_lit HMd.out kind asi un num place v store priv HWF.out.1 HWF.out.2.1 HWF.out.2.2 (by omega)).mono ?_
        rintro e wn ⟨D', rfl, hR', hg'⟩
        obtain ⟨es, cl, hmb, hmo⟩ := HMd.out.own
        have SN := Aside0.mk (blk_mb AHS.out.1 hmb hg')
        have SNR := Aside0.mk hR'
        have SNE := Aside0.mk (show wn.heap[gt]? = some (.cells #[.int .u64 (rdk D 80 24), .int .u64 (rdk D 80 40), .int .u64 (rdk D 80 48), .int .u64 (rdk D 88 8), .int .u64 (rdk D 88 16), .int .u64 (rdk D 88 24), .int .u64 (rdk D 88 32), .int .u64 (rdk D 88 40), .int .u64 (rdk D 88 48)] 38 (0, 0)) ∧ wn.cell? (x.add (i * 8)) = some (.int .i64 kind) ∧ wn.cell? ⟨(x.add (i * 8)).block, (x.add (i * 8)).off + 1, none⟩ = some (.int .i64 asi) ∧ wn.cell? ⟨(x.add (i * 8)).block, (x.add (i * 8)).off + 2, none⟩ = some (.int .i64 un) ∧ wn.cell? ⟨(x.add (i * 8)).block, (x.add (i * 8)).off + 3, none⟩ = some (.int .i64 num) ∧ wn.cell? ⟨(x.add (i * 8)).block, (x.add (i * 8)).off + 4, none⟩ = some (.int .u64 place) ∧ wn.cell? ⟨(x.add (i * 8)).block, (x.add (i * 8)).off + 5, none⟩ = some (.int .u64 v) ∧ wn.cell? ⟨(x.add (i * 8)).block, (x.add (i * 8)).off + 6, none⟩ = some (.bool store) ∧ wn.cell? ⟨(x.add (i * 8)).block, (x.add (i * 8)).off + 7, none⟩ = some (.bool priv) from ⟨SN.out, (SNR.out.below.cell (cell_lt E0.out)).trans E0.out, (SNR.out.below.cell (cell_lt E1.out)).trans E1.out, (SNR.out.below.cell (cell_lt E2.out)).trans E2.out, (SNR.out.below.cell (cell_lt E3.out)).trans E3.out, (SNR.out.below.cell (cell_lt E4.out)).trans E4.out, (SNR.out.below.cell (cell_lt E5.out)).trans E5.out, (SNR.out.below.cell (cell_lt E6.out)).trans E6.out, (SNR.out.below.cell (cell_lt E7.out)).trans E7.out⟩)
        clear hmo hg' hR' hmb es cl
        refine ⟨_, rfl, ?_⟩
        refine hK.out _ _ SNE.out (fun hHeld => ?_)
        clear hK K
        refine norm_ (a' := ?_) ?_ ?_
        rotate_left
        · show Act.put _ (some 40) _ = _
          simp only [Act.put, List.setIfInBounds_toArray, List.set_cons_zero, List.set_cons_succ, i64_w, i32_w]
          rfl
        refine pure_ (i := 7) (N := some 33) (v := ?_) (a' := ?_) #[true, true, true, true, true, true, true, true, false, false, false] rfl rfl (any_of HT_.out (by kernel_rfl)) (fun _ _ _ h => h) (Or.inl ⟨by rfl, ?_⟩) ?_ ?_
        rotate_left
        · intro w'
          go_simp
          with_reducible rfl
        rotate_left
        · simp only [Act.put, List.setIfInBounds_toArray, List.set_cons_zero, List.set_cons_succ, i64_w, i32_w]
          rfl
        refine pure_ (i := 8) (N := some 41) (v := ?_) (a' := ?_) #[true, true, true, true, true, true, true, true, true, false, false] rfl rfl (any_of HT_.out (by kernel_rfl)) (fun _ _ _ h => h) (Or.inl ⟨by rfl, ?_⟩) ?_ ?_
        rotate_left
        · intro w'
          go_simp
          with_reducible rfl
        rotate_left
        · simp only [Act.put, List.setIfInBounds_toArray, List.set_cons_zero, List.set_cons_succ, i64_w, i32_w]
          rfl
        refine pure_ (i := 9) (N := some 42) (v := ?_) (a' := ?_) #[true, true, true, true, true, true, true, true, true, true, false] rfl rfl (any_of HT_.out (by kernel_rfl)) (fun _ _ _ h => h) (Or.inl ⟨by rfl, ?_⟩) ?_ ?_
        rotate_left
        · intro w'
          go_simp
          with_reducible rfl
        rotate_left
        · simp only [Act.put, List.setIfInBounds_toArray, List.set_cons_zero, List.set_cons_succ, i64_w, i32_w]
          rfl
        refine last_ (i := 10) (N := none) #[true, true, true, true, true, true, true, true, true, true, true] rfl rfl (one_of HT_.out (by kernel_rfl)) (by decide) (fun K hK => ?_)
        rw [if_pos (by rfl)]
        refine wp_store_row 38 (.tmp 10) (.tmp 41) rfl gt #[.int .u64 (rdk D' 80 24), .int .u64 (rdk D' 80 40), .int .u64 (rdk D' 80 48), .int .u64 (rdk D' 88 8), .int .u64 (rdk D' 88 16), .int .u64 (rdk D' 88 24), .int .u64 (rdk D' 88 32), .int .u64 (rdk D' 88 40), .int .u64 (rdk D' 88 48)] rfl rfl 38 #[.int .u64 (rdk D 80 24), .int .u64 (rdk D 80 40), .int .u64 (rdk D 80 48), .int .u64 (rdk D 88 8), .int .u64 (rdk D 88 16), .int .u64 (rdk D 88 24), .int .u64 (rdk D 88 32), .int .u64 (rdk D 88 40), .int .u64 (rdk D 88 48)] SN.out (by kernel_rfl) rfl (by kernel_rfl) ?_
        have SO := Aside0.mk (setRow_heap _ gt _ #[.int .u64 (rdk D' 80 24), .int .u64 (rdk D' 80 40), .int .u64 (rdk D' 80 48), .int .u64 (rdk D' 88 8), .int .u64 (rdk D' 88 16), .int .u64 (rdk D' 88 24), .int .u64 (rdk D' 88 32), .int .u64 (rdk D' 88 40), .int .u64 (rdk D' 88 48)] _ _ SN.out)
        have HRN := Aside0.mk (SNR.out.kept (grown_row wn gt #[.int .u64 (rdk D' 80 24), .int .u64 (rdk D' 80 40), .int .u64 (rdk D' 80 48), .int .u64 (rdk D' 88 8), .int .u64 (rdk D' 88 16), .int .u64 (rdk D' 88 24), .int .u64 (rdk D' 88 32), .int .u64 (rdk D' 88 40), .int .u64 (rdk D' 88 48)]) (fun e => HK.out.1 (Option.some.inj e)) (fun e => HK.out.2.1 (Option.some.inj e)) (fun k e => by cases e; exact HK.out.2.2))
        refine hK.out _ _ ?_
        clear hK K
        refine norm_ (a' := ?_) ?_ ?_
        rotate_left
        · show Act.put _ none _ = _
          rfl
        refine done_ (done_of HT_.out (by kernel_rfl)) ?_
        go_wp2
        go_roundw
        case rel => exact ⟨i + 1, n + 2, D', by go_num, by omega, by omega, by omega, SO, HRN⟩
        case measure => simp [intOf]; omega
      · obtain rfl : i = 20 := by omega
        have h1' : (20 : Int) < (len : Int) := by omega
        rcases own_cases w.heap.size w p mb HA.out HQ.out HV.out with hcase | hcase
        · cases h48 : (place == 48)
          · obtain ⟨x, ht, hq0, hwa, hwb⟩ := hcase
            have HW1 := Aside0.mk hwa
            have HW2 := Aside0.mk hwb
            have HOB := Aside0.mk (own_bd D x HA.out HQ.out ht hq0 1 (by rw [if_neg (beq_eq_false_iff_ne.mp h48)]))
            have HG := Aside0.mk (get_own HM.out.own.isMap (a := asi) x hq0)
            have HAT := Aside0.mk (all_twice HM.out.own.isMap x HA.out HQ.out)
            have HTH := Aside0.mk ht
            clear hwa hwb ht hq0
            have hal1 : (allOf D).length = 11 := all_len _
            have hal2 : (allOf (pk D asi place x)).length = 11 := all_len _
            go_wp2_with (first | (go_at_call 23; first | (refine (all_calls HM.out).mono ?_; rintro e w4 ⟨v0, rfl, hO, hg⟩; have HO1 := Aside0.mk hO; have HM1 := Aside0.mk (HM.out.same hg); obtain ⟨Aa, ca, ea⟩ := Kd.R_slice hO; subst ea; clear hO hg HM) | (refine (all_calls HM2.out).mono ?_; rintro e w6 ⟨v1, rfl, hO, hg⟩; have HO3 := Aside0.mk (Kd.R_grown HO2.out hg (by simp)); have HP3 := Aside0.mk hO; have HM3 := Aside0.mk (HM2.out.same hg); obtain ⟨Ab, cb, eb⟩ := Kd.R_slice hO; subst eb; clear hO hg HM2 HO2)) | (go_at_call 16; (refine (HW1.out _ _ _ HM1.out (by omega)).mono ?_; rintro e w5 ⟨rfl, hM, hg⟩; have HO2 := Aside0.mk (R_mb HM1.out HO1.out hg); have HM2 := Aside0.mk hM; clear HO1 HM1 HW1 hM hg)) | go_in)
            have HOB' := HOB
            obtain ⟨bd, HBD⟩ : ∃ bd, Aside0 (OwnB (allOf D) (allOf (pk D asi place x)) 1 bd) := ⟨_, HOB⟩
            clear HOB HOB'
            obtain ⟨bA, HOA⟩ : ∃ b, Aside0 (Kd.R (Kd.int .u64) 22 _ b (fun _ => True) (.slice Aa (allOf D).length ca) (allOf D)) := ⟨_, HO3⟩
            obtain ⟨bB, HPB⟩ : ∃ b, Aside0 (Kd.R (Kd.int .u64) 22 _ b (fun _ => True) (.slice Ab (allOf (pk D asi place x)).length cb) (allOf (pk D asi place x))) := ⟨_, HP3⟩
            clear HO3 HP3
            go_loopw [15, 16] (fun v15 v16 wr2 => ∃ (c j : Nat), v15 = .int .i64 c ∧ v16 = .int .i64 j ∧ j ≤ 11 ∧ c ≤ j ∧ c ≤ bd j ∧ Aside0 (Kd.R (Kd.int .u64) 22 wr2 bA (fun _ => True) (.slice Aa (allOf D).length ca) (allOf D)) ∧ Aside0 (Kd.R (Kd.int .u64) 22 wr2 bB (fun _ => True) (.slice Ab (allOf (pk D asi place x)).length cb) (allOf (pk D asi place x))) ∧ Aside0 (Regs w.heap.size w p mb (n + 1) (pk D asi place x) wr2)) (fun _ v16 _ => 11 - (intOf v16).toNat)
            case atStart => exact ⟨0, 0, rfl, rfl, by omega, by omega, Nat.zero_le _, HOA, HPB, HM3⟩
            case round =>
              clear HOA HPB HM3
              obtain ⟨c, j, rfl, rfl, hj, hcj, hcb, HOA, HPB, HM3⟩ := hrel
              by_cases hj2 : j < 11
              · have hj3 : (j : Int) < 11 := by omega
                obtain ⟨Aa', ca', ea, hca, hCa⟩ := Kd.R_reads HOA.out
                obtain ⟨rfl, rfl⟩ : Aa = Aa' ∧ ca = ca' := by injection ea with e1 e2 e3; exact ⟨e1, e3⟩
                obtain ⟨Ab', cb', eb, hcb2, hCb⟩ := Kd.R_reads HPB.out
                obtain ⟨rfl, rfl⟩ : Ab = Ab' ∧ cb = cb' := by injection eb with e1 e2 e3; exact ⟨e1, e3⟩
                have p1 : 0 ≤ (j : Int) := by omega
                obtain ⟨ad1, e1, hx1⟩ := Kd.at_int hCa (j : Int) p1 (by rw [all_len]; omega)
                cases e1
                obtain ⟨ad2, e2, hx2⟩ := Kd.at_int hCb (j : Int) p1 (by rw [all_len]; omega)
                cases e2
                clear hCa hCb ea eb hca hcb2
                rw [Int.toNat_natCast] at hx1 hx2
                have HST := Aside0.mk (HBD.out.step j hj2)
                have HMO := Aside0.mk (HBD.out.mono j hj2)
                generalize rd (allOf D) (j : Int) = x1 at hx1 HST
                generalize rd (allOf (pk D asi place x)) (j : Int) = x2 at hx2 HST
                replace p1 := eq_true p1
                by_cases hx : x1 = x2
                · have b1 : (x1 != x2) = false := bne_eq_false_iff_eq.mpr hx
                  clear hx
                  go_wp2
                  repeat (go_quiet (fail); try go_wp2)
                  go_roundw
                  case rel => exact ⟨c, j + 1, by first | rfl | go_num, by first | rfl | go_num, by omega, by omega, by have := HMO.out; omega, by first | exact HOA | exact ⟨Kd.R_grown HOA.out (grown_drew _ _) (by simp)⟩ | exact ⟨Kd.R_grown HOA.out (grown_drewN _ _) (by simp)⟩, by first | exact HPB | exact ⟨Kd.R_grown HPB.out (grown_drew _ _) (by simp)⟩ | exact ⟨Kd.R_grown HPB.out (grown_drewN _ _) (by simp)⟩, by first | exact HM3 | exact ⟨HM3.out.same (grown_drew _ _)⟩ | exact ⟨HM3.out.same (grown_drewN _ _)⟩⟩
                  case measure => simp [intOf]; omega
                · have b1 : (x1 != x2) = true := bne_iff_ne.mpr hx
                  have HS2 := Aside0.mk (HST.out hx)
                  clear hx
                  go_wp2
                  repeat (go_quiet (fail); try go_wp2)
                  go_roundw
                  case rel => exact ⟨c + 1, j + 1, by first | rfl | go_num, by first | rfl | go_num, by omega, by omega, by have := HS2.out; omega, by first | exact HOA | exact ⟨Kd.R_grown HOA.out (grown_drew _ _) (by simp)⟩ | exact ⟨Kd.R_grown HOA.out (grown_drewN _ _) (by simp)⟩, by first | exact HPB | exact ⟨Kd.R_grown HPB.out (grown_drew _ _) (by simp)⟩ | exact ⟨Kd.R_grown HPB.out (grown_drewN _ _) (by simp)⟩, by first | exact HM3 | exact ⟨HM3.out.same (grown_drew _ _)⟩ | exact ⟨HM3.out.same (grown_drewN _ _)⟩⟩
                  case measure => simp [intOf]; omega
              · obtain rfl : j = 11 := by omega
                have hcm : (c : Int) ≤ 1 := by have := HBD.out.top; omega
                have hcm2 : c ≤ 1 := by have := HBD.out.top; omega
                go_wp2_with (first | (go_at_call 17; (refine (read_eq HM3.out asi place HA.out HQ.out HTH.out x HG.out).mono ?_; rintro e w7 ⟨rfl, hM, hg⟩; have HM4 := Aside0.mk hM; have HP4 := Aside0.mk (Kd.R_grown HPB.out hg (by simp)); clear HM3 HPB hM hg)) | (go_at_call 16; (refine (HW2.out _ _ _ HM4.out (by omega)).mono ?_; rintro e w8 ⟨rfl, hM, hg⟩; have HP5 := Aside0.mk (R_mb HM4.out HP4.out hg); have HM5 := Aside0.mk hM; clear HM4 HP4 hM hg)) | (go_at_call 23; (refine (all_calls HM5.out).mono ?_; rintro e w9 ⟨v2, rfl, hO, hg⟩; rw [HAT.out] at hO; have HP6 := Aside0.mk (Kd.R_grown HP5.out hg (by simp)); have HM6 := Aside0.mk (HM5.out.same hg); obtain ⟨Ac, cc, ec⟩ := Kd.R_slice hO; subst ec; have HC6 := Aside0.mk hO; clear hO hg HM5 HP5)) | (go_at_call 24; obtain ⟨Ac', cc', e1, hl1, hC1⟩ := Kd.R_reads HC6.out; obtain ⟨rfl, rfl⟩ : Ac = Ac' ∧ cc = cc' := (by injection e1 with i1 i2 i3; exact ⟨i1, i3⟩); obtain ⟨Ab', cb', e2, hl2, hC2⟩ := Kd.R_reads HP6.out; obtain ⟨rfl, rfl⟩ : Ab = Ab' ∧ cb = cb' := (by injection e2 with i1 i2 i3; exact ⟨i1, i3⟩); refine (lookasideref07_Same.calls 20 Ac cc (allOf (pk D asi place x)) Ab cb (allOf (pk D asi place x)) true _ hC1 hl1 hC2 hl2 (same_f _ (all_len _))).mono ?_; rintro e w10 ⟨rfl, hd⟩; have HM7 := Aside0.mk (HM6.out.same (drawn_grown hd)); clear hC1 hC2 hl1 hl2 e1 e2 hd HM6 HC6 HP6) | (go_at_call 18; refine (lives_calls _).mono ?_; rintro e wl ⟨rfl, hg⟩; have HMl := Aside0.mk (HM7.out.same hg); clear hg) | go_in)
                go_ret
                exact ⟨rfl, HMl.out.below⟩
          · obtain ⟨x, ht, hq0, hwa, hwb⟩ := hcase
            have HW1 := Aside0.mk hwa
            have HW2 := Aside0.mk hwb
            have HOB := Aside0.mk (own_bd D x HA.out HQ.out ht hq0 2 (by rw [if_pos (beq_iff_eq.mp h48)]))
            have HG := Aside0.mk (get_own HM.out.own.isMap (a := asi) x hq0)
            have HAT := Aside0.mk (all_twice HM.out.own.isMap x HA.out HQ.out)
            have HTH := Aside0.mk ht
            clear hwa hwb ht hq0
            have hal1 : (allOf D).length = 11 := all_len _
            have hal2 : (allOf (pk D asi place x)).length = 11 := all_len _
            go_wp2_with (first | (go_at_call 23; first | (refine (all_calls HM.out).mono ?_; rintro e w4 ⟨v0, rfl, hO, hg⟩; have HO1 := Aside0.mk hO; have HM1 := Aside0.mk (HM.out.same hg); obtain ⟨Aa, ca, ea⟩ := Kd.R_slice hO; subst ea; clear hO hg HM) | (refine (all_calls HM2.out).mono ?_; rintro e w6 ⟨v1, rfl, hO, hg⟩; have HO3 := Aside0.mk (Kd.R_grown HO2.out hg (by simp)); have HP3 := Aside0.mk hO; have HM3 := Aside0.mk (HM2.out.same hg); obtain ⟨Ab, cb, eb⟩ := Kd.R_slice hO; subst eb; clear hO hg HM2 HO2)) | (go_at_call 16; (refine (HW1.out _ _ _ HM1.out (by omega)).mono ?_; rintro e w5 ⟨rfl, hM, hg⟩; have HO2 := Aside0.mk (R_mb HM1.out HO1.out hg); have HM2 := Aside0.mk hM; clear HO1 HM1 HW1 hM hg)) | go_in)
            have HOB' := HOB
            obtain ⟨bd, HBD⟩ : ∃ bd, Aside0 (OwnB (allOf D) (allOf (pk D asi place x)) 2 bd) := ⟨_, HOB⟩
            clear HOB HOB'
            obtain ⟨bA, HOA⟩ : ∃ b, Aside0 (Kd.R (Kd.int .u64) 22 _ b (fun _ => True) (.slice Aa (allOf D).length ca) (allOf D)) := ⟨_, HO3⟩
            obtain ⟨bB, HPB⟩ : ∃ b, Aside0 (Kd.R (Kd.int .u64) 22 _ b (fun _ => True) (.slice Ab (allOf (pk D asi place x)).length cb) (allOf (pk D asi place x))) := ⟨_, HP3⟩
            clear HO3 HP3
            go_loopw [15, 16] (fun v15 v16 wr2 => ∃ (c j : Nat), v15 = .int .i64 c ∧ v16 = .int .i64 j ∧ j ≤ 11 ∧ c ≤ j ∧ c ≤ bd j ∧ Aside0 (Kd.R (Kd.int .u64) 22 wr2 bA (fun _ => True) (.slice Aa (allOf D).length ca) (allOf D)) ∧ Aside0 (Kd.R (Kd.int .u64) 22 wr2 bB (fun _ => True) (.slice Ab (allOf (pk D asi place x)).length cb) (allOf (pk D asi place x))) ∧ Aside0 (Regs w.heap.size w p mb (n + 1) (pk D asi place x) wr2)) (fun _ v16 _ => 11 - (intOf v16).toNat)
            case atStart => exact ⟨0, 0, rfl, rfl, by omega, by omega, Nat.zero_le _, HOA, HPB, HM3⟩
            case round =>
              clear HOA HPB HM3
              obtain ⟨c, j, rfl, rfl, hj, hcj, hcb, HOA, HPB, HM3⟩ := hrel
              by_cases hj2 : j < 11
              · have hj3 : (j : Int) < 11 := by omega
                obtain ⟨Aa', ca', ea, hca, hCa⟩ := Kd.R_reads HOA.out
                obtain ⟨rfl, rfl⟩ : Aa = Aa' ∧ ca = ca' := by injection ea with e1 e2 e3; exact ⟨e1, e3⟩
                obtain ⟨Ab', cb', eb, hcb2, hCb⟩ := Kd.R_reads HPB.out
                obtain ⟨rfl, rfl⟩ : Ab = Ab' ∧ cb = cb' := by injection eb with e1 e2 e3; exact ⟨e1, e3⟩
                have p1 : 0 ≤ (j : Int) := by omega
                obtain ⟨ad1, e1, hx1⟩ := Kd.at_int hCa (j : Int) p1 (by rw [all_len]; omega)
                cases e1
                obtain ⟨ad2, e2, hx2⟩ := Kd.at_int hCb (j : Int) p1 (by rw [all_len]; omega)
                cases e2
                clear hCa hCb ea eb hca hcb2
                rw [Int.toNat_natCast] at hx1 hx2
                have HST := Aside0.mk (HBD.out.step j hj2)
                have HMO := Aside0.mk (HBD.out.mono j hj2)
                generalize rd (allOf D) (j : Int) = x1 at hx1 HST
                generalize rd (allOf (pk D asi place x)) (j : Int) = x2 at hx2 HST
                replace p1 := eq_true p1
                by_cases hx : x1 = x2
                · have b1 : (x1 != x2) = false := bne_eq_false_iff_eq.mpr hx
                  clear hx
                  go_wp2
                  repeat (go_quiet (fail); try go_wp2)
                  go_roundw
                  case rel => exact ⟨c, j + 1, by first | rfl | go_num, by first | rfl | go_num, by omega, by omega, by have := HMO.out; omega, by first | exact HOA | exact ⟨Kd.R_grown HOA.out (grown_drew _ _) (by simp)⟩ | exact ⟨Kd.R_grown HOA.out (grown_drewN _ _) (by simp)⟩, by first | exact HPB | exact ⟨Kd.R_grown HPB.out (grown_drew _ _) (by simp)⟩ | exact ⟨Kd.R_grown HPB.out (grown_drewN _ _) (by simp)⟩, by first | exact HM3 | exact ⟨HM3.out.same (grown_drew _ _)⟩ | exact ⟨HM3.out.same (grown_drewN _ _)⟩⟩
                  case measure => simp [intOf]; omega
                · have b1 : (x1 != x2) = true := bne_iff_ne.mpr hx
                  have HS2 := Aside0.mk (HST.out hx)
                  clear hx
                  go_wp2
                  repeat (go_quiet (fail); try go_wp2)
                  go_roundw
                  case rel => exact ⟨c + 1, j + 1, by first | rfl | go_num, by first | rfl | go_num, by omega, by omega, by have := HS2.out; omega, by first | exact HOA | exact ⟨Kd.R_grown HOA.out (grown_drew _ _) (by simp)⟩ | exact ⟨Kd.R_grown HOA.out (grown_drewN _ _) (by simp)⟩, by first | exact HPB | exact ⟨Kd.R_grown HPB.out (grown_drew _ _) (by simp)⟩ | exact ⟨Kd.R_grown HPB.out (grown_drewN _ _) (by simp)⟩, by first | exact HM3 | exact ⟨HM3.out.same (grown_drew _ _)⟩ | exact ⟨HM3.out.same (grown_drewN _ _)⟩⟩
                  case measure => simp [intOf]; omega
              · obtain rfl : j = 11 := by omega
                have hcm : (c : Int) ≤ 2 := by have := HBD.out.top; omega
                have hcm2 : c ≤ 2 := by have := HBD.out.top; omega
                go_wp2_with (first | (go_at_call 17; (refine (read_eq HM3.out asi place HA.out HQ.out HTH.out x HG.out).mono ?_; rintro e w7 ⟨rfl, hM, hg⟩; have HM4 := Aside0.mk hM; have HP4 := Aside0.mk (Kd.R_grown HPB.out hg (by simp)); clear HM3 HPB hM hg)) | (go_at_call 16; (refine (HW2.out _ _ _ HM4.out (by omega)).mono ?_; rintro e w8 ⟨rfl, hM, hg⟩; have HP5 := Aside0.mk (R_mb HM4.out HP4.out hg); have HM5 := Aside0.mk hM; clear HM4 HP4 hM hg)) | (go_at_call 23; (refine (all_calls HM5.out).mono ?_; rintro e w9 ⟨v2, rfl, hO, hg⟩; rw [HAT.out] at hO; have HP6 := Aside0.mk (Kd.R_grown HP5.out hg (by simp)); have HM6 := Aside0.mk (HM5.out.same hg); obtain ⟨Ac, cc, ec⟩ := Kd.R_slice hO; subst ec; have HC6 := Aside0.mk hO; clear hO hg HM5 HP5)) | (go_at_call 24; obtain ⟨Ac', cc', e1, hl1, hC1⟩ := Kd.R_reads HC6.out; obtain ⟨rfl, rfl⟩ : Ac = Ac' ∧ cc = cc' := (by injection e1 with i1 i2 i3; exact ⟨i1, i3⟩); obtain ⟨Ab', cb', e2, hl2, hC2⟩ := Kd.R_reads HP6.out; obtain ⟨rfl, rfl⟩ : Ab = Ab' ∧ cb = cb' := (by injection e2 with i1 i2 i3; exact ⟨i1, i3⟩); refine (lookasideref07_Same.calls 20 Ac cc (allOf (pk D asi place x)) Ab cb (allOf (pk D asi place x)) true _ hC1 hl1 hC2 hl2 (same_f _ (all_len _))).mono ?_; rintro e w10 ⟨rfl, hd⟩; have HM7 := Aside0.mk (HM6.out.same (drawn_grown hd)); clear hC1 hC2 hl1 hl2 e1 e2 hd HM6 HC6 HP6) | (go_at_call 18; refine (lives_calls _).mono ?_; rintro e wl ⟨rfl, hg⟩; have HMl := Aside0.mk (HM7.out.same hg); clear hg) | go_in)
                go_ret
                exact ⟨rfl, HMl.out.below⟩
        · cases h48 : (place == 48)
          · obtain ⟨ew, hew, hwa⟩ := hcase
            have HW1 := Aside0.mk hwa
            have hew1 : (ew == 0) = false := beq_eq_false_iff_ne.mpr hew
            have hew2 : (ew != 0) = true := bne_iff_ne.mpr hew
            have HOB := Aside0.mk (own_eq (allOf D) 0)
            obtain ⟨rv, re, _, hrc⟩ := both_read HM.out asi place HA.out HQ.out
            have HRC := Aside0.mk hrc
            clear hwa hew hrc
            have hal1 : (allOf D).length = 11 := all_len _
            go_wp2_with (first | (go_at_call 23; first | (refine (all_calls HM.out).mono ?_; rintro e w4 ⟨v0, rfl, hO, hg⟩; have HO1 := Aside0.mk hO; have HM1 := Aside0.mk (HM.out.same hg); obtain ⟨Aa, ca, ea⟩ := Kd.R_slice hO; subst ea; clear hO hg HM) | (refine (all_calls HM2.out).mono ?_; rintro e w6 ⟨v1, rfl, hO, hg⟩; have HO3 := Aside0.mk (Kd.R_grown HO2.out hg (by simp)); have HP3 := Aside0.mk hO; have HM3 := Aside0.mk (HM2.out.same hg); obtain ⟨Ab, cb, eb⟩ := Kd.R_slice hO; subst eb; clear hO hg HM2 HO2)) | (go_at_call 16; (refine (HW1.out _ _ _ HM1.out).mono ?_; rintro e w5 ⟨rfl, hg⟩; have HO2 := Aside0.mk (Kd.R_grown HO1.out hg (by simp)); have HM2 := Aside0.mk (HM1.out.same hg); clear HO1 HM1 HW1 hg)) | go_in)
            have HOB' := HOB
            obtain ⟨bd, HBD⟩ : ∃ bd, Aside0 (OwnB (allOf D) (allOf D) 0 bd) := ⟨_, HOB⟩
            clear HOB HOB'
            obtain ⟨bA, HOA⟩ : ∃ b, Aside0 (Kd.R (Kd.int .u64) 22 _ b (fun _ => True) (.slice Aa (allOf D).length ca) (allOf D)) := ⟨_, HO3⟩
            obtain ⟨bB, HPB⟩ : ∃ b, Aside0 (Kd.R (Kd.int .u64) 22 _ b (fun _ => True) (.slice Ab (allOf D).length cb) (allOf D)) := ⟨_, HP3⟩
            clear HO3 HP3
            go_loopw [15, 16] (fun v15 v16 wr2 => ∃ (c j : Nat), v15 = .int .i64 c ∧ v16 = .int .i64 j ∧ j ≤ 11 ∧ c ≤ j ∧ c ≤ bd j ∧ Aside0 (Kd.R (Kd.int .u64) 22 wr2 bA (fun _ => True) (.slice Aa (allOf D).length ca) (allOf D)) ∧ Aside0 (Kd.R (Kd.int .u64) 22 wr2 bB (fun _ => True) (.slice Ab (allOf D).length cb) (allOf D)) ∧ Aside0 (Regs w.heap.size w p mb (n + 0) D wr2)) (fun _ v16 _ => 11 - (intOf v16).toNat)
            case atStart => exact ⟨0, 0, rfl, rfl, by omega, by omega, Nat.zero_le _, HOA, HPB, HM3⟩
            case round =>
              clear HOA HPB HM3
              obtain ⟨c, j, rfl, rfl, hj, hcj, hcb, HOA, HPB, HM3⟩ := hrel
              by_cases hj2 : j < 11
              · have hj3 : (j : Int) < 11 := by omega
                obtain ⟨Aa', ca', ea, hca, hCa⟩ := Kd.R_reads HOA.out
                obtain ⟨rfl, rfl⟩ : Aa = Aa' ∧ ca = ca' := by injection ea with e1 e2 e3; exact ⟨e1, e3⟩
                obtain ⟨Ab', cb', eb, hcb2, hCb⟩ := Kd.R_reads HPB.out
                obtain ⟨rfl, rfl⟩ : Ab = Ab' ∧ cb = cb' := by injection eb with e1 e2 e3; exact ⟨e1, e3⟩
                have p1 : 0 ≤ (j : Int) := by omega
                obtain ⟨ad1, e1, hx1⟩ := Kd.at_int hCa (j : Int) p1 (by rw [all_len]; omega)
                cases e1
                obtain ⟨ad2, e2, hx2⟩ := Kd.at_int hCb (j : Int) p1 (by rw [all_len]; omega)
                cases e2
                clear hCa hCb ea eb hca hcb2
                rw [Int.toNat_natCast] at hx1 hx2
                have HST := Aside0.mk (HBD.out.step j hj2)
                have HMO := Aside0.mk (HBD.out.mono j hj2)
                obtain ⟨x2, h12⟩ : ∃ x2, rd (allOf D) (j : Int) = x2 := ⟨_, rfl⟩
                rw [h12] at hx2
                generalize rd (allOf D) (j : Int) = x1 at hx1 HST h12
                replace p1 := eq_true p1
                have b1 : (x1 != x2) = false := bne_eq_false_iff_eq.mpr h12
                clear h12
                go_wp2
                repeat (go_quiet (fail); try go_wp2)
                go_roundw
                case rel => exact ⟨c, j + 1, by first | rfl | go_num, by first | rfl | go_num, by omega, by omega, by have := HMO.out; omega, by first | exact HOA | exact ⟨Kd.R_grown HOA.out (grown_drew _ _) (by simp)⟩ | exact ⟨Kd.R_grown HOA.out (grown_drewN _ _) (by simp)⟩, by first | exact HPB | exact ⟨Kd.R_grown HPB.out (grown_drew _ _) (by simp)⟩ | exact ⟨Kd.R_grown HPB.out (grown_drewN _ _) (by simp)⟩, by first | exact HM3 | exact ⟨HM3.out.same (grown_drew _ _)⟩ | exact ⟨HM3.out.same (grown_drewN _ _)⟩⟩
                case measure => simp [intOf]; omega
              · obtain rfl : j = 11 := by omega
                have hcm : (c : Int) ≤ 0 := by have := HBD.out.top; omega
                have hcm2 : c ≤ 0 := by have := HBD.out.top; omega
                go_wp2_with (first | (go_at_call 17; (refine (HRC.out _ HM3.out).mono ?_; rintro e w7 ⟨rfl, hg⟩; have HM5 := Aside0.mk (HM3.out.same hg); have HP5 := Aside0.mk (Kd.R_grown HPB.out hg (by simp)); clear HM3 HPB hg)) | (go_at_call 23; (refine (all_calls HM5.out).mono ?_; rintro e w9 ⟨v2, rfl, hO, hg⟩; have HP6 := Aside0.mk (Kd.R_grown HP5.out hg (by simp)); have HM6 := Aside0.mk (HM5.out.same hg); obtain ⟨Ac, cc, ec⟩ := Kd.R_slice hO; subst ec; have HC6 := Aside0.mk hO; clear hO hg HM5 HP5)) | (go_at_call 24; obtain ⟨Ac', cc', e1, hl1, hC1⟩ := Kd.R_reads HC6.out; obtain ⟨rfl, rfl⟩ : Ac = Ac' ∧ cc = cc' := (by injection e1 with i1 i2 i3; exact ⟨i1, i3⟩); obtain ⟨Ab', cb', e2, hl2, hC2⟩ := Kd.R_reads HP6.out; obtain ⟨rfl, rfl⟩ : Ab = Ab' ∧ cb = cb' := (by injection e2 with i1 i2 i3; exact ⟨i1, i3⟩); refine (lookasideref07_Same.calls 20 Ac cc (allOf D) Ab cb (allOf D) true _ hC1 hl1 hC2 hl2 (same_f _ (all_len _))).mono ?_; rintro e w10 ⟨rfl, hd⟩; have HM7 := Aside0.mk (HM6.out.same (drawn_grown hd)); clear hC1 hC2 hl1 hl2 e1 e2 hd HM6 HC6 HP6) | (go_at_call 18; refine (lives_calls _).mono ?_; rintro e wl ⟨rfl, hg⟩; have HMl := Aside0.mk (HM7.out.same hg); clear hg) | go_in)
                go_ret
                exact ⟨rfl, HMl.out.below⟩
          · obtain ⟨ew, hew, hwa⟩ := hcase
            have HW1 := Aside0.mk hwa
            have hew1 : (ew == 0) = false := beq_eq_false_iff_ne.mpr hew
            have hew2 : (ew != 0) = true := bne_iff_ne.mpr hew
            have HOB := Aside0.mk (own_eq (allOf D) 0)
            obtain ⟨rv, re, _, hrc⟩ := both_read HM.out asi place HA.out HQ.out
            have HRC := Aside0.mk hrc
            clear hwa hew hrc
            have hal1 : (allOf D).length = 11 := all_len _
            go_wp2_with (first | (go_at_call 23; first | (refine (all_calls HM.out).mono ?_; rintro e w4 ⟨v0, rfl, hO, hg⟩; have HO1 := Aside0.mk hO; have HM1 := Aside0.mk (HM.out.same hg); obtain ⟨Aa, ca, ea⟩ := Kd.R_slice hO; subst ea; clear hO hg HM) | (refine (all_calls HM2.out).mono ?_; rintro e w6 ⟨v1, rfl, hO, hg⟩; have HO3 := Aside0.mk (Kd.R_grown HO2.out hg (by simp)); have HP3 := Aside0.mk hO; have HM3 := Aside0.mk (HM2.out.same hg); obtain ⟨Ab, cb, eb⟩ := Kd.R_slice hO; subst eb; clear hO hg HM2 HO2)) | (go_at_call 16; (refine (HW1.out _ _ _ HM1.out).mono ?_; rintro e w5 ⟨rfl, hg⟩; have HO2 := Aside0.mk (Kd.R_grown HO1.out hg (by simp)); have HM2 := Aside0.mk (HM1.out.same hg); clear HO1 HM1 HW1 hg)) | go_in)
            have HOB' := HOB
            obtain ⟨bd, HBD⟩ : ∃ bd, Aside0 (OwnB (allOf D) (allOf D) 0 bd) := ⟨_, HOB⟩
            clear HOB HOB'
            obtain ⟨bA, HOA⟩ : ∃ b, Aside0 (Kd.R (Kd.int .u64) 22 _ b (fun _ => True) (.slice Aa (allOf D).length ca) (allOf D)) := ⟨_, HO3⟩
            obtain ⟨bB, HPB⟩ : ∃ b, Aside0 (Kd.R (Kd.int .u64) 22 _ b (fun _ => True) (.slice Ab (allOf D).length cb) (allOf D)) := ⟨_, HP3⟩
            clear HO3 HP3
            go_loopw [15, 16] (fun v15 v16 wr2 => ∃ (c j : Nat), v15 = .int .i64 c ∧ v16 = .int .i64 j ∧ j ≤ 11 ∧ c ≤ j ∧ c ≤ bd j ∧ Aside0 (Kd.R (Kd.int .u64) 22 wr2 bA (fun _ => True) (.slice Aa (allOf D).length ca) (allOf D)) ∧ Aside0 (Kd.R (Kd.int .u64) 22 wr2 bB (fun _ => True) (.slice Ab (allOf D).length cb) (allOf D)) ∧ Aside0 (Regs w.heap.size w p mb (n + 0) D wr2)) (fun _ v16 _ => 11 - (intOf v16).toNat)
            case atStart => exact ⟨0, 0, rfl, rfl, by omega, by omega, Nat.zero_le _, HOA, HPB, HM3⟩
            case round =>
              clear HOA HPB HM3
              obtain ⟨c, j, rfl, rfl, hj, hcj, hcb, HOA, HPB, HM3⟩ := hrel
              by_cases hj2 : j < 11
              · have hj3 : (j : Int) < 11 := by omega
                obtain ⟨Aa', ca', ea, hca, hCa⟩ := Kd.R_reads HOA.out
                obtain ⟨rfl, rfl⟩ : Aa = Aa' ∧ ca = ca' := by injection ea with e1 e2 e3; exact ⟨e1, e3⟩
                obtain ⟨Ab', cb', eb, hcb2, hCb⟩ := Kd.R_reads HPB.out
                obtain ⟨rfl, rfl⟩ : Ab = Ab' ∧ cb = cb' := by injection eb with e1 e2 e3; exact ⟨e1, e3⟩
                have p1 : 0 ≤ (j : Int) := by omega
                obtain ⟨ad1, e1, hx1⟩ := Kd.at_int hCa (j : Int) p1 (by rw [all_len]; omega)
                cases e1
                obtain ⟨ad2, e2, hx2⟩ := Kd.at_int hCb (j : Int) p1 (by rw [all_len]; omega)
                cases e2
                clear hCa hCb ea eb hca hcb2
                rw [Int.toNat_natCast] at hx1 hx2
                have HST := Aside0.mk (HBD.out.step j hj2)
                have HMO := Aside0.mk (HBD.out.mono j hj2)
                obtain ⟨x2, h12⟩ : ∃ x2, rd (allOf D) (j : Int) = x2 := ⟨_, rfl⟩
                rw [h12] at hx2
                generalize rd (allOf D) (j : Int) = x1 at hx1 HST h12
                replace p1 := eq_true p1
                have b1 : (x1 != x2) = false := bne_eq_false_iff_eq.mpr h12
                clear h12
                go_wp2
                repeat (go_quiet (fail); try go_wp2)
                go_roundw
                case rel => exact ⟨c, j + 1, by first | rfl | go_num, by first | rfl | go_num, by omega, by omega, by have := HMO.out; omega, by first | exact HOA | exact ⟨Kd.R_grown HOA.out (grown_drew _ _) (by simp)⟩ | exact ⟨Kd.R_grown HOA.out (grown_drewN _ _) (by simp)⟩, by first | exact HPB | exact ⟨Kd.R_grown HPB.out (grown_drew _ _) (by simp)⟩ | exact ⟨Kd.R_grown HPB.out (grown_drewN _ _) (by simp)⟩, by first | exact HM3 | exact ⟨HM3.out.same (grown_drew _ _)⟩ | exact ⟨HM3.out.same (grown_drewN _ _)⟩⟩
                case measure => simp [intOf]; omega
              · obtain rfl : j = 11 := by omega
                have hcm : (c : Int) ≤ 0 := by have := HBD.out.top; omega
                have hcm2 : c ≤ 0 := by have := HBD.out.top; omega
                go_wp2_with (first | (go_at_call 17; (refine (HRC.out _ HM3.out).mono ?_; rintro e w7 ⟨rfl, hg⟩; have HM5 := Aside0.mk (HM3.out.same hg); have HP5 := Aside0.mk (Kd.R_grown HPB.out hg (by simp)); clear HM3 HPB hg)) | (go_at_call 23; (refine (all_calls HM5.out).mono ?_; rintro e w9 ⟨v2, rfl, hO, hg⟩; have HP6 := Aside0.mk (Kd.R_grown HP5.out hg (by simp)); have HM6 := Aside0.mk (HM5.out.same hg); obtain ⟨Ac, cc, ec⟩ := Kd.R_slice hO; subst ec; have HC6 := Aside0.mk hO; clear hO hg HM5 HP5)) | (go_at_call 24; obtain ⟨Ac', cc', e1, hl1, hC1⟩ := Kd.R_reads HC6.out; obtain ⟨rfl, rfl⟩ : Ac = Ac' ∧ cc = cc' := (by injection e1 with i1 i2 i3; exact ⟨i1, i3⟩); obtain ⟨Ab', cb', e2, hl2, hC2⟩ := Kd.R_reads HP6.out; obtain ⟨rfl, rfl⟩ : Ab = Ab' ∧ cb = cb' := (by injection e2 with i1 i2 i3; exact ⟨i1, i3⟩); refine (lookasideref07_Same.calls 20 Ac cc (allOf D) Ab cb (allOf D) true _ hC1 hl1 hC2 hl2 (same_f _ (all_len _))).mono ?_; rintro e w10 ⟨rfl, hd⟩; have HM7 := Aside0.mk (HM6.out.same (drawn_grown hd)); clear hC1 hC2 hl1 hl2 e1 e2 hd HM6 HC6 HP6) | (go_at_call 18; refine (lives_calls _).mono ?_; rintro e wl ⟨rfl, hg⟩; have HMl := Aside0.mk (HM7.out.same hg); clear hg) | go_in)
                go_ret
                exact ⟨rfl, HMl.out.below⟩
    · obtain rfl : i = len := by omega
      rcases own_cases w.heap.size w p mb HA.out HQ.out HV.out with hcase | hcase
      · cases h48 : (place == 48)
        · obtain ⟨x, ht, hq0, hwa, hwb⟩ := hcase
          have HW1 := Aside0.mk hwa
          have HW2 := Aside0.mk hwb
          have HOB := Aside0.mk (own_bd D x HA.out HQ.out ht hq0 1 (by rw [if_neg (beq_eq_false_iff_ne.mp h48)]))
          have HG := Aside0.mk (get_own HM.out.own.isMap (a := asi) x hq0)
          have HAT := Aside0.mk (all_twice HM.out.own.isMap x HA.out HQ.out)
          have HTH := Aside0.mk ht
          clear hwa hwb ht hq0
          have hal1 : (allOf D).length = 11 := all_len _
          have hal2 : (allOf (pk D asi place x)).length = 11 := all_len _
          go_wp2_with (first | (go_at_call 23; first | (refine (all_calls HM.out).mono ?_; rintro e w4 ⟨v0, rfl, hO, hg⟩; have HO1 := Aside0.mk hO; have HM1 := Aside0.mk (HM.out.same hg); obtain ⟨Aa, ca, ea⟩ := Kd.R_slice hO; subst ea; clear hO hg HM) | (refine (all_calls HM2.out).mono ?_; rintro e w6 ⟨v1, rfl, hO, hg⟩; have HO3 := Aside0.mk (Kd.R_grown HO2.out hg (by simp)); have HP3 := Aside0.mk hO; have HM3 := Aside0.mk (HM2.out.same hg); obtain ⟨Ab, cb, eb⟩ := Kd.R_slice hO; subst eb; clear hO hg HM2 HO2)) | (go_at_call 16; (refine (HW1.out _ _ _ HM1.out (by omega)).mono ?_; rintro e w5 ⟨rfl, hM, hg⟩; have HO2 := Aside0.mk (R_mb HM1.out HO1.out hg); have HM2 := Aside0.mk hM; clear HO1 HM1 HW1 hM hg)) | go_in)
          have HOB' := HOB
          obtain ⟨bd, HBD⟩ : ∃ bd, Aside0 (OwnB (allOf D) (allOf (pk D asi place x)) 1 bd) := ⟨_, HOB⟩
          clear HOB HOB'
          obtain ⟨bA, HOA⟩ : ∃ b, Aside0 (Kd.R (Kd.int .u64) 22 _ b (fun _ => True) (.slice Aa (allOf D).length ca) (allOf D)) := ⟨_, HO3⟩
          obtain ⟨bB, HPB⟩ : ∃ b, Aside0 (Kd.R (Kd.int .u64) 22 _ b (fun _ => True) (.slice Ab (allOf (pk D asi place x)).length cb) (allOf (pk D asi place x))) := ⟨_, HP3⟩
          clear HO3 HP3
          go_loopw [15, 16] (fun v15 v16 wr2 => ∃ (c j : Nat), v15 = .int .i64 c ∧ v16 = .int .i64 j ∧ j ≤ 11 ∧ c ≤ j ∧ c ≤ bd j ∧ Aside0 (Kd.R (Kd.int .u64) 22 wr2 bA (fun _ => True) (.slice Aa (allOf D).length ca) (allOf D)) ∧ Aside0 (Kd.R (Kd.int .u64) 22 wr2 bB (fun _ => True) (.slice Ab (allOf (pk D asi place x)).length cb) (allOf (pk D asi place x))) ∧ Aside0 (Regs w.heap.size w p mb (n + 1) (pk D asi place x) wr2)) (fun _ v16 _ => 11 - (intOf v16).toNat)
          case atStart => exact ⟨0, 0, rfl, rfl, by omega, by omega, Nat.zero_le _, HOA, HPB, HM3⟩
          case round =>
            clear HOA HPB HM3
            obtain ⟨c, j, rfl, rfl, hj, hcj, hcb, HOA, HPB, HM3⟩ := hrel
            by_cases hj2 : j < 11
            · have hj3 : (j : Int) < 11 := by omega
              obtain ⟨Aa', ca', ea, hca, hCa⟩ := Kd.R_reads HOA.out
              obtain ⟨rfl, rfl⟩ : Aa = Aa' ∧ ca = ca' := by injection ea with e1 e2 e3; exact ⟨e1, e3⟩
              obtain ⟨Ab', cb', eb, hcb2, hCb⟩ := Kd.R_reads HPB.out
              obtain ⟨rfl, rfl⟩ : Ab = Ab' ∧ cb = cb' := by injection eb with e1 e2 e3; exact ⟨e1, e3⟩
              have p1 : 0 ≤ (j : Int) := by omega
              obtain ⟨ad1, e1, hx1⟩ := Kd.at_int hCa (j : Int) p1 (by rw [all_len]; omega)
              cases e1
              obtain ⟨ad2, e2, hx2⟩ := Kd.at_int hCb (j : Int) p1 (by rw [all_len]; omega)
              cases e2
              clear hCa hCb ea eb hca hcb2
              rw [Int.toNat_natCast] at hx1 hx2
              have HST := Aside0.mk (HBD.out.step j hj2)
              have HMO := Aside0.mk (HBD.out.mono j hj2)
              generalize rd (allOf D) (j : Int) = x1 at hx1 HST
              generalize rd (allOf (pk D asi place x)) (j : Int) = x2 at hx2 HST
              replace p1 := eq_true p1
              by_cases hx : x1 = x2
              · have b1 : (x1 != x2) = false := bne_eq_false_iff_eq.mpr hx
                clear hx
                go_wp2
                repeat (go_quiet (fail); try go_wp2)
                go_roundw
                case rel => exact ⟨c, j + 1, by first | rfl | go_num, by first | rfl | go_num, by omega, by omega, by have := HMO.out; omega, by first | exact HOA | exact ⟨Kd.R_grown HOA.out (grown_drew _ _) (by simp)⟩ | exact ⟨Kd.R_grown HOA.out (grown_drewN _ _) (by simp)⟩, by first | exact HPB | exact ⟨Kd.R_grown HPB.out (grown_drew _ _) (by simp)⟩ | exact ⟨Kd.R_grown HPB.out (grown_drewN _ _) (by simp)⟩, by first | exact HM3 | exact ⟨HM3.out.same (grown_drew _ _)⟩ | exact ⟨HM3.out.same (grown_drewN _ _)⟩⟩
                case measure => simp [intOf]; omega
              · have b1 : (x1 != x2) = true := bne_iff_ne.mpr hx
                have HS2 := Aside0.mk (HST.out hx)
                clear hx
                go_wp2
                repeat (go_quiet (fail); try go_wp2)
                go_roundw
                case rel => exact ⟨c + 1, j + 1, by first | rfl | go_num, by first | rfl | go_num, by omega, by omega, by have := HS2.out; omega, by first | exact HOA | exact ⟨Kd.R_grown HOA.out (grown_drew _ _) (by simp)⟩ | exact ⟨Kd.R_grown HOA.out (grown_drewN _ _) (by simp)⟩, by first | exact HPB | exact ⟨Kd.R_grown HPB.out (grown_drew _ _) (by simp)⟩ | exact ⟨Kd.R_grown HPB.out (grown_drewN _ _) (by simp)⟩, by first | exact HM3 | exact ⟨HM3.out.same (grown_drew _ _)⟩ | exact ⟨HM3.out.same (grown_drewN _ _)⟩⟩
                case measure => simp [intOf]; omega
            · obtain rfl : j = 11 := by omega
              have hcm : (c : Int) ≤ 1 := by have := HBD.out.top; omega
              have hcm2 : c ≤ 1 := by have := HBD.out.top; omega
              go_wp2_with (first | (go_at_call 17; (refine (read_eq HM3.out asi place HA.out HQ.out HTH.out x HG.out).mono ?_; rintro e w7 ⟨rfl, hM, hg⟩; have HM4 := Aside0.mk hM; have HP4 := Aside0.mk (Kd.R_grown HPB.out hg (by simp)); clear HM3 HPB hM hg)) | (go_at_call 16; (refine (HW2.out _ _ _ HM4.out (by omega)).mono ?_; rintro e w8 ⟨rfl, hM, hg⟩; have HP5 := Aside0.mk (R_mb HM4.out HP4.out hg); have HM5 := Aside0.mk hM; clear HM4 HP4 hM hg)) | (go_at_call 23; (refine (all_calls HM5.out).mono ?_; rintro e w9 ⟨v2, rfl, hO, hg⟩; rw [HAT.out] at hO; have HP6 := Aside0.mk (Kd.R_grown HP5.out hg (by simp)); have HM6 := Aside0.mk (HM5.out.same hg); obtain ⟨Ac, cc, ec⟩ := Kd.R_slice hO; subst ec; have HC6 := Aside0.mk hO; clear hO hg HM5 HP5)) | (go_at_call 24; obtain ⟨Ac', cc', e1, hl1, hC1⟩ := Kd.R_reads HC6.out; obtain ⟨rfl, rfl⟩ : Ac = Ac' ∧ cc = cc' := (by injection e1 with i1 i2 i3; exact ⟨i1, i3⟩); obtain ⟨Ab', cb', e2, hl2, hC2⟩ := Kd.R_reads HP6.out; obtain ⟨rfl, rfl⟩ : Ab = Ab' ∧ cb = cb' := (by injection e2 with i1 i2 i3; exact ⟨i1, i3⟩); refine (lookasideref07_Same.calls 20 Ac cc (allOf (pk D asi place x)) Ab cb (allOf (pk D asi place x)) true _ hC1 hl1 hC2 hl2 (same_f _ (all_len _))).mono ?_; rintro e w10 ⟨rfl, hd⟩; have HM7 := Aside0.mk (HM6.out.same (drawn_grown hd)); clear hC1 hC2 hl1 hl2 e1 e2 hd HM6 HC6 HP6) | (go_at_call 18; refine (lives_calls _).mono ?_; rintro e wl ⟨rfl, hg⟩; have HMl := Aside0.mk (HM7.out.same hg); clear hg) | go_in)
              go_ret
              exact ⟨rfl, HMl.out.below⟩
        · obtain ⟨x, ht, hq0, hwa, hwb⟩ := hcase
          have HW1 := Aside0.mk hwa
          have HW2 := Aside0.mk hwb
          have HOB := Aside0.mk (own_bd D x HA.out HQ.out ht hq0 2 (by rw [if_pos (beq_iff_eq.mp h48)]))
          have HG := Aside0.mk (get_own HM.out.own.isMap (a := asi) x hq0)
          have HAT := Aside0.mk (all_twice HM.out.own.isMap x HA.out HQ.out)
          have HTH := Aside0.mk ht
          clear hwa hwb ht hq0
          have hal1 : (allOf D).length = 11 := all_len _
          have hal2 : (allOf (pk D asi place x)).length = 11 := all_len _
          go_wp2_with (first | (go_at_call 23; first | (refine (all_calls HM.out).mono ?_; rintro e w4 ⟨v0, rfl, hO, hg⟩; have HO1 := Aside0.mk hO; have HM1 := Aside0.mk (HM.out.same hg); obtain ⟨Aa, ca, ea⟩ := Kd.R_slice hO; subst ea; clear hO hg HM) | (refine (all_calls HM2.out).mono ?_; rintro e w6 ⟨v1, rfl, hO, hg⟩; have HO3 := Aside0.mk (Kd.R_grown HO2.out hg (by simp)); have HP3 := Aside0.mk hO; have HM3 := Aside0.mk (HM2.out.same hg); obtain ⟨Ab, cb, eb⟩ := Kd.R_slice hO; subst eb; clear hO hg HM2 HO2)) | (go_at_call 16; (refine (HW1.out _ _ _ HM1.out (by omega)).mono ?_; rintro e w5 ⟨rfl, hM, hg⟩; have HO2 := Aside0.mk (R_mb HM1.out HO1.out hg); have HM2 := Aside0.mk hM; clear HO1 HM1 HW1 hM hg)) | go_in)
          have HOB' := HOB
          obtain ⟨bd, HBD⟩ : ∃ bd, Aside0 (OwnB (allOf D) (allOf (pk D asi place x)) 2 bd) := ⟨_, HOB⟩
          clear HOB HOB'
          obtain ⟨bA, HOA⟩ : ∃ b, Aside0 (Kd.R (Kd.int .u64) 22 _ b (fun _ => True) (.slice Aa (allOf D).length ca) (allOf D)) := ⟨_, HO3⟩
          obtain ⟨bB, HPB⟩ : ∃ b, Aside0 (Kd.R (Kd.int .u64) 22 _ b (fun _ => True) (.slice Ab (allOf (pk D asi place x)).length cb) (allOf (pk D asi place x))) := ⟨_, HP3⟩
          clear HO3 HP3
          go_loopw [15, 16] (fun v15 v16 wr2 => ∃ (c j : Nat), v15 = .int .i64 c ∧ v16 = .int .i64 j ∧ j ≤ 11 ∧ c ≤ j ∧ c ≤ bd j ∧ Aside0 (Kd.R (Kd.int .u64) 22 wr2 bA (fun _ => True) (.slice Aa (allOf D).length ca) (allOf D)) ∧ Aside0 (Kd.R (Kd.int .u64) 22 wr2 bB (fun _ => True) (.slice Ab (allOf (pk D asi place x)).length cb) (allOf (pk D asi place x))) ∧ Aside0 (Regs w.heap.size w p mb (n + 1) (pk D asi place x) wr2)) (fun _ v16 _ => 11 - (intOf v16).toNat)
          case atStart => exact ⟨0, 0, rfl, rfl, by omega, by omega, Nat.zero_le _, HOA, HPB, HM3⟩
          case round =>
            clear HOA HPB HM3
            obtain ⟨c, j, rfl, rfl, hj, hcj, hcb, HOA, HPB, HM3⟩ := hrel
            by_cases hj2 : j < 11
            · have hj3 : (j : Int) < 11 := by omega
              obtain ⟨Aa', ca', ea, hca, hCa⟩ := Kd.R_reads HOA.out
              obtain ⟨rfl, rfl⟩ : Aa = Aa' ∧ ca = ca' := by injection ea with e1 e2 e3; exact ⟨e1, e3⟩
              obtain ⟨Ab', cb', eb, hcb2, hCb⟩ := Kd.R_reads HPB.out
              obtain ⟨rfl, rfl⟩ : Ab = Ab' ∧ cb = cb' := by injection eb with e1 e2 e3; exact ⟨e1, e3⟩
              have p1 : 0 ≤ (j : Int) := by omega
              obtain ⟨ad1, e1, hx1⟩ := Kd.at_int hCa (j : Int) p1 (by rw [all_len]; omega)
              cases e1
              obtain ⟨ad2, e2, hx2⟩ := Kd.at_int hCb (j : Int) p1 (by rw [all_len]; omega)
              cases e2
              clear hCa hCb ea eb hca hcb2
              rw [Int.toNat_natCast] at hx1 hx2
              have HST := Aside0.mk (HBD.out.step j hj2)
              have HMO := Aside0.mk (HBD.out.mono j hj2)
              generalize rd (allOf D) (j : Int) = x1 at hx1 HST
              generalize rd (allOf (pk D asi place x)) (j : Int) = x2 at hx2 HST
              replace p1 := eq_true p1
              by_cases hx : x1 = x2
              · have b1 : (x1 != x2) = false := bne_eq_false_iff_eq.mpr hx
                clear hx
                go_wp2
                repeat (go_quiet (fail); try go_wp2)
                go_roundw
                case rel => exact ⟨c, j + 1, by first | rfl | go_num, by first | rfl | go_num, by omega, by omega, by have := HMO.out; omega, by first | exact HOA | exact ⟨Kd.R_grown HOA.out (grown_drew _ _) (by simp)⟩ | exact ⟨Kd.R_grown HOA.out (grown_drewN _ _) (by simp)⟩, by first | exact HPB | exact ⟨Kd.R_grown HPB.out (grown_drew _ _) (by simp)⟩ | exact ⟨Kd.R_grown HPB.out (grown_drewN _ _) (by simp)⟩, by first | exact HM3 | exact ⟨HM3.out.same (grown_drew _ _)⟩ | exact ⟨HM3.out.same (grown_drewN _ _)⟩⟩
                case measure => simp [intOf]; omega
              · have b1 : (x1 != x2) = true := bne_iff_ne.mpr hx
                have HS2 := Aside0.mk (HST.out hx)
                clear hx
                go_wp2
                repeat (go_quiet (fail); try go_wp2)
                go_roundw
                case rel => exact ⟨c + 1, j + 1, by first | rfl | go_num, by first | rfl | go_num, by omega, by omega, by have := HS2.out; omega, by first | exact HOA | exact ⟨Kd.R_grown HOA.out (grown_drew _ _) (by simp)⟩ | exact ⟨Kd.R_grown HOA.out (grown_drewN _ _) (by simp)⟩, by first | exact HPB | exact ⟨Kd.R_grown HPB.out (grown_drew _ _) (by simp)⟩ | exact ⟨Kd.R_grown HPB.out (grown_drewN _ _) (by simp)⟩, by first | exact HM3 | exact ⟨HM3.out.same (grown_drew _ _)⟩ | exact ⟨HM3.out.same (grown_drewN _ _)⟩⟩
                case measure => simp [intOf]; omega
            · obtain rfl : j = 11 := by omega
              have hcm : (c : Int) ≤ 2 := by have := HBD.out.top; omega
              have hcm2 : c ≤ 2 := by have := HBD.out.top; omega
              go_wp2_with (first | (go_at_call 17; (refine (read_eq HM3.out asi place HA.out HQ.out HTH.out x HG.out).mono ?_; rintro e w7 ⟨rfl, hM, hg⟩; have HM4 := Aside0.mk hM; have HP4 := Aside0.mk (Kd.R_grown HPB.out hg (by simp)); clear HM3 HPB hM hg)) | (go_at_call 16; (refine (HW2.out _ _ _ HM4.out (by omega)).mono ?_; rintro e w8 ⟨rfl, hM, hg⟩; have HP5 := Aside0.mk (R_mb HM4.out HP4.out hg); have HM5 := Aside0.mk hM; clear HM4 HP4 hM hg)) | (go_at_call 23; (refine (all_calls HM5.out).mono ?_; rintro e w9 ⟨v2, rfl, hO, hg⟩; rw [HAT.out] at hO; have HP6 := Aside0.mk (Kd.R_grown HP5.out hg (by simp)); have HM6 := Aside0.mk (HM5.out.same hg); obtain ⟨Ac, cc, ec⟩ := Kd.R_slice hO; subst ec; have HC6 := Aside0.mk hO; clear hO hg HM5 HP5)) | (go_at_call 24; obtain ⟨Ac', cc', e1, hl1, hC1⟩ := Kd.R_reads HC6.out; obtain ⟨rfl, rfl⟩ : Ac = Ac' ∧ cc = cc' := (by injection e1 with i1 i2 i3; exact ⟨i1, i3⟩); obtain ⟨Ab', cb', e2, hl2, hC2⟩ := Kd.R_reads HP6.out; obtain ⟨rfl, rfl⟩ : Ab = Ab' ∧ cb = cb' := (by injection e2 with i1 i2 i3; exact ⟨i1, i3⟩); refine (lookasideref07_Same.calls 20 Ac cc (allOf (pk D asi place x)) Ab cb (allOf (pk D asi place x)) true _ hC1 hl1 hC2 hl2 (same_f _ (all_len _))).mono ?_; rintro e w10 ⟨rfl, hd⟩; have HM7 := Aside0.mk (HM6.out.same (drawn_grown hd)); clear hC1 hC2 hl1 hl2 e1 e2 hd HM6 HC6 HP6) | (go_at_call 18; refine (lives_calls _).mono ?_; rintro e wl ⟨rfl, hg⟩; have HMl := Aside0.mk (HM7.out.same hg); clear hg) | go_in)
              go_ret
              exact ⟨rfl, HMl.out.below⟩
      · cases h48 : (place == 48)
        · obtain ⟨ew, hew, hwa⟩ := hcase
          have HW1 := Aside0.mk hwa
          have hew1 : (ew == 0) = false := beq_eq_false_iff_ne.mpr hew
          have hew2 : (ew != 0) = true := bne_iff_ne.mpr hew
          have HOB := Aside0.mk (own_eq (allOf D) 0)
          obtain ⟨rv, re, _, hrc⟩ := both_read HM.out asi place HA.out HQ.out
          have HRC := Aside0.mk hrc
          clear hwa hew hrc
          have hal1 : (allOf D).length = 11 := all_len _
          go_wp2_with (first | (go_at_call 23; first | (refine (all_calls HM.out).mono ?_; rintro e w4 ⟨v0, rfl, hO, hg⟩; have HO1 := Aside0.mk hO; have HM1 := Aside0.mk (HM.out.same hg); obtain ⟨Aa, ca, ea⟩ := Kd.R_slice hO; subst ea; clear hO hg HM) | (refine (all_calls HM2.out).mono ?_; rintro e w6 ⟨v1, rfl, hO, hg⟩; have HO3 := Aside0.mk (Kd.R_grown HO2.out hg (by simp)); have HP3 := Aside0.mk hO; have HM3 := Aside0.mk (HM2.out.same hg); obtain ⟨Ab, cb, eb⟩ := Kd.R_slice hO; subst eb; clear hO hg HM2 HO2)) | (go_at_call 16; (refine (HW1.out _ _ _ HM1.out).mono ?_; rintro e w5 ⟨rfl, hg⟩; have HO2 := Aside0.mk (Kd.R_grown HO1.out hg (by simp)); have HM2 := Aside0.mk (HM1.out.same hg); clear HO1 HM1 HW1 hg)) | go_in)
          have HOB' := HOB
          obtain ⟨bd, HBD⟩ : ∃ bd, Aside0 (OwnB (allOf D) (allOf D) 0 bd) := ⟨_, HOB⟩
          clear HOB HOB'
          obtain ⟨bA, HOA⟩ : ∃ b, Aside0 (Kd.R (Kd.int .u64) 22 _ b (fun _ => True) (.slice Aa (allOf D).length ca) (allOf D)) := ⟨_, HO3⟩
          obtain ⟨bB, HPB⟩ : ∃ b, Aside0 (Kd.R (Kd.int .u64) 22 _ b (fun _ => True) (.slice Ab (allOf D).length cb) (allOf D)) := ⟨_, HP3⟩
          clear HO3 HP3
          go_loopw [15, 16] (fun v15 v16 wr2 => ∃ (c j : Nat), v15 = .int .i64 c ∧ v16 = .int .i64 j ∧ j ≤ 11 ∧ c ≤ j ∧ c ≤ bd j ∧ Aside0 (Kd.R (Kd.int .u64) 22 wr2 bA (fun _ => True) (.slice Aa (allOf D).length ca) (allOf D)) ∧ Aside0 (Kd.R (Kd.int .u64) 22 wr2 bB (fun _ => True) (.slice Ab (allOf D).length cb) (allOf D)) ∧ Aside0 (Regs w.heap.size w p mb (n + 0) D wr2)) (fun _ v16 _ => 11 - (intOf v16).toNat)
          case atStart => exact ⟨0, 0, rfl, rfl, by omega, by omega, Nat.zero_le _, HOA, HPB, HM3⟩
          case round =>
            clear HOA HPB HM3
            obtain ⟨c, j, rfl, rfl, hj, hcj, hcb, HOA, HPB, HM3⟩ := hrel
            by_cases hj2 : j < 11
            · have hj3 : (j : Int) < 11 := by omega
              obtain ⟨Aa', ca', ea, hca, hCa⟩ := Kd.R_reads HOA.out
              obtain ⟨rfl, rfl⟩ : Aa = Aa' ∧ ca = ca' := by injection ea with e1 e2 e3; exact ⟨e1, e3⟩
              obtain ⟨Ab', cb', eb, hcb2, hCb⟩ := Kd.R_reads HPB.out
              obtain ⟨rfl, rfl⟩ : Ab = Ab' ∧ cb = cb' := by injection eb with e1 e2 e3; exact ⟨e1, e3⟩
              have p1 : 0 ≤ (j : Int) := by omega
              obtain ⟨ad1, e1, hx1⟩ := Kd.at_int hCa (j : Int) p1 (by rw [all_len]; omega)
              cases e1
              obtain ⟨ad2, e2, hx2⟩ := Kd.at_int hCb (j : Int) p1 (by rw [all_len]; omega)
              cases e2
              clear hCa hCb ea eb hca hcb2
              rw [Int.toNat_natCast] at hx1 hx2
              have HST := Aside0.mk (HBD.out.step j hj2)
              have HMO := Aside0.mk (HBD.out.mono j hj2)
              obtain ⟨x2, h12⟩ : ∃ x2, rd (allOf D) (j : Int) = x2 := ⟨_, rfl⟩
              rw [h12] at hx2
              generalize rd (allOf D) (j : Int) = x1 at hx1 HST h12
              replace p1 := eq_true p1
              have b1 : (x1 != x2) = false := bne_eq_false_iff_eq.mpr h12
              clear h12
              go_wp2
              repeat (go_quiet (fail); try go_wp2)
              go_roundw
              case rel => exact ⟨c, j + 1, by first | rfl | go_num, by first | rfl | go_num, by omega, by omega, by have := HMO.out; omega, by first | exact HOA | exact ⟨Kd.R_grown HOA.out (grown_drew _ _) (by simp)⟩ | exact ⟨Kd.R_grown HOA.out (grown_drewN _ _) (by simp)⟩, by first | exact HPB | exact ⟨Kd.R_grown HPB.out (grown_drew _ _) (by simp)⟩ | exact ⟨Kd.R_grown HPB.out (grown_drewN _ _) (by simp)⟩, by first | exact HM3 | exact ⟨HM3.out.same (grown_drew _ _)⟩ | exact ⟨HM3.out.same (grown_drewN _ _)⟩⟩
              case measure => simp [intOf]; omega
            · obtain rfl : j = 11 := by omega
              have hcm : (c : Int) ≤ 0 := by have := HBD.out.top; omega
              have hcm2 : c ≤ 0 := by have := HBD.out.top; omega
              go_wp2_with (first | (go_at_call 17; (refine (HRC.out _ HM3.out).mono ?_; rintro e w7 ⟨rfl, hg⟩; have HM5 := Aside0.mk (HM3.out.same hg); have HP5 := Aside0.mk (Kd.R_grown HPB.out hg (by simp)); clear HM3 HPB hg)) | (go_at_call 23; (refine (all_calls HM5.out).mono ?_; rintro e w9 ⟨v2, rfl, hO, hg⟩; have HP6 := Aside0.mk (Kd.R_grown HP5.out hg (by simp)); have HM6 := Aside0.mk (HM5.out.same hg); obtain ⟨Ac, cc, ec⟩ := Kd.R_slice hO; subst ec; have HC6 := Aside0.mk hO; clear hO hg HM5 HP5)) | (go_at_call 24; obtain ⟨Ac', cc', e1, hl1, hC1⟩ := Kd.R_reads HC6.out; obtain ⟨rfl, rfl⟩ : Ac = Ac' ∧ cc = cc' := (by injection e1 with i1 i2 i3; exact ⟨i1, i3⟩); obtain ⟨Ab', cb', e2, hl2, hC2⟩ := Kd.R_reads HP6.out; obtain ⟨rfl, rfl⟩ : Ab = Ab' ∧ cb = cb' := (by injection e2 with i1 i2 i3; exact ⟨i1, i3⟩); refine (lookasideref07_Same.calls 20 Ac cc (allOf D) Ab cb (allOf D) true _ hC1 hl1 hC2 hl2 (same_f _ (all_len _))).mono ?_; rintro e w10 ⟨rfl, hd⟩; have HM7 := Aside0.mk (HM6.out.same (drawn_grown hd)); clear hC1 hC2 hl1 hl2 e1 e2 hd HM6 HC6 HP6) | (go_at_call 18; refine (lives_calls _).mono ?_; rintro e wl ⟨rfl, hg⟩; have HMl := Aside0.mk (HM7.out.same hg); clear hg) | go_in)
              go_ret
              exact ⟨rfl, HMl.out.below⟩
        · obtain ⟨ew, hew, hwa⟩ := hcase
          have HW1 := Aside0.mk hwa
          have hew1 : (ew == 0) = false := beq_eq_false_iff_ne.mpr hew
          have hew2 : (ew != 0) = true := bne_iff_ne.mpr hew
          have HOB := Aside0.mk (own_eq (allOf D) 0)
          obtain ⟨rv, re, _, hrc⟩ := both_read HM.out asi place HA.out HQ.out
          have HRC := Aside0.mk hrc
          clear hwa hew hrc
          have hal1 : (allOf D).length = 11 := all_len _
          go_wp2_with (first | (go_at_call 23; first | (refine (all_calls HM.out).mono ?_; rintro e w4 ⟨v0, rfl, hO, hg⟩; have HO1 := Aside0.mk hO; have HM1 := Aside0.mk (HM.out.same hg); obtain ⟨Aa, ca, ea⟩ := Kd.R_slice hO; subst ea; clear hO hg HM) | (refine (all_calls HM2.out).mono ?_; rintro e w6 ⟨v1, rfl, hO, hg⟩; have HO3 := Aside0.mk (Kd.R_grown HO2.out hg (by simp)); have HP3 := Aside0.mk hO; have HM3 := Aside0.mk (HM2.out.same hg); obtain ⟨Ab, cb, eb⟩ := Kd.R_slice hO; subst eb; clear hO hg HM2 HO2)) | (go_at_call 16; (refine (HW1.out _ _ _ HM1.out).mono ?_; rintro e w5 ⟨rfl, hg⟩; have HO2 := Aside0.mk (Kd.R_grown HO1.out hg (by simp)); have HM2 := Aside0.mk (HM1.out.same hg); clear HO1 HM1 HW1 hg)) | go_in)
          have HOB' := HOB
          obtain ⟨bd, HBD⟩ : ∃ bd, Aside0 (OwnB (allOf D) (allOf D) 0 bd) := ⟨_, HOB⟩
          clear HOB HOB'
          obtain ⟨bA, HOA⟩ : ∃ b, Aside0 (Kd.R (Kd.int .u64) 22 _ b (fun _ => True) (.slice Aa (allOf D).length ca) (allOf D)) := ⟨_, HO3⟩
          obtain ⟨bB, HPB⟩ : ∃ b, Aside0 (Kd.R (Kd.int .u64) 22 _ b (fun _ => True) (.slice Ab (allOf D).length cb) (allOf D)) := ⟨_, HP3⟩
          clear HO3 HP3
          go_loopw [15, 16] (fun v15 v16 wr2 => ∃ (c j : Nat), v15 = .int .i64 c ∧ v16 = .int .i64 j ∧ j ≤ 11 ∧ c ≤ j ∧ c ≤ bd j ∧ Aside0 (Kd.R (Kd.int .u64) 22 wr2 bA (fun _ => True) (.slice Aa (allOf D).length ca) (allOf D)) ∧ Aside0 (Kd.R (Kd.int .u64) 22 wr2 bB (fun _ => True) (.slice Ab (allOf D).length cb) (allOf D)) ∧ Aside0 (Regs w.heap.size w p mb (n + 0) D wr2)) (fun _ v16 _ => 11 - (intOf v16).toNat)
          case atStart => exact ⟨0, 0, rfl, rfl, by omega, by omega, Nat.zero_le _, HOA, HPB, HM3⟩
          case round =>
            clear HOA HPB HM3
            obtain ⟨c, j, rfl, rfl, hj, hcj, hcb, HOA, HPB, HM3⟩ := hrel
            by_cases hj2 : j < 11
            · have hj3 : (j : Int) < 11 := by omega
              obtain ⟨Aa', ca', ea, hca, hCa⟩ := Kd.R_reads HOA.out
              obtain ⟨rfl, rfl⟩ : Aa = Aa' ∧ ca = ca' := by injection ea with e1 e2 e3; exact ⟨e1, e3⟩
              obtain ⟨Ab', cb', eb, hcb2, hCb⟩ := Kd.R_reads HPB.out
              obtain ⟨rfl, rfl⟩ : Ab = Ab' ∧ cb = cb' := by injection eb with e1 e2 e3; exact ⟨e1, e3⟩
              have p1 : 0 ≤ (j : Int) := by omega
              obtain ⟨ad1, e1, hx1⟩ := Kd.at_int hCa (j : Int) p1 (by rw [all_len]; omega)
              cases e1
              obtain ⟨ad2, e2, hx2⟩ := Kd.at_int hCb (j : Int) p1 (by rw [all_len]; omega)
              cases e2
              clear hCa hCb ea eb hca hcb2
              rw [Int.toNat_natCast] at hx1 hx2
              have HST := Aside0.mk (HBD.out.step j hj2)
              have HMO := Aside0.mk (HBD.out.mono j hj2)
              obtain ⟨x2, h12⟩ : ∃ x2, rd (allOf D) (j : Int) = x2 := ⟨_, rfl⟩
              rw [h12] at hx2
              generalize rd (allOf D) (j : Int) = x1 at hx1 HST h12
              replace p1 := eq_true p1
              have b1 : (x1 != x2) = false := bne_eq_false_iff_eq.mpr h12
              clear h12
              go_wp2
              repeat (go_quiet (fail); try go_wp2)
              go_roundw
              case rel => exact ⟨c, j + 1, by first | rfl | go_num, by first | rfl | go_num, by omega, by omega, by have := HMO.out; omega, by first | exact HOA | exact ⟨Kd.R_grown HOA.out (grown_drew _ _) (by simp)⟩ | exact ⟨Kd.R_grown HOA.out (grown_drewN _ _) (by simp)⟩, by first | exact HPB | exact ⟨Kd.R_grown HPB.out (grown_drew _ _) (by simp)⟩ | exact ⟨Kd.R_grown HPB.out (grown_drewN _ _) (by simp)⟩, by first | exact HM3 | exact ⟨HM3.out.same (grown_drew _ _)⟩ | exact ⟨HM3.out.same (grown_drewN _ _)⟩⟩
              case measure => simp [intOf]; omega
            · obtain rfl : j = 11 := by omega
              have hcm : (c : Int) ≤ 0 := by have := HBD.out.top; omega
              have hcm2 : c ≤ 0 := by have := HBD.out.top; omega
              go_wp2_with (first | (go_at_call 17; (refine (HRC.out _ HM3.out).mono ?_; rintro e w7 ⟨rfl, hg⟩; have HM5 := Aside0.mk (HM3.out.same hg); have HP5 := Aside0.mk (Kd.R_grown HPB.out hg (by simp)); clear HM3 HPB hg)) | (go_at_call 23; (refine (all_calls HM5.out).mono ?_; rintro e w9 ⟨v2, rfl, hO, hg⟩; have HP6 := Aside0.mk (Kd.R_grown HP5.out hg (by simp)); have HM6 := Aside0.mk (HM5.out.same hg); obtain ⟨Ac, cc, ec⟩ := Kd.R_slice hO; subst ec; have HC6 := Aside0.mk hO; clear hO hg HM5 HP5)) | (go_at_call 24; obtain ⟨Ac', cc', e1, hl1, hC1⟩ := Kd.R_reads HC6.out; obtain ⟨rfl, rfl⟩ : Ac = Ac' ∧ cc = cc' := (by injection e1 with i1 i2 i3; exact ⟨i1, i3⟩); obtain ⟨Ab', cb', e2, hl2, hC2⟩ := Kd.R_reads HP6.out; obtain ⟨rfl, rfl⟩ : Ab = Ab' ∧ cb = cb' := (by injection e2 with i1 i2 i3; exact ⟨i1, i3⟩); refine (lookasideref07_Same.calls 20 Ac cc (allOf D) Ab cb (allOf D) true _ hC1 hl1 hC2 hl2 (same_f _ (all_len _))).mono ?_; rintro e w10 ⟨rfl, hd⟩; have HM7 := Aside0.mk (HM6.out.same (drawn_grown hd)); clear hC1 hC2 hl1 hl2 e1 e2 hd HM6 HC6 HP6) | (go_at_call 18; refine (lives_calls _).mono ?_; rintro e wl ⟨rfl, hg⟩; have HMl := Aside0.mk (HM7.out.same hg); clear hg) | go_in)
              go_ret
              exact ⟨rfl, HMl.out.below⟩
end
end Go.Proofs.Ytdfejnakhpgekaa.QRegsPlays
