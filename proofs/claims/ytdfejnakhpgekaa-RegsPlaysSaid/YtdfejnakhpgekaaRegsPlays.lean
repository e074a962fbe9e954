/- RegsPlays, walked: whatever is done, all registers are alike. -/
import Derived.Test.YtdfejnakhpgekaaRegsDeeds
namespace Go.Proofs.Ytdfejnakhpgekaa.QRegsPlays
open Go.RowKit Go.Maps Go.Proofs.YtdfejnakhpgekaaW.PrintWords Go.Proofs.YtdfejnakhpgekaaW.PrintLast Go.Proofs.YtdfejnakhpgekaaW.PrintMore
set_option linter.unusedSimpArgs false
set_option linter.unusedVariables false
section
set_option maxHeartbeats 1000000
set_option maxRecDepth 100000
theorem same_l (xs : List Int) (hx : xs.length ≤ 1000) (d : Nat) : ∀ (i k : Nat), i + d = xs.length → d < k → lookasideref07_Same.l0 k xs xs (i : Int) = some true := by
  induction d with
  | zero =>
    intro i k hi hk
    obtain ⟨k, rfl⟩ : ∃ m, k = m + 1 := ⟨k - 1, by omega⟩
    simp only [lookasideref07_Same.l0]
    rw [if_neg (by omega)]
  | succ d ih =>
    intro i k hi hk
    obtain ⟨k, rfl⟩ : ∃ m, k = m + 1 := ⟨k - 1, by omega⟩
    simp only [lookasideref07_Same.l0]
    have e2 : wrap64 ((i : Int) + 1) = ((i + 1 : Nat) : Int) := by unfold wrap64; omega
    rw [if_pos (by omega), if_pos (by omega), if_pos (by omega), if_pos True.intro, e2, ih (i + 1) k (by omega) (by omega)]
theorem same_f (xs : List Int) (hx : xs.length = 11) : lookasideref07_Same.f 20 xs xs = some true := by
  unfold lookasideref07_Same.f
  rw [if_pos rfl]
  exact same_l xs (by omega) 11 0 20 (by omega) (by omega)
theorem all_ref {B w0 p mb n D W} (h : Regs B w0 p mb n D W) : lookasideref07_All.f (rdk D 80 24) (rdk D 80 40) (rdk D 80 48) (rdk D 88 8) (rdk D 88 16) (rdk D 88 24) (rdk D 88 32) (rdk D 88 40) (rdk D 88 48) = some (allOf D) := by
  unfold lookasideref07_All.f
  rw [target_eq (h.wfk 80 48 (by decide) (by decide)), Option.bind_some, target_eq (h.wfk 88 48 (by decide) (by decide)), Option.bind_some]
  rfl
theorem primary_calls {B w0 p mb n D W} (h : Regs B w0 p mb n D W) :
    Calls Try.prog 27 #[.pointer (some ⟨p, 0, none⟩)] W fun e W' => e = .returned (.int .i64 (wrap64 (rdk D 88 8))) ∧ W.grownBy W' none := by
  have c0 := h.cell
  have HM := Aside0.mk h
  clear h
  have hu := Try.underlying102
  go_enter Try.func27, Try.ntmps27
  go_wp2_with (first | (at_lookup; refine wpList_lookup_own_int _ rfl _ _ 98 rfl 102 22 .u64 lawK Try.underlying98 Try.underlying22 (zeroU _) mb n D rfl HM.out.own _ _ rfl (keyAt 88 8 (by decide) (by decide)) ?_; intro c hat hwc; rw [rdk_of hat]; clear hat hwc) | go_in)
  go_ret
  exact ⟨by simp, grown_refl _ _⟩
noncomputable def playsr_T : Bool × List (List Nat × List Nat) := rtab .any (opsOf Try.f7 8)
theorem playsr_tab : rtab .any (opsOf Try.f7 8) = playsr_T := rfl
noncomputable def playsq_T : Bool × List (List Nat × List Nat) := rtab .any (opsOf Try.f7 10)
theorem playsq_tab : rtab .any (opsOf Try.f7 10) = playsq_T := rfl
theorem plays_walk (a0 : Option Addr) (len cap : Nat) (w : World) (hh : Deeds w a0 len ∧ len ≤ maxLen) :
    Calls Try.prog 7 #[.slice a0 len cap] w fun e w' => e = .returned (.bool true) ∧ Below w.heap.size w w' := by
  obtain ⟨h0, hlen⟩ := hh
  have HB := Aside0.mk (Below.refl w.heap.size w)
  have H0 := Aside0.mk h0
  clear h0
  have HL := Aside0.mk hlen
  clear hlen
  have hR := Try.underlying38
  have hD := Try.underlying42
  go_enter Try.func7, Try.ntmps7
  go_wp2_with (first | (go_at_call 15; refine (new_calls HB.out (Nat.le_refl _)).mono ?_; rintro e wn ⟨p, mb, rfl, hM, hg⟩; have HM0 := Aside0.mk hM; clear hM hg) | ((with_reducible refine gate_dst (N := 4) rfl ?_); refine box_event ?hg (N := 4) ?hd (cs := #[.int .u64 0, .int .u64 0, .int .u64 0, .int .u64 0, .int .u64 0, .int .u64 0, .int .u64 0, .int .u64 0, .int .u64 0]) (t := 38) ?hr ?_; (case hd => rfl); (case hg => rfl); (case hr => first | (go_simp; done) | (go_simp; rfl)); intro gt hgb w2 hbox hb; have HT0 := Aside0.mk hbox; have GHT0 := Aside0.mk (below_grown hb); have LHT0 := Aside0.mk (Nat.le_of_eq hgb.symm); clear hgb hbox hb; have HM := Aside0.mk (HM0.out.same GHT0.out); have HT := Aside0.mk (show w2.heap[gt]? = some (.cells #[.int .u64 (rdk (.map []) 80 24), .int .u64 (rdk (.map []) 80 40), .int .u64 (rdk (.map []) 80 48), .int .u64 (rdk (.map []) 88 8), .int .u64 (rdk (.map []) 88 16), .int .u64 (rdk (.map []) 88 24), .int .u64 (rdk (.map []) 88 32), .int .u64 (rdk (.map []) 88 40), .int .u64 (rdk (.map []) 88 48)] 38 (0, 0)) from HT0.out); have HK := Aside0.mk (show mb ≠ gt ∧ p ≠ gt ∧ w.heap.size ≤ gt from ⟨Nat.ne_of_lt (Nat.lt_of_lt_of_le HM0.out.own.lt LHT0.out), Nat.ne_of_lt (Nat.lt_of_lt_of_le HM0.out.lt LHT0.out), Nat.le_trans HM0.out.hB LHT0.out⟩); clear HM0 HT0 GHT0 LHT0) | go_in)
  go_loopw [5] (fun v5 wr => ∃ (i n : Nat) (D : DataW Unit), v5 = .int .i64 i ∧ i ≤ 40 ∧ i ≤ len ∧ n ≤ 2 * i ∧ Aside0 (wr.heap[gt]? = some (.cells #[.int .u64 (rdk D 80 24), .int .u64 (rdk D 80 40), .int .u64 (rdk D 80 48), .int .u64 (rdk D 88 8), .int .u64 (rdk D 88 16), .int .u64 (rdk D 88 24), .int .u64 (rdk D 88 32), .int .u64 (rdk D 88 40), .int .u64 (rdk D 88 48)] 38 (0, 0))) ∧ Aside0 (Regs w.heap.size w p mb n D wr)) (fun v5 _ => 40 - (intOf v5).toNat)
  case atStart => exact ⟨0, 0, .map [], rfl, by omega, by omega, by omega, HT, HM⟩
  case round =>
    clear HT HM
    obtain ⟨i, n, D, rfl, hi, hil, hn, HT, HM⟩ := hrel
    by_cases h1 : i < len
    · by_cases h2 : i < 40
      · have h1' : (i : Int) < (len : Int) := by omega
        have h2' : (i : Int) < 40 := by omega
        have h3' : (0 : Int) ≤ (i : Int) := by omega
        obtain ⟨x, rfl, hd⟩ := H0.out.at i h1
        obtain ⟨kind, asi, un, num, place, v, store, priv, wa, wq, wv, e0, e1, e2, e3, e4, e5, e6, e7⟩ := hd
        have HWF := Aside0.mk (And.intro wa (And.intro wq wv))
        have E0 := Aside0.mk e0
        have E1 := Aside0.mk e1
        have E2 := Aside0.mk e2
        have E3 := Aside0.mk e3
        have E4 := Aside0.mk e4
        have E5 := Aside0.mk e5
        have E6 := Aside0.mk e6
        have E7 := Aside0.mk e7
        clear wa wq wv e0 e1 e2 e3 e4 e5 e6 e7
        go_wp2
        have HMd := Aside0.mk (HM.out.same (grown_drew _ _))
        have AHS := Aside0.mk (show wr.drew.heap[gt]? = some (.cells #[.int .u64 (rdk D 80 24), .int .u64 (rdk D 80 40), .int .u64 (rdk D 80 48), .int .u64 (rdk D 88 8), .int .u64 (rdk D 88 16), .int .u64 (rdk D 88 24), .int .u64 (rdk D 88 32), .int .u64 (rdk D 88 40), .int .u64 (rdk D 88 48)] 38 (0, 0)) ∧ wr.drew.cell? (x.add (i * 8)) = some (.int .i64 kind) ∧ wr.drew.cell? ⟨(x.add (i * 8)).block, (x.add (i * 8)).off + 1, none⟩ = some (.int .i64 asi) ∧ wr.drew.cell? ⟨(x.add (i * 8)).block, (x.add (i * 8)).off + 2, none⟩ = some (.int .i64 un) ∧ wr.drew.cell? ⟨(x.add (i * 8)).block, (x.add (i * 8)).off + 3, none⟩ = some (.int .i64 num) ∧ wr.drew.cell? ⟨(x.add (i * 8)).block, (x.add (i * 8)).off + 4, none⟩ = some (.int .u64 place) ∧ wr.drew.cell? ⟨(x.add (i * 8)).block, (x.add (i * 8)).off + 5, none⟩ = some (.int .u64 v) ∧ wr.drew.cell? ⟨(x.add (i * 8)).block, (x.add (i * 8)).off + 6, none⟩ = some (.bool store) ∧ wr.drew.cell? ⟨(x.add (i * 8)).block, (x.add (i * 8)).off + 7, none⟩ = some (.bool priv) from ⟨HT.out, (HMd.out.below.cell (cell_lt E0.out)).trans E0.out, (HMd.out.below.cell (cell_lt E1.out)).trans E1.out, (HMd.out.below.cell (cell_lt E2.out)).trans E2.out, (HMd.out.below.cell (cell_lt E3.out)).trans E3.out, (HMd.out.below.cell (cell_lt E4.out)).trans E4.out, (HMd.out.below.cell (cell_lt E5.out)).trans E5.out, (HMd.out.below.cell (cell_lt E6.out)).trans E6.out, (HMd.out.below.cell (cell_lt E7.out)).trans E7.out⟩)
        refine start_ (n := 13) (S := fun w' => w'.heap[gt]? = some (.cells #[.int .u64 (rdk D 80 24), .int .u64 (rdk D 80 40), .int .u64 (rdk D 80 48), .int .u64 (rdk D 88 8), .int .u64 (rdk D 88 16), .int .u64 (rdk D 88 24), .int .u64 (rdk D 88 32), .int .u64 (rdk D 88 40), .int .u64 (rdk D 88 48)] 38 (0, 0)) ∧ w'.cell? (x.add (i * 8)) = some (.int .i64 kind) ∧ w'.cell? ⟨(x.add (i * 8)).block, (x.add (i * 8)).off + 1, none⟩ = some (.int .i64 asi) ∧ w'.cell? ⟨(x.add (i * 8)).block, (x.add (i * 8)).off + 2, none⟩ = some (.int .i64 un) ∧ w'.cell? ⟨(x.add (i * 8)).block, (x.add (i * 8)).off + 3, none⟩ = some (.int .i64 num) ∧ w'.cell? ⟨(x.add (i * 8)).block, (x.add (i * 8)).off + 4, none⟩ = some (.int .u64 place) ∧ w'.cell? ⟨(x.add (i * 8)).block, (x.add (i * 8)).off + 5, none⟩ = some (.int .u64 v) ∧ w'.cell? ⟨(x.add (i * 8)).block, (x.add (i * 8)).off + 6, none⟩ = some (.bool store) ∧ w'.cell? ⟨(x.add (i * 8)).block, (x.add (i * 8)).off + 7, none⟩ = some (.bool priv)) (ds := []) #[false, false, false, false, false, false, false, false, false, false, false, false, false] (by kernel_rfl) rfl rfl AHS.out (fun hHeld => ?_)
        refine with_tab playsr_tab (fun HT_ => ?_)
        refine pure_ (i := 0) (N := some 22) (v := ?_) (a' := ?_) #[true, false, false, false, false, false, false, false, false, false, false, false, false] rfl rfl (any_of HT_.out (by kernel_rfl)) (fun _ _ _ h => h) (Or.inl ⟨by rfl, ?_⟩) ?_ ?_
        rotate_left
        · intro w'
          go_simp
          with_reducible rfl
        rotate_left
        · simp only [Act.put, List.setIfInBounds_toArray, List.set_cons_zero, List.set_cons_succ, i64_w, i32_w]
          rfl
        refine pure_ (i := 2) (N := some 24) (v := ?_) (a' := ?_) #[true, false, true, false, false, false, false, false, false, false, false, false, false] rfl rfl (any_of HT_.out (by kernel_rfl)) (fun _ _ _ h => h) (Or.inl ⟨by rfl, ?_⟩) ?_ ?_
        rotate_left
        · intro w'
          go_simp
          with_reducible rfl
        rotate_left
        · simp only [Act.put, List.setIfInBounds_toArray, List.set_cons_zero, List.set_cons_succ, i64_w, i32_w]
          rfl
        refine pure_ (i := 3) (N := some 25) (v := ?_) (a' := ?_) #[true, false, true, true, false, false, false, false, false, false, false, false, false] rfl rfl (any_of HT_.out (by kernel_rfl)) (fun _ _ _ h => h) (Or.inl ⟨by rfl, ?_⟩) ?_ ?_
        rotate_left
        · intro w'
          go_simp
          with_reducible rfl
        rotate_left
        · simp only [Act.put, List.setIfInBounds_toArray, List.set_cons_zero, List.set_cons_succ, i64_w, i32_w]
          rfl
        refine pure_ (i := 4) (N := some 26) (v := ?_) (a' := ?_) #[true, false, true, true, true, false, false, false, false, false, false, false, false] rfl rfl (any_of HT_.out (by kernel_rfl)) (fun _ _ _ h => h) (Or.inl ⟨by rfl, ?_⟩) ?_ ?_
        rotate_left
        · intro w'
          go_simp
          with_reducible rfl
        rotate_left
        · simp only [Act.put, List.setIfInBounds_toArray, List.set_cons_zero, List.set_cons_succ, i64_w, i32_w]
          rfl
        refine take_ (i := 1) (N := some 23) (v := .agg #[.int .u64 (rdk D 80 24), .int .u64 (rdk D 80 40), .int .u64 (rdk D 80 48), .int .u64 (rdk D 88 8), .int .u64 (rdk D 88 16), .int .u64 (rdk D 88 24), .int .u64 (rdk D 88 32), .int .u64 (rdk D 88 40), .int .u64 (rdk D 88 48)]) (a' := ?_) #[true, true, true, true, true, false, false, false, false, false, false, false, false] rfl rfl (take_of HT_.out (by kernel_rfl)) (fun _ _ _ h => h) (Or.inl ⟨by rfl, ?_⟩) hHeld ?_ ?_
        · rintro w' ⟨s8, s0, s1, s2, s3, s4, s5, s6, s7⟩
          obtain ⟨q0, q1, q2, q3, q4, q5, q6, q7, q8⟩ := cz9 s8
          go_simp
          first | done | (rw [hrun])
        rotate_left
        · simp only [Act.put, List.setIfInBounds_toArray, List.set_cons_zero, List.set_cons_succ, i64_w, i32_w]
          rfl
        refine take_ (i := 5) (N := some 27) (v := .agg #[.int .i64 kind, .int .i64 asi, .int .i64 un, .int .i64 num, .int .u64 place, .int .u64 v, .bool store, .bool priv]) (a' := ?_) #[true, true, true, true, true, true, false, false, false, false, false, false, false] rfl rfl (take_of HT_.out (by kernel_rfl)) (fun _ _ _ h => h) (Or.inl ⟨by rfl, ?_⟩) hHeld ?_ ?_
        · rintro w' ⟨s8, s0, s1, s2, s3, s4, s5, s6, s7⟩
          go_simp
          first | done | (rw [hrun])
        rotate_left
        · simp only [Act.put, List.setIfInBounds_toArray, List.set_cons_zero, List.set_cons_succ, i64_w, i32_w]
          rfl
        refine two_ (i := 6) (j := 10) (Ni := some 28) (Nj := some 6) #[true, true, true, true, true, true, true, false, false, false, false, false, false] #[true, true, true, true, true, true, false, false, false, false, true, false, false] rfl rfl rfl rfl (two_of HT_.out (by kernel_rfl)) (by decide) (by decide) (fun K hK => ?_) (fun K hK => ?_)
        · refine goes_ Try.func22 (by kernel_rfl) rfl #[.pointer (some ⟨p, 0, none⟩), .agg #[.int .u64 (rdk D 80 24), .int .u64 (rdk D 80 40), .int .u64 (rdk D 80 48), .int .u64 (rdk D 88 8), .int .u64 (rdk D 88 16), .int .u64 (rdk D 88 24), .int .u64 (rdk D 88 32), .int .u64 (rdk D 88 40), .int .u64 (rdk D 88 48)], .agg #[.int .i64 kind, .int .i64 asi, .int .i64 un, .int .i64 num, .int .u64 place, .int .u64 v, .bool store, .bool priv]] (by rfl) rfl rfl (by (try simp only [List.map_toArray, List.map_cons, List.map_nil]); first | done | rfl) ?_
          refine (does_lit HMd.out kind asi un num place v store priv HWF.out.1 HWF.out.2.1 HWF.out.2.2 (by omega)).mono ?_
          rintro e wn ⟨D', rfl, hR', hg'⟩
          obtain ⟨es, cl, hmb, hmo⟩ := HMd.out.own
          have SN := Aside0.mk (blk_mb AHS.out.1 hmb hg')
          have SNR := Aside0.mk hR'
          have SNE := Aside0.mk (show wn.heap[gt]? = some (.cells #[.int .u64 (rdk D 80 24), .int .u64 (rdk D 80 40), .int .u64 (rdk D 80 48), .int .u64 (rdk D 88 8), .int .u64 (rdk D 88 16), .int .u64 (rdk D 88 24), .int .u64 (rdk D 88 32), .int .u64 (rdk D 88 40), .int .u64 (rdk D 88 48)] 38 (0, 0)) ∧ wn.cell? (x.add (i * 8)) = some (.int .i64 kind) ∧ wn.cell? ⟨(x.add (i * 8)).block, (x.add (i * 8)).off + 1, none⟩ = some (.int .i64 asi) ∧ wn.cell? ⟨(x.add (i * 8)).block, (x.add (i * 8)).off + 2, none⟩ = some (.int .i64 un) ∧ wn.cell? ⟨(x.add (i * 8)).block, (x.add (i * 8)).off + 3, none⟩ = some (.int .i64 num) ∧ wn.cell? ⟨(x.add (i * 8)).block, (x.add (i * 8)).off + 4, none⟩ = some (.int .u64 place) ∧ wn.cell? ⟨(x.add (i * 8)).block, (x.add (i * 8)).off + 5, none⟩ = some (.int .u64 v) ∧ wn.cell? ⟨(x.add (i * 8)).block, (x.add (i * 8)).off + 6, none⟩ = some (.bool store) ∧ wn.cell? ⟨(x.add (i * 8)).block, (x.add (i * 8)).off + 7, none⟩ = some (.bool priv) from ⟨SN.out, (SNR.out.below.cell (cell_lt E0.out)).trans E0.out, (SNR.out.below.cell (cell_lt E1.out)).trans E1.out, (SNR.out.below.cell (cell_lt E2.out)).trans E2.out, (SNR.out.below.cell (cell_lt E3.out)).trans E3.out, (SNR.out.below.cell (cell_lt E4.out)).trans E4.out, (SNR.out.below.cell (cell_lt E5.out)).trans E5.out, (SNR.out.below.cell (cell_lt E6.out)).trans E6.out, (SNR.out.below.cell (cell_lt E7.out)).trans E7.out⟩)
          clear hmo hg' hR' hmb es cl
          refine ⟨_, rfl, ?_⟩
          refine hK.out _ _ SNE.out (fun hHeld => ?_)
          clear hK K
          refine norm_ (a' := ?_) ?_ ?_
          rotate_left
          · show Act.put _ (some 28) _ = _
            simp only [Act.put, List.setIfInBounds_toArray, List.set_cons_zero, List.set_cons_succ, i64_w, i32_w]
            rfl
          refine pure_ (i := 7) (N := some 21) (v := ?_) (a' := ?_) #[true, true, true, true, true, true, true, true, false, false, false, false, false] rfl rfl (any_of HT_.out (by kernel_rfl)) (fun _ _ _ h => h) (Or.inl ⟨by rfl, ?_⟩) ?_ ?_
          rotate_left
          · intro w'
            go_simp
            with_reducible rfl
          rotate_left
          · simp only [Act.put, List.setIfInBounds_toArray, List.set_cons_zero, List.set_cons_succ, i64_w, i32_w]
            rfl
          refine pure_ (i := 8) (N := some 29) (v := ?_) (a' := ?_) #[true, true, true, true, true, true, true, true, true, false, false, false, false] rfl rfl (any_of HT_.out (by kernel_rfl)) (fun _ _ _ h => h) (Or.inl ⟨by rfl, ?_⟩) ?_ ?_
          rotate_left
          · intro w'
            go_simp
            with_reducible rfl
          rotate_left
          · simp only [Act.put, List.setIfInBounds_toArray, List.set_cons_zero, List.set_cons_succ, i64_w, i32_w]
            rfl
          refine pure_ (i := 9) (N := some 30) (v := ?_) (a' := ?_) #[true, true, true, true, true, true, true, true, true, true, false, false, false] rfl rfl (any_of HT_.out (by kernel_rfl)) (fun _ _ _ h => h) (Or.inl ⟨by rfl, ?_⟩) ?_ ?_
          rotate_left
          · intro w'
            go_simp
            with_reducible rfl
          rotate_left
          · simp only [Act.put, List.setIfInBounds_toArray, List.set_cons_zero, List.set_cons_succ, i64_w, i32_w]
            rfl
          refine one_ (i := 10) (N := some 6) #[true, true, true, true, true, true, true, true, true, true, true, false, false] rfl rfl (one_of HT_.out (by kernel_rfl)) (by decide) (fun K hK => ?_)
          refine box_step ?hg (N := 6) ?hd (cs := #[.int .u64 0, .int .u64 0, .int .u64 0, .int .u64 0, .int .u64 0, .int .u64 0, .int .u64 0, .int .u64 0, .int .u64 0]) (t := 38) ?hr ?_; (case hd => rfl); (case hg => rfl); (case hr => first | (go_simp; done) | (go_simp; rfl))
          intro g6 hg6 wa hbox hb
          have HRa := Aside0.mk (SNR.out.same (below_grown hb))
          have SGa := Aside0.mk (blk_below SN.out hb)
          have HB6 := Aside0.mk hbox
          have HN6 := Aside0.mk (show gt ≠ g6 from Nat.ne_of_lt (Nat.lt_of_lt_of_le (blk_lt SN.out) (Nat.le_of_eq hg6.symm)))
          have HK6 := Aside0.mk (show mb ≠ g6 ∧ p ≠ g6 ∧ w.heap.size ≤ g6 from ⟨Nat.ne_of_lt (Nat.lt_of_lt_of_le SNR.out.own.lt (Nat.le_of_eq hg6.symm)), Nat.ne_of_lt (Nat.lt_of_lt_of_le SNR.out.lt (Nat.le_of_eq hg6.symm)), Nat.le_trans SNR.out.hB (Nat.le_of_eq hg6.symm)⟩)
          clear hg6 hbox hb
          refine hK.out _ _ (show wa.heap[gt]? = some (.cells #[.int .u64 (rdk D 80 24), .int .u64 (rdk D 80 40), .int .u64 (rdk D 80 48), .int .u64 (rdk D 88 8), .int .u64 (rdk D 88 16), .int .u64 (rdk D 88 24), .int .u64 (rdk D 88 32), .int .u64 (rdk D 88 40), .int .u64 (rdk D 88 48)] 38 (0, 0)) ∧ wa.cell? (x.add (i * 8)) = some (.int .i64 kind) ∧ wa.cell? ⟨(x.add (i * 8)).block, (x.add (i * 8)).off + 1, none⟩ = some (.int .i64 asi) ∧ wa.cell? ⟨(x.add (i * 8)).block, (x.add (i * 8)).off + 2, none⟩ = some (.int .i64 un) ∧ wa.cell? ⟨(x.add (i * 8)).block, (x.add (i * 8)).off + 3, none⟩ = some (.int .i64 num) ∧ wa.cell? ⟨(x.add (i * 8)).block, (x.add (i * 8)).off + 4, none⟩ = some (.int .u64 place) ∧ wa.cell? ⟨(x.add (i * 8)).block, (x.add (i * 8)).off + 5, none⟩ = some (.int .u64 v) ∧ wa.cell? ⟨(x.add (i * 8)).block, (x.add (i * 8)).off + 6, none⟩ = some (.bool store) ∧ wa.cell? ⟨(x.add (i * 8)).block, (x.add (i * 8)).off + 7, none⟩ = some (.bool priv) from ⟨SGa.out, (HRa.out.below.cell (cell_lt E0.out)).trans E0.out, (HRa.out.below.cell (cell_lt E1.out)).trans E1.out, (HRa.out.below.cell (cell_lt E2.out)).trans E2.out, (HRa.out.below.cell (cell_lt E3.out)).trans E3.out, (HRa.out.below.cell (cell_lt E4.out)).trans E4.out, (HRa.out.below.cell (cell_lt E5.out)).trans E5.out, (HRa.out.below.cell (cell_lt E6.out)).trans E6.out, (HRa.out.below.cell (cell_lt E7.out)).trans E7.out⟩) (fun hHeld => ?_)
          clear hK K
          refine norm_ (a' := ?_) ?_ ?_
          rotate_left
          · show Act.put _ (some 6) _ = _
            simp only [Act.put, List.setIfInBounds_toArray, List.set_cons_zero, List.set_cons_succ, i64_w, i32_w]
            rfl
          refine one_ (i := 11) (N := none) #[true, true, true, true, true, true, true, true, true, true, true, true, false] rfl rfl (one_of HT_.out (by kernel_rfl)) (by decide) (fun K hK => ?_)
          rw [if_pos (by rfl)]
          refine wp_store_row 38 (.tmp 6) (.tmp 29) rfl g6 #[.int .u64 (rdk D' 80 24), .int .u64 (rdk D' 80 40), .int .u64 (rdk D' 80 48), .int .u64 (rdk D' 88 8), .int .u64 (rdk D' 88 16), .int .u64 (rdk D' 88 24), .int .u64 (rdk D' 88 32), .int .u64 (rdk D' 88 40), .int .u64 (rdk D' 88 48)] rfl rfl 38 #[.int .u64 0, .int .u64 0, .int .u64 0, .int .u64 0, .int .u64 0, .int .u64 0, .int .u64 0, .int .u64 0, .int .u64 0] HB6.out (by kernel_rfl) rfl (by kernel_rfl) ?_
          have SO6 := Aside0.mk (setRow_heap _ g6 _ #[.int .u64 (rdk D' 80 24), .int .u64 (rdk D' 80 40), .int .u64 (rdk D' 80 48), .int .u64 (rdk D' 88 8), .int .u64 (rdk D' 88 16), .int .u64 (rdk D' 88 24), .int .u64 (rdk D' 88 32), .int .u64 (rdk D' 88 40), .int .u64 (rdk D' 88 48)] _ _ HB6.out)
          have HRb := Aside0.mk (HRa.out.kept (grown_row wa g6 #[.int .u64 (rdk D' 80 24), .int .u64 (rdk D' 80 40), .int .u64 (rdk D' 80 48), .int .u64 (rdk D' 88 8), .int .u64 (rdk D' 88 16), .int .u64 (rdk D' 88 24), .int .u64 (rdk D' 88 32), .int .u64 (rdk D' 88 40), .int .u64 (rdk D' 88 48)]) (fun e => HK6.out.1 (Option.some.inj e)) (fun e => HK6.out.2.1 (Option.some.inj e)) (fun k e => by cases e; exact HK6.out.2.2))
          have HTb := Aside0.mk (blk_row (cs := #[.int .u64 (rdk D' 80 24), .int .u64 (rdk D' 80 40), .int .u64 (rdk D' 80 48), .int .u64 (rdk D' 88 8), .int .u64 (rdk D' 88 16), .int .u64 (rdk D' 88 24), .int .u64 (rdk D' 88 32), .int .u64 (rdk D' 88 40), .int .u64 (rdk D' 88 48)]) SGa.out HN6.out)
          generalize hwb : World.setRow wa g6 _ = wb at SO6 HRb HTb ⊢
          clear hwb
          refine hK.out _ _ (show wb.heap[gt]? = some (.cells #[.int .u64 (rdk D 80 24), .int .u64 (rdk D 80 40), .int .u64 (rdk D 80 48), .int .u64 (rdk D 88 8), .int .u64 (rdk D 88 16), .int .u64 (rdk D 88 24), .int .u64 (rdk D 88 32), .int .u64 (rdk D 88 40), .int .u64 (rdk D 88 48)] 38 (0, 0)) ∧ wb.cell? (x.add (i * 8)) = some (.int .i64 kind) ∧ wb.cell? ⟨(x.add (i * 8)).block, (x.add (i * 8)).off + 1, none⟩ = some (.int .i64 asi) ∧ wb.cell? ⟨(x.add (i * 8)).block, (x.add (i * 8)).off + 2, none⟩ = some (.int .i64 un) ∧ wb.cell? ⟨(x.add (i * 8)).block, (x.add (i * 8)).off + 3, none⟩ = some (.int .i64 num) ∧ wb.cell? ⟨(x.add (i * 8)).block, (x.add (i * 8)).off + 4, none⟩ = some (.int .u64 place) ∧ wb.cell? ⟨(x.add (i * 8)).block, (x.add (i * 8)).off + 5, none⟩ = some (.int .u64 v) ∧ wb.cell? ⟨(x.add (i * 8)).block, (x.add (i * 8)).off + 6, none⟩ = some (.bool store) ∧ wb.cell? ⟨(x.add (i * 8)).block, (x.add (i * 8)).off + 7, none⟩ = some (.bool priv) from ⟨HTb.out, (HRb.out.below.cell (cell_lt E0.out)).trans E0.out, (HRb.out.below.cell (cell_lt E1.out)).trans E1.out, (HRb.out.below.cell (cell_lt E2.out)).trans E2.out, (HRb.out.below.cell (cell_lt E3.out)).trans E3.out, (HRb.out.below.cell (cell_lt E4.out)).trans E4.out, (HRb.out.below.cell (cell_lt E5.out)).trans E5.out, (HRb.out.below.cell (cell_lt E6.out)).trans E6.out, (HRb.out.below.cell (cell_lt E7.out)).trans E7.out⟩) (fun hHeld => ?_)
          clear hK K
          refine norm_ (a' := ?_) ?_ ?_
          rotate_left
          · show Act.put _ none _ = _
            rfl
          refine pure_ (i := 12) (N := some 7) (v := ?_) (a' := ?_) #[true, true, true, true, true, true, true, true, true, true, true, true, true] rfl rfl (any_of HT_.out (by kernel_rfl)) (fun _ _ _ h => h) (Or.inl ⟨by rfl, ?_⟩) ?_ ?_
          rotate_left
          · intro w'
            go_simp
            with_reducible rfl
          rotate_left
          · simp only [Act.put, List.setIfInBounds_toArray, List.set_cons_zero, List.set_cons_succ, i64_w, i32_w]
            rfl
          refine done_ (done_of HT_.out (by kernel_rfl)) ?_
          go_wp2_with (first | ((with_reducible refine gate_dst (N := 31) rfl ?_); refine wpList_load_row rfl 38 (.tmp 6) rfl g6 rfl 38 #[.int .u64 (rdk D' 80 24), .int .u64 (rdk D' 80 40), .int .u64 (rdk D' 80 48), .int .u64 (rdk D' 88 8), .int .u64 (rdk D' 88 16), .int .u64 (rdk D' 88 24), .int .u64 (rdk D' 88 32), .int .u64 (rdk D' 88 40), .int .u64 (rdk D' 88 48)] (0, 0) _ SO6.out hR rfl (by kernel_rfl) ?_) | ((with_reducible refine gate_store (t := 38) (p := 4) rfl ?_); refine wpList_store_row rfl 38 (.tmp 4) (.tmp 31) rfl gt #[.int .u64 (rdk D' 80 24), .int .u64 (rdk D' 80 40), .int .u64 (rdk D' 80 48), .int .u64 (rdk D' 88 8), .int .u64 (rdk D' 88 16), .int .u64 (rdk D' 88 24), .int .u64 (rdk D' 88 32), .int .u64 (rdk D' 88 40), .int .u64 (rdk D' 88 48)] rfl rfl 38 _ HTb.out (by kernel_rfl) rfl (by kernel_rfl) ?_; have SHTb := Aside0.mk (setRow_heap _ gt _ #[.int .u64 (rdk D' 80 24), .int .u64 (rdk D' 80 40), .int .u64 (rdk D' 80 48), .int .u64 (rdk D' 88 8), .int .u64 (rdk D' 88 16), .int .u64 (rdk D' 88 24), .int .u64 (rdk D' 88 32), .int .u64 (rdk D' 88 40), .int .u64 (rdk D' 88 48)] _ _ HTb.out); have THTb := Aside0.mk (grown_row wb gt #[.int .u64 (rdk D' 80 24), .int .u64 (rdk D' 80 40), .int .u64 (rdk D' 80 48), .int .u64 (rdk D' 88 8), .int .u64 (rdk D' 88 16), .int .u64 (rdk D' 88 24), .int .u64 (rdk D' 88 32), .int .u64 (rdk D' 88 40), .int .u64 (rdk D' 88 48)]); have HMc := Aside0.mk (HRb.out.kept THTb.out (fun e => HK.out.1 (Option.some.inj e)) (fun e => HK.out.2.1 (Option.some.inj e)) (fun k e => by cases e; exact HK.out.2.2))) | go_in)
          have HTc := Aside0.mk SHTb.out
          generalize hwc : World.setRow wb gt _ = wc at HTc HMc ⊢
          clear hwc
          have HMe := Aside0.mk (HMc.out.same (grown_drew _ _))
          have AHS1 := Aside0.mk (show wc.drew.heap[gt]? = some (.cells #[.int .u64 (rdk D' 80 24), .int .u64 (rdk D' 80 40), .int .u64 (rdk D' 80 48), .int .u64 (rdk D' 88 8), .int .u64 (rdk D' 88 16), .int .u64 (rdk D' 88 24), .int .u64 (rdk D' 88 32), .int .u64 (rdk D' 88 40), .int .u64 (rdk D' 88 48)] 38 (0, 0)) from HTc.out)
          refine start_ (n := 18) (S := fun w' => w'.heap[gt]? = some (.cells #[.int .u64 (rdk D' 80 24), .int .u64 (rdk D' 80 40), .int .u64 (rdk D' 80 48), .int .u64 (rdk D' 88 8), .int .u64 (rdk D' 88 16), .int .u64 (rdk D' 88 24), .int .u64 (rdk D' 88 32), .int .u64 (rdk D' 88 40), .int .u64 (rdk D' 88 48)] 38 (0, 0))) (ds := []) #[false, false, false, false, false, false, false, false, false, false, false, false, false, false, false, false, false, false] (by kernel_rfl) rfl rfl AHS1.out (fun hHeld => ?_)
          refine with_tab playsq_tab (fun HT_ => ?_)
          refine pure_ (i := 0) (N := some 32) (v := ?_) (a' := ?_) #[true, false, false, false, false, false, false, false, false, false, false, false, false, false, false, false, false, false] rfl rfl (any_of HT_.out (by kernel_rfl)) (fun _ _ _ h => h) (Or.inl ⟨by rfl, ?_⟩) ?_ ?_
          rotate_left
          · intro w'
            go_simp
            with_reducible rfl
          rotate_left
          · simp only [Act.put, List.setIfInBounds_toArray, List.set_cons_zero, List.set_cons_succ, i64_w, i32_w]
            rfl
          refine pure_ (i := 1) (N := some 33) (v := ?_) (a' := ?_) #[true, true, false, false, false, false, false, false, false, false, false, false, false, false, false, false, false, false] rfl rfl (any_of HT_.out (by kernel_rfl)) (fun _ _ _ h => h) (Or.inl ⟨by rfl, ?_⟩) ?_ ?_
          rotate_left
          · intro w'
            go_simp
            with_reducible rfl
          rotate_left
          · simp only [Act.put, List.setIfInBounds_toArray, List.set_cons_zero, List.set_cons_succ, i64_w, i32_w]
            rfl
          refine pure_ (i := 2) (N := some 34) (v := ?_) (a' := ?_) #[true, true, true, false, false, false, false, false, false, false, false, false, false, false, false, false, false, false] rfl rfl (any_of HT_.out (by kernel_rfl)) (fun _ _ _ h => h) (Or.inl ⟨by rfl, ?_⟩) ?_ ?_
          rotate_left
          · intro w'
            go_simp
            with_reducible rfl
          rotate_left
          · simp only [Act.put, List.setIfInBounds_toArray, List.set_cons_zero, List.set_cons_succ, i64_w, i32_w]
            rfl
          refine pure_ (i := 3) (N := some 35) (v := ?_) (a' := ?_) #[true, true, true, true, false, false, false, false, false, false, false, false, false, false, false, false, false, false] rfl rfl (any_of HT_.out (by kernel_rfl)) (fun _ _ _ h => h) (Or.inl ⟨by rfl, ?_⟩) ?_ ?_
          rotate_left
          · intro w'
            go_simp
            with_reducible rfl
          rotate_left
          · simp only [Act.put, List.setIfInBounds_toArray, List.set_cons_zero, List.set_cons_succ, i64_w, i32_w]
            rfl
          refine take_ (i := 5) (N := some 37) (v := .agg #[.int .u64 (rdk D' 80 24), .int .u64 (rdk D' 80 40), .int .u64 (rdk D' 80 48), .int .u64 (rdk D' 88 8), .int .u64 (rdk D' 88 16), .int .u64 (rdk D' 88 24), .int .u64 (rdk D' 88 32), .int .u64 (rdk D' 88 40), .int .u64 (rdk D' 88 48)]) (a' := ?_) #[true, true, true, true, false, true, false, false, false, false, false, false, false, false, false, false, false, false] rfl rfl (take_of HT_.out (by kernel_rfl)) (fun _ _ _ h => h) (Or.inl ⟨by rfl, ?_⟩) hHeld ?_ ?_
          · rintro w' s8
            obtain ⟨q0, q1, q2, q3, q4, q5, q6, q7, q8⟩ := cz9 s8
            go_simp
            first | done | (rw [hrun])
          rotate_left
          · simp only [Act.put, List.setIfInBounds_toArray, List.set_cons_zero, List.set_cons_succ, i64_w, i32_w]
            rfl
          refine one_ (i := 4) (N := some 36) #[true, true, true, true, true, true, false, false, false, false, false, false, false, false, false, false, false, false] rfl rfl (one_of HT_.out (by kernel_rfl)) (by decide) (fun K hK => ?_)
          refine goes_ Try.func23 (by kernel_rfl) rfl #[.pointer (some ⟨p, 0, none⟩)] (by rfl) rfl rfl (by (try simp only [List.map_toArray, List.map_cons, List.map_nil]); first | done | rfl) ?_
          refine (all_calls HMe.out).mono ?_
          rintro e w4 ⟨v0, rfl, hO, hg⟩
          have HTf := Aside0.mk (blk_grown AHS1.out hg)
          have HMf := Aside0.mk (HMe.out.same hg)
          obtain ⟨Aa, ca, ea, hca, hCa⟩ := Kd.R_reads hO
          subst ea
          have HCa := Aside0.mk hO
          clear hO hg hCa hca
          refine ⟨_, rfl, ?_⟩
          refine hK.out _ _ HTf.out (fun hHeld => ?_)
          clear hK K
          refine norm_ (a' := ?_) ?_ ?_
          rotate_left
          · show Act.put _ (some 36) _ = _
            simp only [Act.put, List.setIfInBounds_toArray, List.set_cons_zero, List.set_cons_succ, i64_w, i32_w]
            rfl
          refine one_ (i := 6) (N := some 38) #[true, true, true, true, true, true, true, false, false, false, false, false, false, false, false, false, false, false] rfl rfl (one_of HT_.out (by kernel_rfl)) (by decide) (fun K hK => ?_)
          refine goes_ Try.func26 (by kernel_rfl) rfl #[.agg #[.int .u64 (rdk D' 80 24), .int .u64 (rdk D' 80 40), .int .u64 (rdk D' 80 48), .int .u64 (rdk D' 88 8), .int .u64 (rdk D' 88 16), .int .u64 (rdk D' 88 24), .int .u64 (rdk D' 88 32), .int .u64 (rdk D' 88 40), .int .u64 (rdk D' 88 48)]] (by rfl) rfl rfl (by (try simp only [List.map_toArray, List.map_cons, List.map_nil]); first | done | rfl) ?_
          refine (lookasideref07_All.calls _ _ _ _ _ _ _ _ _ _ _ (all_ref HMf.out)).mono ?_
          rintro e w5 ⟨v1, rfl, hO, hb⟩
          have hg := below_grown hb
          have HTg := Aside0.mk (blk_grown HTf.out hg)
          have HMg := Aside0.mk (HMf.out.same hg)
          have hO2 := Kd.R_grown HCa.out hg (by simp)
          obtain ⟨Ab, cb, eb, hcb, hCb⟩ := Kd.R_reads hO
          subst eb
          obtain ⟨Aa', ca', ea, hca, hCa⟩ := Kd.R_reads hO2
          obtain ⟨rfl, rfl⟩ : Aa = Aa' ∧ ca = ca' := by injection ea with e1 e2 e3; exact ⟨e1, e3⟩
          have HSA := Aside0.mk (And.intro hca hCa)
          have HSB := Aside0.mk (And.intro hcb hCb)
          clear hO hO2 hb hg hCa hca hCb hcb ea HCa
          refine ⟨_, rfl, ?_⟩
          refine hK.out _ _ HTg.out (fun hHeld => ?_)
          clear hK K
          refine norm_ (a' := ?_) ?_ ?_
          rotate_left
          · show Act.put _ (some 38) _ = _
            simp only [Act.put, List.setIfInBounds_toArray, List.set_cons_zero, List.set_cons_succ, i64_w, i32_w]
            rfl
          refine one_ (i := 7) (N := some 39) #[true, true, true, true, true, true, true, true, false, false, false, false, false, false, false, false, false, false] rfl rfl (one_of HT_.out (by kernel_rfl)) (by decide) (fun K hK => ?_)
          refine goes_ Try.func24 (by kernel_rfl) rfl #[.slice Aa (allOf D').length ca, .slice Ab (allOf D').length cb] (by rfl) rfl rfl (by (try simp only [List.map_toArray, List.map_cons, List.map_nil]); first | done | rfl) ?_
          refine (lookasideref07_Same.calls 20 Aa ca (allOf D') Ab cb (allOf D') true _ HSA.out.2 HSA.out.1 HSB.out.2 HSB.out.1 (same_f _ (all_len D'))).mono ?_
          rintro e w6 ⟨rfl, hd⟩
          have hg := drawn_grown hd
          have HTh := Aside0.mk (blk_grown HTg.out hg)
          have HMh := Aside0.mk (HMg.out.same hg)
          clear hd hg
          refine ⟨_, rfl, ?_⟩
          refine hK.out _ _ HTh.out (fun hHeld => ?_)
          clear hK K
          refine norm_ (a' := ?_) ?_ ?_
          rotate_left
          · show Act.put _ (some 39) _ = _
            simp only [Act.put, List.setIfInBounds_toArray, List.set_cons_zero, List.set_cons_succ, i64_w, i32_w]
            rfl
          refine pure_ (i := 8) (N := some 40) (v := ?_) (a' := ?_) #[true, true, true, true, true, true, true, true, true, false, false, false, false, false, false, false, false, false] rfl rfl (any_of HT_.out (by kernel_rfl)) (fun _ _ _ h => h) (Or.inl ⟨by rfl, ?_⟩) ?_ ?_
          rotate_left
          · intro w'
            go_simp
            with_reducible rfl
          rotate_left
          · simp only [Act.put, List.setIfInBounds_toArray, List.set_cons_zero, List.set_cons_succ, i64_w, i32_w]
            rfl
          refine pure_ (i := 9) (N := some 41) (v := ?_) (a' := ?_) #[true, true, true, true, true, true, true, true, true, true, false, false, false, false, false, false, false, false] rfl rfl (any_of HT_.out (by kernel_rfl)) (fun _ _ _ h => h) (Or.inl ⟨by rfl, ?_⟩) ?_ ?_
          rotate_left
          · intro w'
            go_simp
            with_reducible rfl
          rotate_left
          · simp only [Act.put, List.setIfInBounds_toArray, List.set_cons_zero, List.set_cons_succ, i64_w, i32_w]
            rfl
          refine pure_ (i := 10) (N := some 42) (v := ?_) (a' := ?_) #[true, true, true, true, true, true, true, true, true, true, true, false, false, false, false, false, false, false] rfl rfl (any_of HT_.out (by kernel_rfl)) (fun _ _ _ h => h) (Or.inl ⟨by rfl, ?_⟩) ?_ ?_
          rotate_left
          · intro w'
            go_simp
            with_reducible rfl
          rotate_left
          · simp only [Act.put, List.setIfInBounds_toArray, List.set_cons_zero, List.set_cons_succ, i64_w, i32_w]
            rfl
          refine pure_ (i := 11) (N := some 43) (v := ?_) (a' := ?_) #[true, true, true, true, true, true, true, true, true, true, true, true, false, false, false, false, false, false] rfl rfl (any_of HT_.out (by kernel_rfl)) (fun _ _ _ h => h) (Or.inl ⟨by rfl, ?_⟩) ?_ ?_
          rotate_left
          · intro w'
            go_simp
            with_reducible rfl
          rotate_left
          · simp only [Act.put, List.setIfInBounds_toArray, List.set_cons_zero, List.set_cons_succ, i64_w, i32_w]
            rfl
          refine pure_ (i := 13) (N := some 45) (v := ?_) (a' := ?_) #[true, true, true, true, true, true, true, true, true, true, true, true, false, true, false, false, false, false] rfl rfl (any_of HT_.out (by kernel_rfl)) (fun _ _ _ h => h) (Or.inl ⟨by rfl, ?_⟩) ?_ ?_
          rotate_left
          · intro w'
            go_simp
            with_reducible rfl
          rotate_left
          · simp only [Act.put, List.setIfInBounds_toArray, List.set_cons_zero, List.set_cons_succ, i64_w, i32_w]
            rfl
          refine take_ (i := 14) (N := some 46) (v := .int .u64 (rdk D' 88 8)) (a' := ?_) #[true, true, true, true, true, true, true, true, true, true, true, true, false, true, true, false, false, false] rfl rfl (take_of HT_.out (by kernel_rfl)) (fun _ _ _ h => h) (Or.inl ⟨by rfl, ?_⟩) hHeld ?_ ?_
          · rintro w' s8
            obtain ⟨q0, q1, q2, q3, q4, q5, q6, q7, q8⟩ := cz9 s8
            go_simp
            first | done | (rw [hrun])
          rotate_left
          · simp only [Act.put, List.setIfInBounds_toArray, List.set_cons_zero, List.set_cons_succ, i64_w, i32_w]
            rfl
          refine pure_ (i := 15) (N := some 47) (v := ?_) (a' := ?_) #[true, true, true, true, true, true, true, true, true, true, true, true, false, true, true, true, false, false] rfl rfl (any_of HT_.out (by kernel_rfl)) (fun _ _ _ h => h) (Or.inl ⟨by rfl, ?_⟩) ?_ ?_
          rotate_left
          · intro w'
            go_simp
            with_reducible rfl
          rotate_left
          · simp only [Act.put, List.setIfInBounds_toArray, List.set_cons_zero, List.set_cons_succ, i64_w, i32_w]
            rfl
          refine one_ (i := 12) (N := some 44) #[true, true, true, true, true, true, true, true, true, true, true, true, true, true, true, true, false, false] rfl rfl (one_of HT_.out (by kernel_rfl)) (by decide) (fun K hK => ?_)
          refine goes_ Try.func27 (by kernel_rfl) rfl #[.pointer (some ⟨p, 0, none⟩)] (by rfl) rfl rfl (by (try simp only [List.map_toArray, List.map_cons, List.map_nil]); first | done | rfl) ?_
          refine (primary_calls HMh.out).mono ?_
          rintro e w7 ⟨rfl, hg⟩
          have HTi := Aside0.mk (blk_grown HTh.out hg)
          have HMi := Aside0.mk (HMh.out.same hg)
          clear hg
          refine ⟨_, rfl, ?_⟩
          refine hK.out _ _ HTi.out (fun hHeld => ?_)
          clear hK K
          refine norm_ (a' := ?_) ?_ ?_
          rotate_left
          · show Act.put _ (some 44) _ = _
            simp only [Act.put, List.setIfInBounds_toArray, List.set_cons_zero, List.set_cons_succ, i64_w, i32_w]
            rfl
          refine pure_ (i := 16) (N := some 48) (v := ?_) (a' := ?_) #[true, true, true, true, true, true, true, true, true, true, true, true, true, true, true, true, true, false] rfl rfl (any_of HT_.out (by kernel_rfl)) (fun _ _ _ h => h) (Or.inl ⟨by rfl, ?_⟩) ?_ ?_
          rotate_left
          · intro w'
            go_simp
            with_reducible rfl
          rotate_left
          · simp only [Act.put, List.setIfInBounds_toArray, List.set_cons_zero, List.set_cons_succ, i64_w, i32_w]
            rfl
          refine pure_ (i := 17) (N := some 49) (v := ?_) (a' := ?_) #[true, true, true, true, true, true, true, true, true, true, true, true, true, true, true, true, true, true] rfl rfl (any_of HT_.out (by kernel_rfl)) (fun _ _ _ h => h) (Or.inl ⟨by rfl, ?_⟩) ?_ ?_
          rotate_left
          · intro w'
            go_simp
            with_reducible rfl
          rotate_left
          · simp only [Act.put, List.setIfInBounds_toArray, List.set_cons_zero, List.set_cons_succ, i64_w, i32_w]
            rfl
          refine done_ (done_of HT_.out (by kernel_rfl)) ?_
          go_wp2
          go_roundw
          case rel => exact ⟨i + 1, n + 2, D', by go_num, by omega, by omega, by omega, HTi, HMi⟩
          case measure => simp [intOf]; omega
        · refine box_step ?hg (N := 6) ?hd (cs := #[.int .u64 0, .int .u64 0, .int .u64 0, .int .u64 0, .int .u64 0, .int .u64 0, .int .u64 0, .int .u64 0, .int .u64 0]) (t := 38) ?hr ?_; (case hd => rfl); (case hg => rfl); (case hr => first | (go_simp; done) | (go_simp; rfl))
          intro g6 hg6 wz hbox hb
          have HRz := Aside0.mk (HMd.out.same (below_grown hb))
          have SGz := Aside0.mk (blk_below AHS.out.1 hb)
          have HB6z := Aside0.mk hbox
          have HN6 := Aside0.mk (show gt ≠ g6 from Nat.ne_of_lt (Nat.lt_of_lt_of_le (blk_lt AHS.out.1) (Nat.le_of_eq hg6.symm)))
          have HK6 := Aside0.mk (show mb ≠ g6 ∧ p ≠ g6 ∧ w.heap.size ≤ g6 from ⟨Nat.ne_of_lt (Nat.lt_of_lt_of_le HMd.out.own.lt (Nat.le_of_eq hg6.symm)), Nat.ne_of_lt (Nat.lt_of_lt_of_le HMd.out.lt (Nat.le_of_eq hg6.symm)), Nat.le_trans HMd.out.hB (Nat.le_of_eq hg6.symm)⟩)
          have SZE := Aside0.mk (show wz.heap[gt]? = some (.cells #[.int .u64 (rdk D 80 24), .int .u64 (rdk D 80 40), .int .u64 (rdk D 80 48), .int .u64 (rdk D 88 8), .int .u64 (rdk D 88 16), .int .u64 (rdk D 88 24), .int .u64 (rdk D 88 32), .int .u64 (rdk D 88 40), .int .u64 (rdk D 88 48)] 38 (0, 0)) ∧ wz.cell? (x.add (i * 8)) = some (.int .i64 kind) ∧ wz.cell? ⟨(x.add (i * 8)).block, (x.add (i * 8)).off + 1, none⟩ = some (.int .i64 asi) ∧ wz.cell? ⟨(x.add (i * 8)).block, (x.add (i * 8)).off + 2, none⟩ = some (.int .i64 un) ∧ wz.cell? ⟨(x.add (i * 8)).block, (x.add (i * 8)).off + 3, none⟩ = some (.int .i64 num) ∧ wz.cell? ⟨(x.add (i * 8)).block, (x.add (i * 8)).off + 4, none⟩ = some (.int .u64 place) ∧ wz.cell? ⟨(x.add (i * 8)).block, (x.add (i * 8)).off + 5, none⟩ = some (.int .u64 v) ∧ wz.cell? ⟨(x.add (i * 8)).block, (x.add (i * 8)).off + 6, none⟩ = some (.bool store) ∧ wz.cell? ⟨(x.add (i * 8)).block, (x.add (i * 8)).off + 7, none⟩ = some (.bool priv) from ⟨SGz.out, (HRz.out.below.cell (cell_lt E0.out)).trans E0.out, (HRz.out.below.cell (cell_lt E1.out)).trans E1.out, (HRz.out.below.cell (cell_lt E2.out)).trans E2.out, (HRz.out.below.cell (cell_lt E3.out)).trans E3.out, (HRz.out.below.cell (cell_lt E4.out)).trans E4.out, (HRz.out.below.cell (cell_lt E5.out)).trans E5.out, (HRz.out.below.cell (cell_lt E6.out)).trans E6.out, (HRz.out.below.cell (cell_lt E7.out)).trans E7.out⟩)
          clear hg6 hbox hb
          refine hK.out _ _ SZE.out (fun hHeld => ?_)
          clear hK K
          refine norm_ (a' := ?_) ?_ ?_
          rotate_left
          · show Act.put _ (some 6) _ = _
            simp only [Act.put, List.setIfInBounds_toArray, List.set_cons_zero, List.set_cons_succ, i64_w, i32_w]
            rfl
          refine one_ (i := 6) (N := some 28) #[true, true, true, true, true, true, true, false, false, false, true, false, false] rfl rfl (one_of HT_.out (by kernel_rfl)) (by decide) (fun K hK => ?_)
          refine goes_ Try.func22 (by kernel_rfl) rfl #[.pointer (some ⟨p, 0, none⟩), .agg #[.int .u64 (rdk D 80 24), .int .u64 (rdk D 80 40), .int .u64 (rdk D 80 48), .int .u64 (rdk D 88 8), .int .u64 (rdk D 88 16), .int .u64 (rdk D 88 24), .int .u64 (rdk D 88 32), .int .u64 (rdk D 88 40), .int .u64 (rdk D 88 48)], .agg #[.int .i64 kind, .int .i64 asi, .int .i64 un, .int .i64 num, .int .u64 place, .int .u64 v, .bool store, .bool priv]] (by rfl) rfl rfl (by (try simp only [List.map_toArray, List.map_cons, List.map_nil]); first | done | rfl) ?_
          refine (does_lit HRz.out kind asi un num place v store priv HWF.out.1 HWF.out.2.1 HWF.out.2.2 (by omega)).mono ?_
          rintro e wa ⟨D', rfl, hR', hg'⟩
          obtain ⟨es, cl, hmb, hmo⟩ := HRz.out.own
          have SGa := Aside0.mk (blk_mb SGz.out hmb hg')
          have HB6 := Aside0.mk (blk_mb HB6z.out hmb hg')
          have HRa := Aside0.mk hR'
          have SNE := Aside0.mk (show wa.heap[gt]? = some (.cells #[.int .u64 (rdk D 80 24), .int .u64 (rdk D 80 40), .int .u64 (rdk D 80 48), .int .u64 (rdk D 88 8), .int .u64 (rdk D 88 16), .int .u64 (rdk D 88 24), .int .u64 (rdk D 88 32), .int .u64 (rdk D 88 40), .int .u64 (rdk D 88 48)] 38 (0, 0)) ∧ wa.cell? (x.add (i * 8)) = some (.int .i64 kind) ∧ wa.cell? ⟨(x.add (i * 8)).block, (x.add (i * 8)).off + 1, none⟩ = some (.int .i64 asi) ∧ wa.cell? ⟨(x.add (i * 8)).block, (x.add (i * 8)).off + 2, none⟩ = some (.int .i64 un) ∧ wa.cell? ⟨(x.add (i * 8)).block, (x.add (i * 8)).off + 3, none⟩ = some (.int .i64 num) ∧ wa.cell? ⟨(x.add (i * 8)).block, (x.add (i * 8)).off + 4, none⟩ = some (.int .u64 place) ∧ wa.cell? ⟨(x.add (i * 8)).block, (x.add (i * 8)).off + 5, none⟩ = some (.int .u64 v) ∧ wa.cell? ⟨(x.add (i * 8)).block, (x.add (i * 8)).off + 6, none⟩ = some (.bool store) ∧ wa.cell? ⟨(x.add (i * 8)).block, (x.add (i * 8)).off + 7, none⟩ = some (.bool priv) from ⟨SGa.out, (HRa.out.below.cell (cell_lt E0.out)).trans E0.out, (HRa.out.below.cell (cell_lt E1.out)).trans E1.out, (HRa.out.below.cell (cell_lt E2.out)).trans E2.out, (HRa.out.below.cell (cell_lt E3.out)).trans E3.out, (HRa.out.below.cell (cell_lt E4.out)).trans E4.out, (HRa.out.below.cell (cell_lt E5.out)).trans E5.out, (HRa.out.below.cell (cell_lt E6.out)).trans E6.out, (HRa.out.below.cell (cell_lt E7.out)).trans E7.out⟩)
          clear hmo hg' hR' hmb es cl
          refine ⟨_, rfl, ?_⟩
          refine hK.out _ _ SNE.out (fun hHeld => ?_)
          clear hK K
          refine norm_ (a' := ?_) ?_ ?_
          rotate_left
          · show Act.put _ (some 28) _ = _
            simp only [Act.put, List.setIfInBounds_toArray, List.set_cons_zero, List.set_cons_succ, i64_w, i32_w]
            rfl
          refine pure_ (i := 7) (N := some 21) (v := ?_) (a' := ?_) #[true, true, true, true, true, true, true, true, false, false, true, false, false] rfl rfl (any_of HT_.out (by kernel_rfl)) (fun _ _ _ h => h) (Or.inl ⟨by rfl, ?_⟩) ?_ ?_
          rotate_left
          · intro w'
            go_simp
            with_reducible rfl
          rotate_left
          · simp only [Act.put, List.setIfInBounds_toArray, List.set_cons_zero, List.set_cons_succ, i64_w, i32_w]
            rfl
          refine pure_ (i := 8) (N := some 29) (v := ?_) (a' := ?_) #[true, true, true, true, true, true, true, true, true, false, true, false, false] rfl rfl (any_of HT_.out (by kernel_rfl)) (fun _ _ _ h => h) (Or.inl ⟨by rfl, ?_⟩) ?_ ?_
          rotate_left
          · intro w'
            go_simp
            with_reducible rfl
          rotate_left
          · simp only [Act.put, List.setIfInBounds_toArray, List.set_cons_zero, List.set_cons_succ, i64_w, i32_w]
            rfl
          refine pure_ (i := 9) (N := some 30) (v := ?_) (a' := ?_) #[true, true, true, true, true, true, true, true, true, true, true, false, false] rfl rfl (any_of HT_.out (by kernel_rfl)) (fun _ _ _ h => h) (Or.inl ⟨by rfl, ?_⟩) ?_ ?_
          rotate_left
          · intro w'
            go_simp
            with_reducible rfl
          rotate_left
          · simp only [Act.put, List.setIfInBounds_toArray, List.set_cons_zero, List.set_cons_succ, i64_w, i32_w]
            rfl
          refine one_ (i := 11) (N := none) #[true, true, true, true, true, true, true, true, true, true, true, true, false] rfl rfl (one_of HT_.out (by kernel_rfl)) (by decide) (fun K hK => ?_)
          rw [if_pos (by rfl)]
          refine wp_store_row 38 (.tmp 6) (.tmp 29) rfl g6 #[.int .u64 (rdk D' 80 24), .int .u64 (rdk D' 80 40), .int .u64 (rdk D' 80 48), .int .u64 (rdk D' 88 8), .int .u64 (rdk D' 88 16), .int .u64 (rdk D' 88 24), .int .u64 (rdk D' 88 32), .int .u64 (rdk D' 88 40), .int .u64 (rdk D' 88 48)] rfl rfl 38 #[.int .u64 0, .int .u64 0, .int .u64 0, .int .u64 0, .int .u64 0, .int .u64 0, .int .u64 0, .int .u64 0, .int .u64 0] HB6.out (by kernel_rfl) rfl (by kernel_rfl) ?_
          have SO6 := Aside0.mk (setRow_heap _ g6 _ #[.int .u64 (rdk D' 80 24), .int .u64 (rdk D' 80 40), .int .u64 (rdk D' 80 48), .int .u64 (rdk D' 88 8), .int .u64 (rdk D' 88 16), .int .u64 (rdk D' 88 24), .int .u64 (rdk D' 88 32), .int .u64 (rdk D' 88 40), .int .u64 (rdk D' 88 48)] _ _ HB6.out)
          have HRb := Aside0.mk (HRa.out.kept (grown_row wa g6 #[.int .u64 (rdk D' 80 24), .int .u64 (rdk D' 80 40), .int .u64 (rdk D' 80 48), .int .u64 (rdk D' 88 8), .int .u64 (rdk D' 88 16), .int .u64 (rdk D' 88 24), .int .u64 (rdk D' 88 32), .int .u64 (rdk D' 88 40), .int .u64 (rdk D' 88 48)]) (fun e => HK6.out.1 (Option.some.inj e)) (fun e => HK6.out.2.1 (Option.some.inj e)) (fun k e => by cases e; exact HK6.out.2.2))
          have HTb := Aside0.mk (blk_row (cs := #[.int .u64 (rdk D' 80 24), .int .u64 (rdk D' 80 40), .int .u64 (rdk D' 80 48), .int .u64 (rdk D' 88 8), .int .u64 (rdk D' 88 16), .int .u64 (rdk D' 88 24), .int .u64 (rdk D' 88 32), .int .u64 (rdk D' 88 40), .int .u64 (rdk D' 88 48)]) SGa.out HN6.out)
          generalize hwb : World.setRow wa g6 _ = wb at SO6 HRb HTb ⊢
          clear hwb
          refine hK.out _ _ (show wb.heap[gt]? = some (.cells #[.int .u64 (rdk D 80 24), .int .u64 (rdk D 80 40), .int .u64 (rdk D 80 48), .int .u64 (rdk D 88 8), .int .u64 (rdk D 88 16), .int .u64 (rdk D 88 24), .int .u64 (rdk D 88 32), .int .u64 (rdk D 88 40), .int .u64 (rdk D 88 48)] 38 (0, 0)) ∧ wb.cell? (x.add (i * 8)) = some (.int .i64 kind) ∧ wb.cell? ⟨(x.add (i * 8)).block, (x.add (i * 8)).off + 1, none⟩ = some (.int .i64 asi) ∧ wb.cell? ⟨(x.add (i * 8)).block, (x.add (i * 8)).off + 2, none⟩ = some (.int .i64 un) ∧ wb.cell? ⟨(x.add (i * 8)).block, (x.add (i * 8)).off + 3, none⟩ = some (.int .i64 num) ∧ wb.cell? ⟨(x.add (i * 8)).block, (x.add (i * 8)).off + 4, none⟩ = some (.int .u64 place) ∧ wb.cell? ⟨(x.add (i * 8)).block, (x.add (i * 8)).off + 5, none⟩ = some (.int .u64 v) ∧ wb.cell? ⟨(x.add (i * 8)).block, (x.add (i * 8)).off + 6, none⟩ = some (.bool store) ∧ wb.cell? ⟨(x.add (i * 8)).block, (x.add (i * 8)).off + 7, none⟩ = some (.bool priv) from ⟨HTb.out, (HRb.out.below.cell (cell_lt E0.out)).trans E0.out, (HRb.out.below.cell (cell_lt E1.out)).trans E1.out, (HRb.out.below.cell (cell_lt E2.out)).trans E2.out, (HRb.out.below.cell (cell_lt E3.out)).trans E3.out, (HRb.out.below.cell (cell_lt E4.out)).trans E4.out, (HRb.out.below.cell (cell_lt E5.out)).trans E5.out, (HRb.out.below.cell (cell_lt E6.out)).trans E6.out, (HRb.out.below.cell (cell_lt E7.out)).trans E7.out⟩) (fun hHeld => ?_)
          clear hK K
          refine norm_ (a' := ?_) ?_ ?_
          rotate_left
          · show Act.put _ none _ = _
            rfl
          refine pure_ (i := 12) (N := some 7) (v := ?_) (a' := ?_) #[true, true, true, true, true, true, true, true, true, true, true, true, true] rfl rfl (any_of HT_.out (by kernel_rfl)) (fun _ _ _ h => h) (Or.inl ⟨by rfl, ?_⟩) ?_ ?_
          rotate_left
          · intro w'
            go_simp
            with_reducible rfl
          rotate_left
          · simp only [Act.put, List.setIfInBounds_toArray, List.set_cons_zero, List.set_cons_succ, i64_w, i32_w]
            rfl
          refine done_ (done_of HT_.out (by kernel_rfl)) ?_
          go_wp2_with (first | ((with_reducible refine gate_dst (N := 31) rfl ?_); refine wpList_load_row rfl 38 (.tmp 6) rfl g6 rfl 38 #[.int .u64 (rdk D' 80 24), .int .u64 (rdk D' 80 40), .int .u64 (rdk D' 80 48), .int .u64 (rdk D' 88 8), .int .u64 (rdk D' 88 16), .int .u64 (rdk D' 88 24), .int .u64 (rdk D' 88 32), .int .u64 (rdk D' 88 40), .int .u64 (rdk D' 88 48)] (0, 0) _ SO6.out hR rfl (by kernel_rfl) ?_) | ((with_reducible refine gate_store (t := 38) (p := 4) rfl ?_); refine wpList_store_row rfl 38 (.tmp 4) (.tmp 31) rfl gt #[.int .u64 (rdk D' 80 24), .int .u64 (rdk D' 80 40), .int .u64 (rdk D' 80 48), .int .u64 (rdk D' 88 8), .int .u64 (rdk D' 88 16), .int .u64 (rdk D' 88 24), .int .u64 (rdk D' 88 32), .int .u64 (rdk D' 88 40), .int .u64 (rdk D' 88 48)] rfl rfl 38 _ HTb.out (by kernel_rfl) rfl (by kernel_rfl) ?_; have SHTb := Aside0.mk (setRow_heap _ gt _ #[.int .u64 (rdk D' 80 24), .int .u64 (rdk D' 80 40), .int .u64 (rdk D' 80 48), .int .u64 (rdk D' 88 8), .int .u64 (rdk D' 88 16), .int .u64 (rdk D' 88 24), .int .u64 (rdk D' 88 32), .int .u64 (rdk D' 88 40), .int .u64 (rdk D' 88 48)] _ _ HTb.out); have THTb := Aside0.mk (grown_row wb gt #[.int .u64 (rdk D' 80 24), .int .u64 (rdk D' 80 40), .int .u64 (rdk D' 80 48), .int .u64 (rdk D' 88 8), .int .u64 (rdk D' 88 16), .int .u64 (rdk D' 88 24), .int .u64 (rdk D' 88 32), .int .u64 (rdk D' 88 40), .int .u64 (rdk D' 88 48)]); have HMc := Aside0.mk (HRb.out.kept THTb.out (fun e => HK.out.1 (Option.some.inj e)) (fun e => HK.out.2.1 (Option.some.inj e)) (fun k e => by cases e; exact HK.out.2.2))) | go_in)
          have HTc := Aside0.mk SHTb.out
          generalize hwc : World.setRow wb gt _ = wc at HTc HMc ⊢
          clear hwc
          have HMe := Aside0.mk (HMc.out.same (grown_drew _ _))
          have AHS1 := Aside0.mk (show wc.drew.heap[gt]? = some (.cells #[.int .u64 (rdk D' 80 24), .int .u64 (rdk D' 80 40), .int .u64 (rdk D' 80 48), .int .u64 (rdk D' 88 8), .int .u64 (rdk D' 88 16), .int .u64 (rdk D' 88 24), .int .u64 (rdk D' 88 32), .int .u64 (rdk D' 88 40), .int .u64 (rdk D' 88 48)] 38 (0, 0)) from HTc.out)
          refine start_ (n := 18) (S := fun w' => w'.heap[gt]? = some (.cells #[.int .u64 (rdk D' 80 24), .int .u64 (rdk D' 80 40), .int .u64 (rdk D' 80 48), .int .u64 (rdk D' 88 8), .int .u64 (rdk D' 88 16), .int .u64 (rdk D' 88 24), .int .u64 (rdk D' 88 32), .int .u64 (rdk D' 88 40), .int .u64 (rdk D' 88 48)] 38 (0, 0))) (ds := []) #[false, false, false, false, false, false, false, false, false, false, false, false, false, false, false, false, false, false] (by kernel_rfl) rfl rfl AHS1.out (fun hHeld => ?_)
          refine with_tab playsq_tab (fun HT_ => ?_)
          refine pure_ (i := 0) (N := some 32) (v := ?_) (a' := ?_) #[true, false, false, false, false, false, false, false, false, false, false, false, false, false, false, false, false, false] rfl rfl (any_of HT_.out (by kernel_rfl)) (fun _ _ _ h => h) (Or.inl ⟨by rfl, ?_⟩) ?_ ?_
          rotate_left
          · intro w'
            go_simp
            with_reducible rfl
          rotate_left
          · simp only [Act.put, List.setIfInBounds_toArray, List.set_cons_zero, List.set_cons_succ, i64_w, i32_w]
            rfl
          refine pure_ (i := 1) (N := some 33) (v := ?_) (a' := ?_) #[true, true, false, false, false, false, false, false, false, false, false, false, false, false, false, false, false, false] rfl rfl (any_of HT_.out (by kernel_rfl)) (fun _ _ _ h => h) (Or.inl ⟨by rfl, ?_⟩) ?_ ?_
          rotate_left
          · intro w'
            go_simp
            with_reducible rfl
          rotate_left
          · simp only [Act.put, List.setIfInBounds_toArray, List.set_cons_zero, List.set_cons_succ, i64_w, i32_w]
            rfl
          refine pure_ (i := 2) (N := some 34) (v := ?_) (a' := ?_) #[true, true, true, false, false, false, false, false, false, false, false, false, false, false, false, false, false, false] rfl rfl (any_of HT_.out (by kernel_rfl)) (fun _ _ _ h => h) (Or.inl ⟨by rfl, ?_⟩) ?_ ?_
          rotate_left
          · intro w'
            go_simp
            with_reducible rfl
          rotate_left
          · simp only [Act.put, List.setIfInBounds_toArray, List.set_cons_zero, List.set_cons_succ, i64_w, i32_w]
            rfl
          refine pure_ (i := 3) (N := some 35) (v := ?_) (a' := ?_) #[true, true, true, true, false, false, false, false, false, false, false, false, false, false, false, false, false, false] rfl rfl (any_of HT_.out (by kernel_rfl)) (fun _ _ _ h => h) (Or.inl ⟨by rfl, ?_⟩) ?_ ?_
          rotate_left
          · intro w'
            go_simp
            with_reducible rfl
          rotate_left
          · simp only [Act.put, List.setIfInBounds_toArray, List.set_cons_zero, List.set_cons_succ, i64_w, i32_w]
            rfl
          refine take_ (i := 5) (N := some 37) (v := .agg #[.int .u64 (rdk D' 80 24), .int .u64 (rdk D' 80 40), .int .u64 (rdk D' 80 48), .int .u64 (rdk D' 88 8), .int .u64 (rdk D' 88 16), .int .u64 (rdk D' 88 24), .int .u64 (rdk D' 88 32), .int .u64 (rdk D' 88 40), .int .u64 (rdk D' 88 48)]) (a' := ?_) #[true, true, true, true, false, true, false, false, false, false, false, false, false, false, false, false, false, false] rfl rfl (take_of HT_.out (by kernel_rfl)) (fun _ _ _ h => h) (Or.inl ⟨by rfl, ?_⟩) hHeld ?_ ?_
          · rintro w' s8
            obtain ⟨q0, q1, q2, q3, q4, q5, q6, q7, q8⟩ := cz9 s8
            go_simp
            first | done | (rw [hrun])
          rotate_left
          · simp only [Act.put, List.setIfInBounds_toArray, List.set_cons_zero, List.set_cons_succ, i64_w, i32_w]
            rfl
          refine one_ (i := 4) (N := some 36) #[true, true, true, true, true, true, false, false, false, false, false, false, false, false, false, false, false, false] rfl rfl (one_of HT_.out (by kernel_rfl)) (by decide) (fun K hK => ?_)
          refine goes_ Try.func23 (by kernel_rfl) rfl #[.pointer (some ⟨p, 0, none⟩)] (by rfl) rfl rfl (by (try simp only [List.map_toArray, List.map_cons, List.map_nil]); first | done | rfl) ?_
          refine (all_calls HMe.out).mono ?_
          rintro e w4 ⟨v0, rfl, hO, hg⟩
          have HTf := Aside0.mk (blk_grown AHS1.out hg)
          have HMf := Aside0.mk (HMe.out.same hg)
          obtain ⟨Aa, ca, ea, hca, hCa⟩ := Kd.R_reads hO
          subst ea
          have HCa := Aside0.mk hO
          clear hO hg hCa hca
          refine ⟨_, rfl, ?_⟩
          refine hK.out _ _ HTf.out (fun hHeld => ?_)
          clear hK K
          refine norm_ (a' := ?_) ?_ ?_
          rotate_left
          · show Act.put _ (some 36) _ = _
            simp only [Act.put, List.setIfInBounds_toArray, List.set_cons_zero, List.set_cons_succ, i64_w, i32_w]
            rfl
          refine one_ (i := 6) (N := some 38) #[true, true, true, true, true, true, true, false, false, false, false, false, false, false, false, false, false, false] rfl rfl (one_of HT_.out (by kernel_rfl)) (by decide) (fun K hK => ?_)
          refine goes_ Try.func26 (by kernel_rfl) rfl #[.agg #[.int .u64 (rdk D' 80 24), .int .u64 (rdk D' 80 40), .int .u64 (rdk D' 80 48), .int .u64 (rdk D' 88 8), .int .u64 (rdk D' 88 16), .int .u64 (rdk D' 88 24), .int .u64 (rdk D' 88 32), .int .u64 (rdk D' 88 40), .int .u64 (rdk D' 88 48)]] (by rfl) rfl rfl (by (try simp only [List.map_toArray, List.map_cons, List.map_nil]); first | done | rfl) ?_
          refine (lookasideref07_All.calls _ _ _ _ _ _ _ _ _ _ _ (all_ref HMf.out)).mono ?_
          rintro e w5 ⟨v1, rfl, hO, hb⟩
          have hg := below_grown hb
          have HTg := Aside0.mk (blk_grown HTf.out hg)
          have HMg := Aside0.mk (HMf.out.same hg)
          have hO2 := Kd.R_grown HCa.out hg (by simp)
          obtain ⟨Ab, cb, eb, hcb, hCb⟩ := Kd.R_reads hO
          subst eb
          obtain ⟨Aa', ca', ea, hca, hCa⟩ := Kd.R_reads hO2
          obtain ⟨rfl, rfl⟩ : Aa = Aa' ∧ ca = ca' := by injection ea with e1 e2 e3; exact ⟨e1, e3⟩
          have HSA := Aside0.mk (And.intro hca hCa)
          have HSB := Aside0.mk (And.intro hcb hCb)
          clear hO hO2 hb hg hCa hca hCb hcb ea HCa
          refine ⟨_, rfl, ?_⟩
          refine hK.out _ _ HTg.out (fun hHeld => ?_)
          clear hK K
          refine norm_ (a' := ?_) ?_ ?_
          rotate_left
          · show Act.put _ (some 38) _ = _
            simp only [Act.put, List.setIfInBounds_toArray, List.set_cons_zero, List.set_cons_succ, i64_w, i32_w]
            rfl
          refine one_ (i := 7) (N := some 39) #[true, true, true, true, true, true, true, true, false, false, false, false, false, false, false, false, false, false] rfl rfl (one_of HT_.out (by kernel_rfl)) (by decide) (fun K hK => ?_)
          refine goes_ Try.func24 (by kernel_rfl) rfl #[.slice Aa (allOf D').length ca, .slice Ab (allOf D').length cb] (by rfl) rfl rfl (by (try simp only [List.map_toArray, List.map_cons, List.map_nil]); first | done | rfl) ?_
          refine (lookasideref07_Same.calls 20 Aa ca (allOf D') Ab cb (allOf D') true _ HSA.out.2 HSA.out.1 HSB.out.2 HSB.out.1 (same_f _ (all_len D'))).mono ?_
          rintro e w6 ⟨rfl, hd⟩
          have hg := drawn_grown hd
          have HTh := Aside0.mk (blk_grown HTg.out hg)
          have HMh := Aside0.mk (HMg.out.same hg)
          clear hd hg
          refine ⟨_, rfl, ?_⟩
          refine hK.out _ _ HTh.out (fun hHeld => ?_)
          clear hK K
          refine norm_ (a' := ?_) ?_ ?_
          rotate_left
          · show Act.put _ (some 39) _ = _
            simp only [Act.put, List.setIfInBounds_toArray, List.set_cons_zero, List.set_cons_succ, i64_w, i32_w]
            rfl
          refine pure_ (i := 8) (N := some 40) (v := ?_) (a' := ?_) #[true, true, true, true, true, true, true, true, true, false, false, false, false, false, false, false, false, false] rfl rfl (any_of HT_.out (by kernel_rfl)) (fun _ _ _ h => h) (Or.inl ⟨by rfl, ?_⟩) ?_ ?_
          rotate_left
          · intro w'
            go_simp
            with_reducible rfl
          rotate_left
          · simp only [Act.put, List.setIfInBounds_toArray, List.set_cons_zero, List.set_cons_succ, i64_w, i32_w]
            rfl
          refine pure_ (i := 9) (N := some 41) (v := ?_) (a' := ?_) #[true, true, true, true, true, true, true, true, true, true, false, false, false, false, false, false, false, false] rfl rfl (any_of HT_.out (by kernel_rfl)) (fun _ _ _ h => h) (Or.inl ⟨by rfl, ?_⟩) ?_ ?_
          rotate_left
          · intro w'
            go_simp
            with_reducible rfl
          rotate_left
          · simp only [Act.put, List.setIfInBounds_toArray, List.set_cons_zero, List.set_cons_succ, i64_w, i32_w]
            rfl
          refine pure_ (i := 10) (N := some 42) (v := ?_) (a' := ?_) #[true, true, true, true, true, true, true, true, true, true, true, false, false, false, false, false, false, false] rfl rfl (any_of HT_.out (by kernel_rfl)) (fun _ _ _ h => h) (Or.inl ⟨by rfl, ?_⟩) ?_ ?_
          rotate_left
          · intro w'
            go_simp
            with_reducible rfl
          rotate_left
          · simp only [Act.put, List.setIfInBounds_toArray, List.set_cons_zero, List.set_cons_succ, i64_w, i32_w]
            rfl
          refine pure_ (i := 11) (N := some 43) (v := ?_) (a' := ?_) #[true, true, true, true, true, true, true, true, true, true, true, true, false, false, false, false, false, false] rfl rfl (any_of HT_.out (by kernel_rfl)) (fun _ _ _ h => h) (Or.inl ⟨by rfl, ?_⟩) ?_ ?_
          rotate_left
          · intro w'
            go_simp
            with_reducible rfl
          rotate_left
          · simp only [Act.put, List.setIfInBounds_toArray, List.set_cons_zero, List.set_cons_succ, i64_w, i32_w]
            rfl
          refine pure_ (i := 13) (N := some 45) (v := ?_) (a' := ?_) #[true, true, true, true, true, true, true, true, true, true, true, true, false, true, false, false, false, false] rfl rfl (any_of HT_.out (by kernel_rfl)) (fun _ _ _ h => h) (Or.inl ⟨by rfl, ?_⟩) ?_ ?_
          rotate_left
          · intro w'
            go_simp
            with_reducible rfl
          rotate_left
          · simp only [Act.put, List.setIfInBounds_toArray, List.set_cons_zero, List.set_cons_succ, i64_w, i32_w]
            rfl
          refine take_ (i := 14) (N := some 46) (v := .int .u64 (rdk D' 88 8)) (a' := ?_) #[true, true, true, true, true, true, true, true, true, true, true, true, false, true, true, false, false, false] rfl rfl (take_of HT_.out (by kernel_rfl)) (fun _ _ _ h => h) (Or.inl ⟨by rfl, ?_⟩) hHeld ?_ ?_
          · rintro w' s8
            obtain ⟨q0, q1, q2, q3, q4, q5, q6, q7, q8⟩ := cz9 s8
            go_simp
            first | done | (rw [hrun])
          rotate_left
          · simp only [Act.put, List.setIfInBounds_toArray, List.set_cons_zero, List.set_cons_succ, i64_w, i32_w]
            rfl
          refine pure_ (i := 15) (N := some 47) (v := ?_) (a' := ?_) #[true, true, true, true, true, true, true, true, true, true, true, true, false, true, true, true, false, false] rfl rfl (any_of HT_.out (by kernel_rfl)) (fun _ _ _ h => h) (Or.inl ⟨by rfl, ?_⟩) ?_ ?_
          rotate_left
          · intro w'
            go_simp
            with_reducible rfl
          rotate_left
          · simp only [Act.put, List.setIfInBounds_toArray, List.set_cons_zero, List.set_cons_succ, i64_w, i32_w]
            rfl
          refine one_ (i := 12) (N := some 44) #[true, true, true, true, true, true, true, true, true, true, true, true, true, true, true, true, false, false] rfl rfl (one_of HT_.out (by kernel_rfl)) (by decide) (fun K hK => ?_)
          refine goes_ Try.func27 (by kernel_rfl) rfl #[.pointer (some ⟨p, 0, none⟩)] (by rfl) rfl rfl (by (try simp only [List.map_toArray, List.map_cons, List.map_nil]); first | done | rfl) ?_
          refine (primary_calls HMh.out).mono ?_
          rintro e w7 ⟨rfl, hg⟩
          have HTi := Aside0.mk (blk_grown HTh.out hg)
          have HMi := Aside0.mk (HMh.out.same hg)
          clear hg
          refine ⟨_, rfl, ?_⟩
          refine hK.out _ _ HTi.out (fun hHeld => ?_)
          clear hK K
          refine norm_ (a' := ?_) ?_ ?_
          rotate_left
          · show Act.put _ (some 44) _ = _
            simp only [Act.put, List.setIfInBounds_toArray, List.set_cons_zero, List.set_cons_succ, i64_w, i32_w]
            rfl
          refine pure_ (i := 16) (N := some 48) (v := ?_) (a' := ?_) #[true, true, true, true, true, true, true, true, true, true, true, true, true, true, true, true, true, false] rfl rfl (any_of HT_.out (by kernel_rfl)) (fun _ _ _ h => h) (Or.inl ⟨by rfl, ?_⟩) ?_ ?_
          rotate_left
          · intro w'
            go_simp
            with_reducible rfl
          rotate_left
          · simp only [Act.put, List.setIfInBounds_toArray, List.set_cons_zero, List.set_cons_succ, i64_w, i32_w]
            rfl
          refine pure_ (i := 17) (N := some 49) (v := ?_) (a' := ?_) #[true, true, true, true, true, true, true, true, true, true, true, true, true, true, true, true, true, true] rfl rfl (any_of HT_.out (by kernel_rfl)) (fun _ _ _ h => h) (Or.inl ⟨by rfl, ?_⟩) ?_ ?_
          rotate_left
          · intro w'
            go_simp
            with_reducible rfl
          rotate_left
          · simp only [Act.put, List.setIfInBounds_toArray, List.set_cons_zero, List.set_cons_succ, i64_w, i32_w]
            rfl
          refine done_ (done_of HT_.out (by kernel_rfl)) ?_
          go_wp2
          go_roundw
          case rel => exact ⟨i + 1, n + 2, D', by go_num, by omega, by omega, by omega, HTi, HMi⟩
          case measure => simp [intOf]; omega
      · obtain rfl : i = 40 := by omega
        have h1' : (40 : Int) < (len : Int) := by omega
        go_wp2_with (first | (go_at_call 18; refine (lives_calls _).mono ?_; rintro e wl ⟨rfl, hg⟩; have HMl := Aside0.mk (HM.out.same hg); clear hg) | go_in)
        go_ret
        exact ⟨rfl, HMl.out.below⟩
    · obtain rfl : i = len := by omega
      go_wp2_with (first | (go_at_call 18; refine (lives_calls _).mono ?_; rintro e wl ⟨rfl, hg⟩; have HMl := Aside0.mk (HM.out.same hg); clear hg) | go_in)
      go_ret
      exact ⟨rfl, HMl.out.below⟩
end
end Go.Proofs.Ytdfejnakhpgekaa.QRegsPlays
