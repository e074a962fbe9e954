/- The words that faults, misses and writes leave in registers, as numbers; no conditions beyond the numbers' bounds. -/
import Derived.Test.YthclbckkfgmbaaaRegs1
/- merged: Regs3 -/
namespace Go.Proofs.Ythclbckkfgmbaaa.QRegsPlays
open Go.RowKit Go.Maps Go.Proofs.YthclbckkfgmbaaaW.PrintWords Go.Proofs.YthclbckkfgmbaaaW.PrintLast Go.Proofs.YthclbckkfgmbaaaW.PrintMore
set_option linter.unusedSimpArgs false
set_option linter.unusedVariables false
section
set_option maxHeartbeats 1000000
set_option maxRecDepth 100000
theorem wf_i {a : Int} (h : -9223372036854775808 ≤ a ∧ a < 9223372036854775808) : (Lit.int .i64 a).wf = true := by
  simp [Lit.wf, IntKind.min, IntKind.max, IntKind.signed, IntKind.bits]; omega
theorem grown_but {W W1 : World} (h : W.grownBy W1 none) (row : Option Nat) : W.grownBy W1 row := ⟨h.os, h.tape, h.output, h.size, fun i hi _ => h.block i hi (by simp)⟩
noncomputable def miss3_T : Bool × List (List Nat × List Nat) := rtab .any (opsOf Try.f79 3)
theorem miss3_tab : rtab .any (opsOf Try.f79 3) = miss3_T := rfl
theorem miss_ok {B w0 p mb n D W} (h : Regs B w0 p mb n D W) (u sp : Int) (hu : regs_isUnit.f u = some true) (hsp : regs_space.f u = some sp) (wsp : (Lit.int .i64 sp).wf = true) (va ctx r : Int) (h0 : 0 ≤ ctx) (h1 : ctx ≤ 8191) (hr : field_Put.f va 0 13 ctx = some r) (wr : (Lit.int .u64 r).wf = true) (hn : n < 1000000) :
    Calls Try.prog 79 #[.pointer (some ⟨p, 0, none⟩), .int .i64 u, .int .u64 va, .int .i64 ctx] W fun e W' => e = .returned (.int .i64 0) ∧ Regs B w0 p mb (n + 1) (pk D sp 48 r) W' ∧ W.grownBy W' (some mb) := by
  have HM0 := Aside0.mk h
  have HU := Aside0.mk hu
  have HSP := Aside0.mk hsp
  clear h hu hsp
  have HR := Aside0.mk hr
  have hcw : IntKind.u64.wrap ctx = ctx := by rw [IntKind.wrap_u64]; omega
  clear hr
  go_enter Try.func79, Try.ntmps79
  go_wp2_with (first | (go_at_call 101; refine (regs_isUnit.calls u _ _ HU.out).mono ?_; rintro e wu0 ⟨rfl, hd⟩; have HM := Aside0.mk (HM0.out.same (drawn_grown hd)); have HG := Aside0.mk (drawn_grown hd); clear HM0 hd) | go_in)
  have AHS := Aside0.mk (show wu0.drew.cell? ⟨p, 0, none⟩ = some (.map (some mb)) ∧ wu0.drew.ownsMap Try.prog 113 (plainElem Try.prog 22) mb n D from ⟨HM.out.cell, HM.out.own.drew⟩)
  refine start_ (n := 12) (S := fun w' => w'.cell? ⟨p, 0, none⟩ = some (.map (some mb)) ∧ w'.ownsMap Try.prog 113 (plainElem Try.prog 22) mb n D) (ds := [11]) #[false, false, false, false, false, false, false, false, false, false, false, false] (by kernel_rfl) rfl rfl AHS.out (fun hHeld => ?_)
  refine with_tab miss3_tab (fun HT_ => ?_)
  have HMd := Aside0.mk (HM.out.same (grown_drew wu0 none))
  have HGd := Aside0.mk (grown_two HG.out (grown_drew wu0 none))
  clear HM HG
  have HM := HMd
  have HG := HGd
  clear HMd HGd
  generalize wu0.drew = wd at HM HG hHeld ⊢
  refine pure_ (i := 0) (N := some 20) (v := ?_) (a' := ?_) #[true, false, false, false, false, false, false, false, false, false, false, false] rfl rfl (any_of HT_.out (by kernel_rfl)) (fun _ _ _ h => h) (Or.inl ⟨by rfl, ?_⟩) ?_ ?_
  rotate_left
  · intro w'
    go_simp
    with_reducible rfl
  rotate_left
  · simp only [Act.put, List.setIfInBounds_toArray, List.set_cons_zero, List.set_cons_succ, i64_w, i32_w]
    rfl
  refine pure_ (i := 1) (N := some 21) (v := ?_) (a' := ?_) #[true, true, false, false, false, false, false, false, false, false, false, false] rfl rfl (any_of HT_.out (by kernel_rfl)) (fun _ _ _ h => h) (Or.inl ⟨by rfl, ?_⟩) ?_ ?_
  rotate_left
  · intro w'
    go_simp
    with_reducible rfl
  rotate_left
  · simp only [Act.put, List.setIfInBounds_toArray, List.set_cons_zero, List.set_cons_succ, i64_w, i32_w]
    rfl
  refine pure_ (i := 2) (N := some 22) (v := ?_) (a' := ?_) #[true, true, true, false, false, false, false, false, false, false, false, false] rfl rfl (any_of HT_.out (by kernel_rfl)) (fun _ _ _ h => h) (Or.inl ⟨by rfl, ?_⟩) ?_ ?_
  rotate_left
  · intro w'
    go_simp
    with_reducible rfl
  rotate_left
  · simp only [Act.put, List.setIfInBounds_toArray, List.set_cons_zero, List.set_cons_succ, i64_w, i32_w]
    rfl
  refine take_ (i := 3) (N := some 23) (v := ?_) (a' := ?_) #[true, true, true, true, false, false, false, false, false, false, false, false] rfl rfl (take_of HT_.out (by kernel_rfl)) (fun _ _ _ h => h) (Or.inl ⟨by rfl, ?_⟩) hHeld ?_ ?_
  rotate_left
  · rintro w' ⟨s0, s1⟩
    go_simp
    with_reducible rfl
  rotate_left
  · simp only [Act.put, List.setIfInBounds_toArray, List.set_cons_zero, List.set_cons_succ, i64_w, i32_w]
    rfl
  refine pure_ (i := 4) (N := some 24) (v := ?_) (a' := ?_) #[true, true, true, true, true, false, false, false, false, false, false, false] rfl rfl (any_of HT_.out (by kernel_rfl)) (fun _ _ _ h => h) (Or.inl ⟨by rfl, ?_⟩) ?_ ?_
  rotate_left
  · intro w'
    go_simp
    with_reducible rfl
  rotate_left
  · simp only [Act.put, List.setIfInBounds_toArray, List.set_cons_zero, List.set_cons_succ, i64_w, i32_w]
    rfl
  refine pure_ (i := 7) (N := some 27) (v := ?_) (a' := ?_) #[true, true, true, true, true, false, false, true, false, false, false, false] rfl rfl (any_of HT_.out (by kernel_rfl)) (fun _ _ _ h => h) (Or.inl ⟨by rfl, ?_⟩) ?_ ?_
  rotate_left
  · intro w'
    go_simp
    with_reducible rfl
  rotate_left
  · simp only [Act.put, List.setIfInBounds_toArray, List.set_cons_zero, List.set_cons_succ, i64_w, i32_w]
    rfl
  refine pure_ (i := 8) (N := some 28) (v := ?_) (a' := ?_) #[true, true, true, true, true, false, false, true, true, false, false, false] rfl rfl (any_of HT_.out (by kernel_rfl)) (fun _ _ _ h => h) (Or.inl ⟨by rfl, ?_⟩) ?_ ?_
  rotate_left
  · intro w'
    go_simp
    with_reducible rfl
  rotate_left
  · simp only [Act.put, List.setIfInBounds_toArray, List.set_cons_zero, List.set_cons_succ, i64_w, i32_w]
    rfl
  refine pure_ (i := 9) (N := some 29) (v := ?_) (a' := ?_) #[true, true, true, true, true, false, false, true, true, true, false, false] rfl rfl (any_of HT_.out (by kernel_rfl)) (fun _ _ _ h => h) (Or.inl ⟨by rfl, ?_⟩) ?_ ?_
  rotate_left
  · intro w'
    go_simp
    with_reducible rfl
  rotate_left
  · simp only [Act.put, List.setIfInBounds_toArray, List.set_cons_zero, List.set_cons_succ, i64_w, i32_w]
    rfl
  refine one_ (i := 5) (N := some 25) #[true, true, true, true, true, true, false, true, true, true, false, false] rfl rfl (one_of HT_.out (by kernel_rfl)) (by decide) (fun K hK => ?_)
  refine goes_ Try.func102 (by kernel_rfl) rfl #[.int .i64 u] (by rfl) rfl rfl (by (try simp only [List.map_toArray, List.map_cons, List.map_nil]); first | done | rfl) ?_
  refine (regs_space.calls u sp _ HSP.out).mono ?_
  rintro e x1 ⟨rfl, hd⟩
  have HMx := Aside0.mk (HM.out.same (drawn_grown hd))
  have HGx := Aside0.mk (grown_two HG.out (drawn_grown hd))
  clear HM HG hd
  have HM := HMx
  have HG := HGx
  clear HMx HGx
  refine ⟨_, rfl, ?_⟩
  refine hK.out _ _ ⟨HM.out.cell, HM.out.own⟩ (fun hHeld => ?_)
  clear hK K
  refine norm_ (a' := ?_) ?_ ?_
  rotate_left
  · show Act.put _ (some 25) _ = _
    simp only [Act.put, List.setIfInBounds_toArray, List.set_cons_zero, List.set_cons_succ, i64_w, i32_w]
    rfl
  refine pure_ (i := 6) (N := some 26) (v := ?_) (a' := ?_) #[true, true, true, true, true, true, true, true, true, true, false, false] rfl rfl (any_of HT_.out (by kernel_rfl)) (fun _ _ _ h => h) (Or.inl ⟨by rfl, ?_⟩) ?_ ?_
  rotate_left
  · intro w'
    go_simp
    with_reducible rfl
  rotate_left
  · simp only [Act.put, List.setIfInBounds_toArray, List.set_cons_zero, List.set_cons_succ, i64_w, i32_w]
    rfl
  refine one_ (i := 10) (N := some 30) #[true, true, true, true, true, true, true, true, true, true, true, false] rfl rfl (one_of HT_.out (by kernel_rfl)) (by decide) (fun K hK => ?_)
  refine goes_ Try.func99 (by kernel_rfl) rfl #[.int .u64 va, .int .i64 0, .int .i64 13, .int .u64 ctx] (by rfl) rfl rfl (by (try simp only [List.map_toArray, List.map_cons, List.map_nil]); first | done | rfl) ?_
  refine (field_Put.calls va 0 13 ctx r _ HR.out).mono ?_
  rintro e x2 ⟨rfl, hd⟩
  have HMx := Aside0.mk (HM.out.same (drawn_grown hd))
  have HGx := Aside0.mk (grown_two HG.out (drawn_grown hd))
  clear HM HG hd
  have HM := HMx
  have HG := HGx
  clear HMx HGx
  refine ⟨_, rfl, ?_⟩
  refine hK.out _ _ ⟨HM.out.cell, HM.out.own⟩ (fun hHeld => ?_)
  clear hK K
  refine norm_ (a' := ?_) ?_ ?_
  rotate_left
  · show Act.put _ (some 30) _ = _
    simp only [Act.put, List.setIfInBounds_toArray, List.set_cons_zero, List.set_cons_succ, i64_w, i32_w]
    rfl
  refine last_ (i := 11) (N := none) #[true, true, true, true, true, true, true, true, true, true, true, true] rfl rfl (one_of HT_.out (by kernel_rfl)) (by decide) (fun K hK => ?_)
  obtain ⟨wu, hrun, hown, hg⟩ := hHeld.2.update lawK Try.underlying124 (by unfold maxLen; omega) (keyAt sp 48 wsp (by decide)) (plainElem_int Try.underlying22 (wr))
  have HMu := Aside0.mk (HM.out.step hg hown)
  have HGu := Aside0.mk (grown_two (grown_but HG.out _) hg)
  refine skip_ (w1 := wu) (by rfl) rfl ?_ ?_
  · go_simp
    first | done | (rw [hrun]; first | done | rfl)
  refine hK.out _ _ ?_
  clear hK K
  clear hg hown hrun
  refine done_ (done_of HT_.out (by kernel_rfl)) ?_
  go_wp2
  go_ret
  exact ⟨rfl, HMu.out, HGu.out⟩
theorem miss_unit {B w0 p mb n D W} (h : Regs B w0 p mb n D W) (u : Int) (hu : regs_isUnit.f u = some false) (va ctx : Int) :
    Calls Try.prog 79 #[.pointer (some ⟨p, 0, none⟩), .int .i64 u, .int .u64 va, .int .i64 ctx] W fun e W' => e = .returned (.int .i64 1) ∧ W.grownBy W' none := by
  have HM0 := Aside0.mk h
  have HU := Aside0.mk hu
  clear h hu
  go_enter Try.func79, Try.ntmps79
  go_wp2_with (first | (go_at_call 101; refine (regs_isUnit.calls u _ _ HU.out).mono ?_; rintro e wu0 ⟨rfl, hd⟩; have HM := Aside0.mk (HM0.out.same (drawn_grown hd)); have HG := Aside0.mk (drawn_grown hd); clear HM0 hd) | go_in)
  go_ret
  exact ⟨rfl, HG.out⟩
theorem miss_low {B w0 p mb n D W} (h : Regs B w0 p mb n D W) (u : Int) (hu : regs_isUnit.f u = some true) (va ctx : Int) (h0 : ctx < 0) :
    Calls Try.prog 79 #[.pointer (some ⟨p, 0, none⟩), .int .i64 u, .int .u64 va, .int .i64 ctx] W fun e W' => e = .returned (.int .i64 1) ∧ W.grownBy W' none := by
  have HM0 := Aside0.mk h
  have HU := Aside0.mk hu
  clear h hu
  go_enter Try.func79, Try.ntmps79
  go_wp2_with (first | (go_at_call 101; refine (regs_isUnit.calls u _ _ HU.out).mono ?_; rintro e wu0 ⟨rfl, hd⟩; have HM := Aside0.mk (HM0.out.same (drawn_grown hd)); have HG := Aside0.mk (drawn_grown hd); clear HM0 hd) | go_in)
  go_ret
  exact ⟨rfl, HG.out⟩
theorem miss_high {B w0 p mb n D W} (h : Regs B w0 p mb n D W) (u : Int) (hu : regs_isUnit.f u = some true) (va ctx : Int) (h0 : 0 ≤ ctx) (h1 : 8191 < ctx) :
    Calls Try.prog 79 #[.pointer (some ⟨p, 0, none⟩), .int .i64 u, .int .u64 va, .int .i64 ctx] W fun e W' => e = .returned (.int .i64 1) ∧ W.grownBy W' none := by
  have HM0 := Aside0.mk h
  have HU := Aside0.mk hu
  clear h hu
  go_enter Try.func79, Try.ntmps79
  go_wp2_with (first | (go_at_call 101; refine (regs_isUnit.calls u _ _ HU.out).mono ?_; rintro e wu0 ⟨rfl, hd⟩; have HM := Aside0.mk (HM0.out.same (drawn_grown hd)); have HG := Aside0.mk (drawn_grown hd); clear HM0 hd) | go_in)
  go_ret
  exact ⟨rfl, HG.out⟩
noncomputable def fault4_T : Bool × List (List Nat × List Nat) := rtab .any (opsOf Try.f80 4)
theorem fault4_tab : rtab .any (opsOf Try.f80 4) = fault4_T := rfl
noncomputable def fault8_T : Bool × List (List Nat × List Nat) := rtab .any (opsOf Try.f80 8)
theorem fault8_tab : rtab .any (opsOf Try.f80 8) = fault8_T := rfl
theorem fault_i {B w0 p mb n D W} (h : Regs B w0 p mb n D W) (kind asi : Int) (store priv : Bool) (va : Int) (wva : (Lit.int .u64 va).wf = true) (h0 : 0 ≤ kind) (h1 : kind < 128) (h2 : 0 ≤ asi) (h3 : asi < 256) (b0 : Bool) (s1 s2 s3 s4 s5 : Int) (e0 : field_Bit.f (rdk D 80 24) 0 = some b0) (e1 : field_Set.f 1 1 b0 = some s1) (e2 : field_Set.f s1 2 store = some s2) (e3 : field_Set.f s2 3 priv = some s3) (e4 : field_Put.f s3 7 7 kind = some s4) (e5 : field_Put.f s4 16 8 asi = some s5) (w5 : (Lit.int .u64 s5).wf = true) (hn : n < 900000) :
    Calls Try.prog 80 #[.pointer (some ⟨p, 0, none⟩), .int .i64 0, .int .i64 kind, .int .i64 asi, .bool store, .bool priv, .int .u64 va] W fun e W' => e = .returned (.int .i64 0) ∧ Regs B w0 p mb (n + 2) (pk D 80 24 s5) W' ∧ W.grownBy W' (some mb) := by
  have HM0 := Aside0.mk h
  have HU := Aside0.mk (show regs_isUnit.f 0 = some true from rfl)
  have HSP := Aside0.mk (show regs_space.f 0 = some 80 from rfl)
  have E0 := Aside0.mk e0
  have E1 := Aside0.mk e1
  have E2 := Aside0.mk e2
  have E3 := Aside0.mk e3
  have E4 := Aside0.mk e4
  have E5 := Aside0.mk e5
  have hcw : IntKind.u64.wrap asi = asi := by rw [IntKind.wrap_u64]; omega
  clear h e0 e1 e2 e3 e4 e5
  have hu := Try.underlying113
  go_enter Try.func80, Try.ntmps80
  go_wp2_with (first | (go_at_call 101; refine (regs_isUnit.calls 0 _ _ HU.out).mono ?_; rintro e wu0 ⟨rfl, hd⟩; have HM := Aside0.mk (HM0.out.same (drawn_grown hd)); have HG := Aside0.mk (drawn_grown hd); clear HM0 hd) | (go_at_call 102; refine (regs_space.calls 0 80 _ HSP.out).mono ?_; rintro e ws ⟨rfl, hd⟩; have HMx := Aside0.mk (HM.out.same (drawn_grown hd)); have HGx := Aside0.mk (grown_two HG.out (drawn_grown hd)); clear HM HG hd; have HM := HMx; have HG := HGx; clear HMx HGx) | ((with_reducible refine gate_dst (N := 15) rfl ?_); refine box_event ?hg (N := 15) ?hd (cs := #[.int .i64 0, .int .u64 0]) (t := 113) ?hr ?_; (case hd => rfl); (case hg => rfl); (case hr => first | (go_simp; done) | (go_simp; rfl)); intro gk hgb w1 hbox hb; have HK := Aside0.mk hbox; have GHK := Aside0.mk (below_grown hb); have LHK := Aside0.mk (Nat.le_of_eq hgb.symm); clear hgb hbox hb) | ((with_reducible refine gate_store (t := 113) (p := 15) rfl ?_); refine wpList_store_row rfl 113 (.tmp 15) (.tmp 38) rfl gk #[.int .i64 80, .int .u64 24] rfl rfl 113 _ HK.out (by kernel_rfl) rfl (by kernel_rfl) ?_; have SHK := Aside0.mk (setRow_heap _ gk _ #[.int .i64 80, .int .u64 24] _ _ HK.out); have THK := Aside0.mk (grown_row w1 gk #[.int .i64 80, .int .u64 24]); have HKN := Aside0.mk (show gk ≠ mb ∧ gk ≠ p ∧ B ≤ gk from ⟨Nat.ne_of_gt (Nat.lt_of_lt_of_le HM.out.own.lt LHK.out), Nat.ne_of_gt (Nat.lt_of_lt_of_le HM.out.lt LHK.out), Nat.le_trans HM.out.hB LHK.out⟩); have HMk := Aside0.mk ((HM.out.same GHK.out).kept THK.out (fun e => HKN.out.1 (Option.some.inj e).symm) (fun e => HKN.out.2.1 (Option.some.inj e).symm) (fun j e => by cases e; exact HKN.out.2.2)); have HGk := Aside0.mk (grown_two HG.out (grown_new GHK.out THK.out LHK.out)); have HKK := Aside0.mk SHK.out; clear HM HG HK GHK THK SHK; have HM := HMk; have HG := HGk; clear HMk HGk) | go_in)
  have HMd := Aside0.mk (HM.out.same (grown_drew (w1.setRow gk #[.int .i64 80, .int .u64 24]) none))
  have HGd := Aside0.mk (grown_two HG.out (grown_drew (w1.setRow gk #[.int .i64 80, .int .u64 24]) none))
  have HKd := Aside0.mk (show ((w1.setRow gk #[.int .i64 80, .int .u64 24])).drew.heap[gk]? = some _ from HKK.out)
  clear HM HG HKK
  have HM := HMd
  have HG := HGd
  have HKK := HKd
  clear HMd HGd HKd
  refine start_ (n := 9) (S := fun w' => w'.cell? ⟨p, 0, none⟩ = some (.map (some mb)) ∧ w'.cell? ⟨gk, 0, none⟩ = some (.int .i64 80) ∧ w'.cell? ⟨gk, 1, none⟩ = some (.int .u64 24) ∧ w'.ownsMap Try.prog 113 (plainElem Try.prog 22) mb n D) (ds := []) #[false, false, false, false, false, false, false, false, false] (by kernel_rfl) rfl rfl ⟨HM.out.cell, (cz2 HKK.out).1, (cz2 HKK.out).2, HM.out.own⟩ (fun hHeld => ?_)
  refine with_tab fault4_tab (fun HT_ => ?_)
  generalize (w1.setRow gk #[.int .i64 80, .int .u64 24]).drew = wd at HM HG HKK hHeld ⊢
  refine pure_ (i := 0) (N := some 39) (v := ?_) (a' := ?_) #[true, false, false, false, false, false, false, false, false] rfl rfl (any_of HT_.out (by kernel_rfl)) (fun _ _ _ h => h) (Or.inl ⟨by rfl, ?_⟩) ?_ ?_
  rotate_left
  · intro w'
    go_simp
    with_reducible rfl
  rotate_left
  · simp only [Act.put, List.setIfInBounds_toArray, List.set_cons_zero, List.set_cons_succ, i64_w, i32_w]
    rfl
  refine pure_ (i := 1) (N := some 40) (v := ?_) (a' := ?_) #[true, true, false, false, false, false, false, false, false] rfl rfl (any_of HT_.out (by kernel_rfl)) (fun _ _ _ h => h) (Or.inl ⟨by rfl, ?_⟩) ?_ ?_
  rotate_left
  · intro w'
    go_simp
    with_reducible rfl
  rotate_left
  · simp only [Act.put, List.setIfInBounds_toArray, List.set_cons_zero, List.set_cons_succ, i64_w, i32_w]
    rfl
  refine pure_ (i := 2) (N := some 41) (v := ?_) (a' := ?_) #[true, true, true, false, false, false, false, false, false] rfl rfl (any_of HT_.out (by kernel_rfl)) (fun _ _ _ h => h) (Or.inl ⟨by rfl, ?_⟩) ?_ ?_
  rotate_left
  · intro w'
    go_simp
    with_reducible rfl
  rotate_left
  · simp only [Act.put, List.setIfInBounds_toArray, List.set_cons_zero, List.set_cons_succ, i64_w, i32_w]
    rfl
  refine take_ (i := 3) (N := some 42) (v := ?_) (a' := ?_) #[true, true, true, true, false, false, false, false, false] rfl rfl (take_of HT_.out (by kernel_rfl)) (fun _ _ _ h => h) (Or.inl ⟨by rfl, ?_⟩) hHeld ?_ ?_
  rotate_left
  · rintro w' ⟨s0, s1_, s2_, s3_⟩
    go_simp
    with_reducible rfl
  rotate_left
  · simp only [Act.put, List.setIfInBounds_toArray, List.set_cons_zero, List.set_cons_succ, i64_w, i32_w]
    rfl
  refine take_ (i := 4) (N := some 43) (v := ?_) (a' := ?_) #[true, true, true, true, true, false, false, false, false] rfl rfl (take_of HT_.out (by kernel_rfl)) (fun _ _ _ h => h) (Or.inl ⟨by rfl, ?_⟩) hHeld ?_ ?_
  rotate_left
  · rintro w' ⟨s0, s1_, s2_, s3_⟩
    go_simp
    with_reducible rfl
  rotate_left
  · simp only [Act.put, List.setIfInBounds_toArray, List.set_cons_zero, List.set_cons_succ, i64_w, i32_w]
    rfl
  refine take_ (i := 5) (N := some 44) (v := .int .u64 (rdk D 80 24)) (a' := ?_) #[true, true, true, true, true, true, false, false, false] rfl rfl (take_of HT_.out (by kernel_rfl)) (fun _ _ _ h => h) (Or.inl ⟨by rfl, ?_⟩) hHeld ?_ ?_
  · rintro w' ⟨s0, s1_, s2_, s3_⟩
    obtain ⟨c, hrun, hat, _⟩ := s3_.lookup_int lawK Try.underlying124 Try.underlying22 (zeroU _) (keyAt (80) (24) (by decide) (by decide))
    rw [rdk_of hat] at hrun
    go_simp
    first | done | (rw [hrun])
  rotate_left
  · simp only [Act.put, List.setIfInBounds_toArray, List.set_cons_zero, List.set_cons_succ, i64_w, i32_w]
    rfl
  refine one_ (i := 6) (N := some 45) #[true, true, true, true, true, true, true, false, false] rfl rfl (one_of HT_.out (by kernel_rfl)) (by decide) (fun K hK => ?_)
  refine goes_ Try.func104 (by kernel_rfl) rfl #[.int .u64 (rdk D 80 24), .int .i64 0] (by rfl) rfl rfl (by (try simp only [List.map_toArray, List.map_cons, List.map_nil]); first | done | rfl) ?_
  refine (field_Bit.calls _ 0 b0 _ E0.out).mono ?_
  rintro e y1 ⟨rfl, hd⟩
  have HMx := Aside0.mk (HM.out.same (drawn_grown hd))
  have HGx := Aside0.mk (grown_two HG.out (drawn_grown hd))
  have HKx := Aside0.mk (show y1.heap[gk]? = some _ from ((drawn_grown hd).block gk (blk_lt HKK.out) (by simp)).trans HKK.out)
  clear HM HG HKK hd
  have HM := HMx
  have HG := HGx
  have HKK := HKx
  clear HMx HGx HKx
  refine ⟨_, rfl, ?_⟩
  refine hK.out _ _ ⟨HM.out.cell, (cz2 HKK.out).1, (cz2 HKK.out).2, HM.out.own⟩ (fun hHeld => ?_)
  clear hK K
  refine norm_ (a' := ?_) ?_ ?_
  rotate_left
  · show Act.put _ (some 45) _ = _
    simp only [Act.put, List.setIfInBounds_toArray, List.set_cons_zero, List.set_cons_succ, i64_w, i32_w]
    rfl
  refine one_ (i := 7) (N := some 46) #[true, true, true, true, true, true, true, true, false] rfl rfl (one_of HT_.out (by kernel_rfl)) (by decide) (fun K hK => ?_)
  refine goes_ Try.func103 (by kernel_rfl) rfl #[.int .u64 1, .int .i64 1, .bool b0] (by rfl) rfl rfl (by (try simp only [List.map_toArray, List.map_cons, List.map_nil]); first | done | rfl) ?_
  refine (field_Set.calls 1 1 b0 s1 _ E1.out).mono ?_
  rintro e y2 ⟨rfl, hd⟩
  have HMx := Aside0.mk (HM.out.same (drawn_grown hd))
  have HGx := Aside0.mk (grown_two HG.out (drawn_grown hd))
  have HKx := Aside0.mk (show y2.heap[gk]? = some _ from ((drawn_grown hd).block gk (blk_lt HKK.out) (by simp)).trans HKK.out)
  clear HM HG HKK hd
  have HM := HMx
  have HG := HGx
  have HKK := HKx
  clear HMx HGx HKx
  refine ⟨_, rfl, ?_⟩
  refine hK.out _ _ ⟨HM.out.cell, (cz2 HKK.out).1, (cz2 HKK.out).2, HM.out.own⟩ (fun hHeld => ?_)
  clear hK K
  refine norm_ (a' := ?_) ?_ ?_
  rotate_left
  · show Act.put _ (some 46) _ = _
    simp only [Act.put, List.setIfInBounds_toArray, List.set_cons_zero, List.set_cons_succ, i64_w, i32_w]
    rfl
  refine pure_ (i := 8) (N := some 16) (v := ?_) (a' := ?_) #[true, true, true, true, true, true, true, true, true] rfl rfl (any_of HT_.out (by kernel_rfl)) (fun _ _ _ h => h) (Or.inl ⟨by rfl, ?_⟩) ?_ ?_
  rotate_left
  · intro w'
    go_simp
    with_reducible rfl
  rotate_left
  · simp only [Act.put, List.setIfInBounds_toArray, List.set_cons_zero, List.set_cons_succ, i64_w, i32_w]
    rfl
  refine done_ (done_of HT_.out (by kernel_rfl)) ?_
  go_wp2_with (first | (go_at_call 103; first | (refine (field_Set.calls s1 2 store s2 _ E2.out).mono ?_; rintro e y3 ⟨rfl, hd⟩; have HMx := Aside0.mk (HM.out.same (drawn_grown hd)); have HGx := Aside0.mk (grown_two HG.out (drawn_grown hd)); have HKx := Aside0.mk (show y3.heap[gk]? = some _ from ((drawn_grown hd).block gk (blk_lt HKK.out) (by simp)).trans HKK.out); clear HM HG HKK hd E2; have HM := HMx; have HG := HGx; have HKK := HKx; clear HMx HGx HKx) | (refine (field_Set.calls s2 3 priv s3 _ E3.out).mono ?_; rintro e y4 ⟨rfl, hd⟩; have HMx := Aside0.mk (HM.out.same (drawn_grown hd)); have HGx := Aside0.mk (grown_two HG.out (drawn_grown hd)); have HKx := Aside0.mk (show y4.heap[gk]? = some _ from ((drawn_grown hd).block gk (blk_lt HKK.out) (by simp)).trans HKK.out); clear HM HG HKK hd E3; have HM := HMx; have HG := HGx; have HKK := HKx; clear HMx HGx HKx)) | (go_at_call 99; refine (field_Put.calls s3 7 7 kind s4 _ E4.out).mono ?_; rintro e y5 ⟨rfl, hd⟩; have HMx := Aside0.mk (HM.out.same (drawn_grown hd)); have HGx := Aside0.mk (grown_two HG.out (drawn_grown hd)); have HKx := Aside0.mk (show y5.heap[gk]? = some _ from ((drawn_grown hd).block gk (blk_lt HKK.out) (by simp)).trans HKK.out); clear HM HG HKK hd E4; have HM := HMx; have HG := HGx; have HKK := HKx; clear HMx HGx HKx) | go_in)
  have HMd := Aside0.mk (HM.out.same (grown_drew y5 none))
  have HGd := Aside0.mk (grown_two HG.out (grown_drew y5 none))
  have HKd := Aside0.mk (show (y5).drew.heap[gk]? = some _ from HKK.out)
  clear HM HG HKK
  have HM := HMd
  have HG := HGd
  have HKK := HKd
  clear HMd HGd HKd
  refine start_ (n := 10) (S := fun w' => w'.cell? ⟨p, 0, none⟩ = some (.map (some mb)) ∧ w'.cell? ⟨gk, 0, none⟩ = some (.int .i64 80) ∧ w'.cell? ⟨gk, 1, none⟩ = some (.int .u64 24) ∧ w'.ownsMap Try.prog 113 (plainElem Try.prog 22) mb n D) (ds := [9]) #[false, false, false, false, false, false, false, false, false, false] (by kernel_rfl) rfl rfl ⟨HM.out.cell, (cz2 HKK.out).1, (cz2 HKK.out).2, HM.out.own⟩ (fun hHeld => ?_)
  refine with_tab fault8_tab (fun HT_ => ?_)
  generalize y5.drew = wd2 at HM HG HKK hHeld ⊢
  refine pure_ (i := 0) (N := some 57) (v := ?_) (a' := ?_) #[true, false, false, false, false, false, false, false, false, false] rfl rfl (any_of HT_.out (by kernel_rfl)) (fun _ _ _ h => h) (Or.inl ⟨by rfl, ?_⟩) ?_ ?_
  rotate_left
  · intro w'
    go_simp
    with_reducible rfl
  rotate_left
  · simp only [Act.put, List.setIfInBounds_toArray, List.set_cons_zero, List.set_cons_succ, i64_w, i32_w]
    rfl
  refine pure_ (i := 1) (N := some 58) (v := ?_) (a' := ?_) #[true, true, false, false, false, false, false, false, false, false] rfl rfl (any_of HT_.out (by kernel_rfl)) (fun _ _ _ h => h) (Or.inl ⟨by rfl, ?_⟩) ?_ ?_
  rotate_left
  · intro w'
    go_simp
    with_reducible rfl
  rotate_left
  · simp only [Act.put, List.setIfInBounds_toArray, List.set_cons_zero, List.set_cons_succ, i64_w, i32_w]
    rfl
  refine pure_ (i := 2) (N := some 59) (v := ?_) (a' := ?_) #[true, true, true, false, false, false, false, false, false, false] rfl rfl (any_of HT_.out (by kernel_rfl)) (fun _ _ _ h => h) (Or.inl ⟨by rfl, ?_⟩) ?_ ?_
  rotate_left
  · intro w'
    go_simp
    with_reducible rfl
  rotate_left
  · simp only [Act.put, List.setIfInBounds_toArray, List.set_cons_zero, List.set_cons_succ, i64_w, i32_w]
    rfl
  refine take_ (i := 3) (N := some 60) (v := ?_) (a' := ?_) #[true, true, true, true, false, false, false, false, false, false] rfl rfl (take_of HT_.out (by kernel_rfl)) (fun _ _ _ h => h) (Or.inl ⟨by rfl, ?_⟩) hHeld ?_ ?_
  rotate_left
  · rintro w' ⟨s0, s1_, s2_, s3_⟩
    go_simp
    with_reducible rfl
  rotate_left
  · simp only [Act.put, List.setIfInBounds_toArray, List.set_cons_zero, List.set_cons_succ, i64_w, i32_w]
    rfl
  refine take_ (i := 4) (N := some 61) (v := ?_) (a' := ?_) #[true, true, true, true, true, false, false, false, false, false] rfl rfl (take_of HT_.out (by kernel_rfl)) (fun _ _ _ h => h) (Or.inl ⟨by rfl, ?_⟩) hHeld ?_ ?_
  rotate_left
  · rintro w' ⟨s0, s1_, s2_, s3_⟩
    go_simp
    with_reducible rfl
  rotate_left
  · simp only [Act.put, List.setIfInBounds_toArray, List.set_cons_zero, List.set_cons_succ, i64_w, i32_w]
    rfl
  refine pure_ (i := 5) (N := some 62) (v := ?_) (a' := ?_) #[true, true, true, true, true, true, false, false, false, false] rfl rfl (any_of HT_.out (by kernel_rfl)) (fun _ _ _ h => h) (Or.inl ⟨by rfl, ?_⟩) ?_ ?_
  rotate_left
  · intro w'
    go_simp
    with_reducible rfl
  rotate_left
  · simp only [Act.put, List.setIfInBounds_toArray, List.set_cons_zero, List.set_cons_succ, i64_w, i32_w]
    rfl
  refine pure_ (i := 6) (N := some 63) (v := ?_) (a' := ?_) #[true, true, true, true, true, true, true, false, false, false] rfl rfl (any_of HT_.out (by kernel_rfl)) (fun _ _ _ h => h) (Or.inl ⟨by rfl, ?_⟩) ?_ ?_
  rotate_left
  · intro w'
    go_simp
    with_reducible rfl
  rotate_left
  · simp only [Act.put, List.setIfInBounds_toArray, List.set_cons_zero, List.set_cons_succ, i64_w, i32_w]
    rfl
  refine pure_ (i := 7) (N := some 64) (v := ?_) (a' := ?_) #[true, true, true, true, true, true, true, true, false, false] rfl rfl (any_of HT_.out (by kernel_rfl)) (fun _ _ _ h => h) (Or.inl ⟨by rfl, ?_⟩) ?_ ?_
  rotate_left
  · intro w'
    go_simp
    with_reducible rfl
  rotate_left
  · simp only [Act.put, List.setIfInBounds_toArray, List.set_cons_zero, List.set_cons_succ, i64_w, i32_w]
    rfl
  refine one_ (i := 8) (N := some 65) #[true, true, true, true, true, true, true, true, true, false] rfl rfl (one_of HT_.out (by kernel_rfl)) (by decide) (fun K hK => ?_)
  refine goes_ Try.func99 (by kernel_rfl) rfl #[.int .u64 s4, .int .i64 16, .int .i64 8, .int .u64 asi] (by rfl) rfl rfl (by (try simp only [List.map_toArray, List.map_cons, List.map_nil]); first | done | rfl) ?_
  refine (field_Put.calls s4 16 8 asi s5 _ E5.out).mono ?_
  rintro e y6 ⟨rfl, hd⟩
  have HMx := Aside0.mk (HM.out.same (drawn_grown hd))
  have HGx := Aside0.mk (grown_two HG.out (drawn_grown hd))
  have HKx := Aside0.mk (show y6.heap[gk]? = some _ from ((drawn_grown hd).block gk (blk_lt HKK.out) (by simp)).trans HKK.out)
  clear HM HG HKK hd
  have HM := HMx
  have HG := HGx
  have HKK := HKx
  clear HMx HGx HKx
  refine ⟨_, rfl, ?_⟩
  refine hK.out _ _ ⟨HM.out.cell, (cz2 HKK.out).1, (cz2 HKK.out).2, HM.out.own⟩ (fun hHeld => ?_)
  clear hK K
  refine norm_ (a' := ?_) ?_ ?_
  rotate_left
  · show Act.put _ (some 65) _ = _
    simp only [Act.put, List.setIfInBounds_toArray, List.set_cons_zero, List.set_cons_succ, i64_w, i32_w]
    rfl
  refine last_ (i := 9) (N := none) #[true, true, true, true, true, true, true, true, true, true] rfl rfl (one_of HT_.out (by kernel_rfl)) (by decide) (fun K hK => ?_)
  obtain ⟨wu, hrun, hown, hg⟩ := hHeld.2.2.2.update lawK Try.underlying124 (by unfold maxLen; omega) (keyAt 80 24 (by decide) (by decide)) (plainElem_int Try.underlying22 (w5))
  have HMu := Aside0.mk (HM.out.step hg hown)
  have HGu := Aside0.mk (grown_two (grown_but HG.out _) hg)
  refine skip_ (w1 := wu) (by rfl) rfl ?_ ?_
  · go_simp
    first | done | (rw [hrun]; first | done | rfl)
  refine hK.out _ _ ?_
  clear hK K
  clear hg hown hrun
  refine done_ (done_of HT_.out (by kernel_rfl)) ?_
  go_wp2
  go_ret
  exact ⟨rfl, ⟨HMu.out.below, HMu.out.hp, HMu.out.hm, HMu.out.hB, HMu.out.row, HMu.out.own.mono (Nat.le_succ _)⟩, HGu.out⟩
theorem fault_d {B w0 p mb n D W} (h : Regs B w0 p mb n D W) (kind asi : Int) (store priv : Bool) (va : Int) (wva : (Lit.int .u64 va).wf = true) (h0 : 0 ≤ kind) (h1 : kind < 128) (h2 : 0 ≤ asi) (h3 : asi < 256) (b0 : Bool) (s1 s2 s3 s4 s5 : Int) (e0 : field_Bit.f (rdk D 88 24) 0 = some b0) (e1 : field_Set.f 1 1 b0 = some s1) (e2 : field_Set.f s1 2 store = some s2) (e3 : field_Set.f s2 3 priv = some s3) (e4 : field_Put.f s3 7 7 kind = some s4) (e5 : field_Put.f s4 16 8 asi = some s5) (w5 : (Lit.int .u64 s5).wf = true) (hn : n < 900000) :
    Calls Try.prog 80 #[.pointer (some ⟨p, 0, none⟩), .int .i64 1, .int .i64 kind, .int .i64 asi, .bool store, .bool priv, .int .u64 va] W fun e W' => e = .returned (.int .i64 0) ∧ Regs B w0 p mb (n + 2) (pk (pk D 88 24 s5) 88 32 va) W' ∧ W.grownBy W' (some mb) := by
  have HM0 := Aside0.mk h
  have HU := Aside0.mk (show regs_isUnit.f 1 = some true from rfl)
  have HSP := Aside0.mk (show regs_space.f 1 = some 88 from rfl)
  have E0 := Aside0.mk e0
  have E1 := Aside0.mk e1
  have E2 := Aside0.mk e2
  have E3 := Aside0.mk e3
  have E4 := Aside0.mk e4
  have E5 := Aside0.mk e5
  have hcw : IntKind.u64.wrap asi = asi := by rw [IntKind.wrap_u64]; omega
  clear h e0 e1 e2 e3 e4 e5
  have hu := Try.underlying113
  go_enter Try.func80, Try.ntmps80
  go_wp2_with (first | (go_at_call 101; refine (regs_isUnit.calls 1 _ _ HU.out).mono ?_; rintro e wu0 ⟨rfl, hd⟩; have HM := Aside0.mk (HM0.out.same (drawn_grown hd)); have HG := Aside0.mk (drawn_grown hd); clear HM0 hd) | (go_at_call 102; refine (regs_space.calls 1 88 _ HSP.out).mono ?_; rintro e ws ⟨rfl, hd⟩; have HMx := Aside0.mk (HM.out.same (drawn_grown hd)); have HGx := Aside0.mk (grown_two HG.out (drawn_grown hd)); clear HM HG hd; have HM := HMx; have HG := HGx; clear HMx HGx) | ((with_reducible refine gate_dst (N := 15) rfl ?_); refine box_event ?hg (N := 15) ?hd (cs := #[.int .i64 0, .int .u64 0]) (t := 113) ?hr ?_; (case hd => rfl); (case hg => rfl); (case hr => first | (go_simp; done) | (go_simp; rfl)); intro gk hgb w1 hbox hb; have HK := Aside0.mk hbox; have GHK := Aside0.mk (below_grown hb); have LHK := Aside0.mk (Nat.le_of_eq hgb.symm); clear hgb hbox hb) | ((with_reducible refine gate_store (t := 113) (p := 15) rfl ?_); refine wpList_store_row rfl 113 (.tmp 15) (.tmp 38) rfl gk #[.int .i64 88, .int .u64 24] rfl rfl 113 _ HK.out (by kernel_rfl) rfl (by kernel_rfl) ?_; have SHK := Aside0.mk (setRow_heap _ gk _ #[.int .i64 88, .int .u64 24] _ _ HK.out); have THK := Aside0.mk (grown_row w1 gk #[.int .i64 88, .int .u64 24]); have HKN := Aside0.mk (show gk ≠ mb ∧ gk ≠ p ∧ B ≤ gk from ⟨Nat.ne_of_gt (Nat.lt_of_lt_of_le HM.out.own.lt LHK.out), Nat.ne_of_gt (Nat.lt_of_lt_of_le HM.out.lt LHK.out), Nat.le_trans HM.out.hB LHK.out⟩); have HMk := Aside0.mk ((HM.out.same GHK.out).kept THK.out (fun e => HKN.out.1 (Option.some.inj e).symm) (fun e => HKN.out.2.1 (Option.some.inj e).symm) (fun j e => by cases e; exact HKN.out.2.2)); have HGk := Aside0.mk (grown_two HG.out (grown_new GHK.out THK.out LHK.out)); have HKK := Aside0.mk SHK.out; clear HM HG HK GHK THK SHK; have HM := HMk; have HG := HGk; clear HMk HGk) | go_in)
  have HMd := Aside0.mk (HM.out.same (grown_drew (w1.setRow gk #[.int .i64 88, .int .u64 24]) none))
  have HGd := Aside0.mk (grown_two HG.out (grown_drew (w1.setRow gk #[.int .i64 88, .int .u64 24]) none))
  have HKd := Aside0.mk (show ((w1.setRow gk #[.int .i64 88, .int .u64 24])).drew.heap[gk]? = some _ from HKK.out)
  clear HM HG HKK
  have HM := HMd
  have HG := HGd
  have HKK := HKd
  clear HMd HGd HKd
  refine start_ (n := 9) (S := fun w' => w'.cell? ⟨p, 0, none⟩ = some (.map (some mb)) ∧ w'.cell? ⟨gk, 0, none⟩ = some (.int .i64 88) ∧ w'.cell? ⟨gk, 1, none⟩ = some (.int .u64 24) ∧ w'.ownsMap Try.prog 113 (plainElem Try.prog 22) mb n D) (ds := []) #[false, false, false, false, false, false, false, false, false] (by kernel_rfl) rfl rfl ⟨HM.out.cell, (cz2 HKK.out).1, (cz2 HKK.out).2, HM.out.own⟩ (fun hHeld => ?_)
  refine with_tab fault4_tab (fun HT_ => ?_)
  generalize (w1.setRow gk #[.int .i64 88, .int .u64 24]).drew = wd at HM HG HKK hHeld ⊢
  refine pure_ (i := 0) (N := some 39) (v := ?_) (a' := ?_) #[true, false, false, false, false, false, false, false, false] rfl rfl (any_of HT_.out (by kernel_rfl)) (fun _ _ _ h => h) (Or.inl ⟨by rfl, ?_⟩) ?_ ?_
  rotate_left
  · intro w'
    go_simp
    with_reducible rfl
  rotate_left
  · simp only [Act.put, List.setIfInBounds_toArray, List.set_cons_zero, List.set_cons_succ, i64_w, i32_w]
    rfl
  refine pure_ (i := 1) (N := some 40) (v := ?_) (a' := ?_) #[true, true, false, false, false, false, false, false, false] rfl rfl (any_of HT_.out (by kernel_rfl)) (fun _ _ _ h => h) (Or.inl ⟨by rfl, ?_⟩) ?_ ?_
  rotate_left
  · intro w'
    go_simp
    with_reducible rfl
  rotate_left
  · simp only [Act.put, List.setIfInBounds_toArray, List.set_cons_zero, List.set_cons_succ, i64_w, i32_w]
    rfl
  refine pure_ (i := 2) (N := some 41) (v := ?_) (a' := ?_) #[true, true, true, false, false, false, false, false, false] rfl rfl (any_of HT_.out (by kernel_rfl)) (fun _ _ _ h => h) (Or.inl ⟨by rfl, ?_⟩) ?_ ?_
  rotate_left
  · intro w'
    go_simp
    with_reducible rfl
  rotate_left
  · simp only [Act.put, List.setIfInBounds_toArray, List.set_cons_zero, List.set_cons_succ, i64_w, i32_w]
    rfl
  refine take_ (i := 3) (N := some 42) (v := ?_) (a' := ?_) #[true, true, true, true, false, false, false, false, false] rfl rfl (take_of HT_.out (by kernel_rfl)) (fun _ _ _ h => h) (Or.inl ⟨by rfl, ?_⟩) hHeld ?_ ?_
  rotate_left
  · rintro w' ⟨s0, s1_, s2_, s3_⟩
    go_simp
    with_reducible rfl
  rotate_left
  · simp only [Act.put, List.setIfInBounds_toArray, List.set_cons_zero, List.set_cons_succ, i64_w, i32_w]
    rfl
  refine take_ (i := 4) (N := some 43) (v := ?_) (a' := ?_) #[true, true, true, true, true, false, false, false, false] rfl rfl (take_of HT_.out (by kernel_rfl)) (fun _ _ _ h => h) (Or.inl ⟨by rfl, ?_⟩) hHeld ?_ ?_
  rotate_left
  · rintro w' ⟨s0, s1_, s2_, s3_⟩
    go_simp
    with_reducible rfl
  rotate_left
  · simp only [Act.put, List.setIfInBounds_toArray, List.set_cons_zero, List.set_cons_succ, i64_w, i32_w]
    rfl
  refine take_ (i := 5) (N := some 44) (v := .int .u64 (rdk D 88 24)) (a' := ?_) #[true, true, true, true, true, true, false, false, false] rfl rfl (take_of HT_.out (by kernel_rfl)) (fun _ _ _ h => h) (Or.inl ⟨by rfl, ?_⟩) hHeld ?_ ?_
  · rintro w' ⟨s0, s1_, s2_, s3_⟩
    obtain ⟨c, hrun, hat, _⟩ := s3_.lookup_int lawK Try.underlying124 Try.underlying22 (zeroU _) (keyAt (88) (24) (by decide) (by decide))
    rw [rdk_of hat] at hrun
    go_simp
    first | done | (rw [hrun])
  rotate_left
  · simp only [Act.put, List.setIfInBounds_toArray, List.set_cons_zero, List.set_cons_succ, i64_w, i32_w]
    rfl
  refine one_ (i := 6) (N := some 45) #[true, true, true, true, true, true, true, false, false] rfl rfl (one_of HT_.out (by kernel_rfl)) (by decide) (fun K hK => ?_)
  refine goes_ Try.func104 (by kernel_rfl) rfl #[.int .u64 (rdk D 88 24), .int .i64 0] (by rfl) rfl rfl (by (try simp only [List.map_toArray, List.map_cons, List.map_nil]); first | done | rfl) ?_
  refine (field_Bit.calls _ 0 b0 _ E0.out).mono ?_
  rintro e y1 ⟨rfl, hd⟩
  have HMx := Aside0.mk (HM.out.same (drawn_grown hd))
  have HGx := Aside0.mk (grown_two HG.out (drawn_grown hd))
  have HKx := Aside0.mk (show y1.heap[gk]? = some _ from ((drawn_grown hd).block gk (blk_lt HKK.out) (by simp)).trans HKK.out)
  clear HM HG HKK hd
  have HM := HMx
  have HG := HGx
  have HKK := HKx
  clear HMx HGx HKx
  refine ⟨_, rfl, ?_⟩
  refine hK.out _ _ ⟨HM.out.cell, (cz2 HKK.out).1, (cz2 HKK.out).2, HM.out.own⟩ (fun hHeld => ?_)
  clear hK K
  refine norm_ (a' := ?_) ?_ ?_
  rotate_left
  · show Act.put _ (some 45) _ = _
    simp only [Act.put, List.setIfInBounds_toArray, List.set_cons_zero, List.set_cons_succ, i64_w, i32_w]
    rfl
  refine one_ (i := 7) (N := some 46) #[true, true, true, true, true, true, true, true, false] rfl rfl (one_of HT_.out (by kernel_rfl)) (by decide) (fun K hK => ?_)
  refine goes_ Try.func103 (by kernel_rfl) rfl #[.int .u64 1, .int .i64 1, .bool b0] (by rfl) rfl rfl (by (try simp only [List.map_toArray, List.map_cons, List.map_nil]); first | done | rfl) ?_
  refine (field_Set.calls 1 1 b0 s1 _ E1.out).mono ?_
  rintro e y2 ⟨rfl, hd⟩
  have HMx := Aside0.mk (HM.out.same (drawn_grown hd))
  have HGx := Aside0.mk (grown_two HG.out (drawn_grown hd))
  have HKx := Aside0.mk (show y2.heap[gk]? = some _ from ((drawn_grown hd).block gk (blk_lt HKK.out) (by simp)).trans HKK.out)
  clear HM HG HKK hd
  have HM := HMx
  have HG := HGx
  have HKK := HKx
  clear HMx HGx HKx
  refine ⟨_, rfl, ?_⟩
  refine hK.out _ _ ⟨HM.out.cell, (cz2 HKK.out).1, (cz2 HKK.out).2, HM.out.own⟩ (fun hHeld => ?_)
  clear hK K
  refine norm_ (a' := ?_) ?_ ?_
  rotate_left
  · show Act.put _ (some 46) _ = _
    simp only [Act.put, List.setIfInBounds_toArray, List.set_cons_zero, List.set_cons_succ, i64_w, i32_w]
    rfl
  refine pure_ (i := 8) (N := some 16) (v := ?_) (a' := ?_) #[true, true, true, true, true, true, true, true, true] rfl rfl (any_of HT_.out (by kernel_rfl)) (fun _ _ _ h => h) (Or.inl ⟨by rfl, ?_⟩) ?_ ?_
  rotate_left
  · intro w'
    go_simp
    with_reducible rfl
  rotate_left
  · simp only [Act.put, List.setIfInBounds_toArray, List.set_cons_zero, List.set_cons_succ, i64_w, i32_w]
    rfl
  refine done_ (done_of HT_.out (by kernel_rfl)) ?_
  go_wp2_with (first | (go_at_call 103; first | (refine (field_Set.calls s1 2 store s2 _ E2.out).mono ?_; rintro e y3 ⟨rfl, hd⟩; have HMx := Aside0.mk (HM.out.same (drawn_grown hd)); have HGx := Aside0.mk (grown_two HG.out (drawn_grown hd)); have HKx := Aside0.mk (show y3.heap[gk]? = some _ from ((drawn_grown hd).block gk (blk_lt HKK.out) (by simp)).trans HKK.out); clear HM HG HKK hd E2; have HM := HMx; have HG := HGx; have HKK := HKx; clear HMx HGx HKx) | (refine (field_Set.calls s2 3 priv s3 _ E3.out).mono ?_; rintro e y4 ⟨rfl, hd⟩; have HMx := Aside0.mk (HM.out.same (drawn_grown hd)); have HGx := Aside0.mk (grown_two HG.out (drawn_grown hd)); have HKx := Aside0.mk (show y4.heap[gk]? = some _ from ((drawn_grown hd).block gk (blk_lt HKK.out) (by simp)).trans HKK.out); clear HM HG HKK hd E3; have HM := HMx; have HG := HGx; have HKK := HKx; clear HMx HGx HKx)) | (go_at_call 99; refine (field_Put.calls s3 7 7 kind s4 _ E4.out).mono ?_; rintro e y5 ⟨rfl, hd⟩; have HMx := Aside0.mk (HM.out.same (drawn_grown hd)); have HGx := Aside0.mk (grown_two HG.out (drawn_grown hd)); have HKx := Aside0.mk (show y5.heap[gk]? = some _ from ((drawn_grown hd).block gk (blk_lt HKK.out) (by simp)).trans HKK.out); clear HM HG HKK hd E4; have HM := HMx; have HG := HGx; have HKK := HKx; clear HMx HGx HKx) | go_in)
  have HMd := Aside0.mk (HM.out.same (grown_drew y5 none))
  have HGd := Aside0.mk (grown_two HG.out (grown_drew y5 none))
  have HKd := Aside0.mk (show (y5).drew.heap[gk]? = some _ from HKK.out)
  clear HM HG HKK
  have HM := HMd
  have HG := HGd
  have HKK := HKd
  clear HMd HGd HKd
  refine start_ (n := 10) (S := fun w' => w'.cell? ⟨p, 0, none⟩ = some (.map (some mb)) ∧ w'.cell? ⟨gk, 0, none⟩ = some (.int .i64 88) ∧ w'.cell? ⟨gk, 1, none⟩ = some (.int .u64 24) ∧ w'.ownsMap Try.prog 113 (plainElem Try.prog 22) mb n D) (ds := [9]) #[false, false, false, false, false, false, false, false, false, false] (by kernel_rfl) rfl rfl ⟨HM.out.cell, (cz2 HKK.out).1, (cz2 HKK.out).2, HM.out.own⟩ (fun hHeld => ?_)
  refine with_tab fault8_tab (fun HT_ => ?_)
  generalize y5.drew = wd2 at HM HG HKK hHeld ⊢
  refine pure_ (i := 0) (N := some 57) (v := ?_) (a' := ?_) #[true, false, false, false, false, false, false, false, false, false] rfl rfl (any_of HT_.out (by kernel_rfl)) (fun _ _ _ h => h) (Or.inl ⟨by rfl, ?_⟩) ?_ ?_
  rotate_left
  · intro w'
    go_simp
    with_reducible rfl
  rotate_left
  · simp only [Act.put, List.setIfInBounds_toArray, List.set_cons_zero, List.set_cons_succ, i64_w, i32_w]
    rfl
  refine pure_ (i := 1) (N := some 58) (v := ?_) (a' := ?_) #[true, true, false, false, false, false, false, false, false, false] rfl rfl (any_of HT_.out (by kernel_rfl)) (fun _ _ _ h => h) (Or.inl ⟨by rfl, ?_⟩) ?_ ?_
  rotate_left
  · intro w'
    go_simp
    with_reducible rfl
  rotate_left
  · simp only [Act.put, List.setIfInBounds_toArray, List.set_cons_zero, List.set_cons_succ, i64_w, i32_w]
    rfl
  refine pure_ (i := 2) (N := some 59) (v := ?_) (a' := ?_) #[true, true, true, false, false, false, false, false, false, false] rfl rfl (any_of HT_.out (by kernel_rfl)) (fun _ _ _ h => h) (Or.inl ⟨by rfl, ?_⟩) ?_ ?_
  rotate_left
  · intro w'
    go_simp
    with_reducible rfl
  rotate_left
  · simp only [Act.put, List.setIfInBounds_toArray, List.set_cons_zero, List.set_cons_succ, i64_w, i32_w]
    rfl
  refine take_ (i := 3) (N := some 60) (v := ?_) (a' := ?_) #[true, true, true, true, false, false, false, false, false, false] rfl rfl (take_of HT_.out (by kernel_rfl)) (fun _ _ _ h => h) (Or.inl ⟨by rfl, ?_⟩) hHeld ?_ ?_
  rotate_left
  · rintro w' ⟨s0, s1_, s2_, s3_⟩
    go_simp
    with_reducible rfl
  rotate_left
  · simp only [Act.put, List.setIfInBounds_toArray, List.set_cons_zero, List.set_cons_succ, i64_w, i32_w]
    rfl
  refine take_ (i := 4) (N := some 61) (v := ?_) (a' := ?_) #[true, true, true, true, true, false, false, false, false, false] rfl rfl (take_of HT_.out (by kernel_rfl)) (fun _ _ _ h => h) (Or.inl ⟨by rfl, ?_⟩) hHeld ?_ ?_
  rotate_left
  · rintro w' ⟨s0, s1_, s2_, s3_⟩
    go_simp
    with_reducible rfl
  rotate_left
  · simp only [Act.put, List.setIfInBounds_toArray, List.set_cons_zero, List.set_cons_succ, i64_w, i32_w]
    rfl
  refine pure_ (i := 5) (N := some 62) (v := ?_) (a' := ?_) #[true, true, true, true, true, true, false, false, false, false] rfl rfl (any_of HT_.out (by kernel_rfl)) (fun _ _ _ h => h) (Or.inl ⟨by rfl, ?_⟩) ?_ ?_
  rotate_left
  · intro w'
    go_simp
    with_reducible rfl
  rotate_left
  · simp only [Act.put, List.setIfInBounds_toArray, List.set_cons_zero, List.set_cons_succ, i64_w, i32_w]
    rfl
  refine pure_ (i := 6) (N := some 63) (v := ?_) (a' := ?_) #[true, true, true, true, true, true, true, false, false, false] rfl rfl (any_of HT_.out (by kernel_rfl)) (fun _ _ _ h => h) (Or.inl ⟨by rfl, ?_⟩) ?_ ?_
  rotate_left
  · intro w'
    go_simp
    with_reducible rfl
  rotate_left
  · simp only [Act.put, List.setIfInBounds_toArray, List.set_cons_zero, List.set_cons_succ, i64_w, i32_w]
    rfl
  refine pure_ (i := 7) (N := some 64) (v := ?_) (a' := ?_) #[true, true, true, true, true, true, true, true, false, false] rfl rfl (any_of HT_.out (by kernel_rfl)) (fun _ _ _ h => h) (Or.inl ⟨by rfl, ?_⟩) ?_ ?_
  rotate_left
  · intro w'
    go_simp
    with_reducible rfl
  rotate_left
  · simp only [Act.put, List.setIfInBounds_toArray, List.set_cons_zero, List.set_cons_succ, i64_w, i32_w]
    rfl
  refine one_ (i := 8) (N := some 65) #[true, true, true, true, true, true, true, true, true, false] rfl rfl (one_of HT_.out (by kernel_rfl)) (by decide) (fun K hK => ?_)
  refine goes_ Try.func99 (by kernel_rfl) rfl #[.int .u64 s4, .int .i64 16, .int .i64 8, .int .u64 asi] (by rfl) rfl rfl (by (try simp only [List.map_toArray, List.map_cons, List.map_nil]); first | done | rfl) ?_
  refine (field_Put.calls s4 16 8 asi s5 _ E5.out).mono ?_
  rintro e y6 ⟨rfl, hd⟩
  have HMx := Aside0.mk (HM.out.same (drawn_grown hd))
  have HGx := Aside0.mk (grown_two HG.out (drawn_grown hd))
  have HKx := Aside0.mk (show y6.heap[gk]? = some _ from ((drawn_grown hd).block gk (blk_lt HKK.out) (by simp)).trans HKK.out)
  clear HM HG HKK hd
  have HM := HMx
  have HG := HGx
  have HKK := HKx
  clear HMx HGx HKx
  refine ⟨_, rfl, ?_⟩
  refine hK.out _ _ ⟨HM.out.cell, (cz2 HKK.out).1, (cz2 HKK.out).2, HM.out.own⟩ (fun hHeld => ?_)
  clear hK K
  refine norm_ (a' := ?_) ?_ ?_
  rotate_left
  · show Act.put _ (some 65) _ = _
    simp only [Act.put, List.setIfInBounds_toArray, List.set_cons_zero, List.set_cons_succ, i64_w, i32_w]
    rfl
  refine last_ (i := 9) (N := none) #[true, true, true, true, true, true, true, true, true, true] rfl rfl (one_of HT_.out (by kernel_rfl)) (by decide) (fun K hK => ?_)
  obtain ⟨wu, hrun, hown, hg⟩ := hHeld.2.2.2.update lawK Try.underlying124 (by unfold maxLen; omega) (keyAt 88 24 (by decide) (by decide)) (plainElem_int Try.underlying22 (w5))
  have HMu := Aside0.mk (HM.out.step hg hown)
  have HGu := Aside0.mk (grown_two (grown_but HG.out _) hg)
  refine skip_ (w1 := wu) (by rfl) rfl ?_ ?_
  · go_simp
    first | done | (rw [hrun]; first | done | rfl)
  refine hK.out _ _ ?_
  clear hK K
  clear hg hown hrun
  refine done_ (done_of HT_.out (by kernel_rfl)) ?_
  have cu := HMu.out.cell
  go_wp2_with (first | (at_mapUpdate; refine wpList_mapUpdate_own _ rfl _ _ _ 124 rfl 113 22 lawK Try.underlying124 _ mb (n + 1) _ rfl HMu.out.own (by unfold maxLen; omega) _ _ _ rfl rfl (keyAt 88 32 (by decide) (by decide)) _ [] (plainElem_int Try.underlying22 wva) ?_; intro w9 hown9 hg9; have HMv := Aside0.mk (HMu.out.step hg9 hown9); have HGv := Aside0.mk (grown_two HGu.out hg9); clear hown9 hg9 HMu HGu cu) | go_in)
  go_ret
  exact ⟨rfl, HMv.out, HGv.out⟩
end
end Go.Proofs.Ythclbckkfgmbaaa.QRegsPlays
namespace Go.Proofs.Ythclbckkfgmbaaa.QRegsPlays
open Go.RowKit Go.Maps Go.Proofs.YthclbckkfgmbaaaW.PrintWords Go.Proofs.YthclbckkfgmbaaaW.PrintLast Go.Proofs.YthclbckkfgmbaaaW.PrintMore
set_option linter.unusedSimpArgs false
set_option linter.unusedVariables false
section
set_option maxHeartbeats 1000000
set_option maxRecDepth 100000
def b2i (b : Bool) : Int := if b then 1 else 0
/-- A fault's status. -/
def stw (b0 store priv : Bool) (kind asi : Int) : Int := 1 + 2 * b2i b0 + 4 * b2i store + 8 * b2i priv + 128 * kind + 65536 * asi
theorem b2n_i (b : Bool) : ((b2n b : Nat) : Int) = b2i b := by cases b <;> rfl
theorem bit0 {x : Int} (h : (Lit.int .u64 x).wf = true) : field_Bit.f x 0 = some (x % 2 == 1) := by
  obtain ⟨h0, h1⟩ := m_u64 h
  obtain ⟨X, rfl⟩ := Int.eq_ofNat_of_zero_le h0
  have := fGet X (by omega) 0 1 (by omega) (by omega)
  rw [show ((0 : Nat) : Int) = 0 from rfl, show ((1 : Nat) : Int) = 1 from rfl] at this
  unfold field_Bit.f
  rw [this, Option.bind_some]
  refine congrArg some ?_
  rw [Bool.eq_iff_iff, beq_iff_eq, beq_iff_eq]
  simp only [Nat.pow_zero, Nat.div_one, Nat.pow_one]
  omega
theorem stw_wf {b0 store priv : Bool} {kind asi : Int} (h0 : 0 ≤ kind) (h1 : kind < 128) (h2 : 0 ≤ asi) (h3 : asi < 256) : (Lit.int .u64 (stw b0 store priv kind asi)).wf = true := by
  refine WalkArith.wf_u64 ?_
  unfold stw b2i
  cases b0 <;> cases store <;> cases priv <;> simp <;> omega
theorem word_chain (b0 store priv : Bool) {kind asi : Int} (h0 : 0 ≤ kind) (h1 : kind < 128) (h2 : 0 ≤ asi) (h3 : asi < 256) :
    ∃ s1 s2 s3 s4, field_Set.f 1 1 b0 = some s1 ∧ field_Set.f s1 2 store = some s2 ∧ field_Set.f s2 3 priv = some s3 ∧ field_Put.f s3 7 7 kind = some s4 ∧ field_Put.f s4 16 8 asi = some (stw b0 store priv kind asi) := by
  obtain ⟨k, rfl⟩ := Int.eq_ofNat_of_zero_le h0
  obtain ⟨a, rfl⟩ := Int.eq_ofNat_of_zero_le h2
  have l0 := b2n_lt b0
  have l1 := b2n_lt store
  have l2 := b2n_lt priv
  have e1 := fSet 1 (by omega) 1 (by omega) b0
  rw [put_add 1 1 1 (b2n b0) 2 2 rfl rfl (by omega) l0] at e1
  have e2 := fSet (1 + b2n b0 * 2) (by omega) 2 (by omega) store
  rw [put_add _ 2 1 (b2n store) 4 2 rfl rfl (by omega) l1] at e2
  have e3 := fSet (1 + b2n b0 * 2 + b2n store * 4) (by omega) 3 (by omega) priv
  rw [put_add _ 3 1 (b2n priv) 8 2 rfl rfl (by omega) l2] at e3
  have e4 := fPut (1 + b2n b0 * 2 + b2n store * 4 + b2n priv * 8) k (by omega) 7 7 (by omega) (by omega)
  rw [put_add _ 7 7 k 128 128 rfl rfl (by omega) (by omega)] at e4
  have e5 := fPut (1 + b2n b0 * 2 + b2n store * 4 + b2n priv * 8 + k * 128) a (by omega) 16 8 (by omega) (by omega)
  rw [put_add _ 16 8 a 65536 256 rfl rfl (by omega) (by omega)] at e5
  refine ⟨_, _, _, _, e1, e2, e3, e4, e5.trans (congrArg some ?_)⟩
  unfold stw
  rw [← b2n_i, ← b2n_i, ← b2n_i]
  omega
theorem fault_i_ok {B w0 p mb n D W} (h : Regs B w0 p mb n D W) (kind asi : Int) (store priv : Bool) (va : Int) (wva : (Lit.int .u64 va).wf = true) (h0 : 0 ≤ kind) (h1 : kind < 128) (h2 : 0 ≤ asi) (h3 : asi < 256) (hn : n < 900000) :
    Calls Try.prog 80 #[.pointer (some ⟨p, 0, none⟩), .int .i64 0, .int .i64 kind, .int .i64 asi, .bool store, .bool priv, .int .u64 va] W fun e W' => e = .returned (.int .i64 0) ∧ Regs B w0 p mb (n + 2) (pk D 80 24 (stw (rdk D 80 24 % 2 == 1) store priv kind asi)) W' ∧ W.grownBy W' (some mb) := by
  obtain ⟨s1, s2, s3, s4, e1, e2, e3, e4, e5⟩ := word_chain (rdk D 80 24 % 2 == 1) store priv h0 h1 h2 h3
  exact fault_i h kind asi store priv va wva h0 h1 h2 h3 _ s1 s2 s3 s4 _ (bit0 (h.wfk 80 24 (by decide) (by decide))) e1 e2 e3 e4 e5 (stw_wf h0 h1 h2 h3) hn
theorem fault_d_ok {B w0 p mb n D W} (h : Regs B w0 p mb n D W) (kind asi : Int) (store priv : Bool) (va : Int) (wva : (Lit.int .u64 va).wf = true) (h0 : 0 ≤ kind) (h1 : kind < 128) (h2 : 0 ≤ asi) (h3 : asi < 256) (hn : n < 900000) :
    Calls Try.prog 80 #[.pointer (some ⟨p, 0, none⟩), .int .i64 1, .int .i64 kind, .int .i64 asi, .bool store, .bool priv, .int .u64 va] W fun e W' => e = .returned (.int .i64 0) ∧ Regs B w0 p mb (n + 2) (pk (pk D 88 24 (stw (rdk D 88 24 % 2 == 1) store priv kind asi)) 88 32 va) W' ∧ W.grownBy W' (some mb) := by
  obtain ⟨s1, s2, s3, s4, e1, e2, e3, e4, e5⟩ := word_chain (rdk D 88 24 % 2 == 1) store priv h0 h1 h2 h3
  exact fault_d h kind asi store priv va wva h0 h1 h2 h3 _ s1 s2 s3 s4 _ (bit0 (h.wfk 88 24 (by decide) (by decide))) e1 e2 e3 e4 e5 (stw_wf h0 h1 h2 h3) hn
/-- Two keys' places. -/
theorem key_ne {a p a' p' : Int} (h : ¬ (a = a' ∧ p = p')) (ha : (Lit.int .i64 a).wf = true) (hp : (Lit.int .u64 p).wf = true) (ha' : (Lit.int .i64 a').wf = true) (hp' : (Lit.int .u64 p').wf = true) : klit a p ≠ klit a' p' := fun e => h (klit_inj ha hp ha' hp' e)
end
end Go.Proofs.Ythclbckkfgmbaaa.QRegsPlays
