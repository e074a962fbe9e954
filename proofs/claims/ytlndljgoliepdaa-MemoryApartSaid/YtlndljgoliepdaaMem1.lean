/- What each method of a memory does with what the memory has, and answers, where it may be asked and where it may not; each with its own conditions. -/
import Derived.Test.YtlndljgoliepdaaMem0
import Derived.Test.YtlndljgoliepdaaWTab
import Derived.OpenShut
namespace Go.Proofs.Ytlndljgoliepdaa.Mem
open Go.RowKit Go.Maps Go.Proofs.YtlndljgoliepdaaW.PrintWords Go.Proofs.YtlndljgoliepdaaW.PrintLast Go.Proofs.YtlndljgoliepdaaW.PrintMore
set_option linter.unusedSimpArgs false
set_option linter.unusedVariables false
section
set_option maxHeartbeats 400000
theorem wrap_u8 (x : Int) : IntKind.u8.wrap x = x % 256 := by
  unfold IntKind.wrap
  simp [IntKind.signed, IntKind.bits]
/-- The byte at an address. -/
def byteAt (D : DataW Unit) (a : Int) : Int := rd D (a / 8) / 2 ^ ((7 - a % 8) * 8).toNat % 256
theorem div8 {a : Int} (ha : (Lit.int .u64 a).wf = true) : IntKind.u64.wrap (a.tdiv 8) = a / 8 := by
  have := u64_b ha
  rw [Int.tdiv_eq_ediv_of_nonneg this.1]
  unfold IntKind.wrap
  simp [IntKind.signed, IntKind.bits]
  omega
theorem shift_calls (a : Int) (W : World) (ha : 0 ≤ a) :
    Calls Try.prog 62 #[.int .u64 a] W fun e W' => e = .returned (.int .u64 ((7 - a % 8) * 8)) ∧ W' = W := by
  go_enter Try.func62, Try.ntmps62
  go_wp2
  go_ret
  exact ⟨rfl, rfl⟩
noncomputable def get_T : Bool × List (List Nat × List Nat) := rtab .any (opsOf Try.f46 1)
theorem get_tab : rtab .any (opsOf Try.f46 1) = get_T := rfl
set_option maxRecDepth 100000
theorem get_calls {B w0 p mb sz n D W} (h : Mem B w0 p mb sz n D W) (a : Int) (ha : (Lit.int .u64 a).wf = true) :
    Calls Try.prog 46 #[.pointer (some ⟨p, 0, none⟩), .int .u64 a] W fun e W' => e = .returned (.int .u8 (byteAt D a)) ∧ W' = W.drew := by
  have hS : W.drew.cell? ⟨p, 1, none⟩ = some (.map (some mb)) ∧ W.drew.ownsMap Try.prog 22 (plainElem Try.prog 22) mb n D := ⟨h.cells.2, h.own.drew⟩
  have ha0 := (u64_b ha).1
  have AHS := Aside0.mk hS
  have e1 : IntKind.u64.wrap (a.tdiv 8) = a / 8 := div8 ha
  clear hS
  go_enter Try.func46, Try.ntmps46
  go_wp2
  refine start_ (n := 12) (S := fun w' => w'.cell? ⟨p, 1, none⟩ = some (.map (some mb)) ∧ w'.ownsMap Try.prog 22 (plainElem Try.prog 22) mb n D) (ds := []) #[false, false, false, false, false, false, false, false, false, false, false, false] (by kernel_rfl) rfl rfl AHS.out (fun hHeld => ?_)
  refine with_tab get_tab (fun HT_ => ?_)
  refine pure_ (i := 0) (N := some 5) (v := ?_) (a' := ?_) #[true, false, false, false, false, false, false, false, false, false, false, false] rfl rfl (any_of HT_.out (by kernel_rfl)) (fun _ _ _ h => h) (Or.inl ⟨by rfl, ?_⟩) ?_ ?_
  rotate_left
  · intro w'
    go_simp
    with_reducible rfl
  rotate_left
  · simp only [Act.put, List.setIfInBounds_toArray, List.set_cons_zero, List.set_cons_succ, i64_w, i32_w]
    rfl
  refine pure_ (i := 1) (N := some 6) (v := ?_) (a' := ?_) #[true, true, false, false, false, false, false, false, false, false, false, false] rfl rfl (any_of HT_.out (by kernel_rfl)) (fun _ _ _ h => h) (Or.inl ⟨by rfl, ?_⟩) ?_ ?_
  rotate_left
  · intro w'
    go_simp
    with_reducible rfl
  rotate_left
  · simp only [Act.put, List.setIfInBounds_toArray, List.set_cons_zero, List.set_cons_succ, i64_w, i32_w]
    rfl
  refine pure_ (i := 2) (N := some 7) (v := ?_) (a' := ?_) #[true, true, true, false, false, false, false, false, false, false, false, false] rfl rfl (any_of HT_.out (by kernel_rfl)) (fun _ _ _ h => h) (Or.inl ⟨by rfl, ?_⟩) ?_ ?_
  rotate_left
  · intro w'
    go_simp
    with_reducible rfl
  rotate_left
  · simp only [Act.put, List.setIfInBounds_toArray, List.set_cons_zero, List.set_cons_succ, i64_w, i32_w]
    rfl
  refine take_ (i := 3) (N := some 8) (v := ?_) (a' := ?_) #[true, true, true, true, false, false, false, false, false, false, false, false] rfl rfl (take_of HT_.out (by kernel_rfl)) (fun _ _ _ h => h) (Or.inl ⟨by rfl, ?_⟩) hHeld ?_ ?_
  rotate_left
  · rintro w' ⟨s0, s1⟩
    go_simp
    with_reducible rfl
  rotate_left
  · simp only [Act.put, List.setIfInBounds_toArray, List.set_cons_zero, List.set_cons_succ, i64_w, i32_w]
    rfl
  refine pure_ (i := 4) (N := some 9) (v := ?_) (a' := ?_) #[true, true, true, true, true, false, false, false, false, false, false, false] rfl rfl (any_of HT_.out (by kernel_rfl)) (fun _ _ _ h => h) (Or.inl ⟨by rfl, ?_⟩) ?_ ?_
  rotate_left
  · intro w'
    go_simp
    with_reducible rfl
  rotate_left
  · simp only [Act.put, List.setIfInBounds_toArray, List.set_cons_zero, List.set_cons_succ, i64_w, i32_w]
    rfl
  refine pure_ (i := 5) (N := some 10) (v := ?_) (a' := ?_) #[true, true, true, true, true, true, false, false, false, false, false, false] rfl rfl (any_of HT_.out (by kernel_rfl)) (fun _ _ _ h => h) (Or.inl ⟨by rfl, ?_⟩) ?_ ?_
  rotate_left
  · intro w'
    go_simp
    with_reducible rfl
  rotate_left
  · simp only [Act.put, List.setIfInBounds_toArray, List.set_cons_zero, List.set_cons_succ, i64_w, i32_w]
    rfl
  refine take_ (i := 6) (N := some 11) (v := .int .u64 (rd D (a / 8))) (a' := ?_) #[true, true, true, true, true, true, true, false, false, false, false, false] rfl rfl (take_of HT_.out (by kernel_rfl)) (fun _ _ _ h => h) (Or.inl ⟨by rfl, ?_⟩) hHeld ?_ ?_
  · rintro w' ⟨s0, s1⟩
    obtain ⟨c, hrun, hat, _⟩ := s1.lookup_int law22 Try.underlying81 Try.underlying22 (zero22 _) (keyOf_int_mk Try.underlying22 (wf_div ha))
    rw [rd_of hat] at hrun
    go_simp
    first | done | (rw [hrun])
  rotate_left
  · simp only [Act.put, List.setIfInBounds_toArray, List.set_cons_zero, List.set_cons_succ, i64_w, i32_w]
    rfl
  refine pure_ (i := 7) (N := some 12) (v := ?_) (a' := ?_) #[true, true, true, true, true, true, true, true, false, false, false, false] rfl rfl (any_of HT_.out (by kernel_rfl)) (fun _ _ _ h => h) (Or.inl ⟨by rfl, ?_⟩) ?_ ?_
  rotate_left
  · intro w'
    go_simp
    with_reducible rfl
  rotate_left
  · simp only [Act.put, List.setIfInBounds_toArray, List.set_cons_zero, List.set_cons_succ, i64_w, i32_w]
    rfl
  refine one_ (i := 8) (N := some 13) #[true, true, true, true, true, true, true, true, true, false, false, false] rfl rfl (one_of HT_.out (by kernel_rfl)) (by decide) (fun K hK => ?_)
  refine goes_ Try.func62 (by kernel_rfl) rfl #[.int .u64 a] (by rfl) rfl rfl (by (try simp only [List.map_toArray, List.map_cons, List.map_nil]); first | done | rfl) ?_
  refine (shift_calls a _ (u64_b ha).1).mono ?_
  rintro e wn ⟨rfl, rfl⟩
  refine ⟨_, rfl, ?_⟩
  refine hK.out _ _ hHeld (fun hHeld => ?_)
  clear hK K
  refine norm_ (a' := ?_) ?_ ?_
  rotate_left
  · show Act.put _ (some 13) _ = _
    simp only [Act.put, List.setIfInBounds_toArray, List.set_cons_zero, List.set_cons_succ, i64_w, i32_w]
    rfl
  refine pure_ (i := 9) (N := some 14) (v := ?_) (a' := ?_) #[true, true, true, true, true, true, true, true, true, true, false, false] rfl rfl (any_of HT_.out (by kernel_rfl)) (fun _ _ _ h => h) (Or.inl ⟨by rfl, ?_⟩) ?_ ?_
  rotate_left
  · intro w'
    go_simp
    with_reducible rfl
  rotate_left
  · simp only [Act.put, List.setIfInBounds_toArray, List.set_cons_zero, List.set_cons_succ, i64_w, i32_w]
    rfl
  refine pure_ (i := 10) (N := some 15) (v := ?_) (a' := ?_) #[true, true, true, true, true, true, true, true, true, true, true, false] rfl rfl (any_of HT_.out (by kernel_rfl)) (fun _ _ _ h => h) (Or.inl ⟨by rfl, ?_⟩) ?_ ?_
  rotate_left
  · intro w'
    go_simp
    with_reducible rfl
  rotate_left
  · simp only [Act.put, List.setIfInBounds_toArray, List.set_cons_zero, List.set_cons_succ, i64_w, i32_w]
    rfl
  refine pure_ (i := 11) (N := some 4) (v := ?_) (a' := ?_) #[true, true, true, true, true, true, true, true, true, true, true, true] rfl rfl (any_of HT_.out (by kernel_rfl)) (fun _ _ _ h => h) (Or.inl ⟨by rfl, ?_⟩) ?_ ?_
  rotate_left
  · intro w'
    go_simp
    with_reducible rfl
  rotate_left
  · simp only [Act.put, List.setIfInBounds_toArray, List.set_cons_zero, List.set_cons_succ, i64_w, i32_w]
    rfl
  refine done_ (done_of HT_.out (by kernel_rfl)) ?_
  go_wp2
  go_ret
  exact ⟨congrArg (fun x => Ending.returned (Value.int .u8 x)) (wrap_u8 _), rfl⟩
theorem set_zero {B w0 p mb sz n D W} (h : Mem B w0 p mb sz n D W) (k : Int) (hk : (Lit.int .u64 k).wf = true) :
    Calls Try.prog 45 #[.pointer (some ⟨p, 0, none⟩), .int .u64 k, .int .u64 0] W fun e W' => e = .returned (.tuple #[]) ∧ Mem B w0 p mb sz (n + 1) (D.del (.int .u64 k)) W' ∧ W.grownBy W' (some mb) := by
  obtain ⟨_, c1⟩ := h.cells
  have HM := Aside0.mk h
  clear h
  go_enter Try.func45, Try.ntmps45
  go_wp2_with (first | (at_delete; refine wpList_delete_own _ rfl _ _ 81 22 rfl 22 law22 Try.underlying81 _ mb n D rfl HM.out.own _ _ rfl (keyOf_int_mk Try.underlying22 hk) ?_; intro w1 hown1 hturn1) | go_in)
  refine bodyPost_ret (results_none rfl _ _ _) rfl ?_
  exact ⟨rfl, (HM.out.step hturn1.grown hown1).more (Nat.le_succ n), hturn1.grown⟩
theorem set_some {B w0 p mb sz n D W} (h : Mem B w0 p mb sz n D W) (k v : Int) (hk : (Lit.int .u64 k).wf = true) (hv : (Lit.int .u64 v).wf = true) (h0 : (v == 0) = false) (hn : n < 1000000) :
    Calls Try.prog 45 #[.pointer (some ⟨p, 0, none⟩), .int .u64 k, .int .u64 v] W fun e W' => e = .returned (.tuple #[]) ∧ Mem B w0 p mb sz (n + 1) (D.put (.int .u64 k) (.lit (.int .u64 v))) W' ∧ W.grownBy W' (some mb) := by
  obtain ⟨_, c1⟩ := h.cells
  have HM := Aside0.mk h
  clear h
  go_enter Try.func45, Try.ntmps45
  go_wp2_with (first | (at_mapUpdate; refine wpList_mapUpdate_own _ rfl _ _ _ 81 rfl 22 22 law22 Try.underlying81 _ mb n D rfl HM.out.own (by unfold maxLen; omega) _ _ _ rfl rfl (keyOf_int_mk Try.underlying22 hk) _ [] (plainElem_int Try.underlying22 hv) ?_; intro w1 hown1 hg1) | go_in)
  go_end0
  exact ⟨rfl, HM.out.step hg1 hown1, hg1⟩
theorem set_calls {B w0 p mb sz n D W} (h : Mem B w0 p mb sz n D W) (k v : Int) (hk : (Lit.int .u64 k).wf = true) (hv : (Lit.int .u64 v).wf = true) (hn : n < 1000000) :
    Calls Try.prog 45 #[.pointer (some ⟨p, 0, none⟩), .int .u64 k, .int .u64 v] W fun e W' => e = .returned (.tuple #[]) ∧ Mem B w0 p mb sz (n + 1) (st D k v) W' ∧ W.grownBy W' (some mb) := by
  unfold st
  by_cases hz : v = 0
  · subst hz
    rw [if_pos rfl]
    exact set_zero h k hk
  · rw [if_neg hz]
    exact set_some h k v hk hv (beq_eq_false_iff_ne.mpr hz) hn
/-- A word, with a byte put at its place. -/
def putB (x a b : Int) : Int := bits .or .u64 (bits .andNot .u64 x (IntKind.u64.wrap (255 * 2 ^ ((7 - a % 8) * 8).toNat))) (IntKind.u64.wrap (IntKind.u64.wrap b * 2 ^ ((7 - a % 8) * 8).toNat))
theorem putB_wf (x a b : Int) : (Lit.int .u64 (putB x a b)).wf = true := wf_bits _ _ _ _
theorem put_calls {B w0 p mb sz n D W} (h : Mem B w0 p mb sz n D W) (a b : Int) (ha : (Lit.int .u64 a).wf = true) (hn : n < 1000000) :
    Calls Try.prog 47 #[.pointer (some ⟨p, 0, none⟩), .int .u64 a, .int .u8 b] W fun e W' => e = .returned (.tuple #[]) ∧ Mem B w0 p mb sz (n + 1) (st D (a / 8) (putB (rd D (a / 8)) a b)) W' ∧ W.grownBy W' (some mb) := by
  obtain ⟨_, c1⟩ := h.cells
  have HM := Aside0.mk h
  clear h
  have e1 : IntKind.u64.wrap (a.tdiv 8) = a / 8 := div8 ha
  have ha0 := (u64_b ha).1
  go_enter Try.func47, Try.ntmps47
  go_wp2_with (first | (go_at_call 62; refine (shift_calls a _ (u64_b ha).1).mono ?_; rintro e wn ⟨rfl, rfl⟩) | (at_lookup; refine wpList_lookup_own_int _ rfl _ _ 81 rfl 22 22 .u64 law22 Try.underlying81 Try.underlying22 (zero22 _) mb n D rfl HM.out.own _ _ rfl (keyOf_int_mk Try.underlying22 (wf_div ha)) ?_; intro c hat hwc; have HAT := Aside0.mk (rd_of hat); clear hat) | (go_at_call 45; refine (set_calls HM.out _ _ (wf_div ha) (wf_bits _ _ _ _) hn).mono ?_; rintro e w2 ⟨rfl, hM, hg⟩) | go_in)
  go_end0
  have hA := HAT.out
  subst hA
  exact ⟨rfl, hM, hg⟩
theorem may_calls {B w0 p mb sz n D W} (h : Mem B w0 p mb sz n D W) {each : Int} (he : each = 1 ∨ each = 8 ∨ each = 16) (a k : Int) (ha : (Lit.int .u64 a).wf = true) (hk : (Lit.int .u64 k).wf = true) {c : Int} (hc : mayOf sz a k each = c) :
    Calls Try.prog 44 #[.pointer (some ⟨p, 0, none⟩), .int .u64 a, .int .u64 k, .int .u64 each] W fun e W' => e = .returned (.int .i64 c) ∧ W' = W := by
  have ha0 := (u64_b ha).1
  have hk0 := (u64_b hk).1
  unfold mayOf at hc
  by_cases h1 : a % each = 0
  · rw [if_neg (fun x => x h1)] at hc
    by_cases h2 : k = 0
    · subst h2
      rw [if_neg (by omega)] at hc
      subst hc
      exact may_none he p a W ha0 h1
    · by_cases h3 : sz ≤ a
      · rw [if_pos ⟨by omega, .inl h3⟩] at hc
        subst hc
        exact may_far h he a k ha0 h1 (by omega) h3
      · refine may_in h he a k ha0 h1 (by omega) (by omega) c ?_
        rw [← hc]
        by_cases h4 : sz - a < k
        · rw [if_pos h4, if_pos ⟨by omega, .inr h4⟩]
        · rw [if_neg h4, if_neg (by omega)]
  · rw [if_pos h1] at hc
    subst hc
    refine may_bad ?_ p a k W ha0 h1
    rcases he with rfl | he
    · omega
    · exact he
theorem putWord_ok {B w0 p mb sz n D W} (h : Mem B w0 p mb sz n D W) (a : Int) (ha : (Lit.int .u64 a).wf = true) (x : Int) (hx : (Lit.int .u64 x).wf = true) (hn : n < 1000000) (hc : mayOf sz a 8 8 = 0) :
    Calls Try.prog 14 #[.pointer (some ⟨p, 0, none⟩), .int .u64 a, .int .u64 x] W fun e W' => e = .returned (.int .i64 0) ∧ Mem B w0 p mb sz (n + 1) (st D (a / 8) x) W' ∧ W.grownBy W' (some mb) := by
  have HM := Aside0.mk h
  obtain ⟨_, c1⟩ := h.cells
  clear h
  have HC := Aside0.mk hc
  clear hc
  have e1 : IntKind.u64.wrap (a.tdiv 8) = a / 8 := div8 ha
  have ha0 := (u64_b ha).1
  go_enter Try.func14, Try.ntmps14
  go_wp2_with (first | (go_at_call 44; refine (may_calls HM.out (by decide) _ _ ha (by decide) HC.out).mono ?_; rintro e wn ⟨rfl, rfl⟩) | (go_at_call 45; refine (set_calls HM.out _ _ (wf_div ha) hx hn).mono ?_; rintro e w2 ⟨rfl, hM, hg⟩; have HM2 := Aside0.mk hM; have HG := Aside0.mk hg; clear hM hg) | go_in)
  go_ret
  exact ⟨rfl, HM2.out, HG.out⟩
theorem putWord_bad {B w0 p mb sz n D W} (h : Mem B w0 p mb sz n D W) (a : Int) (ha : (Lit.int .u64 a).wf = true) (x : Int) {c : Int} (h0 : (c == 0) = false) (hc : mayOf sz a 8 8 = c) :
    Calls Try.prog 14 #[.pointer (some ⟨p, 0, none⟩), .int .u64 a, .int .u64 x] W fun e W' => e = .returned (.int .i64 c) ∧ W' = W := by
  have HM := Aside0.mk h
  obtain ⟨_, c1⟩ := h.cells
  clear h
  have HC := Aside0.mk hc
  clear hc
  go_enter Try.func14, Try.ntmps14
  go_wp2_with (first | (go_at_call 44; refine (may_calls HM.out (by decide) _ _ ha (by decide) HC.out).mono ?_; rintro e wn ⟨rfl, rfl⟩) | go_in)
  go_ret
  exact ⟨rfl, rfl⟩
theorem word_ok {B w0 p mb sz n D W} (h : Mem B w0 p mb sz n D W) (a : Int) (ha : (Lit.int .u64 a).wf = true) (hc : mayOf sz a 8 8 = 0) :
    Calls Try.prog 15 #[.pointer (some ⟨p, 0, none⟩), .int .u64 a] W fun e W' => e = .returned (.tuple #[.int .u64 (rd D (a / 8)), .int .i64 0]) ∧ W' = W := by
  have HM := Aside0.mk h
  obtain ⟨_, c1⟩ := h.cells
  clear h
  have HC := Aside0.mk hc
  clear hc
  have e1 : IntKind.u64.wrap (a.tdiv 8) = a / 8 := div8 ha
  have ha0 := (u64_b ha).1
  go_enter Try.func15, Try.ntmps15
  go_wp2_with (first | (go_at_call 44; refine (may_calls HM.out (by decide) _ _ ha (by decide) HC.out).mono ?_; rintro e wn ⟨rfl, rfl⟩) | (at_lookup; refine wpList_lookup_own_int _ rfl _ _ 81 rfl 22 22 .u64 law22 Try.underlying81 Try.underlying22 (zero22 _) mb n D rfl HM.out.own _ _ rfl (keyOf_int_mk Try.underlying22 (wf_div ha)) ?_; intro c hat hwc; have HAT := Aside0.mk (rd_of hat); clear hat) | go_in)
  go_ret2
  exact ⟨by rw [HAT.out]; rfl, rfl⟩
theorem word_bad {B w0 p mb sz n D W} (h : Mem B w0 p mb sz n D W) (a : Int) (ha : (Lit.int .u64 a).wf = true) {c : Int} (h0 : (c != 0) = true) (hc : mayOf sz a 8 8 = c) :
    Calls Try.prog 15 #[.pointer (some ⟨p, 0, none⟩), .int .u64 a] W fun e W' => e = .returned (.tuple #[.int .u64 0, .int .i64 c]) ∧ W' = W := by
  have HM := Aside0.mk h
  obtain ⟨_, c1⟩ := h.cells
  clear h
  have HC := Aside0.mk hc
  clear hc
  go_enter Try.func15, Try.ntmps15
  go_wp2_with (first | (go_at_call 44; refine (may_calls HM.out (by decide) _ _ ha (by decide) HC.out).mono ?_; rintro e wn ⟨rfl, rfl⟩) | go_in)
  go_ret2
  exact ⟨rfl, rfl⟩
theorem byte_ok {B w0 p mb sz n D W} (h : Mem B w0 p mb sz n D W) (a : Int) (ha : (Lit.int .u64 a).wf = true) (hc : mayOf sz a 1 1 = 0) :
    Calls Try.prog 16 #[.pointer (some ⟨p, 0, none⟩), .int .u64 a] W fun e W' => e = .returned (.tuple #[.int .u8 (byteAt D a), .int .i64 0]) ∧ W' = W.drew := by
  have HM := Aside0.mk h
  obtain ⟨_, c1⟩ := h.cells
  clear h
  have HC := Aside0.mk hc
  clear hc
  go_enter Try.func16, Try.ntmps16
  go_wp2_with (first | (go_at_call 44; refine (may_calls HM.out (by decide) _ _ ha (by decide) HC.out).mono ?_; rintro e wn ⟨rfl, rfl⟩) | (go_at_call 46; refine (get_calls HM.out a ha).mono ?_; rintro e w2 ⟨rfl, rfl⟩) | go_in)
  go_ret2
  exact ⟨rfl, rfl⟩
theorem byte_bad {B w0 p mb sz n D W} (h : Mem B w0 p mb sz n D W) (a : Int) (ha : (Lit.int .u64 a).wf = true) {c : Int} (h0 : (c != 0) = true) (hc : mayOf sz a 1 1 = c) :
    Calls Try.prog 16 #[.pointer (some ⟨p, 0, none⟩), .int .u64 a] W fun e W' => e = .returned (.tuple #[.int .u8 0, .int .i64 c]) ∧ W' = W := by
  have HM := Aside0.mk h
  obtain ⟨_, c1⟩ := h.cells
  clear h
  have HC := Aside0.mk hc
  clear hc
  go_enter Try.func16, Try.ntmps16
  go_wp2_with (first | (go_at_call 44; refine (may_calls HM.out (by decide) _ _ ha (by decide) HC.out).mono ?_; rintro e wn ⟨rfl, rfl⟩) | go_in)
  go_ret2
  exact ⟨rfl, rfl⟩
theorem putByte_ok {B w0 p mb sz n D W} (h : Mem B w0 p mb sz n D W) (a : Int) (ha : (Lit.int .u64 a).wf = true) (b : Int) (hn : n < 1000000) (hc : mayOf sz a 1 1 = 0) :
    Calls Try.prog 19 #[.pointer (some ⟨p, 0, none⟩), .int .u64 a, .int .u8 b] W fun e W' => e = .returned (.int .i64 0) ∧ Mem B w0 p mb sz (n + 1) (st D (a / 8) (putB (rd D (a / 8)) a b)) W' ∧ W.grownBy W' (some mb) := by
  have HM := Aside0.mk h
  obtain ⟨_, c1⟩ := h.cells
  clear h
  have HC := Aside0.mk hc
  clear hc
  go_enter Try.func19, Try.ntmps19
  go_wp2_with (first | (go_at_call 44; refine (may_calls HM.out (by decide) _ _ ha (by decide) HC.out).mono ?_; rintro e wn ⟨rfl, rfl⟩) | (go_at_call 47; refine (put_calls HM.out a b ha hn).mono ?_; rintro e w2 ⟨rfl, hM, hg⟩; have HM2 := Aside0.mk hM; have HG := Aside0.mk hg; clear hM hg) | go_in)
  go_ret
  exact ⟨rfl, HM2.out, HG.out⟩
theorem putByte_bad {B w0 p mb sz n D W} (h : Mem B w0 p mb sz n D W) (a : Int) (ha : (Lit.int .u64 a).wf = true) (b : Int) {c : Int} (h0 : (c == 0) = false) (hc : mayOf sz a 1 1 = c) :
    Calls Try.prog 19 #[.pointer (some ⟨p, 0, none⟩), .int .u64 a, .int .u8 b] W fun e W' => e = .returned (.int .i64 c) ∧ W' = W := by
  have HM := Aside0.mk h
  obtain ⟨_, c1⟩ := h.cells
  clear h
  have HC := Aside0.mk hc
  clear hc
  go_enter Try.func19, Try.ntmps19
  go_wp2_with (first | (go_at_call 44; refine (may_calls HM.out (by decide) _ _ ha (by decide) HC.out).mono ?_; rintro e wn ⟨rfl, rfl⟩) | go_in)
  go_ret
  exact ⟨rfl, rfl⟩
theorem wf_div1 {a : Int} (h : (Lit.int .u64 a).wf = true) : (Lit.int .u64 (a / 8 + 1)).wf = true := by
  have := u64_b h
  simp [Lit.wf, IntKind.min, IntKind.max, IntKind.signed, IntKind.bits]; omega
theorem putPair_ok {B w0 p mb sz n D W} (h : Mem B w0 p mb sz n D W) (a : Int) (ha : (Lit.int .u64 a).wf = true) (x y : Int) (hx : (Lit.int .u64 x).wf = true) (hy : (Lit.int .u64 y).wf = true) (hn : n < 999999) (hc : mayOf sz a 16 16 = 0) :
    Calls Try.prog 18 #[.pointer (some ⟨p, 0, none⟩), .int .u64 a, .int .u64 x, .int .u64 y] W fun e W' => e = .returned (.int .i64 0) ∧ Mem B w0 p mb sz (n + 2) (st (st D (a / 8) x) (a / 8 + 1) y) W' ∧ W.grownBy W' (some mb) := by
  have HM := Aside0.mk h
  obtain ⟨_, c1⟩ := h.cells
  clear h
  have HC := Aside0.mk hc
  clear hc
  have e1 : IntKind.u64.wrap (a.tdiv 8) = a / 8 := div8 ha
  have ha0 := (u64_b ha).1
  have ha1 := (u64_b ha).2
  go_enter Try.func18, Try.ntmps18
  go_wp2_with (first | (go_at_call 44; refine (may_calls HM.out (by decide) _ _ ha (by decide) HC.out).mono ?_; rintro e wn ⟨rfl, rfl⟩) | (go_at_call 45; first | (refine (set_calls HM2.out _ _ (wf_div1 ha) hy (by omega)).mono ?_; rintro e w3 ⟨rfl, hM, hg⟩; have HM3 := Aside0.mk hM; have HG3 := Aside0.mk hg; clear hM hg) | (refine (set_calls HM.out _ _ (wf_div ha) hx (by omega)).mono ?_; rintro e w2 ⟨rfl, hM, hg⟩; have HM2 := Aside0.mk hM; have HG := Aside0.mk hg; clear hM hg)) | go_in)
  go_ret
  exact ⟨rfl, HM3.out, grown_two HG.out HG3.out⟩
theorem putPair_bad {B w0 p mb sz n D W} (h : Mem B w0 p mb sz n D W) (a : Int) (ha : (Lit.int .u64 a).wf = true) (x y : Int) {c : Int} (h0 : (c == 0) = false) (hc : mayOf sz a 16 16 = c) :
    Calls Try.prog 18 #[.pointer (some ⟨p, 0, none⟩), .int .u64 a, .int .u64 x, .int .u64 y] W fun e W' => e = .returned (.int .i64 c) ∧ W' = W := by
  have HM := Aside0.mk h
  obtain ⟨_, c1⟩ := h.cells
  clear h
  have HC := Aside0.mk hc
  clear hc
  go_enter Try.func18, Try.ntmps18
  go_wp2_with (first | (go_at_call 44; refine (may_calls HM.out (by decide) _ _ ha (by decide) HC.out).mono ?_; rintro e wn ⟨rfl, rfl⟩) | go_in)
  go_ret
  exact ⟨rfl, rfl⟩
noncomputable def pair_T : Bool × List (List Nat × List Nat) := rtab .any (opsOf Try.f20 4)
theorem pair_tab : rtab .any (opsOf Try.f20 4) = pair_T := rfl
theorem pair_ok {B w0 p mb sz n D W} (h : Mem B w0 p mb sz n D W) (a : Int) (ha : (Lit.int .u64 a).wf = true) (hc : mayOf sz a 16 16 = 0) :
    Calls Try.prog 20 #[.pointer (some ⟨p, 0, none⟩), .int .u64 a] W fun e W' => e = .returned (.tuple #[.int .u64 (rd D (a / 8)), .int .u64 (rd D (a / 8 + 1)), .int .i64 0]) ∧ W' = W.drew := by
  have hS : W.drew.cell? ⟨p, 1, none⟩ = some (.map (some mb)) ∧ W.drew.ownsMap Try.prog 22 (plainElem Try.prog 22) mb n D := ⟨h.cells.2, h.own.drew⟩
  have AHS := Aside0.mk hS
  clear hS
  have HM := Aside0.mk h
  obtain ⟨_, c1⟩ := h.cells
  clear h
  have HC := Aside0.mk hc
  clear hc
  have e1 : IntKind.u64.wrap (a.tdiv 8) = a / 8 := div8 ha
  have ha0 := (u64_b ha).1
  have ha1 := (u64_b ha).2
  have e2 : IntKind.u64.wrap (a / 8 + 1) = a / 8 + 1 := by
    unfold IntKind.wrap
    simp [IntKind.signed, IntKind.bits]
    omega
  go_enter Try.func20, Try.ntmps20
  go_wp2_with (first | (go_at_call 44; refine (may_calls HM.out (by decide) _ _ ha (by decide) HC.out).mono ?_; rintro e wn ⟨rfl, rfl⟩) | go_in)
  refine start_ (n := 18) (S := fun w' => w'.cell? ⟨p, 1, none⟩ = some (.map (some mb)) ∧ w'.ownsMap Try.prog 22 (plainElem Try.prog 22) mb n D) (ds := []) #[false, false, false, false, false, false, false, false, false, false, false, false, false, false, false, false, false, false] (by kernel_rfl) rfl rfl AHS.out (fun hHeld => ?_)
  refine with_tab pair_tab (fun HT_ => ?_)
  refine pure_ (i := 0) (N := some 14) (v := ?_) (a' := ?_) #[true, false, false, false, false, false, false, false, false, false, false, false, false, false, false, false, false, false] rfl rfl (any_of HT_.out (by kernel_rfl)) (fun _ _ _ h => h) (Or.inl ⟨by rfl, ?_⟩) ?_ ?_
  rotate_left
  · intro w'
    go_simp
    with_reducible rfl
  rotate_left
  · simp only [Act.put, List.setIfInBounds_toArray, List.set_cons_zero, List.set_cons_succ, i64_w, i32_w]
    rfl
  refine pure_ (i := 1) (N := some 15) (v := ?_) (a' := ?_) #[true, true, false, false, false, false, false, false, false, false, false, false, false, false, false, false, false, false] rfl rfl (any_of HT_.out (by kernel_rfl)) (fun _ _ _ h => h) (Or.inl ⟨by rfl, ?_⟩) ?_ ?_
  rotate_left
  · intro w'
    go_simp
    with_reducible rfl
  rotate_left
  · simp only [Act.put, List.setIfInBounds_toArray, List.set_cons_zero, List.set_cons_succ, i64_w, i32_w]
    rfl
  refine pure_ (i := 2) (N := some 16) (v := ?_) (a' := ?_) #[true, true, true, false, false, false, false, false, false, false, false, false, false, false, false, false, false, false] rfl rfl (any_of HT_.out (by kernel_rfl)) (fun _ _ _ h => h) (Or.inl ⟨by rfl, ?_⟩) ?_ ?_
  rotate_left
  · intro w'
    go_simp
    with_reducible rfl
  rotate_left
  · simp only [Act.put, List.setIfInBounds_toArray, List.set_cons_zero, List.set_cons_succ, i64_w, i32_w]
    rfl
  refine take_ (i := 3) (N := some 17) (v := ?_) (a' := ?_) #[true, true, true, true, false, false, false, false, false, false, false, false, false, false, false, false, false, false] rfl rfl (take_of HT_.out (by kernel_rfl)) (fun _ _ _ h => h) (Or.inl ⟨by rfl, ?_⟩) hHeld ?_ ?_
  rotate_left
  · rintro w' ⟨s0, s1⟩
    go_simp
    with_reducible rfl
  rotate_left
  · simp only [Act.put, List.setIfInBounds_toArray, List.set_cons_zero, List.set_cons_succ, i64_w, i32_w]
    rfl
  refine pure_ (i := 4) (N := some 18) (v := ?_) (a' := ?_) #[true, true, true, true, true, false, false, false, false, false, false, false, false, false, false, false, false, false] rfl rfl (any_of HT_.out (by kernel_rfl)) (fun _ _ _ h => h) (Or.inl ⟨by rfl, ?_⟩) ?_ ?_
  rotate_left
  · intro w'
    go_simp
    with_reducible rfl
  rotate_left
  · simp only [Act.put, List.setIfInBounds_toArray, List.set_cons_zero, List.set_cons_succ, i64_w, i32_w]
    rfl
  refine pure_ (i := 5) (N := some 19) (v := ?_) (a' := ?_) #[true, true, true, true, true, true, false, false, false, false, false, false, false, false, false, false, false, false] rfl rfl (any_of HT_.out (by kernel_rfl)) (fun _ _ _ h => h) (Or.inl ⟨by rfl, ?_⟩) ?_ ?_
  rotate_left
  · intro w'
    go_simp
    with_reducible rfl
  rotate_left
  · simp only [Act.put, List.setIfInBounds_toArray, List.set_cons_zero, List.set_cons_succ, i64_w, i32_w]
    rfl
  refine take_ (i := 6) (N := some 20) (v := .int .u64 (rd D (a / 8))) (a' := ?_) #[true, true, true, true, true, true, true, false, false, false, false, false, false, false, false, false, false, false] rfl rfl (take_of HT_.out (by kernel_rfl)) (fun _ _ _ h => h) (Or.inl ⟨by rfl, ?_⟩) hHeld ?_ ?_
  · rintro w' ⟨s0, s1⟩
    obtain ⟨c, hrun, hat, _⟩ := s1.lookup_int law22 Try.underlying81 Try.underlying22 (zero22 _) (keyOf_int_mk Try.underlying22 (wf_div ha))
    rw [rd_of hat] at hrun
    go_simp
    first | done | (rw [hrun])
  rotate_left
  · simp only [Act.put, List.setIfInBounds_toArray, List.set_cons_zero, List.set_cons_succ, i64_w, i32_w]
    rfl
  refine pure_ (i := 7) (N := some 21) (v := ?_) (a' := ?_) #[true, true, true, true, true, true, true, true, false, false, false, false, false, false, false, false, false, false] rfl rfl (any_of HT_.out (by kernel_rfl)) (fun _ _ _ h => h) (Or.inl ⟨by rfl, ?_⟩) ?_ ?_
  rotate_left
  · intro w'
    go_simp
    with_reducible rfl
  rotate_left
  · simp only [Act.put, List.setIfInBounds_toArray, List.set_cons_zero, List.set_cons_succ, i64_w, i32_w]
    rfl
  refine pure_ (i := 8) (N := some 22) (v := ?_) (a' := ?_) #[true, true, true, true, true, true, true, true, true, false, false, false, false, false, false, false, false, false] rfl rfl (any_of HT_.out (by kernel_rfl)) (fun _ _ _ h => h) (Or.inl ⟨by rfl, ?_⟩) ?_ ?_
  rotate_left
  · intro w'
    go_simp
    with_reducible rfl
  rotate_left
  · simp only [Act.put, List.setIfInBounds_toArray, List.set_cons_zero, List.set_cons_succ, i64_w, i32_w]
    rfl
  refine pure_ (i := 9) (N := some 23) (v := ?_) (a' := ?_) #[true, true, true, true, true, true, true, true, true, true, false, false, false, false, false, false, false, false] rfl rfl (any_of HT_.out (by kernel_rfl)) (fun _ _ _ h => h) (Or.inl ⟨by rfl, ?_⟩) ?_ ?_
  rotate_left
  · intro w'
    go_simp
    with_reducible rfl
  rotate_left
  · simp only [Act.put, List.setIfInBounds_toArray, List.set_cons_zero, List.set_cons_succ, i64_w, i32_w]
    rfl
  refine take_ (i := 10) (N := some 24) (v := ?_) (a' := ?_) #[true, true, true, true, true, true, true, true, true, true, true, false, false, false, false, false, false, false] rfl rfl (take_of HT_.out (by kernel_rfl)) (fun _ _ _ h => h) (Or.inl ⟨by rfl, ?_⟩) hHeld ?_ ?_
  rotate_left
  · rintro w' ⟨s0, s1⟩
    go_simp
    with_reducible rfl
  rotate_left
  · simp only [Act.put, List.setIfInBounds_toArray, List.set_cons_zero, List.set_cons_succ, i64_w, i32_w]
    rfl
  refine pure_ (i := 11) (N := some 25) (v := ?_) (a' := ?_) #[true, true, true, true, true, true, true, true, true, true, true, true, false, false, false, false, false, false] rfl rfl (any_of HT_.out (by kernel_rfl)) (fun _ _ _ h => h) (Or.inl ⟨by rfl, ?_⟩) ?_ ?_
  rotate_left
  · intro w'
    go_simp
    with_reducible rfl
  rotate_left
  · simp only [Act.put, List.setIfInBounds_toArray, List.set_cons_zero, List.set_cons_succ, i64_w, i32_w]
    rfl
  refine pure_ (i := 12) (N := some 26) (v := ?_) (a' := ?_) #[true, true, true, true, true, true, true, true, true, true, true, true, true, false, false, false, false, false] rfl rfl (any_of HT_.out (by kernel_rfl)) (fun _ _ _ h => h) (Or.inl ⟨by rfl, ?_⟩) ?_ ?_
  rotate_left
  · intro w'
    go_simp
    with_reducible rfl
  rotate_left
  · simp only [Act.put, List.setIfInBounds_toArray, List.set_cons_zero, List.set_cons_succ, i64_w, i32_w]
    rfl
  refine pure_ (i := 13) (N := some 27) (v := ?_) (a' := ?_) #[true, true, true, true, true, true, true, true, true, true, true, true, true, true, false, false, false, false] rfl rfl (any_of HT_.out (by kernel_rfl)) (fun _ _ _ h => h) (Or.inl ⟨by rfl, ?_⟩) ?_ ?_
  rotate_left
  · intro w'
    go_simp
    with_reducible rfl
  rotate_left
  · simp only [Act.put, List.setIfInBounds_toArray, List.set_cons_zero, List.set_cons_succ, i64_w, i32_w]
    rfl
  refine take_ (i := 14) (N := some 28) (v := .int .u64 (rd D (a / 8 + 1))) (a' := ?_) #[true, true, true, true, true, true, true, true, true, true, true, true, true, true, true, false, false, false] rfl rfl (take_of HT_.out (by kernel_rfl)) (fun _ _ _ h => h) (Or.inl ⟨by rfl, ?_⟩) hHeld ?_ ?_
  · rintro w' ⟨s0, s1⟩
    obtain ⟨c, hrun, hat, _⟩ := s1.lookup_int law22 Try.underlying81 Try.underlying22 (zero22 _) (keyOf_int_mk Try.underlying22 (wf_div1 ha))
    rw [rd_of hat] at hrun
    go_simp
    first | done | (rw [hrun])
  rotate_left
  · simp only [Act.put, List.setIfInBounds_toArray, List.set_cons_zero, List.set_cons_succ, i64_w, i32_w]
    rfl
  refine pure_ (i := 15) (N := some 4) (v := ?_) (a' := ?_) #[true, true, true, true, true, true, true, true, true, true, true, true, true, true, true, true, false, false] rfl rfl (any_of HT_.out (by kernel_rfl)) (fun _ _ _ h => h) (Or.inl ⟨by rfl, ?_⟩) ?_ ?_
  rotate_left
  · intro w'
    go_simp
    with_reducible rfl
  rotate_left
  · simp only [Act.put, List.setIfInBounds_toArray, List.set_cons_zero, List.set_cons_succ, i64_w, i32_w]
    rfl
  refine pure_ (i := 16) (N := some 5) (v := ?_) (a' := ?_) #[true, true, true, true, true, true, true, true, true, true, true, true, true, true, true, true, true, false] rfl rfl (any_of HT_.out (by kernel_rfl)) (fun _ _ _ h => h) (Or.inl ⟨by rfl, ?_⟩) ?_ ?_
  rotate_left
  · intro w'
    go_simp
    with_reducible rfl
  rotate_left
  · simp only [Act.put, List.setIfInBounds_toArray, List.set_cons_zero, List.set_cons_succ, i64_w, i32_w]
    rfl
  refine pure_ (i := 17) (N := some 6) (v := ?_) (a' := ?_) #[true, true, true, true, true, true, true, true, true, true, true, true, true, true, true, true, true, true] rfl rfl (any_of HT_.out (by kernel_rfl)) (fun _ _ _ h => h) (Or.inl ⟨by rfl, ?_⟩) ?_ ?_
  rotate_left
  · intro w'
    go_simp
    with_reducible rfl
  rotate_left
  · simp only [Act.put, List.setIfInBounds_toArray, List.set_cons_zero, List.set_cons_succ, i64_w, i32_w]
    rfl
  refine done_ (done_of HT_.out (by kernel_rfl)) ?_
  go_wp2
  go_ret3
  exact ⟨rfl, rfl⟩
theorem pair_bad {B w0 p mb sz n D W} (h : Mem B w0 p mb sz n D W) (a : Int) (ha : (Lit.int .u64 a).wf = true) {c : Int} (h0 : (c != 0) = true) (hc : mayOf sz a 16 16 = c) :
    Calls Try.prog 20 #[.pointer (some ⟨p, 0, none⟩), .int .u64 a] W fun e W' => e = .returned (.tuple #[.int .u64 0, .int .u64 0, .int .i64 c]) ∧ W' = W := by
  have HM := Aside0.mk h
  obtain ⟨_, c1⟩ := h.cells
  clear h
  have HC := Aside0.mk hc
  clear hc
  go_enter Try.func20, Try.ntmps20
  go_wp2_with (first | (go_at_call 44; refine (may_calls HM.out (by decide) _ _ ha (by decide) HC.out).mono ?_; rintro e wn ⟨rfl, rfl⟩) | go_in)
  go_ret3
  exact ⟨rfl, rfl⟩
theorem used_calls {B w0 p mb sz n D W} (h : Mem B w0 p mb sz n D W) :
    Calls Try.prog 21 #[.pointer (some ⟨p, 0, none⟩)] W fun e W' => e = .returned (.int .i64 (Maps.size D)) ∧ W' = W := by
  have HM := Aside0.mk h
  obtain ⟨_, c1⟩ := h.cells
  clear h
  go_enter Try.func21, Try.ntmps21
  go_wp2_with (first | (at_len; refine wpList_len_own _ rfl _ 81 rfl 22 22 Try.underlying81 _ mb n D rfl HM.out.own ?_) | go_in)
  go_ret
  exact ⟨rfl, rfl⟩
theorem new_mem {B w0 W} (hb : Below B w0 W) (hB : B ≤ W.heap.size) (sz : Int) (hs : (Lit.int .u64 sz).wf = true) : Mem B w0 (W.heap.size + 1) W.heap.size sz 0 (.map []) ((W.alloc (Obj.map #[] 0)).alloc (Obj.cells #[.int .u64 sz, .map (some W.heap.size)] 83)) := by
  have e1 : (W.alloc (Obj.map #[] 0)).heap.size = W.heap.size + 1 := by simp
  have h1 := MapKept.heap_alloc (W.alloc (Obj.map #[] 0)) (Obj.cells #[.int .u64 sz, .map (some W.heap.size)] 83)
  have e2 : ((W.alloc (Obj.map #[] 0)).alloc (Obj.cells #[.int .u64 sz, .map (some W.heap.size)] 83)).heap.size = W.heap.size + 2 := by simp
  exact ⟨(hb.alloc hB _).alloc (by omega) _, by omega, hB, by omega, by rw [← e1]; exact h1.1, (World.ownsMap_made W _ _ _).alloc _, hs⟩
theorem new_calls {B w0 W} (hb : Below B w0 W) (hB : B ≤ W.heap.size) (sz : Int) (hs : (Lit.int .u64 sz).wf = true) (hm : sz ≤ 2199023255552) :
    Calls Try.prog 13 #[.int .u64 sz] W fun e W' => ∃ p mb, e = .returned (.pointer (some ⟨p, 0, none⟩)) ∧ Mem B w0 p mb sz 0 (.map []) W' ∧ W.grownBy W' none ∧ W.heap.size ≤ mb ∧ W.heap.size ≤ p := by
  have HB := Aside0.mk hb
  have HS := Aside0.mk hs
  clear hb hs
  have hmm := @run_makeMap Try.prog
  go_enter Try.func13, Try.ntmps13
  go_wp2
  go_ret
  exact ⟨W.heap.size + 1, W.heap.size, rfl, new_mem HB.out hB sz HS.out, grown_two (World.grownBy_alloc W _ none) (World.grownBy_alloc _ _ none), Nat.le_refl _, Nat.le_succ _⟩
end
end Go.Proofs.Ytlndljgoliepdaa.Mem
