/- CpuNotes: a miss is told by the tag access of its unit, a fault by its status; looking changes no register; at whatever numbers. -/
import Derived.Test.YthclbckkfgmbaaaCp1
import Derived.Test.YthclbckkfgmbaaaRegs5
import Derived.Test.YthclbckkfgmbaaaCpOpen
import Derived.Deep.DeepCutAuto
/- merged: CpR -/
namespace Go.Proofs.Ythclbckkfgmbaaa.QTlbPlays
open Go.RowKit Go.Proofs.YthclbckkfgmbaaaW.PrintWords Go.Proofs.YthclbckkfgmbaaaW.PrintLast Go.Proofs.YthclbckkfgmbaaaW.PrintMore
set_option linter.unusedSimpArgs false
set_option linter.unusedVariables false
section
set_option maxHeartbeats 1000000
set_option maxRecDepth 100000
noncomputable def note4_T : Bool × List (List Nat × List Nat) := rtab .any (opsOf Try.f43 4)
theorem note4_tab : rtab .any (opsOf Try.f43 4) = note4_T := rfl
noncomputable def note9_T : Bool × List (List Nat × List Nat) := rtab .any (opsOf Try.f43 9)
theorem note9_tab : rtab .any (opsOf Try.f43 9) = note9_T := rfl
structure CpuR (B : Nat) (w0 : World) (q g mb n : Nat) (D : DataW Unit) (p0 r0 p1 r1 : Nat) (e0 e1 : List (Option Ent)) (W : World) : Prop where
  c : Cpu B w0 q g p0 r0 p1 r1 e0 e1 W
  r : QRegsPlays.Regs B w0 g mb n D W
theorem CpuR.nm {B w0 q g mb n D p0 r0 p1 r1 e0 e1 W} (h : CpuR B w0 q g mb n D p0 r0 p1 r1 e0 e1 W) (b : Nat) (cs : Array Value) (t : TypeId) (hb : W.heap[b]? = some (.cells cs t (0, 0))) : b ≠ mb := by
  rintro rfl
  obtain ⟨es, clock, he, _⟩ := h.r.own
  rw [he] at hb
  cases hb
theorem CpuR.same {B w0 q g mb n D p0 r0 p1 r1 e0 e1 W W'} (h : CpuR B w0 q g mb n D p0 r0 p1 r1 e0 e1 W) (hg : W.grownBy W' none) : CpuR B w0 q g mb n D p0 r0 p1 r1 e0 e1 W' := ⟨h.c.same hg, h.r.same hg⟩
theorem Tl.keptM {B w0 p r es W W' mb} (h : Tl B w0 p r es W) (hg : W.grownBy W' (some mb)) (hm : ∀ b cs t, W.heap[b]? = some (.cells cs t (0, 0)) → b ≠ mb) (hB : B ≤ mb) : Tl B w0 p r es W' :=
  h.kept hg (fun e => hm _ _ _ h.row (Option.some.inj e)) (fun e => by obtain ⟨ps, hb, _⟩ := h.bits; exact hm _ _ _ hb (Option.some.inj e)) (fun k e => by cases e; exact hB) (fun b e hb e' => hm _ _ _ hb (Option.some.inj e'))
theorem CpuR.setR {B w0 q g mb n D p0 r0 p1 r1 e0 e1 W W' n' D'} (h : CpuR B w0 q g mb n D p0 r0 p1 r1 e0 e1 W) (hR : QRegsPlays.Regs B w0 g mb n' D' W') (hg : W.grownBy W' (some mb)) : CpuR B w0 q g mb n' D' p0 r0 p1 r1 e0 e1 W' :=
  ⟨⟨(hg.block q (blk_lt h.c.row) (fun e => h.nm _ _ _ h.c.row (Option.some.inj e))).trans h.c.row, h.c.a.keptM hg h.nm h.r.hm, h.c.b.keptM hg h.nm h.r.hm, h.c.ne⟩, hR⟩
theorem cpu_newR {B w0 W} (hb : Below B w0 W) (hB : B ≤ W.heap.size) (n : Int) :
    Calls Try.prog 32 #[.int .i64 n] W fun x W' => ∃ q g mb p0 r0 p1 r1 N, x = .returned (.pointer (some ⟨q, 0, none⟩)) ∧ N = slotsOf n ∧ 1 ≤ N ∧ CpuR B w0 q g mb 0 (.map []) p0 r0 p1 r1 (List.replicate N none) (List.replicate N none) W' ∧ W.grownBy W' none := by
  have HB := Aside0.mk hb
  have HS := Aside0.mk hB
  clear hb hB
  go_enter Try.func32, Try.ntmps32
  go_wp2_with fail
  refine (QRegsPlays.new_calls HB.out HS.out).mono ?_
  rintro x0 w1 ⟨g, mb, rfl, hR, hg⟩
  have HG := Aside0.mk hg
  have HR := Aside0.mk hR
  clear hg hR
  go_wp2_with fail
  refine (tl_new_ex (HB.out.grown HG.out HS.out (fun _ e => by cases e)) (Nat.le_trans HS.out HG.out.size) _).mono ?_
  rintro x0 w2 ⟨p0, r0, N, rfl, hN, hN1, hr0, hM, hg⟩
  have HM0 := Aside0.mk hM
  replace HR := Aside0.mk (HR.out.same hg)
  replace HG := Aside0.mk (grown_two HG.out hg)
  have HN := Aside0.mk hN
  have HN1 := Aside0.mk hN1
  clear hM hg hN hN1 hr0
  go_wp2_with fail
  refine (tl_new_ex (HB.out.grown HG.out HS.out (fun _ e => by cases e)) (Nat.le_trans HS.out HG.out.size) _).mono ?_
  rintro x0 w3 ⟨p1, r1, N2, rfl, hN2, -, hr1, hM, hg⟩
  obtain rfl : N2 = N := hN2.trans HN.out.symm
  have HNE := Aside0.mk (show r0 ≠ r1 from fun e => by subst e; have := HM0.out.rlt; omega)
  have HM1 := Aside0.mk hM
  replace HM0 := Aside0.mk (HM0.out.same hg)
  replace HR := Aside0.mk (HR.out.same hg)
  replace HG := Aside0.mk (grown_two HG.out hg)
  clear hM hg hN2 hr1
  go_wp2_with fail
  have hb2 := World.grownBy_alloc w3 (.cells #[.pointer (some ⟨g, 0, none⟩), .pointer (some ⟨p0, 0, none⟩), .pointer (some ⟨p1, 0, none⟩)] 81) none
  go_ret
  exact ⟨w3.heap.size, g, mb, p0, r0, p1, r1, N2, rfl, HN.out, HN1.out, ⟨⟨heap_alloc_new w3 _, HM0.out.same hb2, HM1.out.same hb2, HNE.out⟩, HR.out.same hb2⟩, grown_two HG.out hb2⟩
theorem miss_put_ {v c : Int} (h : (Lit.int .u64 v).wf = true) (h0 : 0 ≤ c) (h1 : c ≤ 8191) : QRegsPlays.field_Put.f v 0 13 c = some (v / 8192 * 8192 + c) := by
  obtain ⟨a0, a1⟩ := m_u64 h
  obtain ⟨A, rfl⟩ := Int.eq_ofNat_of_zero_le a0
  obtain ⟨C, rfl⟩ := Int.eq_ofNat_of_zero_le h0
  have := QRegsPlays.fPut A C (by omega) 0 13 (by omega) (by omega)
  rw [show ((0 : Nat) : Int) = 0 from rfl, show ((13 : Nat) : Int) = 13 from rfl] at this
  rw [this]
  refine congrArg some ?_
  unfold QRegsPlays.putOf
  simp only [Nat.pow_zero, Nat.div_one, Nat.mul_one, Nat.reducePow]
  omega
theorem miss_wf_ {v c : Int} (h : (Lit.int .u64 v).wf = true) (h0 : 0 ≤ c) (h1 : c ≤ 8191) : (Lit.int .u64 (v / 8192 * 8192 + c)).wf = true := by
  obtain ⟨a0, a1⟩ := m_u64 h
  simp [Lit.wf, IntKind.min, IntKind.max, IntKind.signed, IntKind.bits]
  omega
theorem note_miss0 {B w0 q g mb n D p0 r0 p1 r1 e0 e1 W} (h : CpuR B w0 q g mb n D p0 r0 p1 r1 e0 e1 W) (ctx kind : Int) (priv : Bool) (va : Int) (hva : (Lit.int .u64 va).wf = true) (hk : cpu_Unit.f kind = some 0) (hc : 0 ≤ ctx ∧ ctx ≤ 8191) (hn : n < 800000) (kd : Int) (hkd : kd = 2 ∨ kd = 5) :
    Calls Try.prog 43 #[.pointer (some ⟨q, 0, none⟩), .int .i64 ctx, .agg #[.int .i64 kind, .bool priv, .int .u64 va], .int .i64 kd] W fun x W' => x = .returned (.int .i64 0) ∧ CpuR B w0 q g mb (n + 1) (QRegsPlays.pk D 80 48 (va / 8192 * 8192 + ctx)) p0 r0 p1 r1 e0 e1 W' ∧ W.grownBy W' (some mb) := by
  have hu3 := Try.underlying61
  have hg0 := grown_two (World.grownBy_alloc W (.cells #[.int .i64 kind, .bool priv, .int .u64 va] 61) none) (grown_drew _ none)
  have HB6 := Aside0.mk (heap_alloc_new W (.cells #[.int .i64 kind, .bool priv, .int .u64 va] 61))
  have HM := Aside0.mk (h.same hg0)
  have HG := Aside0.mk hg0
  have HVA := Aside0.mk hva
  have HU := Aside0.mk hk
  have HC := Aside0.mk hc
  have HN := Aside0.mk hn
  have HKD := Aside0.mk hkd
  clear h hg0 hva hk hc hn hkd
  rcases HKD.out with rfl | rfl
  all_goals
    go_enter Try.func43, Try.ntmps43
    go_wp2_with fail
    generalize W.heap.size = h6 at HB6 ⊢
    refine start_ (n := 12) (S := fun w' => w'.heap[h6]? = some (.cells #[.int .i64 kind, .bool priv, .int .u64 va] 61 (0, 0)) ∧ w'.heap[q]? = some (.cells #[.pointer (some ⟨g, 0, none⟩), .pointer (some ⟨p0, 0, none⟩), .pointer (some ⟨p1, 0, none⟩)] 81 (0, 0))) (ds := []) #[false, false, false, false, false, false, false, false, false, false, false, false] (by kernel_rfl) rfl rfl ⟨HB6.out, HM.out.c.row⟩ (fun hHeld => ?_)
    refine with_tab note4_tab (fun HT_ => ?_)
    refine pure_ (i := 0) (N := some 13) (v := ?_) (a' := ?_) #[true, false, false, false, false, false, false, false, false, false, false, false] rfl rfl (any_of HT_.out (by kernel_rfl)) (fun _ _ _ h => h) (Or.inl ⟨by rfl, ?_⟩) ?_ ?_
    rotate_left
    · intro w'
      go_simp
      with_reducible rfl
    rotate_left
    · simp only [Act.put, List.setIfInBounds_toArray, List.set_cons_zero, List.set_cons_succ, i64_w, i32_w]
      rfl
    refine pure_ (i := 1) (N := some 14) (v := .pointer (some ⟨q, 0, none⟩)) (a' := ?_) #[true, true, false, false, false, false, false, false, false, false, false, false] rfl rfl (any_of HT_.out (by kernel_rfl)) (fun _ _ _ h => h) (Or.inl ⟨by rfl, ?_⟩) ?_ ?_
    · intro w'
      go_simp
    rotate_left
    · simp only [Act.put, List.setIfInBounds_toArray, List.set_cons_zero, List.set_cons_succ, i64_w, i32_w]
      rfl
    refine pure_ (i := 2) (N := some 15) (v := ?_) (a' := ?_) #[true, true, true, false, false, false, false, false, false, false, false, false] rfl rfl (any_of HT_.out (by kernel_rfl)) (fun _ _ _ h => h) (Or.inl ⟨by rfl, ?_⟩) ?_ ?_
    rotate_left
    · intro w'
      go_simp
      with_reducible rfl
    rotate_left
    · simp only [Act.put, List.setIfInBounds_toArray, List.set_cons_zero, List.set_cons_succ, i64_w, i32_w]
      rfl
    refine pure_ (i := 4) (N := some 17) (v := ?_) (a' := ?_) #[true, true, true, false, true, false, false, false, false, false, false, false] rfl rfl (any_of HT_.out (by kernel_rfl)) (fun _ _ _ h => h) (Or.inl ⟨by rfl, ?_⟩) ?_ ?_
    rotate_left
    · intro w'
      go_simp
      with_reducible rfl
    rotate_left
    · simp only [Act.put, List.setIfInBounds_toArray, List.set_cons_zero, List.set_cons_succ, i64_w, i32_w]
      rfl
    refine pure_ (i := 7) (N := some 20) (v := ?_) (a' := ?_) #[true, true, true, false, true, false, false, true, false, false, false, false] rfl rfl (any_of HT_.out (by kernel_rfl)) (fun _ _ _ h => h) (Or.inl ⟨by rfl, ?_⟩) ?_ ?_
    rotate_left
    · intro w'
      go_simp
      with_reducible rfl
    rotate_left
    · simp only [Act.put, List.setIfInBounds_toArray, List.set_cons_zero, List.set_cons_succ, i64_w, i32_w]
      rfl
    refine pure_ (i := 9) (N := some 22) (v := ?_) (a' := ?_) #[true, true, true, false, true, false, false, true, false, true, false, false] rfl rfl (any_of HT_.out (by kernel_rfl)) (fun _ _ _ h => h) (Or.inl ⟨by rfl, ?_⟩) ?_ ?_
    rotate_left
    · intro w'
      go_simp
      with_reducible rfl
    rotate_left
    · simp only [Act.put, List.setIfInBounds_toArray, List.set_cons_zero, List.set_cons_succ, i64_w, i32_w]
      rfl
    refine take_ (i := 3) (N := some 16) (v := .pointer (some ⟨g, 0, none⟩)) (a' := ?_) #[true, true, true, true, true, false, false, true, false, true, false, false] rfl rfl (take_of HT_.out (by kernel_rfl)) (fun _ _ _ h => h) (Or.inl ⟨by rfl, ?_⟩) hHeld ?_ ?_
    · rintro w' ⟨s1, s2⟩
      obtain ⟨d0, d1, d2⟩ := cz3 s2
      go_simp
    rotate_left
    · simp only [Act.put, List.setIfInBounds_toArray, List.set_cons_zero, List.set_cons_succ, i64_w, i32_w]
      rfl
    refine take_ (i := 5) (N := some 18) (v := .int .i64 kind) (a' := ?_) #[true, true, true, true, true, true, false, true, false, true, false, false] rfl rfl (take_of HT_.out (by kernel_rfl)) (fun _ _ _ h => h) (Or.inl ⟨by rfl, ?_⟩) hHeld ?_ ?_
    · rintro w' ⟨s1, s2⟩
      obtain ⟨y0, y1, y2⟩ := cz3 s1
      go_simp
    rotate_left
    · simp only [Act.put, List.setIfInBounds_toArray, List.set_cons_zero, List.set_cons_succ, i64_w, i32_w]
      rfl
    refine take_ (i := 8) (N := some 21) (v := .int .u64 va) (a' := ?_) #[true, true, true, true, true, true, false, true, true, true, false, false] rfl rfl (take_of HT_.out (by kernel_rfl)) (fun _ _ _ h => h) (Or.inl ⟨by rfl, ?_⟩) hHeld ?_ ?_
    · rintro w' ⟨s1, s2⟩
      obtain ⟨y0, y1, y2⟩ := cz3 s1
      go_simp
    rotate_left
    · simp only [Act.put, List.setIfInBounds_toArray, List.set_cons_zero, List.set_cons_succ, i64_w, i32_w]
      rfl
    refine one_ (i := 6) (N := some 19) #[true, true, true, true, true, true, true, true, true, true, false, false] rfl rfl (one_of HT_.out (by kernel_rfl)) (by decide) (fun K hK => ?_)
    refine goes_ Try.func34 (by kernel_rfl) rfl #[.int .i64 kind] (by rfl) rfl rfl (by (try simp only [List.map_toArray, List.map_cons, List.map_nil]); first | done | rfl) ?_
    refine (cpu_Unit.calls kind 0 _ HU.out).mono ?_
    rintro x0 wn ⟨rfl, hb⟩
    have hg := drawn_grown hb
    replace HG := Aside0.mk (grown_two HG.out hg)
    replace HM := Aside0.mk (HM.out.same hg)
    have hs : wn.heap[h6]? = some (.cells #[.int .i64 kind, .bool priv, .int .u64 va] 61 (0, 0)) ∧ wn.heap[q]? = some (.cells #[.pointer (some ⟨g, 0, none⟩), .pointer (some ⟨p0, 0, none⟩), .pointer (some ⟨p1, 0, none⟩)] 81 (0, 0)) := ⟨blk_grown hHeld.1 hg, blk_grown hHeld.2 hg⟩
    clear hg hb
    refine ⟨_, rfl, ?_⟩
    refine hK.out _ _ hs (fun hHeld => ?_)
    clear hK K
    refine norm_ (a' := ?_) ?_ ?_
    rotate_left
    · show Act.put _ (some 19) _ = _
      simp only [Act.put, List.setIfInBounds_toArray, List.set_cons_zero, List.set_cons_succ, i64_w, i32_w]
      rfl
    refine one_ (i := 10) (N := some 23) #[true, true, true, true, true, true, true, true, true, true, true, false] rfl rfl (one_of HT_.out (by kernel_rfl)) (by decide) (fun K hK => ?_)
    refine goes_ Try.func79 (by kernel_rfl) rfl #[.pointer (some ⟨g, 0, none⟩), .int .i64 0, .int .u64 va, .int .i64 ctx] (by rfl) rfl rfl (by (try simp only [List.map_toArray, List.map_cons, List.map_nil]); first | done | rfl) ?_
    refine (QRegsPlays.miss_ok HM.out.r 0 80 rfl rfl (by decide) va ctx _ HC.out.1 HC.out.2 (miss_put_ HVA.out HC.out.1 HC.out.2) (miss_wf_ HVA.out HC.out.1 HC.out.2) (Nat.lt_of_lt_of_le HN.out (by decide))).mono ?_
    rintro x0 wn ⟨rfl, hR, hg⟩
    have HM2 := Aside0.mk (HM.out.setR hR hg)
    have HG2 := Aside0.mk (grown_two (grown_but HG.out (some mb)) hg)
    have hs : wn.heap[h6]? = some (.cells #[.int .i64 kind, .bool priv, .int .u64 va] 61 (0, 0)) ∧ wn.heap[q]? = some (.cells #[.pointer (some ⟨g, 0, none⟩), .pointer (some ⟨p0, 0, none⟩), .pointer (some ⟨p1, 0, none⟩)] 81 (0, 0)) := ⟨(hg.block h6 (blk_lt hHeld.1) (fun e => HM.out.nm _ _ _ hHeld.1 (Option.some.inj e))).trans hHeld.1, HM2.out.c.row⟩
    clear hR hg HM HG
    refine ⟨_, rfl, ?_⟩
    refine hK.out _ _ hs (fun hHeld => ?_)
    clear hK K
    refine norm_ (a' := ?_) ?_ ?_
    rotate_left
    · show Act.put _ (some 23) _ = _
      simp only [Act.put, List.setIfInBounds_toArray, List.set_cons_zero, List.set_cons_succ, i64_w, i32_w]
      rfl
    refine pure_ (i := 11) (N := some 8) (v := ?_) (a' := ?_) #[true, true, true, true, true, true, true, true, true, true, true, true] rfl rfl (any_of HT_.out (by kernel_rfl)) (fun _ _ _ h => h) (Or.inl ⟨by rfl, ?_⟩) ?_ ?_
    rotate_left
    · intro w'
      go_simp
      with_reducible rfl
    rotate_left
    · simp only [Act.put, List.setIfInBounds_toArray, List.set_cons_zero, List.set_cons_succ, i64_w, i32_w]
      rfl
    refine done_ (done_of HT_.out (by kernel_rfl)) ?_
    go_wp2
    go_ret
    exact ⟨rfl, HM2.out, HG2.out⟩
theorem note_miss1 {B w0 q g mb n D p0 r0 p1 r1 e0 e1 W} (h : CpuR B w0 q g mb n D p0 r0 p1 r1 e0 e1 W) (ctx kind : Int) (priv : Bool) (va : Int) (hva : (Lit.int .u64 va).wf = true) (hk : cpu_Unit.f kind = some 1) (hc : 0 ≤ ctx ∧ ctx ≤ 8191) (hn : n < 800000) (kd : Int) (hkd : kd = 2 ∨ kd = 5) :
    Calls Try.prog 43 #[.pointer (some ⟨q, 0, none⟩), .int .i64 ctx, .agg #[.int .i64 kind, .bool priv, .int .u64 va], .int .i64 kd] W fun x W' => x = .returned (.int .i64 0) ∧ CpuR B w0 q g mb (n + 1) (QRegsPlays.pk D 88 48 (va / 8192 * 8192 + ctx)) p0 r0 p1 r1 e0 e1 W' ∧ W.grownBy W' (some mb) := by
  have hu3 := Try.underlying61
  have hg0 := grown_two (World.grownBy_alloc W (.cells #[.int .i64 kind, .bool priv, .int .u64 va] 61) none) (grown_drew _ none)
  have HB6 := Aside0.mk (heap_alloc_new W (.cells #[.int .i64 kind, .bool priv, .int .u64 va] 61))
  have HM := Aside0.mk (h.same hg0)
  have HG := Aside0.mk hg0
  have HVA := Aside0.mk hva
  have HU := Aside0.mk hk
  have HC := Aside0.mk hc
  have HN := Aside0.mk hn
  have HKD := Aside0.mk hkd
  clear h hg0 hva hk hc hn hkd
  rcases HKD.out with rfl | rfl
  all_goals
    go_enter Try.func43, Try.ntmps43
    go_wp2_with fail
    generalize W.heap.size = h6 at HB6 ⊢
    refine start_ (n := 12) (S := fun w' => w'.heap[h6]? = some (.cells #[.int .i64 kind, .bool priv, .int .u64 va] 61 (0, 0)) ∧ w'.heap[q]? = some (.cells #[.pointer (some ⟨g, 0, none⟩), .pointer (some ⟨p0, 0, none⟩), .pointer (some ⟨p1, 0, none⟩)] 81 (0, 0))) (ds := []) #[false, false, false, false, false, false, false, false, false, false, false, false] (by kernel_rfl) rfl rfl ⟨HB6.out, HM.out.c.row⟩ (fun hHeld => ?_)
    refine with_tab note4_tab (fun HT_ => ?_)
    refine pure_ (i := 0) (N := some 13) (v := ?_) (a' := ?_) #[true, false, false, false, false, false, false, false, false, false, false, false] rfl rfl (any_of HT_.out (by kernel_rfl)) (fun _ _ _ h => h) (Or.inl ⟨by rfl, ?_⟩) ?_ ?_
    rotate_left
    · intro w'
      go_simp
      with_reducible rfl
    rotate_left
    · simp only [Act.put, List.setIfInBounds_toArray, List.set_cons_zero, List.set_cons_succ, i64_w, i32_w]
      rfl
    refine pure_ (i := 1) (N := some 14) (v := .pointer (some ⟨q, 0, none⟩)) (a' := ?_) #[true, true, false, false, false, false, false, false, false, false, false, false] rfl rfl (any_of HT_.out (by kernel_rfl)) (fun _ _ _ h => h) (Or.inl ⟨by rfl, ?_⟩) ?_ ?_
    · intro w'
      go_simp
    rotate_left
    · simp only [Act.put, List.setIfInBounds_toArray, List.set_cons_zero, List.set_cons_succ, i64_w, i32_w]
      rfl
    refine pure_ (i := 2) (N := some 15) (v := ?_) (a' := ?_) #[true, true, true, false, false, false, false, false, false, false, false, false] rfl rfl (any_of HT_.out (by kernel_rfl)) (fun _ _ _ h => h) (Or.inl ⟨by rfl, ?_⟩) ?_ ?_
    rotate_left
    · intro w'
      go_simp
      with_reducible rfl
    rotate_left
    · simp only [Act.put, List.setIfInBounds_toArray, List.set_cons_zero, List.set_cons_succ, i64_w, i32_w]
      rfl
    refine pure_ (i := 4) (N := some 17) (v := ?_) (a' := ?_) #[true, true, true, false, true, false, false, false, false, false, false, false] rfl rfl (any_of HT_.out (by kernel_rfl)) (fun _ _ _ h => h) (Or.inl ⟨by rfl, ?_⟩) ?_ ?_
    rotate_left
    · intro w'
      go_simp
      with_reducible rfl
    rotate_left
    · simp only [Act.put, List.setIfInBounds_toArray, List.set_cons_zero, List.set_cons_succ, i64_w, i32_w]
      rfl
    refine pure_ (i := 7) (N := some 20) (v := ?_) (a' := ?_) #[true, true, true, false, true, false, false, true, false, false, false, false] rfl rfl (any_of HT_.out (by kernel_rfl)) (fun _ _ _ h => h) (Or.inl ⟨by rfl, ?_⟩) ?_ ?_
    rotate_left
    · intro w'
      go_simp
      with_reducible rfl
    rotate_left
    · simp only [Act.put, List.setIfInBounds_toArray, List.set_cons_zero, List.set_cons_succ, i64_w, i32_w]
      rfl
    refine pure_ (i := 9) (N := some 22) (v := ?_) (a' := ?_) #[true, true, true, false, true, false, false, true, false, true, false, false] rfl rfl (any_of HT_.out (by kernel_rfl)) (fun _ _ _ h => h) (Or.inl ⟨by rfl, ?_⟩) ?_ ?_
    rotate_left
    · intro w'
      go_simp
      with_reducible rfl
    rotate_left
    · simp only [Act.put, List.setIfInBounds_toArray, List.set_cons_zero, List.set_cons_succ, i64_w, i32_w]
      rfl
    refine take_ (i := 3) (N := some 16) (v := .pointer (some ⟨g, 0, none⟩)) (a' := ?_) #[true, true, true, true, true, false, false, true, false, true, false, false] rfl rfl (take_of HT_.out (by kernel_rfl)) (fun _ _ _ h => h) (Or.inl ⟨by rfl, ?_⟩) hHeld ?_ ?_
    · rintro w' ⟨s1, s2⟩
      obtain ⟨d0, d1, d2⟩ := cz3 s2
      go_simp
    rotate_left
    · simp only [Act.put, List.setIfInBounds_toArray, List.set_cons_zero, List.set_cons_succ, i64_w, i32_w]
      rfl
    refine take_ (i := 5) (N := some 18) (v := .int .i64 kind) (a' := ?_) #[true, true, true, true, true, true, false, true, false, true, false, false] rfl rfl (take_of HT_.out (by kernel_rfl)) (fun _ _ _ h => h) (Or.inl ⟨by rfl, ?_⟩) hHeld ?_ ?_
    · rintro w' ⟨s1, s2⟩
      obtain ⟨y0, y1, y2⟩ := cz3 s1
      go_simp
    rotate_left
    · simp only [Act.put, List.setIfInBounds_toArray, List.set_cons_zero, List.set_cons_succ, i64_w, i32_w]
      rfl
    refine take_ (i := 8) (N := some 21) (v := .int .u64 va) (a' := ?_) #[true, true, true, true, true, true, false, true, true, true, false, false] rfl rfl (take_of HT_.out (by kernel_rfl)) (fun _ _ _ h => h) (Or.inl ⟨by rfl, ?_⟩) hHeld ?_ ?_
    · rintro w' ⟨s1, s2⟩
      obtain ⟨y0, y1, y2⟩ := cz3 s1
      go_simp
    rotate_left
    · simp only [Act.put, List.setIfInBounds_toArray, List.set_cons_zero, List.set_cons_succ, i64_w, i32_w]
      rfl
    refine one_ (i := 6) (N := some 19) #[true, true, true, true, true, true, true, true, true, true, false, false] rfl rfl (one_of HT_.out (by kernel_rfl)) (by decide) (fun K hK => ?_)
    refine goes_ Try.func34 (by kernel_rfl) rfl #[.int .i64 kind] (by rfl) rfl rfl (by (try simp only [List.map_toArray, List.map_cons, List.map_nil]); first | done | rfl) ?_
    refine (cpu_Unit.calls kind 1 _ HU.out).mono ?_
    rintro x0 wn ⟨rfl, hb⟩
    have hg := drawn_grown hb
    replace HG := Aside0.mk (grown_two HG.out hg)
    replace HM := Aside0.mk (HM.out.same hg)
    have hs : wn.heap[h6]? = some (.cells #[.int .i64 kind, .bool priv, .int .u64 va] 61 (0, 0)) ∧ wn.heap[q]? = some (.cells #[.pointer (some ⟨g, 0, none⟩), .pointer (some ⟨p0, 0, none⟩), .pointer (some ⟨p1, 0, none⟩)] 81 (0, 0)) := ⟨blk_grown hHeld.1 hg, blk_grown hHeld.2 hg⟩
    clear hg hb
    refine ⟨_, rfl, ?_⟩
    refine hK.out _ _ hs (fun hHeld => ?_)
    clear hK K
    refine norm_ (a' := ?_) ?_ ?_
    rotate_left
    · show Act.put _ (some 19) _ = _
      simp only [Act.put, List.setIfInBounds_toArray, List.set_cons_zero, List.set_cons_succ, i64_w, i32_w]
      rfl
    refine one_ (i := 10) (N := some 23) #[true, true, true, true, true, true, true, true, true, true, true, false] rfl rfl (one_of HT_.out (by kernel_rfl)) (by decide) (fun K hK => ?_)
    refine goes_ Try.func79 (by kernel_rfl) rfl #[.pointer (some ⟨g, 0, none⟩), .int .i64 1, .int .u64 va, .int .i64 ctx] (by rfl) rfl rfl (by (try simp only [List.map_toArray, List.map_cons, List.map_nil]); first | done | rfl) ?_
    refine (QRegsPlays.miss_ok HM.out.r 1 88 rfl rfl (by decide) va ctx _ HC.out.1 HC.out.2 (miss_put_ HVA.out HC.out.1 HC.out.2) (miss_wf_ HVA.out HC.out.1 HC.out.2) (Nat.lt_of_lt_of_le HN.out (by decide))).mono ?_
    rintro x0 wn ⟨rfl, hR, hg⟩
    have HM2 := Aside0.mk (HM.out.setR hR hg)
    have HG2 := Aside0.mk (grown_two (grown_but HG.out (some mb)) hg)
    have hs : wn.heap[h6]? = some (.cells #[.int .i64 kind, .bool priv, .int .u64 va] 61 (0, 0)) ∧ wn.heap[q]? = some (.cells #[.pointer (some ⟨g, 0, none⟩), .pointer (some ⟨p0, 0, none⟩), .pointer (some ⟨p1, 0, none⟩)] 81 (0, 0)) := ⟨(hg.block h6 (blk_lt hHeld.1) (fun e => HM.out.nm _ _ _ hHeld.1 (Option.some.inj e))).trans hHeld.1, HM2.out.c.row⟩
    clear hR hg HM HG
    refine ⟨_, rfl, ?_⟩
    refine hK.out _ _ hs (fun hHeld => ?_)
    clear hK K
    refine norm_ (a' := ?_) ?_ ?_
    rotate_left
    · show Act.put _ (some 23) _ = _
      simp only [Act.put, List.setIfInBounds_toArray, List.set_cons_zero, List.set_cons_succ, i64_w, i32_w]
      rfl
    refine pure_ (i := 11) (N := some 8) (v := ?_) (a' := ?_) #[true, true, true, true, true, true, true, true, true, true, true, true] rfl rfl (any_of HT_.out (by kernel_rfl)) (fun _ _ _ h => h) (Or.inl ⟨by rfl, ?_⟩) ?_ ?_
    rotate_left
    · intro w'
      go_simp
      with_reducible rfl
    rotate_left
    · simp only [Act.put, List.setIfInBounds_toArray, List.set_cons_zero, List.set_cons_succ, i64_w, i32_w]
      rfl
    refine done_ (done_of HT_.out (by kernel_rfl)) ?_
    go_wp2
    go_ret
    exact ⟨rfl, HM2.out, HG2.out⟩
theorem note_fault0 {B w0 q g mb n D p0 r0 p1 r1 e0 e1 W} (h : CpuR B w0 q g mb n D p0 r0 p1 r1 e0 e1 W) (ctx kind : Int) (priv : Bool) (va : Int) (hva : (Lit.int .u64 va).wf = true) (hk : cpu_Unit.f kind = some 0) (hc : 0 ≤ ctx ∧ ctx ≤ 8191) (hn : n < 800000) (kd : Int) (tk : Int) (hkd : (kd = 1 ∧ tk = 32) ∨ (kd = 3 ∧ tk = 1) ∨ (kd = 4 ∧ tk = 2) ∨ (kd = 6 ∧ tk = 16)) :
    Calls Try.prog 43 #[.pointer (some ⟨q, 0, none⟩), .int .i64 ctx, .agg #[.int .i64 kind, .bool priv, .int .u64 va], .int .i64 kd] W fun x W' => x = .returned (.int .i64 0) ∧ CpuR B w0 q g mb (n + 2) (QRegsPlays.pk D 80 24 (QRegsPlays.stw (QRegsPlays.rdk D 80 24 % 2 == 1) (kind == 1) priv tk 128)) p0 r0 p1 r1 e0 e1 W' ∧ W.grownBy W' (some mb) := by
  have hu3 := Try.underlying61
  have hg0 := grown_two (World.grownBy_alloc W (.cells #[.int .i64 kind, .bool priv, .int .u64 va] 61) none) (grown_drew _ none)
  have HB6 := Aside0.mk (heap_alloc_new W (.cells #[.int .i64 kind, .bool priv, .int .u64 va] 61))
  have HM := Aside0.mk (h.same hg0)
  have HG := Aside0.mk hg0
  have HVA := Aside0.mk hva
  have HU := Aside0.mk hk
  have HC := Aside0.mk hc
  have HN := Aside0.mk hn
  have HKD := Aside0.mk hkd
  have HT := Aside0.mk (show QRegsPlays.fault_Type.f kd = some tk by rcases hkd with ⟨rfl, rfl⟩ | ⟨rfl, rfl⟩ | ⟨rfl, rfl⟩ | ⟨rfl, rfl⟩ <;> rfl)
  have HTK := Aside0.mk (show 0 ≤ tk ∧ tk < 128 by omega)
  clear h hg0 hva hk hc hn
  have hkd2 := HKD.out
  clear HKD
  rcases hkd2 with ⟨rfl, rfl⟩ | ⟨rfl, rfl⟩ | ⟨rfl, rfl⟩ | ⟨rfl, rfl⟩
  ·
    go_enter Try.func43, Try.ntmps43
    go_wp2_with fail
    generalize W.heap.size = h6 at HB6 ⊢
    refine start_ (n := 18) (S := fun w' => w'.heap[h6]? = some (.cells #[.int .i64 kind, .bool priv, .int .u64 va] 61 (0, 0)) ∧ w'.heap[q]? = some (.cells #[.pointer (some ⟨g, 0, none⟩), .pointer (some ⟨p0, 0, none⟩), .pointer (some ⟨p1, 0, none⟩)] 81 (0, 0))) (ds := []) #[false, false, false, false, false, false, false, false, false, false, false, false, false, false, false, false, false, false] (by kernel_rfl) rfl rfl ⟨HB6.out, HM.out.c.row⟩ (fun hHeld => ?_)
    refine with_tab note9_tab (fun HT_ => ?_)
    refine pure_ (i := 0) (N := some 29) (v := ?_) (a' := ?_) #[true, false, false, false, false, false, false, false, false, false, false, false, false, false, false, false, false, false] rfl rfl (any_of HT_.out (by kernel_rfl)) (fun _ _ _ h => h) (Or.inl ⟨by rfl, ?_⟩) ?_ ?_
    rotate_left
    · intro w'
      go_simp
      with_reducible rfl
    rotate_left
    · simp only [Act.put, List.setIfInBounds_toArray, List.set_cons_zero, List.set_cons_succ, i64_w, i32_w]
      rfl
    refine pure_ (i := 1) (N := some 30) (v := .pointer (some ⟨q, 0, none⟩)) (a' := ?_) #[true, true, false, false, false, false, false, false, false, false, false, false, false, false, false, false, false, false] rfl rfl (any_of HT_.out (by kernel_rfl)) (fun _ _ _ h => h) (Or.inl ⟨by rfl, ?_⟩) ?_ ?_
    · intro w'
      go_simp
    rotate_left
    · simp only [Act.put, List.setIfInBounds_toArray, List.set_cons_zero, List.set_cons_succ, i64_w, i32_w]
      rfl
    refine pure_ (i := 2) (N := some 31) (v := ?_) (a' := ?_) #[true, true, true, false, false, false, false, false, false, false, false, false, false, false, false, false, false, false] rfl rfl (any_of HT_.out (by kernel_rfl)) (fun _ _ _ h => h) (Or.inl ⟨by rfl, ?_⟩) ?_ ?_
    rotate_left
    · intro w'
      go_simp
      with_reducible rfl
    rotate_left
    · simp only [Act.put, List.setIfInBounds_toArray, List.set_cons_zero, List.set_cons_succ, i64_w, i32_w]
      rfl
    refine pure_ (i := 4) (N := some 33) (v := ?_) (a' := ?_) #[true, true, true, false, true, false, false, false, false, false, false, false, false, false, false, false, false, false] rfl rfl (any_of HT_.out (by kernel_rfl)) (fun _ _ _ h => h) (Or.inl ⟨by rfl, ?_⟩) ?_ ?_
    rotate_left
    · intro w'
      go_simp
      with_reducible rfl
    rotate_left
    · simp only [Act.put, List.setIfInBounds_toArray, List.set_cons_zero, List.set_cons_succ, i64_w, i32_w]
      rfl
    refine pure_ (i := 7) (N := some 36) (v := ?_) (a' := ?_) #[true, true, true, false, true, false, false, true, false, false, false, false, false, false, false, false, false, false] rfl rfl (any_of HT_.out (by kernel_rfl)) (fun _ _ _ h => h) (Or.inl ⟨by rfl, ?_⟩) ?_ ?_
    rotate_left
    · intro w'
      go_simp
      with_reducible rfl
    rotate_left
    · simp only [Act.put, List.setIfInBounds_toArray, List.set_cons_zero, List.set_cons_succ, i64_w, i32_w]
      rfl
    refine pure_ (i := 9) (N := some 38) (v := ?_) (a' := ?_) #[true, true, true, false, true, false, false, true, false, true, false, false, false, false, false, false, false, false] rfl rfl (any_of HT_.out (by kernel_rfl)) (fun _ _ _ h => h) (Or.inl ⟨by rfl, ?_⟩) ?_ ?_
    rotate_left
    · intro w'
      go_simp
      with_reducible rfl
    rotate_left
    · simp only [Act.put, List.setIfInBounds_toArray, List.set_cons_zero, List.set_cons_succ, i64_w, i32_w]
      rfl
    refine pure_ (i := 12) (N := some 41) (v := ?_) (a' := ?_) #[true, true, true, false, true, false, false, true, false, true, false, false, true, false, false, false, false, false] rfl rfl (any_of HT_.out (by kernel_rfl)) (fun _ _ _ h => h) (Or.inl ⟨by rfl, ?_⟩) ?_ ?_
    rotate_left
    · intro w'
      go_simp
      with_reducible rfl
    rotate_left
    · simp only [Act.put, List.setIfInBounds_toArray, List.set_cons_zero, List.set_cons_succ, i64_w, i32_w]
      rfl
    refine pure_ (i := 14) (N := some 43) (v := ?_) (a' := ?_) #[true, true, true, false, true, false, false, true, false, true, false, false, true, false, true, false, false, false] rfl rfl (any_of HT_.out (by kernel_rfl)) (fun _ _ _ h => h) (Or.inl ⟨by rfl, ?_⟩) ?_ ?_
    rotate_left
    · intro w'
      go_simp
      with_reducible rfl
    rotate_left
    · simp only [Act.put, List.setIfInBounds_toArray, List.set_cons_zero, List.set_cons_succ, i64_w, i32_w]
      rfl
    refine take_ (i := 3) (N := some 32) (v := .pointer (some ⟨g, 0, none⟩)) (a' := ?_) #[true, true, true, true, true, false, false, true, false, true, false, false, true, false, true, false, false, false] rfl rfl (take_of HT_.out (by kernel_rfl)) (fun _ _ _ h => h) (Or.inl ⟨by rfl, ?_⟩) hHeld ?_ ?_
    · rintro w' ⟨s1, s2⟩
      obtain ⟨d0, d1, d2⟩ := cz3 s2
      go_simp
    rotate_left
    · simp only [Act.put, List.setIfInBounds_toArray, List.set_cons_zero, List.set_cons_succ, i64_w, i32_w]
      rfl
    refine take_ (i := 5) (N := some 34) (v := .int .i64 kind) (a' := ?_) #[true, true, true, true, true, true, false, true, false, true, false, false, true, false, true, false, false, false] rfl rfl (take_of HT_.out (by kernel_rfl)) (fun _ _ _ h => h) (Or.inl ⟨by rfl, ?_⟩) hHeld ?_ ?_
    · rintro w' ⟨s1, s2⟩
      obtain ⟨y0, y1, y2⟩ := cz3 s1
      go_simp
    rotate_left
    · simp only [Act.put, List.setIfInBounds_toArray, List.set_cons_zero, List.set_cons_succ, i64_w, i32_w]
      rfl
    refine take_ (i := 10) (N := some 39) (v := .int .i64 kind) (a' := ?_) #[true, true, true, true, true, true, false, true, false, true, true, false, true, false, true, false, false, false] rfl rfl (take_of HT_.out (by kernel_rfl)) (fun _ _ _ h => h) (Or.inl ⟨by rfl, ?_⟩) hHeld ?_ ?_
    · rintro w' ⟨s1, s2⟩
      obtain ⟨y0, y1, y2⟩ := cz3 s1
      go_simp
    rotate_left
    · simp only [Act.put, List.setIfInBounds_toArray, List.set_cons_zero, List.set_cons_succ, i64_w, i32_w]
      rfl
    refine pure_ (i := 11) (N := some 40) (v := .bool (kind == 1)) (a' := ?_) #[true, true, true, true, true, true, false, true, false, true, true, true, true, false, true, false, false, false] rfl rfl (any_of HT_.out (by kernel_rfl)) (fun _ _ _ h => h) (Or.inl ⟨by rfl, ?_⟩) ?_ ?_
    · intro w'
      go_simp
    rotate_left
    · simp only [Act.put, List.setIfInBounds_toArray, List.set_cons_zero, List.set_cons_succ, i64_w, i32_w]
      rfl
    refine take_ (i := 13) (N := some 42) (v := .bool priv) (a' := ?_) #[true, true, true, true, true, true, false, true, false, true, true, true, true, true, true, false, false, false] rfl rfl (take_of HT_.out (by kernel_rfl)) (fun _ _ _ h => h) (Or.inl ⟨by rfl, ?_⟩) hHeld ?_ ?_
    · rintro w' ⟨s1, s2⟩
      obtain ⟨y0, y1, y2⟩ := cz3 s1
      go_simp
    rotate_left
    · simp only [Act.put, List.setIfInBounds_toArray, List.set_cons_zero, List.set_cons_succ, i64_w, i32_w]
      rfl
    refine take_ (i := 15) (N := some 44) (v := .int .u64 va) (a' := ?_) #[true, true, true, true, true, true, false, true, false, true, true, true, true, true, true, true, false, false] rfl rfl (take_of HT_.out (by kernel_rfl)) (fun _ _ _ h => h) (Or.inl ⟨by rfl, ?_⟩) hHeld ?_ ?_
    · rintro w' ⟨s1, s2⟩
      obtain ⟨y0, y1, y2⟩ := cz3 s1
      go_simp
    rotate_left
    · simp only [Act.put, List.setIfInBounds_toArray, List.set_cons_zero, List.set_cons_succ, i64_w, i32_w]
      rfl
    refine one_ (i := 6) (N := some 35) #[true, true, true, true, true, true, true, true, false, true, true, true, true, true, true, true, false, false] rfl rfl (one_of HT_.out (by kernel_rfl)) (by decide) (fun K hK => ?_)
    refine goes_ Try.func34 (by kernel_rfl) rfl #[.int .i64 kind] (by rfl) rfl rfl (by (try simp only [List.map_toArray, List.map_cons, List.map_nil]); first | done | rfl) ?_
    refine (cpu_Unit.calls kind 0 _ HU.out).mono ?_
    rintro x0 wn ⟨rfl, hb⟩
    have hg := drawn_grown hb
    replace HG := Aside0.mk (grown_two HG.out hg)
    replace HM := Aside0.mk (HM.out.same hg)
    have hs : wn.heap[h6]? = some (.cells #[.int .i64 kind, .bool priv, .int .u64 va] 61 (0, 0)) ∧ wn.heap[q]? = some (.cells #[.pointer (some ⟨g, 0, none⟩), .pointer (some ⟨p0, 0, none⟩), .pointer (some ⟨p1, 0, none⟩)] 81 (0, 0)) := ⟨blk_grown hHeld.1 hg, blk_grown hHeld.2 hg⟩
    clear hg hb
    refine ⟨_, rfl, ?_⟩
    refine hK.out _ _ hs (fun hHeld => ?_)
    clear hK K
    refine norm_ (a' := ?_) ?_ ?_
    rotate_left
    · show Act.put _ (some 35) _ = _
      simp only [Act.put, List.setIfInBounds_toArray, List.set_cons_zero, List.set_cons_succ, i64_w, i32_w]
      rfl
    refine one_ (i := 8) (N := some 37) #[true, true, true, true, true, true, true, true, true, true, true, true, true, true, true, true, false, false] rfl rfl (one_of HT_.out (by kernel_rfl)) (by decide) (fun K hK => ?_)
    refine goes_ Try.func81 (by kernel_rfl) rfl #[.int .i64 1] (by rfl) rfl rfl (by (try simp only [List.map_toArray, List.map_cons, List.map_nil]); first | done | rfl) ?_
    refine (QRegsPlays.fault_Type.calls 1 32 _ HT.out).mono ?_
    rintro x0 wn ⟨rfl, hb⟩
    have hg := below_grown hb
    replace HG := Aside0.mk (grown_two HG.out hg)
    replace HM := Aside0.mk (HM.out.same hg)
    have hs : wn.heap[h6]? = some (.cells #[.int .i64 kind, .bool priv, .int .u64 va] 61 (0, 0)) ∧ wn.heap[q]? = some (.cells #[.pointer (some ⟨g, 0, none⟩), .pointer (some ⟨p0, 0, none⟩), .pointer (some ⟨p1, 0, none⟩)] 81 (0, 0)) := ⟨blk_grown hHeld.1 hg, blk_grown hHeld.2 hg⟩
    clear hg hb
    refine ⟨_, rfl, ?_⟩
    refine hK.out _ _ hs (fun hHeld => ?_)
    clear hK K
    refine norm_ (a' := ?_) ?_ ?_
    rotate_left
    · show Act.put _ (some 37) _ = _
      simp only [Act.put, List.setIfInBounds_toArray, List.set_cons_zero, List.set_cons_succ, i64_w, i32_w]
      rfl
    refine one_ (i := 16) (N := some 45) #[true, true, true, true, true, true, true, true, true, true, true, true, true, true, true, true, true, false] rfl rfl (one_of HT_.out (by kernel_rfl)) (by decide) (fun K hK => ?_)
    refine goes_ Try.func80 (by kernel_rfl) rfl #[.pointer (some ⟨g, 0, none⟩), .int .i64 0, .int .i64 32, .int .i64 128, .bool (kind == 1), .bool priv, .int .u64 va] (by rfl) rfl rfl (by (try simp only [List.map_toArray, List.map_cons, List.map_nil]); first | done | rfl) ?_
    refine (QRegsPlays.fault_i_ok HM.out.r 32 128 (kind == 1) priv va HVA.out HTK.out.1 HTK.out.2 (by decide) (by decide) (Nat.lt_of_lt_of_le HN.out (by decide))).mono ?_
    rintro x0 wn ⟨rfl, hR, hg⟩
    have HM2 := Aside0.mk (HM.out.setR hR hg)
    have HG2 := Aside0.mk (grown_two (grown_but HG.out (some mb)) hg)
    have hs : wn.heap[h6]? = some (.cells #[.int .i64 kind, .bool priv, .int .u64 va] 61 (0, 0)) ∧ wn.heap[q]? = some (.cells #[.pointer (some ⟨g, 0, none⟩), .pointer (some ⟨p0, 0, none⟩), .pointer (some ⟨p1, 0, none⟩)] 81 (0, 0)) := ⟨(hg.block h6 (blk_lt hHeld.1) (fun e => HM.out.nm _ _ _ hHeld.1 (Option.some.inj e))).trans hHeld.1, HM2.out.c.row⟩
    clear hR hg HM HG
    refine ⟨_, rfl, ?_⟩
    refine hK.out _ _ hs (fun hHeld => ?_)
    clear hK K
    refine norm_ (a' := ?_) ?_ ?_
    rotate_left
    · show Act.put _ (some 45) _ = _
      simp only [Act.put, List.setIfInBounds_toArray, List.set_cons_zero, List.set_cons_succ, i64_w, i32_w]
      rfl
    refine pure_ (i := 17) (N := some 8) (v := ?_) (a' := ?_) #[true, true, true, true, true, true, true, true, true, true, true, true, true, true, true, true, true, true] rfl rfl (any_of HT_.out (by kernel_rfl)) (fun _ _ _ h => h) (Or.inl ⟨by rfl, ?_⟩) ?_ ?_
    rotate_left
    · intro w'
      go_simp
      with_reducible rfl
    rotate_left
    · simp only [Act.put, List.setIfInBounds_toArray, List.set_cons_zero, List.set_cons_succ, i64_w, i32_w]
      rfl
    refine done_ (done_of HT_.out (by kernel_rfl)) ?_
    go_wp2
    go_ret
    exact ⟨rfl, HM2.out, HG2.out⟩
  ·
    go_enter Try.func43, Try.ntmps43
    go_wp2_with fail
    generalize W.heap.size = h6 at HB6 ⊢
    refine start_ (n := 18) (S := fun w' => w'.heap[h6]? = some (.cells #[.int .i64 kind, .bool priv, .int .u64 va] 61 (0, 0)) ∧ w'.heap[q]? = some (.cells #[.pointer (some ⟨g, 0, none⟩), .pointer (some ⟨p0, 0, none⟩), .pointer (some ⟨p1, 0, none⟩)] 81 (0, 0))) (ds := []) #[false, false, false, false, false, false, false, false, false, false, false, false, false, false, false, false, false, false] (by kernel_rfl) rfl rfl ⟨HB6.out, HM.out.c.row⟩ (fun hHeld => ?_)
    refine with_tab note9_tab (fun HT_ => ?_)
    refine pure_ (i := 0) (N := some 29) (v := ?_) (a' := ?_) #[true, false, false, false, false, false, false, false, false, false, false, false, false, false, false, false, false, false] rfl rfl (any_of HT_.out (by kernel_rfl)) (fun _ _ _ h => h) (Or.inl ⟨by rfl, ?_⟩) ?_ ?_
    rotate_left
    · intro w'
      go_simp
      with_reducible rfl
    rotate_left
    · simp only [Act.put, List.setIfInBounds_toArray, List.set_cons_zero, List.set_cons_succ, i64_w, i32_w]
      rfl
    refine pure_ (i := 1) (N := some 30) (v := .pointer (some ⟨q, 0, none⟩)) (a' := ?_) #[true, true, false, false, false, false, false, false, false, false, false, false, false, false, false, false, false, false] rfl rfl (any_of HT_.out (by kernel_rfl)) (fun _ _ _ h => h) (Or.inl ⟨by rfl, ?_⟩) ?_ ?_
    · intro w'
      go_simp
    rotate_left
    · simp only [Act.put, List.setIfInBounds_toArray, List.set_cons_zero, List.set_cons_succ, i64_w, i32_w]
      rfl
    refine pure_ (i := 2) (N := some 31) (v := ?_) (a' := ?_) #[true, true, true, false, false, false, false, false, false, false, false, false, false, false, false, false, false, false] rfl rfl (any_of HT_.out (by kernel_rfl)) (fun _ _ _ h => h) (Or.inl ⟨by rfl, ?_⟩) ?_ ?_
    rotate_left
    · intro w'
      go_simp
      with_reducible rfl
    rotate_left
    · simp only [Act.put, List.setIfInBounds_toArray, List.set_cons_zero, List.set_cons_succ, i64_w, i32_w]
      rfl
    refine pure_ (i := 4) (N := some 33) (v := ?_) (a' := ?_) #[true, true, true, false, true, false, false, false, false, false, false, false, false, false, false, false, false, false] rfl rfl (any_of HT_.out (by kernel_rfl)) (fun _ _ _ h => h) (Or.inl ⟨by rfl, ?_⟩) ?_ ?_
    rotate_left
    · intro w'
      go_simp
      with_reducible rfl
    rotate_left
    · simp only [Act.put, List.setIfInBounds_toArray, List.set_cons_zero, List.set_cons_succ, i64_w, i32_w]
      rfl
    refine pure_ (i := 7) (N := some 36) (v := ?_) (a' := ?_) #[true, true, true, false, true, false, false, true, false, false, false, false, false, false, false, false, false, false] rfl rfl (any_of HT_.out (by kernel_rfl)) (fun _ _ _ h => h) (Or.inl ⟨by rfl, ?_⟩) ?_ ?_
    rotate_left
    · intro w'
      go_simp
      with_reducible rfl
    rotate_left
    · simp only [Act.put, List.setIfInBounds_toArray, List.set_cons_zero, List.set_cons_succ, i64_w, i32_w]
      rfl
    refine pure_ (i := 9) (N := some 38) (v := ?_) (a' := ?_) #[true, true, true, false, true, false, false, true, false, true, false, false, false, false, false, false, false, false] rfl rfl (any_of HT_.out (by kernel_rfl)) (fun _ _ _ h => h) (Or.inl ⟨by rfl, ?_⟩) ?_ ?_
    rotate_left
    · intro w'
      go_simp
      with_reducible rfl
    rotate_left
    · simp only [Act.put, List.setIfInBounds_toArray, List.set_cons_zero, List.set_cons_succ, i64_w, i32_w]
      rfl
    refine pure_ (i := 12) (N := some 41) (v := ?_) (a' := ?_) #[true, true, true, false, true, false, false, true, false, true, false, false, true, false, false, false, false, false] rfl rfl (any_of HT_.out (by kernel_rfl)) (fun _ _ _ h => h) (Or.inl ⟨by rfl, ?_⟩) ?_ ?_
    rotate_left
    · intro w'
      go_simp
      with_reducible rfl
    rotate_left
    · simp only [Act.put, List.setIfInBounds_toArray, List.set_cons_zero, List.set_cons_succ, i64_w, i32_w]
      rfl
    refine pure_ (i := 14) (N := some 43) (v := ?_) (a' := ?_) #[true, true, true, false, true, false, false, true, false, true, false, false, true, false, true, false, false, false] rfl rfl (any_of HT_.out (by kernel_rfl)) (fun _ _ _ h => h) (Or.inl ⟨by rfl, ?_⟩) ?_ ?_
    rotate_left
    · intro w'
      go_simp
      with_reducible rfl
    rotate_left
    · simp only [Act.put, List.setIfInBounds_toArray, List.set_cons_zero, List.set_cons_succ, i64_w, i32_w]
      rfl
    refine take_ (i := 3) (N := some 32) (v := .pointer (some ⟨g, 0, none⟩)) (a' := ?_) #[true, true, true, true, true, false, false, true, false, true, false, false, true, false, true, false, false, false] rfl rfl (take_of HT_.out (by kernel_rfl)) (fun _ _ _ h => h) (Or.inl ⟨by rfl, ?_⟩) hHeld ?_ ?_
    · rintro w' ⟨s1, s2⟩
      obtain ⟨d0, d1, d2⟩ := cz3 s2
      go_simp
    rotate_left
    · simp only [Act.put, List.setIfInBounds_toArray, List.set_cons_zero, List.set_cons_succ, i64_w, i32_w]
      rfl
    refine take_ (i := 5) (N := some 34) (v := .int .i64 kind) (a' := ?_) #[true, true, true, true, true, true, false, true, false, true, false, false, true, false, true, false, false, false] rfl rfl (take_of HT_.out (by kernel_rfl)) (fun _ _ _ h => h) (Or.inl ⟨by rfl, ?_⟩) hHeld ?_ ?_
    · rintro w' ⟨s1, s2⟩
      obtain ⟨y0, y1, y2⟩ := cz3 s1
      go_simp
    rotate_left
    · simp only [Act.put, List.setIfInBounds_toArray, List.set_cons_zero, List.set_cons_succ, i64_w, i32_w]
      rfl
    refine take_ (i := 10) (N := some 39) (v := .int .i64 kind) (a' := ?_) #[true, true, true, true, true, true, false, true, false, true, true, false, true, false, true, false, false, false] rfl rfl (take_of HT_.out (by kernel_rfl)) (fun _ _ _ h => h) (Or.inl ⟨by rfl, ?_⟩) hHeld ?_ ?_
    · rintro w' ⟨s1, s2⟩
      obtain ⟨y0, y1, y2⟩ := cz3 s1
      go_simp
    rotate_left
    · simp only [Act.put, List.setIfInBounds_toArray, List.set_cons_zero, List.set_cons_succ, i64_w, i32_w]
      rfl
    refine pure_ (i := 11) (N := some 40) (v := .bool (kind == 1)) (a' := ?_) #[true, true, true, true, true, true, false, true, false, true, true, true, true, false, true, false, false, false] rfl rfl (any_of HT_.out (by kernel_rfl)) (fun _ _ _ h => h) (Or.inl ⟨by rfl, ?_⟩) ?_ ?_
    · intro w'
      go_simp
    rotate_left
    · simp only [Act.put, List.setIfInBounds_toArray, List.set_cons_zero, List.set_cons_succ, i64_w, i32_w]
      rfl
    refine take_ (i := 13) (N := some 42) (v := .bool priv) (a' := ?_) #[true, true, true, true, true, true, false, true, false, true, true, true, true, true, true, false, false, false] rfl rfl (take_of HT_.out (by kernel_rfl)) (fun _ _ _ h => h) (Or.inl ⟨by rfl, ?_⟩) hHeld ?_ ?_
    · rintro w' ⟨s1, s2⟩
      obtain ⟨y0, y1, y2⟩ := cz3 s1
      go_simp
    rotate_left
    · simp only [Act.put, List.setIfInBounds_toArray, List.set_cons_zero, List.set_cons_succ, i64_w, i32_w]
      rfl
    refine take_ (i := 15) (N := some 44) (v := .int .u64 va) (a' := ?_) #[true, true, true, true, true, true, false, true, false, true, true, true, true, true, true, true, false, false] rfl rfl (take_of HT_.out (by kernel_rfl)) (fun _ _ _ h => h) (Or.inl ⟨by rfl, ?_⟩) hHeld ?_ ?_
    · rintro w' ⟨s1, s2⟩
      obtain ⟨y0, y1, y2⟩ := cz3 s1
      go_simp
    rotate_left
    · simp only [Act.put, List.setIfInBounds_toArray, List.set_cons_zero, List.set_cons_succ, i64_w, i32_w]
      rfl
    refine one_ (i := 6) (N := some 35) #[true, true, true, true, true, true, true, true, false, true, true, true, true, true, true, true, false, false] rfl rfl (one_of HT_.out (by kernel_rfl)) (by decide) (fun K hK => ?_)
    refine goes_ Try.func34 (by kernel_rfl) rfl #[.int .i64 kind] (by rfl) rfl rfl (by (try simp only [List.map_toArray, List.map_cons, List.map_nil]); first | done | rfl) ?_
    refine (cpu_Unit.calls kind 0 _ HU.out).mono ?_
    rintro x0 wn ⟨rfl, hb⟩
    have hg := drawn_grown hb
    replace HG := Aside0.mk (grown_two HG.out hg)
    replace HM := Aside0.mk (HM.out.same hg)
    have hs : wn.heap[h6]? = some (.cells #[.int .i64 kind, .bool priv, .int .u64 va] 61 (0, 0)) ∧ wn.heap[q]? = some (.cells #[.pointer (some ⟨g, 0, none⟩), .pointer (some ⟨p0, 0, none⟩), .pointer (some ⟨p1, 0, none⟩)] 81 (0, 0)) := ⟨blk_grown hHeld.1 hg, blk_grown hHeld.2 hg⟩
    clear hg hb
    refine ⟨_, rfl, ?_⟩
    refine hK.out _ _ hs (fun hHeld => ?_)
    clear hK K
    refine norm_ (a' := ?_) ?_ ?_
    rotate_left
    · show Act.put _ (some 35) _ = _
      simp only [Act.put, List.setIfInBounds_toArray, List.set_cons_zero, List.set_cons_succ, i64_w, i32_w]
      rfl
    refine one_ (i := 8) (N := some 37) #[true, true, true, true, true, true, true, true, true, true, true, true, true, true, true, true, false, false] rfl rfl (one_of HT_.out (by kernel_rfl)) (by decide) (fun K hK => ?_)
    refine goes_ Try.func81 (by kernel_rfl) rfl #[.int .i64 3] (by rfl) rfl rfl (by (try simp only [List.map_toArray, List.map_cons, List.map_nil]); first | done | rfl) ?_
    refine (QRegsPlays.fault_Type.calls 3 1 _ HT.out).mono ?_
    rintro x0 wn ⟨rfl, hb⟩
    have hg := below_grown hb
    replace HG := Aside0.mk (grown_two HG.out hg)
    replace HM := Aside0.mk (HM.out.same hg)
    have hs : wn.heap[h6]? = some (.cells #[.int .i64 kind, .bool priv, .int .u64 va] 61 (0, 0)) ∧ wn.heap[q]? = some (.cells #[.pointer (some ⟨g, 0, none⟩), .pointer (some ⟨p0, 0, none⟩), .pointer (some ⟨p1, 0, none⟩)] 81 (0, 0)) := ⟨blk_grown hHeld.1 hg, blk_grown hHeld.2 hg⟩
    clear hg hb
    refine ⟨_, rfl, ?_⟩
    refine hK.out _ _ hs (fun hHeld => ?_)
    clear hK K
    refine norm_ (a' := ?_) ?_ ?_
    rotate_left
    · show Act.put _ (some 37) _ = _
      simp only [Act.put, List.setIfInBounds_toArray, List.set_cons_zero, List.set_cons_succ, i64_w, i32_w]
      rfl
    refine one_ (i := 16) (N := some 45) #[true, true, true, true, true, true, true, true, true, true, true, true, true, true, true, true, true, false] rfl rfl (one_of HT_.out (by kernel_rfl)) (by decide) (fun K hK => ?_)
    refine goes_ Try.func80 (by kernel_rfl) rfl #[.pointer (some ⟨g, 0, none⟩), .int .i64 0, .int .i64 1, .int .i64 128, .bool (kind == 1), .bool priv, .int .u64 va] (by rfl) rfl rfl (by (try simp only [List.map_toArray, List.map_cons, List.map_nil]); first | done | rfl) ?_
    refine (QRegsPlays.fault_i_ok HM.out.r 1 128 (kind == 1) priv va HVA.out HTK.out.1 HTK.out.2 (by decide) (by decide) (Nat.lt_of_lt_of_le HN.out (by decide))).mono ?_
    rintro x0 wn ⟨rfl, hR, hg⟩
    have HM2 := Aside0.mk (HM.out.setR hR hg)
    have HG2 := Aside0.mk (grown_two (grown_but HG.out (some mb)) hg)
    have hs : wn.heap[h6]? = some (.cells #[.int .i64 kind, .bool priv, .int .u64 va] 61 (0, 0)) ∧ wn.heap[q]? = some (.cells #[.pointer (some ⟨g, 0, none⟩), .pointer (some ⟨p0, 0, none⟩), .pointer (some ⟨p1, 0, none⟩)] 81 (0, 0)) := ⟨(hg.block h6 (blk_lt hHeld.1) (fun e => HM.out.nm _ _ _ hHeld.1 (Option.some.inj e))).trans hHeld.1, HM2.out.c.row⟩
    clear hR hg HM HG
    refine ⟨_, rfl, ?_⟩
    refine hK.out _ _ hs (fun hHeld => ?_)
    clear hK K
    refine norm_ (a' := ?_) ?_ ?_
    rotate_left
    · show Act.put _ (some 45) _ = _
      simp only [Act.put, List.setIfInBounds_toArray, List.set_cons_zero, List.set_cons_succ, i64_w, i32_w]
      rfl
    refine pure_ (i := 17) (N := some 8) (v := ?_) (a' := ?_) #[true, true, true, true, true, true, true, true, true, true, true, true, true, true, true, true, true, true] rfl rfl (any_of HT_.out (by kernel_rfl)) (fun _ _ _ h => h) (Or.inl ⟨by rfl, ?_⟩) ?_ ?_
    rotate_left
    · intro w'
      go_simp
      with_reducible rfl
    rotate_left
    · simp only [Act.put, List.setIfInBounds_toArray, List.set_cons_zero, List.set_cons_succ, i64_w, i32_w]
      rfl
    refine done_ (done_of HT_.out (by kernel_rfl)) ?_
    go_wp2
    go_ret
    exact ⟨rfl, HM2.out, HG2.out⟩
  ·
    go_enter Try.func43, Try.ntmps43
    go_wp2_with fail
    generalize W.heap.size = h6 at HB6 ⊢
    refine start_ (n := 18) (S := fun w' => w'.heap[h6]? = some (.cells #[.int .i64 kind, .bool priv, .int .u64 va] 61 (0, 0)) ∧ w'.heap[q]? = some (.cells #[.pointer (some ⟨g, 0, none⟩), .pointer (some ⟨p0, 0, none⟩), .pointer (some ⟨p1, 0, none⟩)] 81 (0, 0))) (ds := []) #[false, false, false, false, false, false, false, false, false, false, false, false, false, false, false, false, false, false] (by kernel_rfl) rfl rfl ⟨HB6.out, HM.out.c.row⟩ (fun hHeld => ?_)
    refine with_tab note9_tab (fun HT_ => ?_)
    refine pure_ (i := 0) (N := some 29) (v := ?_) (a' := ?_) #[true, false, false, false, false, false, false, false, false, false, false, false, false, false, false, false, false, false] rfl rfl (any_of HT_.out (by kernel_rfl)) (fun _ _ _ h => h) (Or.inl ⟨by rfl, ?_⟩) ?_ ?_
    rotate_left
    · intro w'
      go_simp
      with_reducible rfl
    rotate_left
    · simp only [Act.put, List.setIfInBounds_toArray, List.set_cons_zero, List.set_cons_succ, i64_w, i32_w]
      rfl
    refine pure_ (i := 1) (N := some 30) (v := .pointer (some ⟨q, 0, none⟩)) (a' := ?_) #[true, true, false, false, false, false, false, false, false, false, false, false, false, false, false, false, false, false] rfl rfl (any_of HT_.out (by kernel_rfl)) (fun _ _ _ h => h) (Or.inl ⟨by rfl, ?_⟩) ?_ ?_
    · intro w'
      go_simp
    rotate_left
    · simp only [Act.put, List.setIfInBounds_toArray, List.set_cons_zero, List.set_cons_succ, i64_w, i32_w]
      rfl
    refine pure_ (i := 2) (N := some 31) (v := ?_) (a' := ?_) #[true, true, true, false, false, false, false, false, false, false, false, false, false, false, false, false, false, false] rfl rfl (any_of HT_.out (by kernel_rfl)) (fun _ _ _ h => h) (Or.inl ⟨by rfl, ?_⟩) ?_ ?_
    rotate_left
    · intro w'
      go_simp
      with_reducible rfl
    rotate_left
    · simp only [Act.put, List.setIfInBounds_toArray, List.set_cons_zero, List.set_cons_succ, i64_w, i32_w]
      rfl
    refine pure_ (i := 4) (N := some 33) (v := ?_) (a' := ?_) #[true, true, true, false, true, false, false, false, false, false, false, false, false, false, false, false, false, false] rfl rfl (any_of HT_.out (by kernel_rfl)) (fun _ _ _ h => h) (Or.inl ⟨by rfl, ?_⟩) ?_ ?_
    rotate_left
    · intro w'
      go_simp
      with_reducible rfl
    rotate_left
    · simp only [Act.put, List.setIfInBounds_toArray, List.set_cons_zero, List.set_cons_succ, i64_w, i32_w]
      rfl
    refine pure_ (i := 7) (N := some 36) (v := ?_) (a' := ?_) #[true, true, true, false, true, false, false, true, false, false, false, false, false, false, false, false, false, false] rfl rfl (any_of HT_.out (by kernel_rfl)) (fun _ _ _ h => h) (Or.inl ⟨by rfl, ?_⟩) ?_ ?_
    rotate_left
    · intro w'
      go_simp
      with_reducible rfl
    rotate_left
    · simp only [Act.put, List.setIfInBounds_toArray, List.set_cons_zero, List.set_cons_succ, i64_w, i32_w]
      rfl
    refine pure_ (i := 9) (N := some 38) (v := ?_) (a' := ?_) #[true, true, true, false, true, false, false, true, false, true, false, false, false, false, false, false, false, false] rfl rfl (any_of HT_.out (by kernel_rfl)) (fun _ _ _ h => h) (Or.inl ⟨by rfl, ?_⟩) ?_ ?_
    rotate_left
    · intro w'
      go_simp
      with_reducible rfl
    rotate_left
    · simp only [Act.put, List.setIfInBounds_toArray, List.set_cons_zero, List.set_cons_succ, i64_w, i32_w]
      rfl
    refine pure_ (i := 12) (N := some 41) (v := ?_) (a' := ?_) #[true, true, true, false, true, false, false, true, false, true, false, false, true, false, false, false, false, false] rfl rfl (any_of HT_.out (by kernel_rfl)) (fun _ _ _ h => h) (Or.inl ⟨by rfl, ?_⟩) ?_ ?_
    rotate_left
    · intro w'
      go_simp
      with_reducible rfl
    rotate_left
    · simp only [Act.put, List.setIfInBounds_toArray, List.set_cons_zero, List.set_cons_succ, i64_w, i32_w]
      rfl
    refine pure_ (i := 14) (N := some 43) (v := ?_) (a' := ?_) #[true, true, true, false, true, false, false, true, false, true, false, false, true, false, true, false, false, false] rfl rfl (any_of HT_.out (by kernel_rfl)) (fun _ _ _ h => h) (Or.inl ⟨by rfl, ?_⟩) ?_ ?_
    rotate_left
    · intro w'
      go_simp
      with_reducible rfl
    rotate_left
    · simp only [Act.put, List.setIfInBounds_toArray, List.set_cons_zero, List.set_cons_succ, i64_w, i32_w]
      rfl
    refine take_ (i := 3) (N := some 32) (v := .pointer (some ⟨g, 0, none⟩)) (a' := ?_) #[true, true, true, true, true, false, false, true, false, true, false, false, true, false, true, false, false, false] rfl rfl (take_of HT_.out (by kernel_rfl)) (fun _ _ _ h => h) (Or.inl ⟨by rfl, ?_⟩) hHeld ?_ ?_
    · rintro w' ⟨s1, s2⟩
      obtain ⟨d0, d1, d2⟩ := cz3 s2
      go_simp
    rotate_left
    · simp only [Act.put, List.setIfInBounds_toArray, List.set_cons_zero, List.set_cons_succ, i64_w, i32_w]
      rfl
    refine take_ (i := 5) (N := some 34) (v := .int .i64 kind) (a' := ?_) #[true, true, true, true, true, true, false, true, false, true, false, false, true, false, true, false, false, false] rfl rfl (take_of HT_.out (by kernel_rfl)) (fun _ _ _ h => h) (Or.inl ⟨by rfl, ?_⟩) hHeld ?_ ?_
    · rintro w' ⟨s1, s2⟩
      obtain ⟨y0, y1, y2⟩ := cz3 s1
      go_simp
    rotate_left
    · simp only [Act.put, List.setIfInBounds_toArray, List.set_cons_zero, List.set_cons_succ, i64_w, i32_w]
      rfl
    refine take_ (i := 10) (N := some 39) (v := .int .i64 kind) (a' := ?_) #[true, true, true, true, true, true, false, true, false, true, true, false, true, false, true, false, false, false] rfl rfl (take_of HT_.out (by kernel_rfl)) (fun _ _ _ h => h) (Or.inl ⟨by rfl, ?_⟩) hHeld ?_ ?_
    · rintro w' ⟨s1, s2⟩
      obtain ⟨y0, y1, y2⟩ := cz3 s1
      go_simp
    rotate_left
    · simp only [Act.put, List.setIfInBounds_toArray, List.set_cons_zero, List.set_cons_succ, i64_w, i32_w]
      rfl
    refine pure_ (i := 11) (N := some 40) (v := .bool (kind == 1)) (a' := ?_) #[true, true, true, true, true, true, false, true, false, true, true, true, true, false, true, false, false, false] rfl rfl (any_of HT_.out (by kernel_rfl)) (fun _ _ _ h => h) (Or.inl ⟨by rfl, ?_⟩) ?_ ?_
    · intro w'
      go_simp
    rotate_left
    · simp only [Act.put, List.setIfInBounds_toArray, List.set_cons_zero, List.set_cons_succ, i64_w, i32_w]
      rfl
    refine take_ (i := 13) (N := some 42) (v := .bool priv) (a' := ?_) #[true, true, true, true, true, true, false, true, false, true, true, true, true, true, true, false, false, false] rfl rfl (take_of HT_.out (by kernel_rfl)) (fun _ _ _ h => h) (Or.inl ⟨by rfl, ?_⟩) hHeld ?_ ?_
    · rintro w' ⟨s1, s2⟩
      obtain ⟨y0, y1, y2⟩ := cz3 s1
      go_simp
    rotate_left
    · simp only [Act.put, List.setIfInBounds_toArray, List.set_cons_zero, List.set_cons_succ, i64_w, i32_w]
      rfl
    refine take_ (i := 15) (N := some 44) (v := .int .u64 va) (a' := ?_) #[true, true, true, true, true, true, false, true, false, true, true, true, true, true, true, true, false, false] rfl rfl (take_of HT_.out (by kernel_rfl)) (fun _ _ _ h => h) (Or.inl ⟨by rfl, ?_⟩) hHeld ?_ ?_
    · rintro w' ⟨s1, s2⟩
      obtain ⟨y0, y1, y2⟩ := cz3 s1
      go_simp
    rotate_left
    · simp only [Act.put, List.setIfInBounds_toArray, List.set_cons_zero, List.set_cons_succ, i64_w, i32_w]
      rfl
    refine one_ (i := 6) (N := some 35) #[true, true, true, true, true, true, true, true, false, true, true, true, true, true, true, true, false, false] rfl rfl (one_of HT_.out (by kernel_rfl)) (by decide) (fun K hK => ?_)
    refine goes_ Try.func34 (by kernel_rfl) rfl #[.int .i64 kind] (by rfl) rfl rfl (by (try simp only [List.map_toArray, List.map_cons, List.map_nil]); first | done | rfl) ?_
    refine (cpu_Unit.calls kind 0 _ HU.out).mono ?_
    rintro x0 wn ⟨rfl, hb⟩
    have hg := drawn_grown hb
    replace HG := Aside0.mk (grown_two HG.out hg)
    replace HM := Aside0.mk (HM.out.same hg)
    have hs : wn.heap[h6]? = some (.cells #[.int .i64 kind, .bool priv, .int .u64 va] 61 (0, 0)) ∧ wn.heap[q]? = some (.cells #[.pointer (some ⟨g, 0, none⟩), .pointer (some ⟨p0, 0, none⟩), .pointer (some ⟨p1, 0, none⟩)] 81 (0, 0)) := ⟨blk_grown hHeld.1 hg, blk_grown hHeld.2 hg⟩
    clear hg hb
    refine ⟨_, rfl, ?_⟩
    refine hK.out _ _ hs (fun hHeld => ?_)
    clear hK K
    refine norm_ (a' := ?_) ?_ ?_
    rotate_left
    · show Act.put _ (some 35) _ = _
      simp only [Act.put, List.setIfInBounds_toArray, List.set_cons_zero, List.set_cons_succ, i64_w, i32_w]
      rfl
    refine one_ (i := 8) (N := some 37) #[true, true, true, true, true, true, true, true, true, true, true, true, true, true, true, true, false, false] rfl rfl (one_of HT_.out (by kernel_rfl)) (by decide) (fun K hK => ?_)
    refine goes_ Try.func81 (by kernel_rfl) rfl #[.int .i64 4] (by rfl) rfl rfl (by (try simp only [List.map_toArray, List.map_cons, List.map_nil]); first | done | rfl) ?_
    refine (QRegsPlays.fault_Type.calls 4 2 _ HT.out).mono ?_
    rintro x0 wn ⟨rfl, hb⟩
    have hg := below_grown hb
    replace HG := Aside0.mk (grown_two HG.out hg)
    replace HM := Aside0.mk (HM.out.same hg)
    have hs : wn.heap[h6]? = some (.cells #[.int .i64 kind, .bool priv, .int .u64 va] 61 (0, 0)) ∧ wn.heap[q]? = some (.cells #[.pointer (some ⟨g, 0, none⟩), .pointer (some ⟨p0, 0, none⟩), .pointer (some ⟨p1, 0, none⟩)] 81 (0, 0)) := ⟨blk_grown hHeld.1 hg, blk_grown hHeld.2 hg⟩
    clear hg hb
    refine ⟨_, rfl, ?_⟩
    refine hK.out _ _ hs (fun hHeld => ?_)
    clear hK K
    refine norm_ (a' := ?_) ?_ ?_
    rotate_left
    · show Act.put _ (some 37) _ = _
      simp only [Act.put, List.setIfInBounds_toArray, List.set_cons_zero, List.set_cons_succ, i64_w, i32_w]
      rfl
    refine one_ (i := 16) (N := some 45) #[true, true, true, true, true, true, true, true, true, true, true, true, true, true, true, true, true, false] rfl rfl (one_of HT_.out (by kernel_rfl)) (by decide) (fun K hK => ?_)
    refine goes_ Try.func80 (by kernel_rfl) rfl #[.pointer (some ⟨g, 0, none⟩), .int .i64 0, .int .i64 2, .int .i64 128, .bool (kind == 1), .bool priv, .int .u64 va] (by rfl) rfl rfl (by (try simp only [List.map_toArray, List.map_cons, List.map_nil]); first | done | rfl) ?_
    refine (QRegsPlays.fault_i_ok HM.out.r 2 128 (kind == 1) priv va HVA.out HTK.out.1 HTK.out.2 (by decide) (by decide) (Nat.lt_of_lt_of_le HN.out (by decide))).mono ?_
    rintro x0 wn ⟨rfl, hR, hg⟩
    have HM2 := Aside0.mk (HM.out.setR hR hg)
    have HG2 := Aside0.mk (grown_two (grown_but HG.out (some mb)) hg)
    have hs : wn.heap[h6]? = some (.cells #[.int .i64 kind, .bool priv, .int .u64 va] 61 (0, 0)) ∧ wn.heap[q]? = some (.cells #[.pointer (some ⟨g, 0, none⟩), .pointer (some ⟨p0, 0, none⟩), .pointer (some ⟨p1, 0, none⟩)] 81 (0, 0)) := ⟨(hg.block h6 (blk_lt hHeld.1) (fun e => HM.out.nm _ _ _ hHeld.1 (Option.some.inj e))).trans hHeld.1, HM2.out.c.row⟩
    clear hR hg HM HG
    refine ⟨_, rfl, ?_⟩
    refine hK.out _ _ hs (fun hHeld => ?_)
    clear hK K
    refine norm_ (a' := ?_) ?_ ?_
    rotate_left
    · show Act.put _ (some 45) _ = _
      simp only [Act.put, List.setIfInBounds_toArray, List.set_cons_zero, List.set_cons_succ, i64_w, i32_w]
      rfl
    refine pure_ (i := 17) (N := some 8) (v := ?_) (a' := ?_) #[true, true, true, true, true, true, true, true, true, true, true, true, true, true, true, true, true, true] rfl rfl (any_of HT_.out (by kernel_rfl)) (fun _ _ _ h => h) (Or.inl ⟨by rfl, ?_⟩) ?_ ?_
    rotate_left
    · intro w'
      go_simp
      with_reducible rfl
    rotate_left
    · simp only [Act.put, List.setIfInBounds_toArray, List.set_cons_zero, List.set_cons_succ, i64_w, i32_w]
      rfl
    refine done_ (done_of HT_.out (by kernel_rfl)) ?_
    go_wp2
    go_ret
    exact ⟨rfl, HM2.out, HG2.out⟩
  ·
    go_enter Try.func43, Try.ntmps43
    go_wp2_with fail
    generalize W.heap.size = h6 at HB6 ⊢
    refine start_ (n := 18) (S := fun w' => w'.heap[h6]? = some (.cells #[.int .i64 kind, .bool priv, .int .u64 va] 61 (0, 0)) ∧ w'.heap[q]? = some (.cells #[.pointer (some ⟨g, 0, none⟩), .pointer (some ⟨p0, 0, none⟩), .pointer (some ⟨p1, 0, none⟩)] 81 (0, 0))) (ds := []) #[false, false, false, false, false, false, false, false, false, false, false, false, false, false, false, false, false, false] (by kernel_rfl) rfl rfl ⟨HB6.out, HM.out.c.row⟩ (fun hHeld => ?_)
    refine with_tab note9_tab (fun HT_ => ?_)
    refine pure_ (i := 0) (N := some 29) (v := ?_) (a' := ?_) #[true, false, false, false, false, false, false, false, false, false, false, false, false, false, false, false, false, false] rfl rfl (any_of HT_.out (by kernel_rfl)) (fun _ _ _ h => h) (Or.inl ⟨by rfl, ?_⟩) ?_ ?_
    rotate_left
    · intro w'
      go_simp
      with_reducible rfl
    rotate_left
    · simp only [Act.put, List.setIfInBounds_toArray, List.set_cons_zero, List.set_cons_succ, i64_w, i32_w]
      rfl
    refine pure_ (i := 1) (N := some 30) (v := .pointer (some ⟨q, 0, none⟩)) (a' := ?_) #[true, true, false, false, false, false, false, false, false, false, false, false, false, false, false, false, false, false] rfl rfl (any_of HT_.out (by kernel_rfl)) (fun _ _ _ h => h) (Or.inl ⟨by rfl, ?_⟩) ?_ ?_
    · intro w'
      go_simp
    rotate_left
    · simp only [Act.put, List.setIfInBounds_toArray, List.set_cons_zero, List.set_cons_succ, i64_w, i32_w]
      rfl
    refine pure_ (i := 2) (N := some 31) (v := ?_) (a' := ?_) #[true, true, true, false, false, false, false, false, false, false, false, false, false, false, false, false, false, false] rfl rfl (any_of HT_.out (by kernel_rfl)) (fun _ _ _ h => h) (Or.inl ⟨by rfl, ?_⟩) ?_ ?_
    rotate_left
    · intro w'
      go_simp
      with_reducible rfl
    rotate_left
    · simp only [Act.put, List.setIfInBounds_toArray, List.set_cons_zero, List.set_cons_succ, i64_w, i32_w]
      rfl
    refine pure_ (i := 4) (N := some 33) (v := ?_) (a' := ?_) #[true, true, true, false, true, false, false, false, false, false, false, false, false, false, false, false, false, false] rfl rfl (any_of HT_.out (by kernel_rfl)) (fun _ _ _ h => h) (Or.inl ⟨by rfl, ?_⟩) ?_ ?_
    rotate_left
    · intro w'
      go_simp
      with_reducible rfl
    rotate_left
    · simp only [Act.put, List.setIfInBounds_toArray, List.set_cons_zero, List.set_cons_succ, i64_w, i32_w]
      rfl
    refine pure_ (i := 7) (N := some 36) (v := ?_) (a' := ?_) #[true, true, true, false, true, false, false, true, false, false, false, false, false, false, false, false, false, false] rfl rfl (any_of HT_.out (by kernel_rfl)) (fun _ _ _ h => h) (Or.inl ⟨by rfl, ?_⟩) ?_ ?_
    rotate_left
    · intro w'
      go_simp
      with_reducible rfl
    rotate_left
    · simp only [Act.put, List.setIfInBounds_toArray, List.set_cons_zero, List.set_cons_succ, i64_w, i32_w]
      rfl
    refine pure_ (i := 9) (N := some 38) (v := ?_) (a' := ?_) #[true, true, true, false, true, false, false, true, false, true, false, false, false, false, false, false, false, false] rfl rfl (any_of HT_.out (by kernel_rfl)) (fun _ _ _ h => h) (Or.inl ⟨by rfl, ?_⟩) ?_ ?_
    rotate_left
    · intro w'
      go_simp
      with_reducible rfl
    rotate_left
    · simp only [Act.put, List.setIfInBounds_toArray, List.set_cons_zero, List.set_cons_succ, i64_w, i32_w]
      rfl
    refine pure_ (i := 12) (N := some 41) (v := ?_) (a' := ?_) #[true, true, true, false, true, false, false, true, false, true, false, false, true, false, false, false, false, false] rfl rfl (any_of HT_.out (by kernel_rfl)) (fun _ _ _ h => h) (Or.inl ⟨by rfl, ?_⟩) ?_ ?_
    rotate_left
    · intro w'
      go_simp
      with_reducible rfl
    rotate_left
    · simp only [Act.put, List.setIfInBounds_toArray, List.set_cons_zero, List.set_cons_succ, i64_w, i32_w]
      rfl
    refine pure_ (i := 14) (N := some 43) (v := ?_) (a' := ?_) #[true, true, true, false, true, false, false, true, false, true, false, false, true, false, true, false, false, false] rfl rfl (any_of HT_.out (by kernel_rfl)) (fun _ _ _ h => h) (Or.inl ⟨by rfl, ?_⟩) ?_ ?_
    rotate_left
    · intro w'
      go_simp
      with_reducible rfl
    rotate_left
    · simp only [Act.put, List.setIfInBounds_toArray, List.set_cons_zero, List.set_cons_succ, i64_w, i32_w]
      rfl
    refine take_ (i := 3) (N := some 32) (v := .pointer (some ⟨g, 0, none⟩)) (a' := ?_) #[true, true, true, true, true, false, false, true, false, true, false, false, true, false, true, false, false, false] rfl rfl (take_of HT_.out (by kernel_rfl)) (fun _ _ _ h => h) (Or.inl ⟨by rfl, ?_⟩) hHeld ?_ ?_
    · rintro w' ⟨s1, s2⟩
      obtain ⟨d0, d1, d2⟩ := cz3 s2
      go_simp
    rotate_left
    · simp only [Act.put, List.setIfInBounds_toArray, List.set_cons_zero, List.set_cons_succ, i64_w, i32_w]
      rfl
    refine take_ (i := 5) (N := some 34) (v := .int .i64 kind) (a' := ?_) #[true, true, true, true, true, true, false, true, false, true, false, false, true, false, true, false, false, false] rfl rfl (take_of HT_.out (by kernel_rfl)) (fun _ _ _ h => h) (Or.inl ⟨by rfl, ?_⟩) hHeld ?_ ?_
    · rintro w' ⟨s1, s2⟩
      obtain ⟨y0, y1, y2⟩ := cz3 s1
      go_simp
    rotate_left
    · simp only [Act.put, List.setIfInBounds_toArray, List.set_cons_zero, List.set_cons_succ, i64_w, i32_w]
      rfl
    refine take_ (i := 10) (N := some 39) (v := .int .i64 kind) (a' := ?_) #[true, true, true, true, true, true, false, true, false, true, true, false, true, false, true, false, false, false] rfl rfl (take_of HT_.out (by kernel_rfl)) (fun _ _ _ h => h) (Or.inl ⟨by rfl, ?_⟩) hHeld ?_ ?_
    · rintro w' ⟨s1, s2⟩
      obtain ⟨y0, y1, y2⟩ := cz3 s1
      go_simp
    rotate_left
    · simp only [Act.put, List.setIfInBounds_toArray, List.set_cons_zero, List.set_cons_succ, i64_w, i32_w]
      rfl
    refine pure_ (i := 11) (N := some 40) (v := .bool (kind == 1)) (a' := ?_) #[true, true, true, true, true, true, false, true, false, true, true, true, true, false, true, false, false, false] rfl rfl (any_of HT_.out (by kernel_rfl)) (fun _ _ _ h => h) (Or.inl ⟨by rfl, ?_⟩) ?_ ?_
    · intro w'
      go_simp
    rotate_left
    · simp only [Act.put, List.setIfInBounds_toArray, List.set_cons_zero, List.set_cons_succ, i64_w, i32_w]
      rfl
    refine take_ (i := 13) (N := some 42) (v := .bool priv) (a' := ?_) #[true, true, true, true, true, true, false, true, false, true, true, true, true, true, true, false, false, false] rfl rfl (take_of HT_.out (by kernel_rfl)) (fun _ _ _ h => h) (Or.inl ⟨by rfl, ?_⟩) hHeld ?_ ?_
    · rintro w' ⟨s1, s2⟩
      obtain ⟨y0, y1, y2⟩ := cz3 s1
      go_simp
    rotate_left
    · simp only [Act.put, List.setIfInBounds_toArray, List.set_cons_zero, List.set_cons_succ, i64_w, i32_w]
      rfl
    refine take_ (i := 15) (N := some 44) (v := .int .u64 va) (a' := ?_) #[true, true, true, true, true, true, false, true, false, true, true, true, true, true, true, true, false, false] rfl rfl (take_of HT_.out (by kernel_rfl)) (fun _ _ _ h => h) (Or.inl ⟨by rfl, ?_⟩) hHeld ?_ ?_
    · rintro w' ⟨s1, s2⟩
      obtain ⟨y0, y1, y2⟩ := cz3 s1
      go_simp
    rotate_left
    · simp only [Act.put, List.setIfInBounds_toArray, List.set_cons_zero, List.set_cons_succ, i64_w, i32_w]
      rfl
    refine one_ (i := 6) (N := some 35) #[true, true, true, true, true, true, true, true, false, true, true, true, true, true, true, true, false, false] rfl rfl (one_of HT_.out (by kernel_rfl)) (by decide) (fun K hK => ?_)
    refine goes_ Try.func34 (by kernel_rfl) rfl #[.int .i64 kind] (by rfl) rfl rfl (by (try simp only [List.map_toArray, List.map_cons, List.map_nil]); first | done | rfl) ?_
    refine (cpu_Unit.calls kind 0 _ HU.out).mono ?_
    rintro x0 wn ⟨rfl, hb⟩
    have hg := drawn_grown hb
    replace HG := Aside0.mk (grown_two HG.out hg)
    replace HM := Aside0.mk (HM.out.same hg)
    have hs : wn.heap[h6]? = some (.cells #[.int .i64 kind, .bool priv, .int .u64 va] 61 (0, 0)) ∧ wn.heap[q]? = some (.cells #[.pointer (some ⟨g, 0, none⟩), .pointer (some ⟨p0, 0, none⟩), .pointer (some ⟨p1, 0, none⟩)] 81 (0, 0)) := ⟨blk_grown hHeld.1 hg, blk_grown hHeld.2 hg⟩
    clear hg hb
    refine ⟨_, rfl, ?_⟩
    refine hK.out _ _ hs (fun hHeld => ?_)
    clear hK K
    refine norm_ (a' := ?_) ?_ ?_
    rotate_left
    · show Act.put _ (some 35) _ = _
      simp only [Act.put, List.setIfInBounds_toArray, List.set_cons_zero, List.set_cons_succ, i64_w, i32_w]
      rfl
    refine one_ (i := 8) (N := some 37) #[true, true, true, true, true, true, true, true, true, true, true, true, true, true, true, true, false, false] rfl rfl (one_of HT_.out (by kernel_rfl)) (by decide) (fun K hK => ?_)
    refine goes_ Try.func81 (by kernel_rfl) rfl #[.int .i64 6] (by rfl) rfl rfl (by (try simp only [List.map_toArray, List.map_cons, List.map_nil]); first | done | rfl) ?_
    refine (QRegsPlays.fault_Type.calls 6 16 _ HT.out).mono ?_
    rintro x0 wn ⟨rfl, hb⟩
    have hg := below_grown hb
    replace HG := Aside0.mk (grown_two HG.out hg)
    replace HM := Aside0.mk (HM.out.same hg)
    have hs : wn.heap[h6]? = some (.cells #[.int .i64 kind, .bool priv, .int .u64 va] 61 (0, 0)) ∧ wn.heap[q]? = some (.cells #[.pointer (some ⟨g, 0, none⟩), .pointer (some ⟨p0, 0, none⟩), .pointer (some ⟨p1, 0, none⟩)] 81 (0, 0)) := ⟨blk_grown hHeld.1 hg, blk_grown hHeld.2 hg⟩
    clear hg hb
    refine ⟨_, rfl, ?_⟩
    refine hK.out _ _ hs (fun hHeld => ?_)
    clear hK K
    refine norm_ (a' := ?_) ?_ ?_
    rotate_left
    · show Act.put _ (some 37) _ = _
      simp only [Act.put, List.setIfInBounds_toArray, List.set_cons_zero, List.set_cons_succ, i64_w, i32_w]
      rfl
    refine one_ (i := 16) (N := some 45) #[true, true, true, true, true, true, true, true, true, true, true, true, true, true, true, true, true, false] rfl rfl (one_of HT_.out (by kernel_rfl)) (by decide) (fun K hK => ?_)
    refine goes_ Try.func80 (by kernel_rfl) rfl #[.pointer (some ⟨g, 0, none⟩), .int .i64 0, .int .i64 16, .int .i64 128, .bool (kind == 1), .bool priv, .int .u64 va] (by rfl) rfl rfl (by (try simp only [List.map_toArray, List.map_cons, List.map_nil]); first | done | rfl) ?_
    refine (QRegsPlays.fault_i_ok HM.out.r 16 128 (kind == 1) priv va HVA.out HTK.out.1 HTK.out.2 (by decide) (by decide) (Nat.lt_of_lt_of_le HN.out (by decide))).mono ?_
    rintro x0 wn ⟨rfl, hR, hg⟩
    have HM2 := Aside0.mk (HM.out.setR hR hg)
    have HG2 := Aside0.mk (grown_two (grown_but HG.out (some mb)) hg)
    have hs : wn.heap[h6]? = some (.cells #[.int .i64 kind, .bool priv, .int .u64 va] 61 (0, 0)) ∧ wn.heap[q]? = some (.cells #[.pointer (some ⟨g, 0, none⟩), .pointer (some ⟨p0, 0, none⟩), .pointer (some ⟨p1, 0, none⟩)] 81 (0, 0)) := ⟨(hg.block h6 (blk_lt hHeld.1) (fun e => HM.out.nm _ _ _ hHeld.1 (Option.some.inj e))).trans hHeld.1, HM2.out.c.row⟩
    clear hR hg HM HG
    refine ⟨_, rfl, ?_⟩
    refine hK.out _ _ hs (fun hHeld => ?_)
    clear hK K
    refine norm_ (a' := ?_) ?_ ?_
    rotate_left
    · show Act.put _ (some 45) _ = _
      simp only [Act.put, List.setIfInBounds_toArray, List.set_cons_zero, List.set_cons_succ, i64_w, i32_w]
      rfl
    refine pure_ (i := 17) (N := some 8) (v := ?_) (a' := ?_) #[true, true, true, true, true, true, true, true, true, true, true, true, true, true, true, true, true, true] rfl rfl (any_of HT_.out (by kernel_rfl)) (fun _ _ _ h => h) (Or.inl ⟨by rfl, ?_⟩) ?_ ?_
    rotate_left
    · intro w'
      go_simp
      with_reducible rfl
    rotate_left
    · simp only [Act.put, List.setIfInBounds_toArray, List.set_cons_zero, List.set_cons_succ, i64_w, i32_w]
      rfl
    refine done_ (done_of HT_.out (by kernel_rfl)) ?_
    go_wp2
    go_ret
    exact ⟨rfl, HM2.out, HG2.out⟩
theorem note_fault1 {B w0 q g mb n D p0 r0 p1 r1 e0 e1 W} (h : CpuR B w0 q g mb n D p0 r0 p1 r1 e0 e1 W) (ctx kind : Int) (priv : Bool) (va : Int) (hva : (Lit.int .u64 va).wf = true) (hk : cpu_Unit.f kind = some 1) (hc : 0 ≤ ctx ∧ ctx ≤ 8191) (hn : n < 800000) (kd : Int) (tk : Int) (hkd : (kd = 1 ∧ tk = 32) ∨ (kd = 3 ∧ tk = 1) ∨ (kd = 4 ∧ tk = 2) ∨ (kd = 6 ∧ tk = 16)) :
    Calls Try.prog 43 #[.pointer (some ⟨q, 0, none⟩), .int .i64 ctx, .agg #[.int .i64 kind, .bool priv, .int .u64 va], .int .i64 kd] W fun x W' => x = .returned (.int .i64 0) ∧ CpuR B w0 q g mb (n + 2) (QRegsPlays.pk (QRegsPlays.pk D 88 24 (QRegsPlays.stw (QRegsPlays.rdk D 88 24 % 2 == 1) (kind == 1) priv tk 128)) 88 32 va) p0 r0 p1 r1 e0 e1 W' ∧ W.grownBy W' (some mb) := by
  have hu3 := Try.underlying61
  have hg0 := grown_two (World.grownBy_alloc W (.cells #[.int .i64 kind, .bool priv, .int .u64 va] 61) none) (grown_drew _ none)
  have HB6 := Aside0.mk (heap_alloc_new W (.cells #[.int .i64 kind, .bool priv, .int .u64 va] 61))
  have HM := Aside0.mk (h.same hg0)
  have HG := Aside0.mk hg0
  have HVA := Aside0.mk hva
  have HU := Aside0.mk hk
  have HC := Aside0.mk hc
  have HN := Aside0.mk hn
  have HKD := Aside0.mk hkd
  have HT := Aside0.mk (show QRegsPlays.fault_Type.f kd = some tk by rcases hkd with ⟨rfl, rfl⟩ | ⟨rfl, rfl⟩ | ⟨rfl, rfl⟩ | ⟨rfl, rfl⟩ <;> rfl)
  have HTK := Aside0.mk (show 0 ≤ tk ∧ tk < 128 by omega)
  clear h hg0 hva hk hc hn
  have hkd2 := HKD.out
  clear HKD
  rcases hkd2 with ⟨rfl, rfl⟩ | ⟨rfl, rfl⟩ | ⟨rfl, rfl⟩ | ⟨rfl, rfl⟩
  ·
    go_enter Try.func43, Try.ntmps43
    go_wp2_with fail
    generalize W.heap.size = h6 at HB6 ⊢
    refine start_ (n := 18) (S := fun w' => w'.heap[h6]? = some (.cells #[.int .i64 kind, .bool priv, .int .u64 va] 61 (0, 0)) ∧ w'.heap[q]? = some (.cells #[.pointer (some ⟨g, 0, none⟩), .pointer (some ⟨p0, 0, none⟩), .pointer (some ⟨p1, 0, none⟩)] 81 (0, 0))) (ds := []) #[false, false, false, false, false, false, false, false, false, false, false, false, false, false, false, false, false, false] (by kernel_rfl) rfl rfl ⟨HB6.out, HM.out.c.row⟩ (fun hHeld => ?_)
    refine with_tab note9_tab (fun HT_ => ?_)
    refine pure_ (i := 0) (N := some 29) (v := ?_) (a' := ?_) #[true, false, false, false, false, false, false, false, false, false, false, false, false, false, false, false, false, false] rfl rfl (any_of HT_.out (by kernel_rfl)) (fun _ _ _ h => h) (Or.inl ⟨by rfl, ?_⟩) ?_ ?_
    rotate_left
    · intro w'
      go_simp
      with_reducible rfl
    rotate_left
    · simp only [Act.put, List.setIfInBounds_toArray, List.set_cons_zero, List.set_cons_succ, i64_w, i32_w]
      rfl
    refine pure_ (i := 1) (N := some 30) (v := .pointer (some ⟨q, 0, none⟩)) (a' := ?_) #[true, true, false, false, false, false, false, false, false, false, false, false, false, false, false, false, false, false] rfl rfl (any_of HT_.out (by kernel_rfl)) (fun _ _ _ h => h) (Or.inl ⟨by rfl, ?_⟩) ?_ ?_
    · intro w'
      go_simp
    rotate_left
    · simp only [Act.put, List.setIfInBounds_toArray, List.set_cons_zero, List.set_cons_succ, i64_w, i32_w]
      rfl
    refine pure_ (i := 2) (N := some 31) (v := ?_) (a' := ?_) #[true, true, true, false, false, false, false, false, false, false, false, false, false, false, false, false, false, false] rfl rfl (any_of HT_.out (by kernel_rfl)) (fun _ _ _ h => h) (Or.inl ⟨by rfl, ?_⟩) ?_ ?_
    rotate_left
    · intro w'
      go_simp
      with_reducible rfl
    rotate_left
    · simp only [Act.put, List.setIfInBounds_toArray, List.set_cons_zero, List.set_cons_succ, i64_w, i32_w]
      rfl
    refine pure_ (i := 4) (N := some 33) (v := ?_) (a' := ?_) #[true, true, true, false, true, false, false, false, false, false, false, false, false, false, false, false, false, false] rfl rfl (any_of HT_.out (by kernel_rfl)) (fun _ _ _ h => h) (Or.inl ⟨by rfl, ?_⟩) ?_ ?_
    rotate_left
    · intro w'
      go_simp
      with_reducible rfl
    rotate_left
    · simp only [Act.put, List.setIfInBounds_toArray, List.set_cons_zero, List.set_cons_succ, i64_w, i32_w]
      rfl
    refine pure_ (i := 7) (N := some 36) (v := ?_) (a' := ?_) #[true, true, true, false, true, false, false, true, false, false, false, false, false, false, false, false, false, false] rfl rfl (any_of HT_.out (by kernel_rfl)) (fun _ _ _ h => h) (Or.inl ⟨by rfl, ?_⟩) ?_ ?_
    rotate_left
    · intro w'
      go_simp
      with_reducible rfl
    rotate_left
    · simp only [Act.put, List.setIfInBounds_toArray, List.set_cons_zero, List.set_cons_succ, i64_w, i32_w]
      rfl
    refine pure_ (i := 9) (N := some 38) (v := ?_) (a' := ?_) #[true, true, true, false, true, false, false, true, false, true, false, false, false, false, false, false, false, false] rfl rfl (any_of HT_.out (by kernel_rfl)) (fun _ _ _ h => h) (Or.inl ⟨by rfl, ?_⟩) ?_ ?_
    rotate_left
    · intro w'
      go_simp
      with_reducible rfl
    rotate_left
    · simp only [Act.put, List.setIfInBounds_toArray, List.set_cons_zero, List.set_cons_succ, i64_w, i32_w]
      rfl
    refine pure_ (i := 12) (N := some 41) (v := ?_) (a' := ?_) #[true, true, true, false, true, false, false, true, false, true, false, false, true, false, false, false, false, false] rfl rfl (any_of HT_.out (by kernel_rfl)) (fun _ _ _ h => h) (Or.inl ⟨by rfl, ?_⟩) ?_ ?_
    rotate_left
    · intro w'
      go_simp
      with_reducible rfl
    rotate_left
    · simp only [Act.put, List.setIfInBounds_toArray, List.set_cons_zero, List.set_cons_succ, i64_w, i32_w]
      rfl
    refine pure_ (i := 14) (N := some 43) (v := ?_) (a' := ?_) #[true, true, true, false, true, false, false, true, false, true, false, false, true, false, true, false, false, false] rfl rfl (any_of HT_.out (by kernel_rfl)) (fun _ _ _ h => h) (Or.inl ⟨by rfl, ?_⟩) ?_ ?_
    rotate_left
    · intro w'
      go_simp
      with_reducible rfl
    rotate_left
    · simp only [Act.put, List.setIfInBounds_toArray, List.set_cons_zero, List.set_cons_succ, i64_w, i32_w]
      rfl
    refine take_ (i := 3) (N := some 32) (v := .pointer (some ⟨g, 0, none⟩)) (a' := ?_) #[true, true, true, true, true, false, false, true, false, true, false, false, true, false, true, false, false, false] rfl rfl (take_of HT_.out (by kernel_rfl)) (fun _ _ _ h => h) (Or.inl ⟨by rfl, ?_⟩) hHeld ?_ ?_
    · rintro w' ⟨s1, s2⟩
      obtain ⟨d0, d1, d2⟩ := cz3 s2
      go_simp
    rotate_left
    · simp only [Act.put, List.setIfInBounds_toArray, List.set_cons_zero, List.set_cons_succ, i64_w, i32_w]
      rfl
    refine take_ (i := 5) (N := some 34) (v := .int .i64 kind) (a' := ?_) #[true, true, true, true, true, true, false, true, false, true, false, false, true, false, true, false, false, false] rfl rfl (take_of HT_.out (by kernel_rfl)) (fun _ _ _ h => h) (Or.inl ⟨by rfl, ?_⟩) hHeld ?_ ?_
    · rintro w' ⟨s1, s2⟩
      obtain ⟨y0, y1, y2⟩ := cz3 s1
      go_simp
    rotate_left
    · simp only [Act.put, List.setIfInBounds_toArray, List.set_cons_zero, List.set_cons_succ, i64_w, i32_w]
      rfl
    refine take_ (i := 10) (N := some 39) (v := .int .i64 kind) (a' := ?_) #[true, true, true, true, true, true, false, true, false, true, true, false, true, false, true, false, false, false] rfl rfl (take_of HT_.out (by kernel_rfl)) (fun _ _ _ h => h) (Or.inl ⟨by rfl, ?_⟩) hHeld ?_ ?_
    · rintro w' ⟨s1, s2⟩
      obtain ⟨y0, y1, y2⟩ := cz3 s1
      go_simp
    rotate_left
    · simp only [Act.put, List.setIfInBounds_toArray, List.set_cons_zero, List.set_cons_succ, i64_w, i32_w]
      rfl
    refine pure_ (i := 11) (N := some 40) (v := .bool (kind == 1)) (a' := ?_) #[true, true, true, true, true, true, false, true, false, true, true, true, true, false, true, false, false, false] rfl rfl (any_of HT_.out (by kernel_rfl)) (fun _ _ _ h => h) (Or.inl ⟨by rfl, ?_⟩) ?_ ?_
    · intro w'
      go_simp
    rotate_left
    · simp only [Act.put, List.setIfInBounds_toArray, List.set_cons_zero, List.set_cons_succ, i64_w, i32_w]
      rfl
    refine take_ (i := 13) (N := some 42) (v := .bool priv) (a' := ?_) #[true, true, true, true, true, true, false, true, false, true, true, true, true, true, true, false, false, false] rfl rfl (take_of HT_.out (by kernel_rfl)) (fun _ _ _ h => h) (Or.inl ⟨by rfl, ?_⟩) hHeld ?_ ?_
    · rintro w' ⟨s1, s2⟩
      obtain ⟨y0, y1, y2⟩ := cz3 s1
      go_simp
    rotate_left
    · simp only [Act.put, List.setIfInBounds_toArray, List.set_cons_zero, List.set_cons_succ, i64_w, i32_w]
      rfl
    refine take_ (i := 15) (N := some 44) (v := .int .u64 va) (a' := ?_) #[true, true, true, true, true, true, false, true, false, true, true, true, true, true, true, true, false, false] rfl rfl (take_of HT_.out (by kernel_rfl)) (fun _ _ _ h => h) (Or.inl ⟨by rfl, ?_⟩) hHeld ?_ ?_
    · rintro w' ⟨s1, s2⟩
      obtain ⟨y0, y1, y2⟩ := cz3 s1
      go_simp
    rotate_left
    · simp only [Act.put, List.setIfInBounds_toArray, List.set_cons_zero, List.set_cons_succ, i64_w, i32_w]
      rfl
    refine one_ (i := 6) (N := some 35) #[true, true, true, true, true, true, true, true, false, true, true, true, true, true, true, true, false, false] rfl rfl (one_of HT_.out (by kernel_rfl)) (by decide) (fun K hK => ?_)
    refine goes_ Try.func34 (by kernel_rfl) rfl #[.int .i64 kind] (by rfl) rfl rfl (by (try simp only [List.map_toArray, List.map_cons, List.map_nil]); first | done | rfl) ?_
    refine (cpu_Unit.calls kind 1 _ HU.out).mono ?_
    rintro x0 wn ⟨rfl, hb⟩
    have hg := drawn_grown hb
    replace HG := Aside0.mk (grown_two HG.out hg)
    replace HM := Aside0.mk (HM.out.same hg)
    have hs : wn.heap[h6]? = some (.cells #[.int .i64 kind, .bool priv, .int .u64 va] 61 (0, 0)) ∧ wn.heap[q]? = some (.cells #[.pointer (some ⟨g, 0, none⟩), .pointer (some ⟨p0, 0, none⟩), .pointer (some ⟨p1, 0, none⟩)] 81 (0, 0)) := ⟨blk_grown hHeld.1 hg, blk_grown hHeld.2 hg⟩
    clear hg hb
    refine ⟨_, rfl, ?_⟩
    refine hK.out _ _ hs (fun hHeld => ?_)
    clear hK K
    refine norm_ (a' := ?_) ?_ ?_
    rotate_left
    · show Act.put _ (some 35) _ = _
      simp only [Act.put, List.setIfInBounds_toArray, List.set_cons_zero, List.set_cons_succ, i64_w, i32_w]
      rfl
    refine one_ (i := 8) (N := some 37) #[true, true, true, true, true, true, true, true, true, true, true, true, true, true, true, true, false, false] rfl rfl (one_of HT_.out (by kernel_rfl)) (by decide) (fun K hK => ?_)
    refine goes_ Try.func81 (by kernel_rfl) rfl #[.int .i64 1] (by rfl) rfl rfl (by (try simp only [List.map_toArray, List.map_cons, List.map_nil]); first | done | rfl) ?_
    refine (QRegsPlays.fault_Type.calls 1 32 _ HT.out).mono ?_
    rintro x0 wn ⟨rfl, hb⟩
    have hg := below_grown hb
    replace HG := Aside0.mk (grown_two HG.out hg)
    replace HM := Aside0.mk (HM.out.same hg)
    have hs : wn.heap[h6]? = some (.cells #[.int .i64 kind, .bool priv, .int .u64 va] 61 (0, 0)) ∧ wn.heap[q]? = some (.cells #[.pointer (some ⟨g, 0, none⟩), .pointer (some ⟨p0, 0, none⟩), .pointer (some ⟨p1, 0, none⟩)] 81 (0, 0)) := ⟨blk_grown hHeld.1 hg, blk_grown hHeld.2 hg⟩
    clear hg hb
    refine ⟨_, rfl, ?_⟩
    refine hK.out _ _ hs (fun hHeld => ?_)
    clear hK K
    refine norm_ (a' := ?_) ?_ ?_
    rotate_left
    · show Act.put _ (some 37) _ = _
      simp only [Act.put, List.setIfInBounds_toArray, List.set_cons_zero, List.set_cons_succ, i64_w, i32_w]
      rfl
    refine one_ (i := 16) (N := some 45) #[true, true, true, true, true, true, true, true, true, true, true, true, true, true, true, true, true, false] rfl rfl (one_of HT_.out (by kernel_rfl)) (by decide) (fun K hK => ?_)
    refine goes_ Try.func80 (by kernel_rfl) rfl #[.pointer (some ⟨g, 0, none⟩), .int .i64 1, .int .i64 32, .int .i64 128, .bool (kind == 1), .bool priv, .int .u64 va] (by rfl) rfl rfl (by (try simp only [List.map_toArray, List.map_cons, List.map_nil]); first | done | rfl) ?_
    refine (QRegsPlays.fault_d_ok HM.out.r 32 128 (kind == 1) priv va HVA.out HTK.out.1 HTK.out.2 (by decide) (by decide) (Nat.lt_of_lt_of_le HN.out (by decide))).mono ?_
    rintro x0 wn ⟨rfl, hR, hg⟩
    have HM2 := Aside0.mk (HM.out.setR hR hg)
    have HG2 := Aside0.mk (grown_two (grown_but HG.out (some mb)) hg)
    have hs : wn.heap[h6]? = some (.cells #[.int .i64 kind, .bool priv, .int .u64 va] 61 (0, 0)) ∧ wn.heap[q]? = some (.cells #[.pointer (some ⟨g, 0, none⟩), .pointer (some ⟨p0, 0, none⟩), .pointer (some ⟨p1, 0, none⟩)] 81 (0, 0)) := ⟨(hg.block h6 (blk_lt hHeld.1) (fun e => HM.out.nm _ _ _ hHeld.1 (Option.some.inj e))).trans hHeld.1, HM2.out.c.row⟩
    clear hR hg HM HG
    refine ⟨_, rfl, ?_⟩
    refine hK.out _ _ hs (fun hHeld => ?_)
    clear hK K
    refine norm_ (a' := ?_) ?_ ?_
    rotate_left
    · show Act.put _ (some 45) _ = _
      simp only [Act.put, List.setIfInBounds_toArray, List.set_cons_zero, List.set_cons_succ, i64_w, i32_w]
      rfl
    refine pure_ (i := 17) (N := some 8) (v := ?_) (a' := ?_) #[true, true, true, true, true, true, true, true, true, true, true, true, true, true, true, true, true, true] rfl rfl (any_of HT_.out (by kernel_rfl)) (fun _ _ _ h => h) (Or.inl ⟨by rfl, ?_⟩) ?_ ?_
    rotate_left
    · intro w'
      go_simp
      with_reducible rfl
    rotate_left
    · simp only [Act.put, List.setIfInBounds_toArray, List.set_cons_zero, List.set_cons_succ, i64_w, i32_w]
      rfl
    refine done_ (done_of HT_.out (by kernel_rfl)) ?_
    go_wp2
    go_ret
    exact ⟨rfl, HM2.out, HG2.out⟩
  ·
    go_enter Try.func43, Try.ntmps43
    go_wp2_with fail
    generalize W.heap.size = h6 at HB6 ⊢
    refine start_ (n := 18) (S := fun w' => w'.heap[h6]? = some (.cells #[.int .i64 kind, .bool priv, .int .u64 va] 61 (0, 0)) ∧ w'.heap[q]? = some (.cells #[.pointer (some ⟨g, 0, none⟩), .pointer (some ⟨p0, 0, none⟩), .pointer (some ⟨p1, 0, none⟩)] 81 (0, 0))) (ds := []) #[false, false, false, false, false, false, false, false, false, false, false, false, false, false, false, false, false, false] (by kernel_rfl) rfl rfl ⟨HB6.out, HM.out.c.row⟩ (fun hHeld => ?_)
    refine with_tab note9_tab (fun HT_ => ?_)
    refine pure_ (i := 0) (N := some 29) (v := ?_) (a' := ?_) #[true, false, false, false, false, false, false, false, false, false, false, false, false, false, false, false, false, false] rfl rfl (any_of HT_.out (by kernel_rfl)) (fun _ _ _ h => h) (Or.inl ⟨by rfl, ?_⟩) ?_ ?_
    rotate_left
    · intro w'
      go_simp
      with_reducible rfl
    rotate_left
    · simp only [Act.put, List.setIfInBounds_toArray, List.set_cons_zero, List.set_cons_succ, i64_w, i32_w]
      rfl
    refine pure_ (i := 1) (N := some 30) (v := .pointer (some ⟨q, 0, none⟩)) (a' := ?_) #[true, true, false, false, false, false, false, false, false, false, false, false, false, false, false, false, false, false] rfl rfl (any_of HT_.out (by kernel_rfl)) (fun _ _ _ h => h) (Or.inl ⟨by rfl, ?_⟩) ?_ ?_
    · intro w'
      go_simp
    rotate_left
    · simp only [Act.put, List.setIfInBounds_toArray, List.set_cons_zero, List.set_cons_succ, i64_w, i32_w]
      rfl
    refine pure_ (i := 2) (N := some 31) (v := ?_) (a' := ?_) #[true, true, true, false, false, false, false, false, false, false, false, false, false, false, false, false, false, false] rfl rfl (any_of HT_.out (by kernel_rfl)) (fun _ _ _ h => h) (Or.inl ⟨by rfl, ?_⟩) ?_ ?_
    rotate_left
    · intro w'
      go_simp
      with_reducible rfl
    rotate_left
    · simp only [Act.put, List.setIfInBounds_toArray, List.set_cons_zero, List.set_cons_succ, i64_w, i32_w]
      rfl
    refine pure_ (i := 4) (N := some 33) (v := ?_) (a' := ?_) #[true, true, true, false, true, false, false, false, false, false, false, false, false, false, false, false, false, false] rfl rfl (any_of HT_.out (by kernel_rfl)) (fun _ _ _ h => h) (Or.inl ⟨by rfl, ?_⟩) ?_ ?_
    rotate_left
    · intro w'
      go_simp
      with_reducible rfl
    rotate_left
    · simp only [Act.put, List.setIfInBounds_toArray, List.set_cons_zero, List.set_cons_succ, i64_w, i32_w]
      rfl
    refine pure_ (i := 7) (N := some 36) (v := ?_) (a' := ?_) #[true, true, true, false, true, false, false, true, false, false, false, false, false, false, false, false, false, false] rfl rfl (any_of HT_.out (by kernel_rfl)) (fun _ _ _ h => h) (Or.inl ⟨by rfl, ?_⟩) ?_ ?_
    rotate_left
    · intro w'
      go_simp
      with_reducible rfl
    rotate_left
    · simp only [Act.put, List.setIfInBounds_toArray, List.set_cons_zero, List.set_cons_succ, i64_w, i32_w]
      rfl
    refine pure_ (i := 9) (N := some 38) (v := ?_) (a' := ?_) #[true, true, true, false, true, false, false, true, false, true, false, false, false, false, false, false, false, false] rfl rfl (any_of HT_.out (by kernel_rfl)) (fun _ _ _ h => h) (Or.inl ⟨by rfl, ?_⟩) ?_ ?_
    rotate_left
    · intro w'
      go_simp
      with_reducible rfl
    rotate_left
    · simp only [Act.put, List.setIfInBounds_toArray, List.set_cons_zero, List.set_cons_succ, i64_w, i32_w]
      rfl
    refine pure_ (i := 12) (N := some 41) (v := ?_) (a' := ?_) #[true, true, true, false, true, false, false, true, false, true, false, false, true, false, false, false, false, false] rfl rfl (any_of HT_.out (by kernel_rfl)) (fun _ _ _ h => h) (Or.inl ⟨by rfl, ?_⟩) ?_ ?_
    rotate_left
    · intro w'
      go_simp
      with_reducible rfl
    rotate_left
    · simp only [Act.put, List.setIfInBounds_toArray, List.set_cons_zero, List.set_cons_succ, i64_w, i32_w]
      rfl
    refine pure_ (i := 14) (N := some 43) (v := ?_) (a' := ?_) #[true, true, true, false, true, false, false, true, false, true, false, false, true, false, true, false, false, false] rfl rfl (any_of HT_.out (by kernel_rfl)) (fun _ _ _ h => h) (Or.inl ⟨by rfl, ?_⟩) ?_ ?_
    rotate_left
    · intro w'
      go_simp
      with_reducible rfl
    rotate_left
    · simp only [Act.put, List.setIfInBounds_toArray, List.set_cons_zero, List.set_cons_succ, i64_w, i32_w]
      rfl
    refine take_ (i := 3) (N := some 32) (v := .pointer (some ⟨g, 0, none⟩)) (a' := ?_) #[true, true, true, true, true, false, false, true, false, true, false, false, true, false, true, false, false, false] rfl rfl (take_of HT_.out (by kernel_rfl)) (fun _ _ _ h => h) (Or.inl ⟨by rfl, ?_⟩) hHeld ?_ ?_
    · rintro w' ⟨s1, s2⟩
      obtain ⟨d0, d1, d2⟩ := cz3 s2
      go_simp
    rotate_left
    · simp only [Act.put, List.setIfInBounds_toArray, List.set_cons_zero, List.set_cons_succ, i64_w, i32_w]
      rfl
    refine take_ (i := 5) (N := some 34) (v := .int .i64 kind) (a' := ?_) #[true, true, true, true, true, true, false, true, false, true, false, false, true, false, true, false, false, false] rfl rfl (take_of HT_.out (by kernel_rfl)) (fun _ _ _ h => h) (Or.inl ⟨by rfl, ?_⟩) hHeld ?_ ?_
    · rintro w' ⟨s1, s2⟩
      obtain ⟨y0, y1, y2⟩ := cz3 s1
      go_simp
    rotate_left
    · simp only [Act.put, List.setIfInBounds_toArray, List.set_cons_zero, List.set_cons_succ, i64_w, i32_w]
      rfl
    refine take_ (i := 10) (N := some 39) (v := .int .i64 kind) (a' := ?_) #[true, true, true, true, true, true, false, true, false, true, true, false, true, false, true, false, false, false] rfl rfl (take_of HT_.out (by kernel_rfl)) (fun _ _ _ h => h) (Or.inl ⟨by rfl, ?_⟩) hHeld ?_ ?_
    · rintro w' ⟨s1, s2⟩
      obtain ⟨y0, y1, y2⟩ := cz3 s1
      go_simp
    rotate_left
    · simp only [Act.put, List.setIfInBounds_toArray, List.set_cons_zero, List.set_cons_succ, i64_w, i32_w]
      rfl
    refine pure_ (i := 11) (N := some 40) (v := .bool (kind == 1)) (a' := ?_) #[true, true, true, true, true, true, false, true, false, true, true, true, true, false, true, false, false, false] rfl rfl (any_of HT_.out (by kernel_rfl)) (fun _ _ _ h => h) (Or.inl ⟨by rfl, ?_⟩) ?_ ?_
    · intro w'
      go_simp
    rotate_left
    · simp only [Act.put, List.setIfInBounds_toArray, List.set_cons_zero, List.set_cons_succ, i64_w, i32_w]
      rfl
    refine take_ (i := 13) (N := some 42) (v := .bool priv) (a' := ?_) #[true, true, true, true, true, true, false, true, false, true, true, true, true, true, true, false, false, false] rfl rfl (take_of HT_.out (by kernel_rfl)) (fun _ _ _ h => h) (Or.inl ⟨by rfl, ?_⟩) hHeld ?_ ?_
    · rintro w' ⟨s1, s2⟩
      obtain ⟨y0, y1, y2⟩ := cz3 s1
      go_simp
    rotate_left
    · simp only [Act.put, List.setIfInBounds_toArray, List.set_cons_zero, List.set_cons_succ, i64_w, i32_w]
      rfl
    refine take_ (i := 15) (N := some 44) (v := .int .u64 va) (a' := ?_) #[true, true, true, true, true, true, false, true, false, true, true, true, true, true, true, true, false, false] rfl rfl (take_of HT_.out (by kernel_rfl)) (fun _ _ _ h => h) (Or.inl ⟨by rfl, ?_⟩) hHeld ?_ ?_
    · rintro w' ⟨s1, s2⟩
      obtain ⟨y0, y1, y2⟩ := cz3 s1
      go_simp
    rotate_left
    · simp only [Act.put, List.setIfInBounds_toArray, List.set_cons_zero, List.set_cons_succ, i64_w, i32_w]
      rfl
    refine one_ (i := 6) (N := some 35) #[true, true, true, true, true, true, true, true, false, true, true, true, true, true, true, true, false, false] rfl rfl (one_of HT_.out (by kernel_rfl)) (by decide) (fun K hK => ?_)
    refine goes_ Try.func34 (by kernel_rfl) rfl #[.int .i64 kind] (by rfl) rfl rfl (by (try simp only [List.map_toArray, List.map_cons, List.map_nil]); first | done | rfl) ?_
    refine (cpu_Unit.calls kind 1 _ HU.out).mono ?_
    rintro x0 wn ⟨rfl, hb⟩
    have hg := drawn_grown hb
    replace HG := Aside0.mk (grown_two HG.out hg)
    replace HM := Aside0.mk (HM.out.same hg)
    have hs : wn.heap[h6]? = some (.cells #[.int .i64 kind, .bool priv, .int .u64 va] 61 (0, 0)) ∧ wn.heap[q]? = some (.cells #[.pointer (some ⟨g, 0, none⟩), .pointer (some ⟨p0, 0, none⟩), .pointer (some ⟨p1, 0, none⟩)] 81 (0, 0)) := ⟨blk_grown hHeld.1 hg, blk_grown hHeld.2 hg⟩
    clear hg hb
    refine ⟨_, rfl, ?_⟩
    refine hK.out _ _ hs (fun hHeld => ?_)
    clear hK K
    refine norm_ (a' := ?_) ?_ ?_
    rotate_left
    · show Act.put _ (some 35) _ = _
      simp only [Act.put, List.setIfInBounds_toArray, List.set_cons_zero, List.set_cons_succ, i64_w, i32_w]
      rfl
    refine one_ (i := 8) (N := some 37) #[true, true, true, true, true, true, true, true, true, true, true, true, true, true, true, true, false, false] rfl rfl (one_of HT_.out (by kernel_rfl)) (by decide) (fun K hK => ?_)
    refine goes_ Try.func81 (by kernel_rfl) rfl #[.int .i64 3] (by rfl) rfl rfl (by (try simp only [List.map_toArray, List.map_cons, List.map_nil]); first | done | rfl) ?_
    refine (QRegsPlays.fault_Type.calls 3 1 _ HT.out).mono ?_
    rintro x0 wn ⟨rfl, hb⟩
    have hg := below_grown hb
    replace HG := Aside0.mk (grown_two HG.out hg)
    replace HM := Aside0.mk (HM.out.same hg)
    have hs : wn.heap[h6]? = some (.cells #[.int .i64 kind, .bool priv, .int .u64 va] 61 (0, 0)) ∧ wn.heap[q]? = some (.cells #[.pointer (some ⟨g, 0, none⟩), .pointer (some ⟨p0, 0, none⟩), .pointer (some ⟨p1, 0, none⟩)] 81 (0, 0)) := ⟨blk_grown hHeld.1 hg, blk_grown hHeld.2 hg⟩
    clear hg hb
    refine ⟨_, rfl, ?_⟩
    refine hK.out _ _ hs (fun hHeld => ?_)
    clear hK K
    refine norm_ (a' := ?_) ?_ ?_
    rotate_left
    · show Act.put _ (some 37) _ = _
      simp only [Act.put, List.setIfInBounds_toArray, List.set_cons_zero, List.set_cons_succ, i64_w, i32_w]
      rfl
    refine one_ (i := 16) (N := some 45) #[true, true, true, true, true, true, true, true, true, true, true, true, true, true, true, true, true, false] rfl rfl (one_of HT_.out (by kernel_rfl)) (by decide) (fun K hK => ?_)
    refine goes_ Try.func80 (by kernel_rfl) rfl #[.pointer (some ⟨g, 0, none⟩), .int .i64 1, .int .i64 1, .int .i64 128, .bool (kind == 1), .bool priv, .int .u64 va] (by rfl) rfl rfl (by (try simp only [List.map_toArray, List.map_cons, List.map_nil]); first | done | rfl) ?_
    refine (QRegsPlays.fault_d_ok HM.out.r 1 128 (kind == 1) priv va HVA.out HTK.out.1 HTK.out.2 (by decide) (by decide) (Nat.lt_of_lt_of_le HN.out (by decide))).mono ?_
    rintro x0 wn ⟨rfl, hR, hg⟩
    have HM2 := Aside0.mk (HM.out.setR hR hg)
    have HG2 := Aside0.mk (grown_two (grown_but HG.out (some mb)) hg)
    have hs : wn.heap[h6]? = some (.cells #[.int .i64 kind, .bool priv, .int .u64 va] 61 (0, 0)) ∧ wn.heap[q]? = some (.cells #[.pointer (some ⟨g, 0, none⟩), .pointer (some ⟨p0, 0, none⟩), .pointer (some ⟨p1, 0, none⟩)] 81 (0, 0)) := ⟨(hg.block h6 (blk_lt hHeld.1) (fun e => HM.out.nm _ _ _ hHeld.1 (Option.some.inj e))).trans hHeld.1, HM2.out.c.row⟩
    clear hR hg HM HG
    refine ⟨_, rfl, ?_⟩
    refine hK.out _ _ hs (fun hHeld => ?_)
    clear hK K
    refine norm_ (a' := ?_) ?_ ?_
    rotate_left
    · show Act.put _ (some 45) _ = _
      simp only [Act.put, List.setIfInBounds_toArray, List.set_cons_zero, List.set_cons_succ, i64_w, i32_w]
      rfl
    refine pure_ (i := 17) (N := some 8) (v := ?_) (a' := ?_) #[true, true, true, true, true, true, true, true, true, true, true, true, true, true, true, true, true, true] rfl rfl (any_of HT_.out (by kernel_rfl)) (fun _ _ _ h => h) (Or.inl ⟨by rfl, ?_⟩) ?_ ?_
    rotate_left
    · intro w'
      go_simp
      with_reducible rfl
    rotate_left
    · simp only [Act.put, List.setIfInBounds_toArray, List.set_cons_zero, List.set_cons_succ, i64_w, i32_w]
      rfl
    refine done_ (done_of HT_.out (by kernel_rfl)) ?_
    go_wp2
    go_ret
    exact ⟨rfl, HM2.out, HG2.out⟩
  ·
    go_enter Try.func43, Try.ntmps43
    go_wp2_with fail
    generalize W.heap.size = h6 at HB6 ⊢
    refine start_ (n := 18) (S := fun w' => w'.heap[h6]? = some (.cells #[.int .i64 kind, .bool priv, .int .u64 va] 61 (0, 0)) ∧ w'.heap[q]? = some (.cells #[.pointer (some ⟨g, 0, none⟩), .pointer (some ⟨p0, 0, none⟩), .pointer (some ⟨p1, 0, none⟩)] 81 (0, 0))) (ds := []) #[false, false, false, false, false, false, false, false, false, false, false, false, false, false, false, false, false, false] (by kernel_rfl) rfl rfl ⟨HB6.out, HM.out.c.row⟩ (fun hHeld => ?_)
    refine with_tab note9_tab (fun HT_ => ?_)
    refine pure_ (i := 0) (N := some 29) (v := ?_) (a' := ?_) #[true, false, false, false, false, false, false, false, false, false, false, false, false, false, false, false, false, false] rfl rfl (any_of HT_.out (by kernel_rfl)) (fun _ _ _ h => h) (Or.inl ⟨by rfl, ?_⟩) ?_ ?_
    rotate_left
    · intro w'
      go_simp
      with_reducible rfl
    rotate_left
    · simp only [Act.put, List.setIfInBounds_toArray, List.set_cons_zero, List.set_cons_succ, i64_w, i32_w]
      rfl
    refine pure_ (i := 1) (N := some 30) (v := .pointer (some ⟨q, 0, none⟩)) (a' := ?_) #[true, true, false, false, false, false, false, false, false, false, false, false, false, false, false, false, false, false] rfl rfl (any_of HT_.out (by kernel_rfl)) (fun _ _ _ h => h) (Or.inl ⟨by rfl, ?_⟩) ?_ ?_
    · intro w'
      go_simp
    rotate_left
    · simp only [Act.put, List.setIfInBounds_toArray, List.set_cons_zero, List.set_cons_succ, i64_w, i32_w]
      rfl
    refine pure_ (i := 2) (N := some 31) (v := ?_) (a' := ?_) #[true, true, true, false, false, false, false, false, false, false, false, false, false, false, false, false, false, false] rfl rfl (any_of HT_.out (by kernel_rfl)) (fun _ _ _ h => h) (Or.inl ⟨by rfl, ?_⟩) ?_ ?_
    rotate_left
    · intro w'
      go_simp
      with_reducible rfl
    rotate_left
    · simp only [Act.put, List.setIfInBounds_toArray, List.set_cons_zero, List.set_cons_succ, i64_w, i32_w]
      rfl
    refine pure_ (i := 4) (N := some 33) (v := ?_) (a' := ?_) #[true, true, true, false, true, false, false, false, false, false, false, false, false, false, false, false, false, false] rfl rfl (any_of HT_.out (by kernel_rfl)) (fun _ _ _ h => h) (Or.inl ⟨by rfl, ?_⟩) ?_ ?_
    rotate_left
    · intro w'
      go_simp
      with_reducible rfl
    rotate_left
    · simp only [Act.put, List.setIfInBounds_toArray, List.set_cons_zero, List.set_cons_succ, i64_w, i32_w]
      rfl
    refine pure_ (i := 7) (N := some 36) (v := ?_) (a' := ?_) #[true, true, true, false, true, false, false, true, false, false, false, false, false, false, false, false, false, false] rfl rfl (any_of HT_.out (by kernel_rfl)) (fun _ _ _ h => h) (Or.inl ⟨by rfl, ?_⟩) ?_ ?_
    rotate_left
    · intro w'
      go_simp
      with_reducible rfl
    rotate_left
    · simp only [Act.put, List.setIfInBounds_toArray, List.set_cons_zero, List.set_cons_succ, i64_w, i32_w]
      rfl
    refine pure_ (i := 9) (N := some 38) (v := ?_) (a' := ?_) #[true, true, true, false, true, false, false, true, false, true, false, false, false, false, false, false, false, false] rfl rfl (any_of HT_.out (by kernel_rfl)) (fun _ _ _ h => h) (Or.inl ⟨by rfl, ?_⟩) ?_ ?_
    rotate_left
    · intro w'
      go_simp
      with_reducible rfl
    rotate_left
    · simp only [Act.put, List.setIfInBounds_toArray, List.set_cons_zero, List.set_cons_succ, i64_w, i32_w]
      rfl
    refine pure_ (i := 12) (N := some 41) (v := ?_) (a' := ?_) #[true, true, true, false, true, false, false, true, false, true, false, false, true, false, false, false, false, false] rfl rfl (any_of HT_.out (by kernel_rfl)) (fun _ _ _ h => h) (Or.inl ⟨by rfl, ?_⟩) ?_ ?_
    rotate_left
    · intro w'
      go_simp
      with_reducible rfl
    rotate_left
    · simp only [Act.put, List.setIfInBounds_toArray, List.set_cons_zero, List.set_cons_succ, i64_w, i32_w]
      rfl
    refine pure_ (i := 14) (N := some 43) (v := ?_) (a' := ?_) #[true, true, true, false, true, false, false, true, false, true, false, false, true, false, true, false, false, false] rfl rfl (any_of HT_.out (by kernel_rfl)) (fun _ _ _ h => h) (Or.inl ⟨by rfl, ?_⟩) ?_ ?_
    rotate_left
    · intro w'
      go_simp
      with_reducible rfl
    rotate_left
    · simp only [Act.put, List.setIfInBounds_toArray, List.set_cons_zero, List.set_cons_succ, i64_w, i32_w]
      rfl
    refine take_ (i := 3) (N := some 32) (v := .pointer (some ⟨g, 0, none⟩)) (a' := ?_) #[true, true, true, true, true, false, false, true, false, true, false, false, true, false, true, false, false, false] rfl rfl (take_of HT_.out (by kernel_rfl)) (fun _ _ _ h => h) (Or.inl ⟨by rfl, ?_⟩) hHeld ?_ ?_
    · rintro w' ⟨s1, s2⟩
      obtain ⟨d0, d1, d2⟩ := cz3 s2
      go_simp
    rotate_left
    · simp only [Act.put, List.setIfInBounds_toArray, List.set_cons_zero, List.set_cons_succ, i64_w, i32_w]
      rfl
    refine take_ (i := 5) (N := some 34) (v := .int .i64 kind) (a' := ?_) #[true, true, true, true, true, true, false, true, false, true, false, false, true, false, true, false, false, false] rfl rfl (take_of HT_.out (by kernel_rfl)) (fun _ _ _ h => h) (Or.inl ⟨by rfl, ?_⟩) hHeld ?_ ?_
    · rintro w' ⟨s1, s2⟩
      obtain ⟨y0, y1, y2⟩ := cz3 s1
      go_simp
    rotate_left
    · simp only [Act.put, List.setIfInBounds_toArray, List.set_cons_zero, List.set_cons_succ, i64_w, i32_w]
      rfl
    refine take_ (i := 10) (N := some 39) (v := .int .i64 kind) (a' := ?_) #[true, true, true, true, true, true, false, true, false, true, true, false, true, false, true, false, false, false] rfl rfl (take_of HT_.out (by kernel_rfl)) (fun _ _ _ h => h) (Or.inl ⟨by rfl, ?_⟩) hHeld ?_ ?_
    · rintro w' ⟨s1, s2⟩
      obtain ⟨y0, y1, y2⟩ := cz3 s1
      go_simp
    rotate_left
    · simp only [Act.put, List.setIfInBounds_toArray, List.set_cons_zero, List.set_cons_succ, i64_w, i32_w]
      rfl
    refine pure_ (i := 11) (N := some 40) (v := .bool (kind == 1)) (a' := ?_) #[true, true, true, true, true, true, false, true, false, true, true, true, true, false, true, false, false, false] rfl rfl (any_of HT_.out (by kernel_rfl)) (fun _ _ _ h => h) (Or.inl ⟨by rfl, ?_⟩) ?_ ?_
    · intro w'
      go_simp
    rotate_left
    · simp only [Act.put, List.setIfInBounds_toArray, List.set_cons_zero, List.set_cons_succ, i64_w, i32_w]
      rfl
    refine take_ (i := 13) (N := some 42) (v := .bool priv) (a' := ?_) #[true, true, true, true, true, true, false, true, false, true, true, true, true, true, true, false, false, false] rfl rfl (take_of HT_.out (by kernel_rfl)) (fun _ _ _ h => h) (Or.inl ⟨by rfl, ?_⟩) hHeld ?_ ?_
    · rintro w' ⟨s1, s2⟩
      obtain ⟨y0, y1, y2⟩ := cz3 s1
      go_simp
    rotate_left
    · simp only [Act.put, List.setIfInBounds_toArray, List.set_cons_zero, List.set_cons_succ, i64_w, i32_w]
      rfl
    refine take_ (i := 15) (N := some 44) (v := .int .u64 va) (a' := ?_) #[true, true, true, true, true, true, false, true, false, true, true, true, true, true, true, true, false, false] rfl rfl (take_of HT_.out (by kernel_rfl)) (fun _ _ _ h => h) (Or.inl ⟨by rfl, ?_⟩) hHeld ?_ ?_
    · rintro w' ⟨s1, s2⟩
      obtain ⟨y0, y1, y2⟩ := cz3 s1
      go_simp
    rotate_left
    · simp only [Act.put, List.setIfInBounds_toArray, List.set_cons_zero, List.set_cons_succ, i64_w, i32_w]
      rfl
    refine one_ (i := 6) (N := some 35) #[true, true, true, true, true, true, true, true, false, true, true, true, true, true, true, true, false, false] rfl rfl (one_of HT_.out (by kernel_rfl)) (by decide) (fun K hK => ?_)
    refine goes_ Try.func34 (by kernel_rfl) rfl #[.int .i64 kind] (by rfl) rfl rfl (by (try simp only [List.map_toArray, List.map_cons, List.map_nil]); first | done | rfl) ?_
    refine (cpu_Unit.calls kind 1 _ HU.out).mono ?_
    rintro x0 wn ⟨rfl, hb⟩
    have hg := drawn_grown hb
    replace HG := Aside0.mk (grown_two HG.out hg)
    replace HM := Aside0.mk (HM.out.same hg)
    have hs : wn.heap[h6]? = some (.cells #[.int .i64 kind, .bool priv, .int .u64 va] 61 (0, 0)) ∧ wn.heap[q]? = some (.cells #[.pointer (some ⟨g, 0, none⟩), .pointer (some ⟨p0, 0, none⟩), .pointer (some ⟨p1, 0, none⟩)] 81 (0, 0)) := ⟨blk_grown hHeld.1 hg, blk_grown hHeld.2 hg⟩
    clear hg hb
    refine ⟨_, rfl, ?_⟩
    refine hK.out _ _ hs (fun hHeld => ?_)
    clear hK K
    refine norm_ (a' := ?_) ?_ ?_
    rotate_left
    · show Act.put _ (some 35) _ = _
      simp only [Act.put, List.setIfInBounds_toArray, List.set_cons_zero, List.set_cons_succ, i64_w, i32_w]
      rfl
    refine one_ (i := 8) (N := some 37) #[true, true, true, true, true, true, true, true, true, true, true, true, true, true, true, true, false, false] rfl rfl (one_of HT_.out (by kernel_rfl)) (by decide) (fun K hK => ?_)
    refine goes_ Try.func81 (by kernel_rfl) rfl #[.int .i64 4] (by rfl) rfl rfl (by (try simp only [List.map_toArray, List.map_cons, List.map_nil]); first | done | rfl) ?_
    refine (QRegsPlays.fault_Type.calls 4 2 _ HT.out).mono ?_
    rintro x0 wn ⟨rfl, hb⟩
    have hg := below_grown hb
    replace HG := Aside0.mk (grown_two HG.out hg)
    replace HM := Aside0.mk (HM.out.same hg)
    have hs : wn.heap[h6]? = some (.cells #[.int .i64 kind, .bool priv, .int .u64 va] 61 (0, 0)) ∧ wn.heap[q]? = some (.cells #[.pointer (some ⟨g, 0, none⟩), .pointer (some ⟨p0, 0, none⟩), .pointer (some ⟨p1, 0, none⟩)] 81 (0, 0)) := ⟨blk_grown hHeld.1 hg, blk_grown hHeld.2 hg⟩
    clear hg hb
    refine ⟨_, rfl, ?_⟩
    refine hK.out _ _ hs (fun hHeld => ?_)
    clear hK K
    refine norm_ (a' := ?_) ?_ ?_
    rotate_left
    · show Act.put _ (some 37) _ = _
      simp only [Act.put, List.setIfInBounds_toArray, List.set_cons_zero, List.set_cons_succ, i64_w, i32_w]
      rfl
    refine one_ (i := 16) (N := some 45) #[true, true, true, true, true, true, true, true, true, true, true, true, true, true, true, true, true, false] rfl rfl (one_of HT_.out (by kernel_rfl)) (by decide) (fun K hK => ?_)
    refine goes_ Try.func80 (by kernel_rfl) rfl #[.pointer (some ⟨g, 0, none⟩), .int .i64 1, .int .i64 2, .int .i64 128, .bool (kind == 1), .bool priv, .int .u64 va] (by rfl) rfl rfl (by (try simp only [List.map_toArray, List.map_cons, List.map_nil]); first | done | rfl) ?_
    refine (QRegsPlays.fault_d_ok HM.out.r 2 128 (kind == 1) priv va HVA.out HTK.out.1 HTK.out.2 (by decide) (by decide) (Nat.lt_of_lt_of_le HN.out (by decide))).mono ?_
    rintro x0 wn ⟨rfl, hR, hg⟩
    have HM2 := Aside0.mk (HM.out.setR hR hg)
    have HG2 := Aside0.mk (grown_two (grown_but HG.out (some mb)) hg)
    have hs : wn.heap[h6]? = some (.cells #[.int .i64 kind, .bool priv, .int .u64 va] 61 (0, 0)) ∧ wn.heap[q]? = some (.cells #[.pointer (some ⟨g, 0, none⟩), .pointer (some ⟨p0, 0, none⟩), .pointer (some ⟨p1, 0, none⟩)] 81 (0, 0)) := ⟨(hg.block h6 (blk_lt hHeld.1) (fun e => HM.out.nm _ _ _ hHeld.1 (Option.some.inj e))).trans hHeld.1, HM2.out.c.row⟩
    clear hR hg HM HG
    refine ⟨_, rfl, ?_⟩
    refine hK.out _ _ hs (fun hHeld => ?_)
    clear hK K
    refine norm_ (a' := ?_) ?_ ?_
    rotate_left
    · show Act.put _ (some 45) _ = _
      simp only [Act.put, List.setIfInBounds_toArray, List.set_cons_zero, List.set_cons_succ, i64_w, i32_w]
      rfl
    refine pure_ (i := 17) (N := some 8) (v := ?_) (a' := ?_) #[true, true, true, true, true, true, true, true, true, true, true, true, true, true, true, true, true, true] rfl rfl (any_of HT_.out (by kernel_rfl)) (fun _ _ _ h => h) (Or.inl ⟨by rfl, ?_⟩) ?_ ?_
    rotate_left
    · intro w'
      go_simp
      with_reducible rfl
    rotate_left
    · simp only [Act.put, List.setIfInBounds_toArray, List.set_cons_zero, List.set_cons_succ, i64_w, i32_w]
      rfl
    refine done_ (done_of HT_.out (by kernel_rfl)) ?_
    go_wp2
    go_ret
    exact ⟨rfl, HM2.out, HG2.out⟩
  ·
    go_enter Try.func43, Try.ntmps43
    go_wp2_with fail
    generalize W.heap.size = h6 at HB6 ⊢
    refine start_ (n := 18) (S := fun w' => w'.heap[h6]? = some (.cells #[.int .i64 kind, .bool priv, .int .u64 va] 61 (0, 0)) ∧ w'.heap[q]? = some (.cells #[.pointer (some ⟨g, 0, none⟩), .pointer (some ⟨p0, 0, none⟩), .pointer (some ⟨p1, 0, none⟩)] 81 (0, 0))) (ds := []) #[false, false, false, false, false, false, false, false, false, false, false, false, false, false, false, false, false, false] (by kernel_rfl) rfl rfl ⟨HB6.out, HM.out.c.row⟩ (fun hHeld => ?_)
    refine with_tab note9_tab (fun HT_ => ?_)
    refine pure_ (i := 0) (N := some 29) (v := ?_) (a' := ?_) #[true, false, false, false, false, false, false, false, false, false, false, false, false, false, false, false, false, false] rfl rfl (any_of HT_.out (by kernel_rfl)) (fun _ _ _ h => h) (Or.inl ⟨by rfl, ?_⟩) ?_ ?_
    rotate_left
    · intro w'
      go_simp
      with_reducible rfl
    rotate_left
    · simp only [Act.put, List.setIfInBounds_toArray, List.set_cons_zero, List.set_cons_succ, i64_w, i32_w]
      rfl
    refine pure_ (i := 1) (N := some 30) (v := .pointer (some ⟨q, 0, none⟩)) (a' := ?_) #[true, true, false, false, false, false, false, false, false, false, false, false, false, false, false, false, false, false] rfl rfl (any_of HT_.out (by kernel_rfl)) (fun _ _ _ h => h) (Or.inl ⟨by rfl, ?_⟩) ?_ ?_
    · intro w'
      go_simp
    rotate_left
    · simp only [Act.put, List.setIfInBounds_toArray, List.set_cons_zero, List.set_cons_succ, i64_w, i32_w]
      rfl
    refine pure_ (i := 2) (N := some 31) (v := ?_) (a' := ?_) #[true, true, true, false, false, false, false, false, false, false, false, false, false, false, false, false, false, false] rfl rfl (any_of HT_.out (by kernel_rfl)) (fun _ _ _ h => h) (Or.inl ⟨by rfl, ?_⟩) ?_ ?_
    rotate_left
    · intro w'
      go_simp
      with_reducible rfl
    rotate_left
    · simp only [Act.put, List.setIfInBounds_toArray, List.set_cons_zero, List.set_cons_succ, i64_w, i32_w]
      rfl
    refine pure_ (i := 4) (N := some 33) (v := ?_) (a' := ?_) #[true, true, true, false, true, false, false, false, false, false, false, false, false, false, false, false, false, false] rfl rfl (any_of HT_.out (by kernel_rfl)) (fun _ _ _ h => h) (Or.inl ⟨by rfl, ?_⟩) ?_ ?_
    rotate_left
    · intro w'
      go_simp
      with_reducible rfl
    rotate_left
    · simp only [Act.put, List.setIfInBounds_toArray, List.set_cons_zero, List.set_cons_succ, i64_w, i32_w]
      rfl
    refine pure_ (i := 7) (N := some 36) (v := ?_) (a' := ?_) #[true, true, true, false, true, false, false, true, false, false, false, false, false, false, false, false, false, false] rfl rfl (any_of HT_.out (by kernel_rfl)) (fun _ _ _ h => h) (Or.inl ⟨by rfl, ?_⟩) ?_ ?_
    rotate_left
    · intro w'
      go_simp
      with_reducible rfl
    rotate_left
    · simp only [Act.put, List.setIfInBounds_toArray, List.set_cons_zero, List.set_cons_succ, i64_w, i32_w]
      rfl
    refine pure_ (i := 9) (N := some 38) (v := ?_) (a' := ?_) #[true, true, true, false, true, false, false, true, false, true, false, false, false, false, false, false, false, false] rfl rfl (any_of HT_.out (by kernel_rfl)) (fun _ _ _ h => h) (Or.inl ⟨by rfl, ?_⟩) ?_ ?_
    rotate_left
    · intro w'
      go_simp
      with_reducible rfl
    rotate_left
    · simp only [Act.put, List.setIfInBounds_toArray, List.set_cons_zero, List.set_cons_succ, i64_w, i32_w]
      rfl
    refine pure_ (i := 12) (N := some 41) (v := ?_) (a' := ?_) #[true, true, true, false, true, false, false, true, false, true, false, false, true, false, false, false, false, false] rfl rfl (any_of HT_.out (by kernel_rfl)) (fun _ _ _ h => h) (Or.inl ⟨by rfl, ?_⟩) ?_ ?_
    rotate_left
    · intro w'
      go_simp
      with_reducible rfl
    rotate_left
    · simp only [Act.put, List.setIfInBounds_toArray, List.set_cons_zero, List.set_cons_succ, i64_w, i32_w]
      rfl
    refine pure_ (i := 14) (N := some 43) (v := ?_) (a' := ?_) #[true, true, true, false, true, false, false, true, false, true, false, false, true, false, true, false, false, false] rfl rfl (any_of HT_.out (by kernel_rfl)) (fun _ _ _ h => h) (Or.inl ⟨by rfl, ?_⟩) ?_ ?_
    rotate_left
    · intro w'
      go_simp
      with_reducible rfl
    rotate_left
    · simp only [Act.put, List.setIfInBounds_toArray, List.set_cons_zero, List.set_cons_succ, i64_w, i32_w]
      rfl
    refine take_ (i := 3) (N := some 32) (v := .pointer (some ⟨g, 0, none⟩)) (a' := ?_) #[true, true, true, true, true, false, false, true, false, true, false, false, true, false, true, false, false, false] rfl rfl (take_of HT_.out (by kernel_rfl)) (fun _ _ _ h => h) (Or.inl ⟨by rfl, ?_⟩) hHeld ?_ ?_
    · rintro w' ⟨s1, s2⟩
      obtain ⟨d0, d1, d2⟩ := cz3 s2
      go_simp
    rotate_left
    · simp only [Act.put, List.setIfInBounds_toArray, List.set_cons_zero, List.set_cons_succ, i64_w, i32_w]
      rfl
    refine take_ (i := 5) (N := some 34) (v := .int .i64 kind) (a' := ?_) #[true, true, true, true, true, true, false, true, false, true, false, false, true, false, true, false, false, false] rfl rfl (take_of HT_.out (by kernel_rfl)) (fun _ _ _ h => h) (Or.inl ⟨by rfl, ?_⟩) hHeld ?_ ?_
    · rintro w' ⟨s1, s2⟩
      obtain ⟨y0, y1, y2⟩ := cz3 s1
      go_simp
    rotate_left
    · simp only [Act.put, List.setIfInBounds_toArray, List.set_cons_zero, List.set_cons_succ, i64_w, i32_w]
      rfl
    refine take_ (i := 10) (N := some 39) (v := .int .i64 kind) (a' := ?_) #[true, true, true, true, true, true, false, true, false, true, true, false, true, false, true, false, false, false] rfl rfl (take_of HT_.out (by kernel_rfl)) (fun _ _ _ h => h) (Or.inl ⟨by rfl, ?_⟩) hHeld ?_ ?_
    · rintro w' ⟨s1, s2⟩
      obtain ⟨y0, y1, y2⟩ := cz3 s1
      go_simp
    rotate_left
    · simp only [Act.put, List.setIfInBounds_toArray, List.set_cons_zero, List.set_cons_succ, i64_w, i32_w]
      rfl
    refine pure_ (i := 11) (N := some 40) (v := .bool (kind == 1)) (a' := ?_) #[true, true, true, true, true, true, false, true, false, true, true, true, true, false, true, false, false, false] rfl rfl (any_of HT_.out (by kernel_rfl)) (fun _ _ _ h => h) (Or.inl ⟨by rfl, ?_⟩) ?_ ?_
    · intro w'
      go_simp
    rotate_left
    · simp only [Act.put, List.setIfInBounds_toArray, List.set_cons_zero, List.set_cons_succ, i64_w, i32_w]
      rfl
    refine take_ (i := 13) (N := some 42) (v := .bool priv) (a' := ?_) #[true, true, true, true, true, true, false, true, false, true, true, true, true, true, true, false, false, false] rfl rfl (take_of HT_.out (by kernel_rfl)) (fun _ _ _ h => h) (Or.inl ⟨by rfl, ?_⟩) hHeld ?_ ?_
    · rintro w' ⟨s1, s2⟩
      obtain ⟨y0, y1, y2⟩ := cz3 s1
      go_simp
    rotate_left
    · simp only [Act.put, List.setIfInBounds_toArray, List.set_cons_zero, List.set_cons_succ, i64_w, i32_w]
      rfl
    refine take_ (i := 15) (N := some 44) (v := .int .u64 va) (a' := ?_) #[true, true, true, true, true, true, false, true, false, true, true, true, true, true, true, true, false, false] rfl rfl (take_of HT_.out (by kernel_rfl)) (fun _ _ _ h => h) (Or.inl ⟨by rfl, ?_⟩) hHeld ?_ ?_
    · rintro w' ⟨s1, s2⟩
      obtain ⟨y0, y1, y2⟩ := cz3 s1
      go_simp
    rotate_left
    · simp only [Act.put, List.setIfInBounds_toArray, List.set_cons_zero, List.set_cons_succ, i64_w, i32_w]
      rfl
    refine one_ (i := 6) (N := some 35) #[true, true, true, true, true, true, true, true, false, true, true, true, true, true, true, true, false, false] rfl rfl (one_of HT_.out (by kernel_rfl)) (by decide) (fun K hK => ?_)
    refine goes_ Try.func34 (by kernel_rfl) rfl #[.int .i64 kind] (by rfl) rfl rfl (by (try simp only [List.map_toArray, List.map_cons, List.map_nil]); first | done | rfl) ?_
    refine (cpu_Unit.calls kind 1 _ HU.out).mono ?_
    rintro x0 wn ⟨rfl, hb⟩
    have hg := drawn_grown hb
    replace HG := Aside0.mk (grown_two HG.out hg)
    replace HM := Aside0.mk (HM.out.same hg)
    have hs : wn.heap[h6]? = some (.cells #[.int .i64 kind, .bool priv, .int .u64 va] 61 (0, 0)) ∧ wn.heap[q]? = some (.cells #[.pointer (some ⟨g, 0, none⟩), .pointer (some ⟨p0, 0, none⟩), .pointer (some ⟨p1, 0, none⟩)] 81 (0, 0)) := ⟨blk_grown hHeld.1 hg, blk_grown hHeld.2 hg⟩
    clear hg hb
    refine ⟨_, rfl, ?_⟩
    refine hK.out _ _ hs (fun hHeld => ?_)
    clear hK K
    refine norm_ (a' := ?_) ?_ ?_
    rotate_left
    · show Act.put _ (some 35) _ = _
      simp only [Act.put, List.setIfInBounds_toArray, List.set_cons_zero, List.set_cons_succ, i64_w, i32_w]
      rfl
    refine one_ (i := 8) (N := some 37) #[true, true, true, true, true, true, true, true, true, true, true, true, true, true, true, true, false, false] rfl rfl (one_of HT_.out (by kernel_rfl)) (by decide) (fun K hK => ?_)
    refine goes_ Try.func81 (by kernel_rfl) rfl #[.int .i64 6] (by rfl) rfl rfl (by (try simp only [List.map_toArray, List.map_cons, List.map_nil]); first | done | rfl) ?_
    refine (QRegsPlays.fault_Type.calls 6 16 _ HT.out).mono ?_
    rintro x0 wn ⟨rfl, hb⟩
    have hg := below_grown hb
    replace HG := Aside0.mk (grown_two HG.out hg)
    replace HM := Aside0.mk (HM.out.same hg)
    have hs : wn.heap[h6]? = some (.cells #[.int .i64 kind, .bool priv, .int .u64 va] 61 (0, 0)) ∧ wn.heap[q]? = some (.cells #[.pointer (some ⟨g, 0, none⟩), .pointer (some ⟨p0, 0, none⟩), .pointer (some ⟨p1, 0, none⟩)] 81 (0, 0)) := ⟨blk_grown hHeld.1 hg, blk_grown hHeld.2 hg⟩
    clear hg hb
    refine ⟨_, rfl, ?_⟩
    refine hK.out _ _ hs (fun hHeld => ?_)
    clear hK K
    refine norm_ (a' := ?_) ?_ ?_
    rotate_left
    · show Act.put _ (some 37) _ = _
      simp only [Act.put, List.setIfInBounds_toArray, List.set_cons_zero, List.set_cons_succ, i64_w, i32_w]
      rfl
    refine one_ (i := 16) (N := some 45) #[true, true, true, true, true, true, true, true, true, true, true, true, true, true, true, true, true, false] rfl rfl (one_of HT_.out (by kernel_rfl)) (by decide) (fun K hK => ?_)
    refine goes_ Try.func80 (by kernel_rfl) rfl #[.pointer (some ⟨g, 0, none⟩), .int .i64 1, .int .i64 16, .int .i64 128, .bool (kind == 1), .bool priv, .int .u64 va] (by rfl) rfl rfl (by (try simp only [List.map_toArray, List.map_cons, List.map_nil]); first | done | rfl) ?_
    refine (QRegsPlays.fault_d_ok HM.out.r 16 128 (kind == 1) priv va HVA.out HTK.out.1 HTK.out.2 (by decide) (by decide) (Nat.lt_of_lt_of_le HN.out (by decide))).mono ?_
    rintro x0 wn ⟨rfl, hR, hg⟩
    have HM2 := Aside0.mk (HM.out.setR hR hg)
    have HG2 := Aside0.mk (grown_two (grown_but HG.out (some mb)) hg)
    have hs : wn.heap[h6]? = some (.cells #[.int .i64 kind, .bool priv, .int .u64 va] 61 (0, 0)) ∧ wn.heap[q]? = some (.cells #[.pointer (some ⟨g, 0, none⟩), .pointer (some ⟨p0, 0, none⟩), .pointer (some ⟨p1, 0, none⟩)] 81 (0, 0)) := ⟨(hg.block h6 (blk_lt hHeld.1) (fun e => HM.out.nm _ _ _ hHeld.1 (Option.some.inj e))).trans hHeld.1, HM2.out.c.row⟩
    clear hR hg HM HG
    refine ⟨_, rfl, ?_⟩
    refine hK.out _ _ hs (fun hHeld => ?_)
    clear hK K
    refine norm_ (a' := ?_) ?_ ?_
    rotate_left
    · show Act.put _ (some 45) _ = _
      simp only [Act.put, List.setIfInBounds_toArray, List.set_cons_zero, List.set_cons_succ, i64_w, i32_w]
      rfl
    refine pure_ (i := 17) (N := some 8) (v := ?_) (a' := ?_) #[true, true, true, true, true, true, true, true, true, true, true, true, true, true, true, true, true, true] rfl rfl (any_of HT_.out (by kernel_rfl)) (fun _ _ _ h => h) (Or.inl ⟨by rfl, ?_⟩) ?_ ?_
    rotate_left
    · intro w'
      go_simp
      with_reducible rfl
    rotate_left
    · simp only [Act.put, List.setIfInBounds_toArray, List.set_cons_zero, List.set_cons_succ, i64_w, i32_w]
      rfl
    refine done_ (done_of HT_.out (by kernel_rfl)) ?_
    go_wp2
    go_ret
    exact ⟨rfl, HM2.out, HG2.out⟩
theorem note_none {B w0 q g mb n D p0 r0 p1 r1 e0 e1 W} (h : CpuR B w0 q g mb n D p0 r0 p1 r1 e0 e1 W) (ctx kind : Int) (priv : Bool) (va : Int) :
    Calls Try.prog 43 #[.pointer (some ⟨q, 0, none⟩), .int .i64 ctx, .agg #[.int .i64 kind, .bool priv, .int .u64 va], .int .i64 0] W fun x W' => x = .returned (.int .i64 0) ∧ CpuR B w0 q g mb n D p0 r0 p1 r1 e0 e1 W' ∧ W.grownBy W' none := by
  have hg0 := World.grownBy_alloc W (.cells #[.int .i64 kind, .bool priv, .int .u64 va] 61) none
  have HM := Aside0.mk (h.same hg0)
  have HG := Aside0.mk hg0
  clear h hg0
  go_enter Try.func43, Try.ntmps43
  go_wp2
  go_ret
  exact ⟨rfl, HM.out, HG.out⟩
end
end Go.Proofs.Ythclbckkfgmbaaa.QTlbPlays
namespace Go.Proofs.Ythclbckkfgmbaaa.QTlbPlays
open Go.RowKit Go.Proofs.YthclbckkfgmbaaaW.PrintWords Go.Proofs.YthclbckkfgmbaaaW.PrintLast Go.Proofs.YthclbckkfgmbaaaW.PrintMore
set_option linter.unusedSimpArgs false
set_option linter.unusedVariables false
section
set_option maxHeartbeats 1000000
set_option maxRecDepth 100000
theorem rd_eq {B w0 p mb n D W v} (h : QRegsPlays.Regs B w0 p mb n D W) (a q : Int) (ha : (Lit.int .i64 a).wf = true) (hq : (Lit.int .u64 q).wf = true) (ht : QRegsPlays.thereOf a q = true) (hv : QRegsPlays.getOf D a q = v) :
    Calls Try.prog 42 #[.pointer (some ⟨p, 0, none⟩), .int .i64 a, .int .u64 q] W fun e W' => e = .returned (.tuple #[.int .u64 v, .int .i64 0]) ∧ W.grownBy W' none := by
  subst hv
  exact QRegsPlays.read_ok h a q ha hq ht
theorem t_none (a q : Int) (h : q ≠ 0) : QRegsPlays.getOf (.map []) a q = 0 := by
  unfold QRegsPlays.getOf
  rw [if_neg h]
  rfl
theorem em : Go.Maps.IsMap (.map [] : DataW Unit) := ⟨[], rfl⟩
theorem t48_miss0 (va cx : Int) : QRegsPlays.getOf (QRegsPlays.pk (.map []) 80 48 (va / 8192 * 8192 + cx)) 80 48 = va / 8192 * 8192 + cx := by
  unfold QRegsPlays.getOf
  rw [if_neg (by decide), QRegsPlays.rdk_same em]
theorem t24_miss0 (va cx : Int) : QRegsPlays.getOf (QRegsPlays.pk (.map []) 80 48 (va / 8192 * 8192 + cx)) 80 24 = 0 := by
  unfold QRegsPlays.getOf
  rw [if_neg (by decide), QRegsPlays.rdk_other (QRegsPlays.key_ne (a := 80) (p := 24) (a' := 80) (p' := 48) (by decide) (by decide) (by decide) (by decide) (by decide))]
  rfl
theorem t48_fault0 (sr priv : Bool) (tk va : Int) : QRegsPlays.getOf (QRegsPlays.pk (.map []) 80 24 (QRegsPlays.stw (QRegsPlays.rdk (.map []) 80 24 % 2 == 1) (sr) priv tk 128)) 80 48 = 0 := by
  unfold QRegsPlays.getOf
  rw [if_neg (by decide), QRegsPlays.rdk_other (QRegsPlays.key_ne (a := 80) (p := 48) (a' := 80) (p' := 24) (by decide) (by decide) (by decide) (by decide) (by decide))]
  rfl
theorem t24_fault0 (sr priv : Bool) (tk va : Int) (h : 0 ≤ tk) : QRegsPlays.getOf (QRegsPlays.pk (.map []) 80 24 (QRegsPlays.stw (QRegsPlays.rdk (.map []) 80 24 % 2 == 1) (sr) priv tk 128)) 80 24 % 2 = 1 ∧ 0 ≤ QRegsPlays.getOf (QRegsPlays.pk (.map []) 80 24 (QRegsPlays.stw (QRegsPlays.rdk (.map []) 80 24 % 2 == 1) (sr) priv tk 128)) 80 24 := by
  unfold QRegsPlays.getOf
  rw [if_neg (by decide), QRegsPlays.rdk_same em]
  unfold QRegsPlays.stw QRegsPlays.b2i
  constructor <;> (repeat' split) <;> omega
theorem t48_miss1 (va cx : Int) : QRegsPlays.getOf (QRegsPlays.pk (.map []) 88 48 (va / 8192 * 8192 + cx)) 88 48 = va / 8192 * 8192 + cx := by
  unfold QRegsPlays.getOf
  rw [if_neg (by decide), QRegsPlays.rdk_same em]
theorem t24_miss1 (va cx : Int) : QRegsPlays.getOf (QRegsPlays.pk (.map []) 88 48 (va / 8192 * 8192 + cx)) 88 24 = 0 := by
  unfold QRegsPlays.getOf
  rw [if_neg (by decide), QRegsPlays.rdk_other (QRegsPlays.key_ne (a := 88) (p := 24) (a' := 88) (p' := 48) (by decide) (by decide) (by decide) (by decide) (by decide))]
  rfl
theorem t48_fault1 (sr priv : Bool) (tk va : Int) : QRegsPlays.getOf (QRegsPlays.pk (QRegsPlays.pk (.map []) 88 24 (QRegsPlays.stw (QRegsPlays.rdk (.map []) 88 24 % 2 == 1) (sr) priv tk 128)) 88 32 va) 88 48 = 0 := by
  unfold QRegsPlays.getOf
  rw [if_neg (by decide), QRegsPlays.rdk_other (QRegsPlays.key_ne (a := 88) (p := 48) (a' := 88) (p' := 32) (by decide) (by decide) (by decide) (by decide) (by decide)), QRegsPlays.rdk_other (QRegsPlays.key_ne (a := 88) (p := 48) (a' := 88) (p' := 24) (by decide) (by decide) (by decide) (by decide) (by decide))]
  rfl
theorem t24_fault1 (sr priv : Bool) (tk va : Int) (h : 0 ≤ tk) : QRegsPlays.getOf (QRegsPlays.pk (QRegsPlays.pk (.map []) 88 24 (QRegsPlays.stw (QRegsPlays.rdk (.map []) 88 24 % 2 == 1) (sr) priv tk 128)) 88 32 va) 88 24 % 2 = 1 ∧ 0 ≤ QRegsPlays.getOf (QRegsPlays.pk (QRegsPlays.pk (.map []) 88 24 (QRegsPlays.stw (QRegsPlays.rdk (.map []) 88 24 % 2 == 1) (sr) priv tk 128)) 88 32 va) 88 24 := by
  unfold QRegsPlays.getOf
  rw [if_neg (by decide), QRegsPlays.rdk_other (QRegsPlays.key_ne (a := 88) (p := 24) (a' := 88) (p' := 32) (by decide) (by decide) (by decide) (by decide) (by decide)), QRegsPlays.rdk_same em]
  unfold QRegsPlays.stw QRegsPlays.b2i
  constructor <;> (repeat' split) <;> omega
theorem cpuNotes_calls (x : Acc) (ctx kind : Int) (W : World) (hx : AccW x) (hc : (Lit.int .i64 ctx).wf = true) (hd : (Lit.int .i64 kind).wf = true) :
    Calls Try.prog 12 #[.agg #[.int .i64 x.f0, .bool x.f1, .int .u64 x.f2], .int .i64 ctx, .int .i64 kind] W fun x W' => x = .returned (.bool true) ∧ Below W.heap.size W W' := by
  have hu3 := Try.underlying61
  have hg0 := World.grownBy_alloc W (.cells #[.int .i64 x.f0, .bool x.f1, .int .u64 x.f2] 61) none
  have HB3 := Aside0.mk (heap_alloc_new W (.cells #[.int .i64 x.f0, .bool x.f1, .int .u64 x.f2] 61))
  have HBL := Aside0.mk (below_of_grown hg0)
  have HLF := Aside0.mk lives17
  have HS2 := Aside0.mk (show slotsOf 2 = 2 by decide)
  have HXG := Aside0.mk (rFGood x.f0 hx.k x.f1 x.f2 20)
  have hcb := m_i64 hc
  have hcb1 := hcb.1
  have hcb2 := hcb.2
  have hdb := m_i64 hd
  have hdb1 := hdb.1
  have hdb2 := hdb.2
  have HVX := Aside0.mk hx.v
  clear hc hd hg0 hcb hdb
  go_enter Try.func12, Try.ntmps12
  go_wp2_with fail
  refine (cpu_newR HBL.out (by simp) 2).mono ?_
  rintro x0 w1 ⟨q, g, mb, p0, r0, p1, r1, N, rfl, hN, hN1, hM, hg⟩
  obtain rfl : N = 2 := hN.trans HS2.out
  have HM := Aside0.mk hM
  replace HB3 := Aside0.mk (blk_grown HB3.out hg)
  clear hN hN1 hM hg hx
  generalize W.heap.size = h3 at HB3 ⊢
  obtain ⟨q0, q1, q2⟩ := cz3 HB3.out
  go_wp2_with fail
  refine (lookasideref09_Good.calls 20 x.f0 x.f1 x.f2 false _ _ _ _ HXG.out).mono ?_
  rintro x0 w3 ⟨rfl, hb⟩
  have hg := below_grown hb
  replace HM := Aside0.mk (HM.out.same hg)
  clear hg hb q0 q1 q2 HB3
  obtain ⟨kk, hkk⟩ : ∃ kk : Int, kk = (kindOf x.f0 : Int) := ⟨_, rfl⟩
  obtain ⟨pr, hpr⟩ : ∃ b, b = x.f1 := ⟨_, rfl⟩
  obtain ⟨va, hvaq⟩ : ∃ n : Int, n = x.f2 := ⟨_, rfl⟩
  have HVA := Aside0.mk (show (Lit.int .u64 va).wf = true by rw [hvaq]; exact HVX.out)
  rw [← hkk, ← hpr, ← hvaq]
  clear hkk hpr hvaq HVX HXG
  have HB8 := Aside0.mk (heap_alloc_new w3 (.cells #[.int .i64 kk, .bool pr, .int .u64 va] 61))
  have hg := World.grownBy_alloc w3 (.cells #[.int .i64 kk, .bool pr, .int .u64 va] 61) none
  replace HM := Aside0.mk (HM.out.same hg)
  clear hg
  go_upto_if 26 with (fail)
  go_cut [1] (fun s1 wx => ∃ z : Int, s1 = .int .i64 z ∧ 0 ≤ z ∧ z < 9223372036854775808 ∧ w3.alloc (.cells #[.int .i64 kk, .bool pr, .int .u64 va] 61) = wx)
  case first =>
    by_cases hneg : ctx < 0
    all_goals (go_wp2_with fail; go_meet; exact ⟨_, rfl, by omega, by omega, rfl⟩)
  case rest =>
    obtain ⟨z, rfl, hz0, hz1, rfl⟩ := hcut
    go_upto_if 33 with (fail)
    go_cut [2] (fun s2 wx => ∃ y : Int, s2 = .int .i64 y ∧ 0 ≤ y ∧ y < 9223372036854775808 ∧ w3.alloc (.cells #[.int .i64 kk, .bool pr, .int .u64 va] 61) = wx)
    case first =>
      by_cases hneg : kind < 0
      all_goals (go_wp2_with fail; go_meet; exact ⟨_, rfl, by omega, by omega, rfl⟩)
    case rest =>
      obtain ⟨y, rfl, hy0, hy1, rfl⟩ := hcut
      generalize w3.alloc (.cells #[.int .i64 kk, .bool pr, .int .u64 va] 61) = w4 at HB8 HM ⊢
      generalize w3.heap.size = h8 at HB8 ⊢
      obtain ⟨cx, hcx⟩ : ∃ c : Int, c = z % 8192 := ⟨_, rfl⟩
      obtain ⟨kd, hkd⟩ : ∃ c : Int, c = y % 7 := ⟨_, rfl⟩
      have HCX := Aside0.mk (show 0 ≤ cx ∧ cx ≤ 8191 by omega)
      have hcx1 : 0 ≤ cx := HCX.out.1
      have hcx2 : cx ≤ 8191 := HCX.out.2
      have hkd1 : 0 ≤ kd := by omega
      have hkd2 : kd ≤ 6 := by omega
      have hvb := m_u64 HVA.out
      have hv0 := hvb.1
      have hv1 := hvb.2
      clear hvb
      have hcx' := hcx.symm
      have hkd' := hkd.symm
      clear hcx hkd
      obtain ⟨d0, d1, d2⟩ := cz3 HM.out.c.row
      obtain ⟨y0, y1, y2⟩ := cz3 HB8.out
      by_cases hk2 : kk = 2
      · subst hk2
        have HU := Aside0.mk (show cpu_Unit.f 2 = some 0 from rfl)
        go_wp2_with fail
        refine (cpu_look0 HM.out.c (inv_new 2).ok cx 2 pr va HVA.out HU.out _ _ rfl).mono ?_
        rintro x0 wl ⟨rfl, hg⟩
        replace HM := Aside0.mk (HM.out.same hg)
        replace HB8 := Aside0.mk (blk_grown HB8.out hg)
        clear hg d0 d1 d2 y0 y1 y2
        obtain ⟨d0, d1, d2⟩ := cz3 HM.out.c.row
        obtain ⟨y0, y1, y2⟩ := cz3 HB8.out
        go_wp2_with fail
        refine (rd_eq (v := 0) HM.out.r 88 48 (by decide) (by decide) (by decide) (t_none 88 48 (by decide))).mono ?_
        rintro x0 wr0 ⟨rfl, hg⟩
        replace HM := Aside0.mk (HM.out.same hg)
        replace HB8 := Aside0.mk (blk_grown HB8.out hg)
        clear hg d0 d1 d2 y0 y1 y2
        obtain ⟨d0, d1, d2⟩ := cz3 HM.out.c.row
        obtain ⟨y0, y1, y2⟩ := cz3 HB8.out
        by_cases hm2 : kd = 2
        · subst hm2
          go_wp2_with fail
          refine (note_miss0 HM.out cx 2 pr va HVA.out HU.out HCX.out (by decide) 2 (by simp)).mono ?_
          rintro x0 wn ⟨rfl, hM, hg⟩
          replace HB8 := Aside0.mk ((hg.block _ (blk_lt HB8.out) (fun e => HM.out.nm _ _ _ HB8.out (Option.some.inj e))).trans HB8.out)
          replace HM := Aside0.mk hM
          clear hM hg d0 d1 d2 y0 y1 y2
          obtain ⟨d0, d1, d2⟩ := cz3 HM.out.c.row
          obtain ⟨y0, y1, y2⟩ := cz3 HB8.out
          have T48 := Aside0.mk (t48_miss0 va cx)
          have T24 := Aside0.mk (t24_miss0 va cx)
          go_wp2_with fail
          refine (rd_eq (v := va / 8192 * 8192 + cx) HM.out.r 80 48 (by decide) (by decide) (by decide) T48.out).mono ?_
          rintro x0 wr ⟨rfl, hg⟩
          replace HM := Aside0.mk (HM.out.same hg)
          replace HB8 := Aside0.mk (blk_grown HB8.out hg)
          clear hg d0 d1 d2 y0 y1 y2
          obtain ⟨d0, d1, d2⟩ := cz3 HM.out.c.row
          obtain ⟨y0, y1, y2⟩ := cz3 HB8.out
          go_wp2_with fail
          refine (rd_eq (v := 0) HM.out.r 80 24 (by decide) (by decide) (by decide) T24.out).mono ?_
          rintro x0 ws ⟨rfl, hg⟩
          replace HM := Aside0.mk (HM.out.same hg)
          replace HB8 := Aside0.mk (blk_grown HB8.out hg)
          clear hg d0 d1 d2 y0 y1 y2
          obtain ⟨d0, d1, d2⟩ := cz3 HM.out.c.row
          obtain ⟨y0, y1, y2⟩ := cz3 HB8.out
          go_wp2_with fail
          refine (HLF.out _).mono ?_
          rintro x0 wv ⟨rfl, hg⟩
          have HE := Aside0.mk (HM.out.same hg).c.a.below
          clear hg
          go_wp2
          go_ret
          exact ⟨rfl, HE.out⟩
        · by_cases hm5 : kd = 5
          · subst hm5
            go_wp2_with fail
            refine (note_miss0 HM.out cx 2 pr va HVA.out HU.out HCX.out (by decide) 5 (by simp)).mono ?_
            rintro x0 wn ⟨rfl, hM, hg⟩
            replace HB8 := Aside0.mk ((hg.block _ (blk_lt HB8.out) (fun e => HM.out.nm _ _ _ HB8.out (Option.some.inj e))).trans HB8.out)
            replace HM := Aside0.mk hM
            clear hM hg d0 d1 d2 y0 y1 y2
            obtain ⟨d0, d1, d2⟩ := cz3 HM.out.c.row
            obtain ⟨y0, y1, y2⟩ := cz3 HB8.out
            have T48 := Aside0.mk (t48_miss0 va cx)
            have T24 := Aside0.mk (t24_miss0 va cx)
            go_wp2_with fail
            refine (rd_eq (v := va / 8192 * 8192 + cx) HM.out.r 80 48 (by decide) (by decide) (by decide) T48.out).mono ?_
            rintro x0 wr ⟨rfl, hg⟩
            replace HM := Aside0.mk (HM.out.same hg)
            replace HB8 := Aside0.mk (blk_grown HB8.out hg)
            clear hg d0 d1 d2 y0 y1 y2
            obtain ⟨d0, d1, d2⟩ := cz3 HM.out.c.row
            obtain ⟨y0, y1, y2⟩ := cz3 HB8.out
            go_wp2_with fail
            refine (rd_eq (v := 0) HM.out.r 80 24 (by decide) (by decide) (by decide) T24.out).mono ?_
            rintro x0 ws ⟨rfl, hg⟩
            replace HM := Aside0.mk (HM.out.same hg)
            replace HB8 := Aside0.mk (blk_grown HB8.out hg)
            clear hg d0 d1 d2 y0 y1 y2
            obtain ⟨d0, d1, d2⟩ := cz3 HM.out.c.row
            obtain ⟨y0, y1, y2⟩ := cz3 HB8.out
            go_wp2_with fail
            refine (HLF.out _).mono ?_
            rintro x0 wv ⟨rfl, hg⟩
            have HE := Aside0.mk (HM.out.same hg).c.a.below
            clear hg
            go_wp2
            go_ret
            exact ⟨rfl, HE.out⟩
          · by_cases hm0 : kd = 0
            · subst hm0
              go_wp2_with fail
              refine (note_none HM.out cx 2 pr va).mono ?_
              rintro x0 wn ⟨rfl, hM, hg⟩
              replace HB8 := Aside0.mk (blk_grown HB8.out hg)
              replace HM := Aside0.mk hM
              clear hM hg d0 d1 d2 y0 y1 y2
              obtain ⟨d0, d1, d2⟩ := cz3 HM.out.c.row
              obtain ⟨y0, y1, y2⟩ := cz3 HB8.out
              have T48 := Aside0.mk (t_none 80 48 (by decide))
              have T24 := Aside0.mk (t_none 80 24 (by decide))
              go_wp2_with fail
              refine (rd_eq (v := 0) HM.out.r 80 48 (by decide) (by decide) (by decide) T48.out).mono ?_
              rintro x0 wr ⟨rfl, hg⟩
              replace HM := Aside0.mk (HM.out.same hg)
              replace HB8 := Aside0.mk (blk_grown HB8.out hg)
              clear hg d0 d1 d2 y0 y1 y2
              obtain ⟨d0, d1, d2⟩ := cz3 HM.out.c.row
              obtain ⟨y0, y1, y2⟩ := cz3 HB8.out
              go_wp2_with fail
              refine (rd_eq (v := 0) HM.out.r 80 24 (by decide) (by decide) (by decide) T24.out).mono ?_
              rintro x0 ws ⟨rfl, hg⟩
              replace HM := Aside0.mk (HM.out.same hg)
              replace HB8 := Aside0.mk (blk_grown HB8.out hg)
              clear hg d0 d1 d2 y0 y1 y2
              obtain ⟨d0, d1, d2⟩ := cz3 HM.out.c.row
              obtain ⟨y0, y1, y2⟩ := cz3 HB8.out
              go_wp2_with fail
              refine (HLF.out _).mono ?_
              rintro x0 wv ⟨rfl, hg⟩
              have HE := Aside0.mk (HM.out.same hg).c.a.below
              clear hg
              go_wp2
              go_ret
              exact ⟨rfl, HE.out⟩
            · have hb2 : (kd == 2) = false := beq_eq_false_iff_ne.2 hm2
              have hb5 : (kd == 5) = false := beq_eq_false_iff_ne.2 hm5
              have hb0 : (kd != 0) = true := by simp [hm0]
              obtain ⟨tk, hkt⟩ : ∃ tk : Int, (kd = 1 ∧ tk = 32) ∨ (kd = 3 ∧ tk = 1) ∨ (kd = 4 ∧ tk = 2) ∨ (kd = 6 ∧ tk = 16) := by
                rcases (show kd = 1 ∨ kd = 3 ∨ kd = 4 ∨ kd = 6 by omega) with h | h | h | h
                · exact ⟨32, .inl ⟨h, rfl⟩⟩
                · exact ⟨1, .inr (.inl ⟨h, rfl⟩)⟩
                · exact ⟨2, .inr (.inr (.inl ⟨h, rfl⟩))⟩
                · exact ⟨16, .inr (.inr (.inr ⟨h, rfl⟩))⟩
              have HKT := Aside0.mk hkt
              have HTK := Aside0.mk (show 0 ≤ tk ∧ tk < 128 by omega)
              clear hkt hm0 hm2 hm5
              go_wp2_with fail
              refine (note_fault0 HM.out cx 2 pr va HVA.out HU.out HCX.out (by decide) kd tk HKT.out).mono ?_
              rintro x0 wn ⟨rfl, hM, hg⟩
              replace HB8 := Aside0.mk ((hg.block _ (blk_lt HB8.out) (fun e => HM.out.nm _ _ _ HB8.out (Option.some.inj e))).trans HB8.out)
              replace HM := Aside0.mk hM
              clear hM hg d0 d1 d2 y0 y1 y2
              obtain ⟨d0, d1, d2⟩ := cz3 HM.out.c.row
              obtain ⟨y0, y1, y2⟩ := cz3 HB8.out
              have T48 := Aside0.mk (t48_fault0 (2 == 1) pr tk va)
              have t24 := t24_fault0 (2 == 1) pr tk va HTK.out.1
              obtain ⟨st, hst⟩ : ∃ z, z = QRegsPlays.getOf (QRegsPlays.pk (.map []) 80 24 (QRegsPlays.stw (QRegsPlays.rdk (.map []) 80 24 % 2 == 1) (2 == 1) pr tk 128)) 80 24 := ⟨_, rfl⟩
              rw [← hst] at t24
              have T24 := Aside0.mk hst.symm
              have hs2 := t24.1
              have hs0 := t24.2
              clear t24 hst
              go_wp2_with fail
              refine (rd_eq (v := 0) HM.out.r 80 48 (by decide) (by decide) (by decide) T48.out).mono ?_
              rintro x0 wr ⟨rfl, hg⟩
              replace HM := Aside0.mk (HM.out.same hg)
              replace HB8 := Aside0.mk (blk_grown HB8.out hg)
              clear hg d0 d1 d2 y0 y1 y2
              obtain ⟨d0, d1, d2⟩ := cz3 HM.out.c.row
              obtain ⟨y0, y1, y2⟩ := cz3 HB8.out
              go_wp2_with fail
              refine (rd_eq (v := st) HM.out.r 80 24 (by decide) (by decide) (by decide) T24.out).mono ?_
              rintro x0 ws ⟨rfl, hg⟩
              replace HM := Aside0.mk (HM.out.same hg)
              replace HB8 := Aside0.mk (blk_grown HB8.out hg)
              clear hg d0 d1 d2 y0 y1 y2
              obtain ⟨d0, d1, d2⟩ := cz3 HM.out.c.row
              obtain ⟨y0, y1, y2⟩ := cz3 HB8.out
              go_wp2_with fail
              refine (HLF.out _).mono ?_
              rintro x0 wv ⟨rfl, hg⟩
              have HE := Aside0.mk (HM.out.same hg).c.a.below
              clear hg
              go_wp2
              go_ret
              exact ⟨rfl, HE.out⟩
      · have HU := Aside0.mk (show cpu_Unit.f kk = some 1 by unfold cpu_Unit.f; rw [if_neg hk2])
        have hkb : (kk == 2) = false := beq_eq_false_iff_ne.2 hk2
        clear hk2
        go_wp2_with fail
        refine (cpu_look1 HM.out.c (inv_new 2).ok cx kk pr va HVA.out HU.out _ _ rfl).mono ?_
        rintro x0 wl ⟨rfl, hg⟩
        replace HM := Aside0.mk (HM.out.same hg)
        replace HB8 := Aside0.mk (blk_grown HB8.out hg)
        clear hg d0 d1 d2 y0 y1 y2
        obtain ⟨d0, d1, d2⟩ := cz3 HM.out.c.row
        obtain ⟨y0, y1, y2⟩ := cz3 HB8.out
        go_wp2_with fail
        refine (rd_eq (v := 0) HM.out.r 88 48 (by decide) (by decide) (by decide) (t_none 88 48 (by decide))).mono ?_
        rintro x0 wr0 ⟨rfl, hg⟩
        replace HM := Aside0.mk (HM.out.same hg)
        replace HB8 := Aside0.mk (blk_grown HB8.out hg)
        clear hg d0 d1 d2 y0 y1 y2
        obtain ⟨d0, d1, d2⟩ := cz3 HM.out.c.row
        obtain ⟨y0, y1, y2⟩ := cz3 HB8.out
        by_cases hm2 : kd = 2
        · subst hm2
          go_wp2_with fail
          refine (note_miss1 HM.out cx kk pr va HVA.out HU.out HCX.out (by decide) 2 (by simp)).mono ?_
          rintro x0 wn ⟨rfl, hM, hg⟩
          replace HB8 := Aside0.mk ((hg.block _ (blk_lt HB8.out) (fun e => HM.out.nm _ _ _ HB8.out (Option.some.inj e))).trans HB8.out)
          replace HM := Aside0.mk hM
          clear hM hg d0 d1 d2 y0 y1 y2
          obtain ⟨d0, d1, d2⟩ := cz3 HM.out.c.row
          obtain ⟨y0, y1, y2⟩ := cz3 HB8.out
          have T48 := Aside0.mk (t48_miss1 va cx)
          have T24 := Aside0.mk (t24_miss1 va cx)
          go_wp2_with fail
          refine (rd_eq (v := va / 8192 * 8192 + cx) HM.out.r 88 48 (by decide) (by decide) (by decide) T48.out).mono ?_
          rintro x0 wr ⟨rfl, hg⟩
          replace HM := Aside0.mk (HM.out.same hg)
          replace HB8 := Aside0.mk (blk_grown HB8.out hg)
          clear hg d0 d1 d2 y0 y1 y2
          obtain ⟨d0, d1, d2⟩ := cz3 HM.out.c.row
          obtain ⟨y0, y1, y2⟩ := cz3 HB8.out
          go_wp2_with fail
          refine (rd_eq (v := 0) HM.out.r 88 24 (by decide) (by decide) (by decide) T24.out).mono ?_
          rintro x0 ws ⟨rfl, hg⟩
          replace HM := Aside0.mk (HM.out.same hg)
          replace HB8 := Aside0.mk (blk_grown HB8.out hg)
          clear hg d0 d1 d2 y0 y1 y2
          obtain ⟨d0, d1, d2⟩ := cz3 HM.out.c.row
          obtain ⟨y0, y1, y2⟩ := cz3 HB8.out
          go_wp2_with fail
          refine (HLF.out _).mono ?_
          rintro x0 wv ⟨rfl, hg⟩
          have HE := Aside0.mk (HM.out.same hg).c.a.below
          clear hg
          go_wp2
          go_ret
          exact ⟨rfl, HE.out⟩
        · by_cases hm5 : kd = 5
          · subst hm5
            go_wp2_with fail
            refine (note_miss1 HM.out cx kk pr va HVA.out HU.out HCX.out (by decide) 5 (by simp)).mono ?_
            rintro x0 wn ⟨rfl, hM, hg⟩
            replace HB8 := Aside0.mk ((hg.block _ (blk_lt HB8.out) (fun e => HM.out.nm _ _ _ HB8.out (Option.some.inj e))).trans HB8.out)
            replace HM := Aside0.mk hM
            clear hM hg d0 d1 d2 y0 y1 y2
            obtain ⟨d0, d1, d2⟩ := cz3 HM.out.c.row
            obtain ⟨y0, y1, y2⟩ := cz3 HB8.out
            have T48 := Aside0.mk (t48_miss1 va cx)
            have T24 := Aside0.mk (t24_miss1 va cx)
            go_wp2_with fail
            refine (rd_eq (v := va / 8192 * 8192 + cx) HM.out.r 88 48 (by decide) (by decide) (by decide) T48.out).mono ?_
            rintro x0 wr ⟨rfl, hg⟩
            replace HM := Aside0.mk (HM.out.same hg)
            replace HB8 := Aside0.mk (blk_grown HB8.out hg)
            clear hg d0 d1 d2 y0 y1 y2
            obtain ⟨d0, d1, d2⟩ := cz3 HM.out.c.row
            obtain ⟨y0, y1, y2⟩ := cz3 HB8.out
            go_wp2_with fail
            refine (rd_eq (v := 0) HM.out.r 88 24 (by decide) (by decide) (by decide) T24.out).mono ?_
            rintro x0 ws ⟨rfl, hg⟩
            replace HM := Aside0.mk (HM.out.same hg)
            replace HB8 := Aside0.mk (blk_grown HB8.out hg)
            clear hg d0 d1 d2 y0 y1 y2
            obtain ⟨d0, d1, d2⟩ := cz3 HM.out.c.row
            obtain ⟨y0, y1, y2⟩ := cz3 HB8.out
            go_wp2_with fail
            refine (HLF.out _).mono ?_
            rintro x0 wv ⟨rfl, hg⟩
            have HE := Aside0.mk (HM.out.same hg).c.a.below
            clear hg
            go_wp2
            go_ret
            exact ⟨rfl, HE.out⟩
          · by_cases hm0 : kd = 0
            · subst hm0
              go_wp2_with fail
              refine (note_none HM.out cx kk pr va).mono ?_
              rintro x0 wn ⟨rfl, hM, hg⟩
              replace HB8 := Aside0.mk (blk_grown HB8.out hg)
              replace HM := Aside0.mk hM
              clear hM hg d0 d1 d2 y0 y1 y2
              obtain ⟨d0, d1, d2⟩ := cz3 HM.out.c.row
              obtain ⟨y0, y1, y2⟩ := cz3 HB8.out
              have T48 := Aside0.mk (t_none 88 48 (by decide))
              have T24 := Aside0.mk (t_none 88 24 (by decide))
              go_wp2_with fail
              refine (rd_eq (v := 0) HM.out.r 88 48 (by decide) (by decide) (by decide) T48.out).mono ?_
              rintro x0 wr ⟨rfl, hg⟩
              replace HM := Aside0.mk (HM.out.same hg)
              replace HB8 := Aside0.mk (blk_grown HB8.out hg)
              clear hg d0 d1 d2 y0 y1 y2
              obtain ⟨d0, d1, d2⟩ := cz3 HM.out.c.row
              obtain ⟨y0, y1, y2⟩ := cz3 HB8.out
              go_wp2_with fail
              refine (rd_eq (v := 0) HM.out.r 88 24 (by decide) (by decide) (by decide) T24.out).mono ?_
              rintro x0 ws ⟨rfl, hg⟩
              replace HM := Aside0.mk (HM.out.same hg)
              replace HB8 := Aside0.mk (blk_grown HB8.out hg)
              clear hg d0 d1 d2 y0 y1 y2
              obtain ⟨d0, d1, d2⟩ := cz3 HM.out.c.row
              obtain ⟨y0, y1, y2⟩ := cz3 HB8.out
              go_wp2_with fail
              refine (HLF.out _).mono ?_
              rintro x0 wv ⟨rfl, hg⟩
              have HE := Aside0.mk (HM.out.same hg).c.a.below
              clear hg
              go_wp2
              go_ret
              exact ⟨rfl, HE.out⟩
            · have hb2 : (kd == 2) = false := beq_eq_false_iff_ne.2 hm2
              have hb5 : (kd == 5) = false := beq_eq_false_iff_ne.2 hm5
              have hb0 : (kd != 0) = true := by simp [hm0]
              obtain ⟨tk, hkt⟩ : ∃ tk : Int, (kd = 1 ∧ tk = 32) ∨ (kd = 3 ∧ tk = 1) ∨ (kd = 4 ∧ tk = 2) ∨ (kd = 6 ∧ tk = 16) := by
                rcases (show kd = 1 ∨ kd = 3 ∨ kd = 4 ∨ kd = 6 by omega) with h | h | h | h
                · exact ⟨32, .inl ⟨h, rfl⟩⟩
                · exact ⟨1, .inr (.inl ⟨h, rfl⟩)⟩
                · exact ⟨2, .inr (.inr (.inl ⟨h, rfl⟩))⟩
                · exact ⟨16, .inr (.inr (.inr ⟨h, rfl⟩))⟩
              have HKT := Aside0.mk hkt
              have HTK := Aside0.mk (show 0 ≤ tk ∧ tk < 128 by omega)
              clear hkt hm0 hm2 hm5
              go_wp2_with fail
              refine (note_fault1 HM.out cx kk pr va HVA.out HU.out HCX.out (by decide) kd tk HKT.out).mono ?_
              rintro x0 wn ⟨rfl, hM, hg⟩
              replace HB8 := Aside0.mk ((hg.block _ (blk_lt HB8.out) (fun e => HM.out.nm _ _ _ HB8.out (Option.some.inj e))).trans HB8.out)
              replace HM := Aside0.mk hM
              clear hM hg d0 d1 d2 y0 y1 y2
              obtain ⟨d0, d1, d2⟩ := cz3 HM.out.c.row
              obtain ⟨y0, y1, y2⟩ := cz3 HB8.out
              have T48 := Aside0.mk (t48_fault1 (kk == 1) pr tk va)
              have t24 := t24_fault1 (kk == 1) pr tk va HTK.out.1
              obtain ⟨st, hst⟩ : ∃ z, z = QRegsPlays.getOf (QRegsPlays.pk (QRegsPlays.pk (.map []) 88 24 (QRegsPlays.stw (QRegsPlays.rdk (.map []) 88 24 % 2 == 1) (kk == 1) pr tk 128)) 88 32 va) 88 24 := ⟨_, rfl⟩
              rw [← hst] at t24
              have T24 := Aside0.mk hst.symm
              have hs2 := t24.1
              have hs0 := t24.2
              clear t24 hst
              go_wp2_with fail
              refine (rd_eq (v := 0) HM.out.r 88 48 (by decide) (by decide) (by decide) T48.out).mono ?_
              rintro x0 wr ⟨rfl, hg⟩
              replace HM := Aside0.mk (HM.out.same hg)
              replace HB8 := Aside0.mk (blk_grown HB8.out hg)
              clear hg d0 d1 d2 y0 y1 y2
              obtain ⟨d0, d1, d2⟩ := cz3 HM.out.c.row
              obtain ⟨y0, y1, y2⟩ := cz3 HB8.out
              go_wp2_with fail
              refine (rd_eq (v := st) HM.out.r 88 24 (by decide) (by decide) (by decide) T24.out).mono ?_
              rintro x0 ws ⟨rfl, hg⟩
              replace HM := Aside0.mk (HM.out.same hg)
              replace HB8 := Aside0.mk (blk_grown HB8.out hg)
              clear hg d0 d1 d2 y0 y1 y2
              obtain ⟨d0, d1, d2⟩ := cz3 HM.out.c.row
              obtain ⟨y0, y1, y2⟩ := cz3 HB8.out
              go_wp2_with fail
              refine (HLF.out _).mono ?_
              rintro x0 wv ⟨rfl, hg⟩
              have HE := Aside0.mk (HM.out.same hg).c.a.below
              clear hg
              go_wp2
              go_ret
              exact ⟨rfl, HE.out⟩
end
end Go.Proofs.Ythclbckkfgmbaaa.QTlbPlays
