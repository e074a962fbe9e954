/- Has a TLB what the document's has; at whatever numbers. -/
import Derived.Test.YthclbckkfgmbaaaTl17
import Derived.Test.YthclbckkfgmbaaaQTlbPlaysx10
namespace Go.Proofs.Ythclbckkfgmbaaa.QTlbPlays
open Go.RowKit Go.Proofs.YthclbckkfgmbaaaW.PrintWords Go.Proofs.YthclbckkfgmbaaaW.PrintLast Go.Proofs.YthclbckkfgmbaaaW.PrintMore
set_option linter.unusedSimpArgs false
set_option linter.unusedVariables false
attribute [local go_sem high] eqA26
section
set_option maxHeartbeats 1000000
set_option maxRecDepth 100000
theorem list_l0 {es : List (Option Ent)} (h : OkL es) (hl : es.length ≤ 64) :
    ∀ (m i k : Nat), i + m = es.length → m + 5 ≤ k → lookasideref06_List.l0 k (refL es) (listTo es i) (i : Int) = some (listOf es) := by
  intro m
  induction m with
  | zero =>
    intro i k hi hk
    obtain rfl : i = es.length := by omega
    obtain ⟨k, rfl⟩ : ∃ n, k = n + 1 := ⟨k - 1, by omega⟩
    rw [lookasideref06_List.l0, if_neg (by rw [ref_len]; omega)]
    unfold listTo
    rw [List.take_length]
  | succ m ih =>
    intro i k hi hk
    obtain ⟨k, rfl⟩ : ∃ n, k = n + 1 := ⟨k - 1, by omega⟩
    have hi' : i < es.length := by omega
    have hll := listTo_len es i
    rw [lookasideref06_List.l0, if_pos (by rw [ref_len]; omega), if_pos (by omega), ref_rd]
    cases hx : es.getD i none with
    | none =>
      rw [Option.getD_none, if_neg (by decide), w64s i (by omega)]
      have := ih (i + 1) k (by omega) (by omega)
      rwa [listTo_none hi' hx] at this
    | some e =>
      have h5 : e.f5 = true := (may_okS (ok_at h hx).2).2
      rw [Option.getD_some, if_pos h5, if_pos (by omega), w64s i (by omega)]
      have := ih (i + 1) k (by omega) (by omega)
      rwa [listTo_some hi' hx] at this
theorem ref_list {es : List (Option Ent)} (h : OkL es) (hl : es.length ≤ 64) : lookasideref06_List.f 1000 (refL es) = some (listOf es) :=
  list_l0 h hl es.length 0 1000 (Nat.zero_add _) (by omega)
theorem same_l0 {l : List Ent} (hl : l.length ≤ 64) : ∀ (m i k : Nat), i + m = l.length → m + 5 ≤ k → lookasideref06_Same.l0 k l l (i : Int) = some true := by
  intro m
  induction m with
  | zero =>
    intro i k hi hk
    obtain rfl : i = l.length := by omega
    obtain ⟨k, rfl⟩ : ∃ n, k = n + 1 := ⟨k - 1, by omega⟩
    rw [lookasideref06_Same.l0, if_neg (by omega)]
  | succ m ih =>
    intro i k hi hk
    obtain ⟨k, rfl⟩ : ∃ n, k = n + 1 := ⟨k - 1, by omega⟩
    rw [lookasideref06_Same.l0, if_pos (by omega), if_pos (by omega), if_pos (by omega), if_neg (by simp), w64s i (by omega)]
    exact ih (i + 1) k (by omega) (by omega)
theorem same_self {l : List Ent} (hl : l.length ≤ 64) : lookasideref06_Same.f 1000 l l = some true := by
  unfold lookasideref06_Same.f
  rw [if_pos rfl]
  exact same_l0 hl l.length 0 1000 (Nat.zero_add _) (by omega)
/-- How many of the first k have a lock. -/
def lockTo (es : List (Option Ent)) (k : Nat) : Nat := (plTo es lockB k).length
theorem lockTo_le (es : List (Option Ent)) (k : Nat) : lockTo es k ≤ k := by
  unfold lockTo plTo
  exact Nat.le_trans (List.length_filter_le _ _) (by simp)
theorem lockTo_none {es : List (Option Ent)} {k : Nat} (h : es.getD k none = none) : lockTo es (k + 1) = lockTo es k := by
  unfold lockTo
  rw [plTo_succ, h, List.append_nil]
theorem lockTo_some {es : List (Option Ent)} {k : Nat} {e : Ent} (h : es.getD k none = some e) : lockTo es (k + 1) = lockTo es k + if lockB e = true then 1 else 0 := by
  unfold lockTo
  rw [plTo_succ, h, List.length_append]
  cases hq : lockB e <;> simp [hq]
theorem like_calls {B w0 p r es W} (h : Tl B w0 p r es W) (hinv : Inv es) {base : Nat} (A : Option Addr) (c : Nat) (hv : Kd.V k26 26 W base (fun k => k ≠ r) (.slice A (refL es).length c) (refL es)) :
    Calls Try.prog 31 #[.pointer (some ⟨p, 0, none⟩), .slice A (refL es).length c] W fun x W' => x = .returned (.bool true) ∧ W.grownBy W' none := by
  have hu := Try.underlying26
  have hu2 := Try.underlying24
  have HM := Aside0.mk h
  have HV := Aside0.mk hv
  have HINV := Aside0.mk hinv
  have HG := Aside0.mk (grown_refl W none)
  have hl64 := h.len
  have HRL := Aside0.mk (ref_len es)
  have hl64' : (refL es).length ≤ 64 := by rw [ref_len]; exact h.len
  have HLL := Aside0.mk (Nat.le_trans (list_le es) h.len)
  have HLS := Aside0.mk (ref_list hinv.ok h.len)
  have HSM := Aside0.mk (same_self (Nat.le_trans (list_le es) h.len))
  clear h hinv hv hl64
  go_enter Try.func31, Try.ntmps31
  go_wp2_with fail
  go_loopw [5, 6] (fun v5 v6 wr => ∃ (z : Int) (cn : Nat), v6 = .int .i64 z ∧ -1 ≤ z ∧ z ≤ ((refL es).length : Int) + 1 ∧ v5 = .int .i64 cn ∧ cn ≤ 64 ∧ Aside0 (lockTo es (min z.toNat (refL es).length) = cn) ∧ Aside0 (Tl B w0 p r es wr) ∧ Aside0 (Kd.V k26 26 wr 0 (fun k => k ≠ r) (.slice A (refL es).length c) (refL es)) ∧ Aside0 (W.grownBy wr none)) (fun _ v6 _ => ((refL es).length + 1 - intOf v6).toNat)
  case atStart => exact ⟨-1, 0, rfl, by omega, by omega, rfl, by omega, ⟨rfl⟩, HM, ⟨Kd.V_lower HV.out (Nat.zero_le _)⟩, HG⟩
  case round =>
    clear HM HV HG
    obtain ⟨z, cn, rfl, hz1, hz2, rfl, hcn, HCN, HM, HV, HG⟩ := hrel
    by_cases hzl : z ≤ ((refL es).length : Int)
    · by_cases hin : 0 ≤ z ∧ z < ((refL es).length : Int)
      · obtain ⟨hz0, hzn⟩ := hin
        obtain ⟨i, rfl⟩ := Int.eq_ofNat_of_zero_le hz0
        have hil : i < (refL es).length := by omega
        have HI := Aside0.mk (show i < es.length by rw [← HRL.out]; exact hil)
        have HAT := Aside0.mk (show atOf es (i : Int) = es.getD i none by unfold atOf; rw [if_pos ⟨by omega, by have := HI.out; omega⟩, Int.toNat_natCast])
        have HMN := Aside0.mk (show min ((i : Int) + 1).toNat (refL es).length = i + 1 by omega)
        rw [Int.toNat_natCast, Nat.min_eq_left (by omega)] at HCN
        cases hx : es.getD i none with
        | none =>
          rw [hx] at HAT
          have HC2 := Aside0.mk (show lockTo es (i + 1) = cn by rw [lockTo_none hx]; exact HCN.out)
          have HRD := Aside0.mk (show (refL es).getD i zE = zE by have := ref_rd es i; rw [hx] at this; unfold rd_T26 at this; rw [Int.toNat_natCast] at this; exact this)
          clear hx
          obtain ⟨e, hez⟩ : ∃ f : Ent, f = zE := ⟨_, rfl⟩
          have HEZ := Aside0.mk hez
          have h5 : e.f5 = false := by rw [hez]; rfl
          have hlk : e.f4.f3 = false := by rw [hez]; rfl
          clear hez
          replace HRD := Aside0.mk (HRD.out.trans HEZ.out.symm)
          have H5 := Aside0.mk h5
          have HLK := Aside0.mk hlk
          clear h5 hlk
          go_wp2_with fail
          refine (tl_at HM.out (i : Int) _ HAT.out).mono ?_
          rintro x0 wn ⟨rfl, -, hg0⟩
          rw [show (none : Option Ent).getD zE = e from HEZ.out.symm, show (none : Option Ent).isSome = e.f5 from H5.out.symm]
          replace HM := Aside0.mk (HM.out.same hg0)
          replace HV := Aside0.mk (Kd.V_grown HV.out hg0 (by simp))
          replace HG := Aside0.mk (grown_two HG.out hg0)
          clear hg0
          have HGm := Aside0.mk (grown_two (World.grownBy_alloc wn (.cells (entA e) 26) none) (World.grownBy_alloc (wn.alloc (.cells (entA e) 26)) (.cells #[.int .i64 0, .int .i64 0, .int .u64 0, .int .u64 0, .bool false, .bool false, .bool false, .bool false, .bool false, .bool false, .bool false] 26) none))
          have HF7 := Aside0.mk (blk_grown (heap_alloc_new wn (.cells (entA e) 26)) (World.grownBy_alloc (wn.alloc (.cells (entA e) 26)) (.cells #[.int .i64 0, .int .i64 0, .int .u64 0, .int .u64 0, .bool false, .bool false, .bool false, .bool false, .bool false, .bool false, .bool false] 26) none))
          have HF9 := Aside0.mk (show ((wn.alloc (.cells (entA e) 26)).alloc (.cells #[.int .i64 0, .int .i64 0, .int .u64 0, .int .u64 0, .bool false, .bool false, .bool false, .bool false, .bool false, .bool false, .bool false] 26)).heap[wn.heap.size + 1]? = some (.cells #[.int .i64 0, .int .i64 0, .int .u64 0, .int .u64 0, .bool false, .bool false, .bool false, .bool false, .bool false, .bool false, .bool false] 26 (0, 0)) by have := heap_alloc_new (wn.alloc (.cells (entA e) 26)) (.cells #[.int .i64 0, .int .i64 0, .int .u64 0, .int .u64 0, .bool false, .bool false, .bool false, .bool false, .bool false, .bool false, .bool false] 26); rw [World.size_alloc] at this; exact this)
          obtain ⟨ad, hA, he⟩ := V_row (Kd.V_grown HV.out HGm.out (by simp)) i hil
          rw [HRD.out] at he
          subst hA
          obtain ⟨c0, c1, c2, c3, c4, c5, c6, c7, c8, c9, c10⟩ := he
          have hi0 : (0 : Int) ≤ (i : Int) := by omega
          go_wp2_with ((refine wpList_store_row rfl 26 (.tmp 9) (.tmp 34) rfl (wn.heap.size + 1) (entA e) rfl rfl 26 _ HF9.out (by kernel_rfl) rfl (by kernel_rfl) ?_); (have hb2 := setRow_heap ((wn.alloc (.cells (entA e) 26)).alloc (.cells #[.int .i64 0, .int .i64 0, .int .u64 0, .int .u64 0, .bool false, .bool false, .bool false, .bool false, .bool false, .bool false, .bool false] 26)) (wn.heap.size + 1) _ (entA e) _ _ HF9.out); (have hg := grown_own HGm.out (grown_row ((wn.alloc (.cells (entA e) 26)).alloc (.cells #[.int .i64 0, .int .i64 0, .int .u64 0, .int .u64 0, .bool false, .bool false, .bool false, .bool false, .bool false, .bool false, .bool false] 26)) (wn.heap.size + 1) (entA e)) (fun j e => by cases e; exact Nat.le_succ _)); (have hb1 := (setRow_other ((wn.alloc (.cells (entA e) 26)).alloc (.cells #[.int .i64 0, .int .i64 0, .int .u64 0, .int .u64 0, .bool false, .bool false, .bool false, .bool false, .bool false, .bool false, .bool false] 26)) (wn.heap.size + 1) wn.heap.size (entA e) (by omega)).trans HF7.out); (replace HM := Aside0.mk (HM.out.same hg)); (replace HV := Aside0.mk (Kd.V_grown HV.out hg (by simp))); (replace HG := Aside0.mk (grown_two HG.out hg)); (clear hg c0 c1 c2 c3 c4 c5 c6 c7 c8 c9 c10 HGm HF7 HF9); (generalize World.setRow ((wn.alloc (.cells (entA e) 26)).alloc (.cells #[.int .i64 0, .int .i64 0, .int .u64 0, .int .u64 0, .bool false, .bool false, .bool false, .bool false, .bool false, .bool false, .bool false] 26)) (wn.heap.size + 1) (entA e) = wz at hb1 hb2 HM HV HG ⊢); (obtain ⟨q0, q1, q2, q3, q4, q5, q6, q7, q8, q9, q10⟩ := cz11 hb1); (obtain ⟨z0, z1, z2, z3, z4, z5, z6, z7, z8, z9, z10⟩ := cz11 hb2); (clear hb1 hb2); (have h5 := H5.out); (have hlk := HLK.out))
          go_roundw
          case rel => exact ⟨(i : Int) + 1, cn, rfl, by omega, by omega, rfl, by omega, ⟨by rw [HMN.out]; exact HC2.out⟩, HM, HV, HG⟩
          case measure => simp [intOf]; omega
        | some e =>
          rw [hx] at HAT
          have HC2 := Aside0.mk (lockTo_some hx)
          rw [HCN.out] at HC2
          have HRD := Aside0.mk (show (refL es).getD i zE = e by have := ref_rd es i; rw [hx] at this; unfold rd_T26 at this; rw [Int.toNat_natCast] at this; exact this)
          have h5 : e.f5 = true := (may_okS (ok_at HINV.out.ok hx).2).2
          have hcl := lockTo_le es (i + 1)
          have H5 := Aside0.mk h5
          clear hx h5
          go_wp2_with fail
          refine (tl_at HM.out (i : Int) _ HAT.out).mono ?_
          rintro x0 wn ⟨rfl, -, hg0⟩
          rw [show (some e : Option Ent).isSome = e.f5 from H5.out.symm]
          try rw [show (some e : Option Ent).getD zE = e from rfl]
          cases hlk : e.f4.f3 with
          | true =>
            rw [show lockB e = true from hlk, if_pos rfl] at HC2
            rw [HC2.out] at hcl
            have HLK := Aside0.mk hlk
            clear hlk
            replace HM := Aside0.mk (HM.out.same hg0)
            replace HV := Aside0.mk (Kd.V_grown HV.out hg0 (by simp))
            replace HG := Aside0.mk (grown_two HG.out hg0)
            clear hg0
            have HGm := Aside0.mk (grown_two (World.grownBy_alloc wn (.cells (entA e) 26) none) (World.grownBy_alloc (wn.alloc (.cells (entA e) 26)) (.cells #[.int .i64 0, .int .i64 0, .int .u64 0, .int .u64 0, .bool false, .bool false, .bool false, .bool false, .bool false, .bool false, .bool false] 26) none))
            have HF7 := Aside0.mk (blk_grown (heap_alloc_new wn (.cells (entA e) 26)) (World.grownBy_alloc (wn.alloc (.cells (entA e) 26)) (.cells #[.int .i64 0, .int .i64 0, .int .u64 0, .int .u64 0, .bool false, .bool false, .bool false, .bool false, .bool false, .bool false, .bool false] 26) none))
            have HF9 := Aside0.mk (show ((wn.alloc (.cells (entA e) 26)).alloc (.cells #[.int .i64 0, .int .i64 0, .int .u64 0, .int .u64 0, .bool false, .bool false, .bool false, .bool false, .bool false, .bool false, .bool false] 26)).heap[wn.heap.size + 1]? = some (.cells #[.int .i64 0, .int .i64 0, .int .u64 0, .int .u64 0, .bool false, .bool false, .bool false, .bool false, .bool false, .bool false, .bool false] 26 (0, 0)) by have := heap_alloc_new (wn.alloc (.cells (entA e) 26)) (.cells #[.int .i64 0, .int .i64 0, .int .u64 0, .int .u64 0, .bool false, .bool false, .bool false, .bool false, .bool false, .bool false, .bool false] 26); rw [World.size_alloc] at this; exact this)
            obtain ⟨ad, hA, he⟩ := V_row (Kd.V_grown HV.out HGm.out (by simp)) i hil
            rw [HRD.out] at he
            subst hA
            obtain ⟨c0, c1, c2, c3, c4, c5, c6, c7, c8, c9, c10⟩ := he
            have hi0 : (0 : Int) ≤ (i : Int) := by omega
            go_wp2_with ((refine wpList_store_row rfl 26 (.tmp 9) (.tmp 34) rfl (wn.heap.size + 1) (entA e) rfl rfl 26 _ HF9.out (by kernel_rfl) rfl (by kernel_rfl) ?_); (have hb2 := setRow_heap ((wn.alloc (.cells (entA e) 26)).alloc (.cells #[.int .i64 0, .int .i64 0, .int .u64 0, .int .u64 0, .bool false, .bool false, .bool false, .bool false, .bool false, .bool false, .bool false] 26)) (wn.heap.size + 1) _ (entA e) _ _ HF9.out); (have hg := grown_own HGm.out (grown_row ((wn.alloc (.cells (entA e) 26)).alloc (.cells #[.int .i64 0, .int .i64 0, .int .u64 0, .int .u64 0, .bool false, .bool false, .bool false, .bool false, .bool false, .bool false, .bool false] 26)) (wn.heap.size + 1) (entA e)) (fun j e => by cases e; exact Nat.le_succ _)); (have hb1 := (setRow_other ((wn.alloc (.cells (entA e) 26)).alloc (.cells #[.int .i64 0, .int .i64 0, .int .u64 0, .int .u64 0, .bool false, .bool false, .bool false, .bool false, .bool false, .bool false, .bool false] 26)) (wn.heap.size + 1) wn.heap.size (entA e) (by omega)).trans HF7.out); (replace HM := Aside0.mk (HM.out.same hg)); (replace HV := Aside0.mk (Kd.V_grown HV.out hg (by simp))); (replace HG := Aside0.mk (grown_two HG.out hg)); (clear hg c0 c1 c2 c3 c4 c5 c6 c7 c8 c9 c10 HGm HF7 HF9); (generalize World.setRow ((wn.alloc (.cells (entA e) 26)).alloc (.cells #[.int .i64 0, .int .i64 0, .int .u64 0, .int .u64 0, .bool false, .bool false, .bool false, .bool false, .bool false, .bool false, .bool false] 26)) (wn.heap.size + 1) (entA e) = wz at hb1 hb2 HM HV HG ⊢); (obtain ⟨q0, q1, q2, q3, q4, q5, q6, q7, q8, q9, q10⟩ := cz11 hb1); (obtain ⟨z0, z1, z2, z3, z4, z5, z6, z7, z8, z9, z10⟩ := cz11 hb2); (clear hb1 hb2); (have h5 := H5.out); (have hlk := HLK.out))
            go_roundw
            case rel => exact ⟨(i : Int) + 1, cn + 1, rfl, by omega, by omega, by go_num, by omega, ⟨by rw [HMN.out]; exact HC2.out⟩, HM, HV, HG⟩
            case measure => simp [intOf]; omega
          | false =>
            rw [show lockB e = false from hlk, if_neg (by decide)] at HC2
            have HLK := Aside0.mk hlk
            clear hlk
            replace HM := Aside0.mk (HM.out.same hg0)
            replace HV := Aside0.mk (Kd.V_grown HV.out hg0 (by simp))
            replace HG := Aside0.mk (grown_two HG.out hg0)
            clear hg0
            have HGm := Aside0.mk (grown_two (World.grownBy_alloc wn (.cells (entA e) 26) none) (World.grownBy_alloc (wn.alloc (.cells (entA e) 26)) (.cells #[.int .i64 0, .int .i64 0, .int .u64 0, .int .u64 0, .bool false, .bool false, .bool false, .bool false, .bool false, .bool false, .bool false] 26) none))
            have HF7 := Aside0.mk (blk_grown (heap_alloc_new wn (.cells (entA e) 26)) (World.grownBy_alloc (wn.alloc (.cells (entA e) 26)) (.cells #[.int .i64 0, .int .i64 0, .int .u64 0, .int .u64 0, .bool false, .bool false, .bool false, .bool false, .bool false, .bool false, .bool false] 26) none))
            have HF9 := Aside0.mk (show ((wn.alloc (.cells (entA e) 26)).alloc (.cells #[.int .i64 0, .int .i64 0, .int .u64 0, .int .u64 0, .bool false, .bool false, .bool false, .bool false, .bool false, .bool false, .bool false] 26)).heap[wn.heap.size + 1]? = some (.cells #[.int .i64 0, .int .i64 0, .int .u64 0, .int .u64 0, .bool false, .bool false, .bool false, .bool false, .bool false, .bool false, .bool false] 26 (0, 0)) by have := heap_alloc_new (wn.alloc (.cells (entA e) 26)) (.cells #[.int .i64 0, .int .i64 0, .int .u64 0, .int .u64 0, .bool false, .bool false, .bool false, .bool false, .bool false, .bool false, .bool false] 26); rw [World.size_alloc] at this; exact this)
            obtain ⟨ad, hA, he⟩ := V_row (Kd.V_grown HV.out HGm.out (by simp)) i hil
            rw [HRD.out] at he
            subst hA
            obtain ⟨c0, c1, c2, c3, c4, c5, c6, c7, c8, c9, c10⟩ := he
            have hi0 : (0 : Int) ≤ (i : Int) := by omega
            go_wp2_with ((refine wpList_store_row rfl 26 (.tmp 9) (.tmp 34) rfl (wn.heap.size + 1) (entA e) rfl rfl 26 _ HF9.out (by kernel_rfl) rfl (by kernel_rfl) ?_); (have hb2 := setRow_heap ((wn.alloc (.cells (entA e) 26)).alloc (.cells #[.int .i64 0, .int .i64 0, .int .u64 0, .int .u64 0, .bool false, .bool false, .bool false, .bool false, .bool false, .bool false, .bool false] 26)) (wn.heap.size + 1) _ (entA e) _ _ HF9.out); (have hg := grown_own HGm.out (grown_row ((wn.alloc (.cells (entA e) 26)).alloc (.cells #[.int .i64 0, .int .i64 0, .int .u64 0, .int .u64 0, .bool false, .bool false, .bool false, .bool false, .bool false, .bool false, .bool false] 26)) (wn.heap.size + 1) (entA e)) (fun j e => by cases e; exact Nat.le_succ _)); (have hb1 := (setRow_other ((wn.alloc (.cells (entA e) 26)).alloc (.cells #[.int .i64 0, .int .i64 0, .int .u64 0, .int .u64 0, .bool false, .bool false, .bool false, .bool false, .bool false, .bool false, .bool false] 26)) (wn.heap.size + 1) wn.heap.size (entA e) (by omega)).trans HF7.out); (replace HM := Aside0.mk (HM.out.same hg)); (replace HV := Aside0.mk (Kd.V_grown HV.out hg (by simp))); (replace HG := Aside0.mk (grown_two HG.out hg)); (clear hg c0 c1 c2 c3 c4 c5 c6 c7 c8 c9 c10 HGm HF7 HF9); (generalize World.setRow ((wn.alloc (.cells (entA e) 26)).alloc (.cells #[.int .i64 0, .int .i64 0, .int .u64 0, .int .u64 0, .bool false, .bool false, .bool false, .bool false, .bool false, .bool false, .bool false] 26)) (wn.heap.size + 1) (entA e) = wz at hb1 hb2 HM HV HG ⊢); (obtain ⟨q0, q1, q2, q3, q4, q5, q6, q7, q8, q9, q10⟩ := cz11 hb1); (obtain ⟨z0, z1, z2, z3, z4, z5, z6, z7, z8, z9, z10⟩ := cz11 hb2); (clear hb1 hb2); (have h5 := H5.out); (have hlk := HLK.out))
            go_roundw
            case rel => exact ⟨(i : Int) + 1, cn, rfl, by omega, by omega, rfl, by omega, ⟨by rw [HMN.out]; exact HC2.out⟩, HM, HV, HG⟩
            case measure => simp [intOf]; omega
      · have HAT := Aside0.mk (show atOf es z = none by unfold atOf; rw [if_neg (by have := HRL.out; omega)])
        have HC2 := Aside0.mk (show lockTo es (min (z + 1).toNat (refL es).length) = cn by
          have := HCN.out
          rcases (show z = -1 ∨ z = ((refL es).length : Int) by omega) with rfl | rfl
          · exact this
          · rw [← this, show min (((refL es).length : Int) + 1).toNat (refL es).length = min ((refL es).length : Int).toNat (refL es).length by omega])
        rcases (show z = -1 ∨ z = ((refL es).length : Int) by omega) with rfl | rfl
        all_goals
          go_wp2_with fail
          refine (tl_at HM.out _ _ HAT.out).mono ?_
          rintro x0 wn ⟨rfl, -, hg0⟩
          rw [show entA ((none : Option Ent).getD zE) = #[.int .i64 0, .int .i64 0, .int .u64 0, .int .u64 0, .bool false, .bool false, .bool false, .bool false, .bool false, .bool false, .bool false] from rfl, show (none : Option Ent).isSome = false from rfl]
          have hg := grown_two hg0 (grown_two (World.grownBy_alloc wn (.cells #[.int .i64 0, .int .i64 0, .int .u64 0, .int .u64 0, .bool false, .bool false, .bool false, .bool false, .bool false, .bool false, .bool false] 26) none) (World.grownBy_alloc _ (.cells #[.int .i64 0, .int .i64 0, .int .u64 0, .int .u64 0, .bool false, .bool false, .bool false, .bool false, .bool false, .bool false, .bool false] 26) none))
          replace HM := Aside0.mk (HM.out.same hg)
          replace HV := Aside0.mk (Kd.V_grown HV.out hg (by simp))
          replace HG := Aside0.mk (grown_two HG.out hg)
          clear hg hg0
          go_wp2_with fail
          go_roundw
          case rel => exact ⟨_, cn, rfl, by omega, by omega, rfl, by omega, HC2, HM, HV, HG⟩
          case measure => first | (simp [intOf]; done) | (simp [intOf]; omega)
    · obtain rfl : z = ((refL es).length : Int) + 1 := by omega
      have HCL := Aside0.mk (show ((plL es lockB).length : Int) = (cn : Int) by
        have := HCN.out
        rw [show min (((refL es).length : Int) + 1).toNat (refL es).length = es.length by rw [HRL.out]; omega] at this
        unfold lockTo at this
        unfold plL
        omega)
      clear HCN
      go_wp2_with fail
      refine (tl_slots HM.out ((refL es).length : Int) (by rw [HRL.out])).mono ?_
      rintro x0 wa ⟨rfl, -, hg⟩
      replace HM := Aside0.mk (HM.out.same hg)
      replace HV := Aside0.mk (Kd.V_grown HV.out hg (by simp))
      replace HG := Aside0.mk (grown_two HG.out hg)
      clear hg
      go_wp2_with fail
      refine (tl_locked HM.out _ HCL.out).mono ?_
      rintro x0 wb ⟨rfl, -, hg⟩
      replace HM := Aside0.mk (HM.out.same hg)
      replace HV := Aside0.mk (Kd.V_grown HV.out hg (by simp))
      replace HG := Aside0.mk (grown_two HG.out hg)
      clear hg
      go_wp2_with fail
      refine (tl_list HM.out).mono ?_
      rintro x0 wc ⟨⟨v0, rfl, hO⟩, hg⟩
      replace HM := Aside0.mk (HM.out.same hg)
      replace HV := Aside0.mk (Kd.V_grown HV.out hg (by simp))
      replace HG := Aside0.mk (grown_two HG.out hg)
      clear hg
      obtain ⟨Al, cl, rfl, hq1, hq2⟩ := Kd.R_reads hO
      clear hq1 hq2
      have HO := Aside0.mk (Kd.R_V (base' := 0) (Kd.R_bound hO))
      clear hO
      go_wp2_with fail
      refine (lookasideref06_List.calls 1000 A c (refL es) _ _ (Kd.V_reads' HV.out).2.2 (Kd.V_reads' HV.out).2.1 HLS.out).mono ?_
      rintro x0 wd ⟨v1, rfl, hR, hb⟩
      have hg := below_grown hb
      replace HO := Aside0.mk (Kd.V_grown HO.out hg (by simp))
      replace HM := Aside0.mk (HM.out.same hg)
      replace HV := Aside0.mk (Kd.V_grown HV.out hg (by simp))
      replace HG := Aside0.mk (grown_two HG.out hg)
      clear hg
      clear hb
      obtain ⟨Ar, cr, rfl, hq1, hq2⟩ := Kd.R_reads hR
      clear hq1 hq2
      have HR := Aside0.mk (Kd.R_V (base' := 0) (Kd.R_bound hR))
      clear hR
      go_wp2_with fail
      refine (lookasideref06_Same.calls 1000 Al cl (listOf es) Ar cr (listOf es) true _ (Kd.V_reads' HO.out).2.2 (Kd.V_reads' HO.out).2.1 (Kd.V_reads' HR.out).2.2 (Kd.V_reads' HR.out).2.1 HSM.out).mono ?_
      rintro x0 we ⟨rfl, hb⟩
      have hg := drawn_grown hb
      replace HG := Aside0.mk (grown_two HG.out hg)
      clear hb hg
      go_wp2_with fail
      go_ret
      exact ⟨rfl, HG.out⟩
end
end Go.Proofs.Ythclbckkfgmbaaa.QTlbPlays
