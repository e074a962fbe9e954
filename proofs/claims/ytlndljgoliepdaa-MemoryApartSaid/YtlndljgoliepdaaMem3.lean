/- What maps.Clone, Memory.Clear and Memory.Copy do with what a memory has, byte by byte, in whatever order its words come; for memories of at most 2^41 bytes. -/
import Derived.Test.YtlndljgoliepdaaMem2
import Derived.Test.YtlndljgoliepdaaMemBytes
import Derived.Shelf.SlMaps.Clone
namespace Go.Proofs.Ytlndljgoliepdaa.Mem
open Go.RowKit Go.Maps Go.Proofs.YtlndljgoliepdaaW.PrintWords Go.Proofs.YtlndljgoliepdaaW.PrintLast Go.Proofs.YtlndljgoliepdaaW.PrintMore
set_option linter.unusedSimpArgs false
set_option linter.unusedVariables false
section
set_option maxHeartbeats 1000000
set_option maxRecDepth 100000
/-- What a memory's map is at all times. -/
structure Good (D : DataW Unit) : Prop where
  clean : Clean D
  wf : ∀ q, (Lit.int .u64 (rd D q)).wf = true
  low : ∀ q, rd D q ≠ 0 → 0 ≤ q ∧ q < 1152921504606846976
theorem good_empty : Good (.map []) := ⟨clean_empty, fun q => by show (Lit.int .u64 0).wf = true; decide, fun q h => absurd rfl h⟩
theorem good_st {D : DataW Unit} (h : Good D) {k v : Int} (hk : 0 ≤ k ∧ k < 1152921504606846976) (hv : (Lit.int .u64 v).wf = true) : Good (st D k v) := by
  refine ⟨clean_st h.clean k v, fun q => ?_, fun q hq => ?_⟩
  · by_cases e : q = k
    · rw [e, rd_st_same h.clean.1.isMap]; exact hv
    · rw [rd_st_other e]; exact h.wf q
  · by_cases e : q = k
    · rw [e]; exact hk
    · rw [rd_st_other e] at hq; exact h.low q hq
theorem putOf_byte (x b i j : Nat) (hx : x < 18446744073709551616) (hb : b < 256) (hi : i ≤ 7) (hj : j ≤ 7) : putOf x (i * 8) 8 b / 2 ^ (j * 8) % 256 = if j = i then b else x / 2 ^ (j * 8) % 256 := by
  unfold putOf
  match i, hi, j, hj with
  | 0, _, j, hj => match j, hj with
    | 0, _ => simp; omega
    | 1, _ => simp; omega
    | 2, _ => simp; omega
    | 3, _ => simp; omega
    | 4, _ => simp; omega
    | 5, _ => simp; omega
    | 6, _ => simp; omega
    | 7, _ => simp; omega
  | 1, _, j, hj => match j, hj with
    | 0, _ => simp; omega
    | 1, _ => simp; omega
    | 2, _ => simp; omega
    | 3, _ => simp; omega
    | 4, _ => simp; omega
    | 5, _ => simp; omega
    | 6, _ => simp; omega
    | 7, _ => simp; omega
  | 2, _, j, hj => match j, hj with
    | 0, _ => simp; omega
    | 1, _ => simp; omega
    | 2, _ => simp; omega
    | 3, _ => simp; omega
    | 4, _ => simp; omega
    | 5, _ => simp; omega
    | 6, _ => simp; omega
    | 7, _ => simp; omega
  | 3, _, j, hj => match j, hj with
    | 0, _ => simp; omega
    | 1, _ => simp; omega
    | 2, _ => simp; omega
    | 3, _ => simp; omega
    | 4, _ => simp; omega
    | 5, _ => simp; omega
    | 6, _ => simp; omega
    | 7, _ => simp; omega
  | 4, _, j, hj => match j, hj with
    | 0, _ => simp; omega
    | 1, _ => simp; omega
    | 2, _ => simp; omega
    | 3, _ => simp; omega
    | 4, _ => simp; omega
    | 5, _ => simp; omega
    | 6, _ => simp; omega
    | 7, _ => simp; omega
  | 5, _, j, hj => match j, hj with
    | 0, _ => simp; omega
    | 1, _ => simp; omega
    | 2, _ => simp; omega
    | 3, _ => simp; omega
    | 4, _ => simp; omega
    | 5, _ => simp; omega
    | 6, _ => simp; omega
    | 7, _ => simp; omega
  | 6, _, j, hj => match j, hj with
    | 0, _ => simp; omega
    | 1, _ => simp; omega
    | 2, _ => simp; omega
    | 3, _ => simp; omega
    | 4, _ => simp; omega
    | 5, _ => simp; omega
    | 6, _ => simp; omega
    | 7, _ => simp; omega
  | 7, _, j, hj => match j, hj with
    | 0, _ => simp; omega
    | 1, _ => simp; omega
    | 2, _ => simp; omega
    | 3, _ => simp; omega
    | 4, _ => simp; omega
    | 5, _ => simp; omega
    | 6, _ => simp; omega
    | 7, _ => simp; omega
theorem byte_put {D : DataW Unit} (h : Good D) {a b : Int} (ha : 0 ≤ a) (hb0 : 0 ≤ b) (hb : b < 256) (t : Int) : byteAt (st D (a / 8) (putB (rd D (a / 8)) a b)) t = if t = a then b else byteAt D t := by
  obtain ⟨h0, h1⟩ := u64_b (h.wf (a / 8))
  unfold byteAt
  by_cases e : t / 8 = a / 8
  · rw [e, rd_st_same h.clean.1.isMap]
    obtain ⟨X, hX⟩ := Int.eq_ofNat_of_zero_le h0
    obtain ⟨b', rfl⟩ := Int.eq_ofNat_of_zero_le hb0
    rw [hX] at h1 ⊢
    obtain ⟨i, hi, hi7⟩ : ∃ i : Nat, a % 8 = 7 - (i : Int) ∧ i ≤ 7 := ⟨(7 - a % 8).toNat, by omega, by omega⟩
    obtain ⟨j, hj, hj7⟩ : ∃ j : Nat, t % 8 = 7 - (j : Int) ∧ j ≤ 7 := ⟨(7 - t % 8).toNat, by omega, by omega⟩
    have e1 : ((7 - t % 8) * 8).toNat = j * 8 := by omega
    rw [e1, putB_nat X b' i (by omega) (by omega) hi7 a hi]
    have := putOf_byte X b' i j (by omega) (by omega) hi7 hj7
    have e2 : ((putOf X (i * 8) 8 b' : Nat) : Int) / 2 ^ (j * 8) % 256 = ((putOf X (i * 8) 8 b' / 2 ^ (j * 8) % 256 : Nat) : Int) := by simp
    rw [e2, this]
    by_cases c : j = i
    · rw [if_pos c, if_pos (by omega)]
    · rw [if_neg c, if_neg (by omega)]; simp
  · rw [rd_st_other e, if_neg (fun x => e (by rw [x]))]
theorem byte_range (D : DataW Unit) (t : Int) : 0 ≤ byteAt D t ∧ byteAt D t < 256 := ⟨Int.emod_nonneg _ (by decide), Int.emod_lt_of_pos _ (by decide)⟩
theorem byte_zero {D : DataW Unit} {t : Int} (h : rd D (t / 8) = 0) : byteAt D t = 0 := by unfold byteAt; rw [h]; simp
/-- A memory's map, as large as it must be. -/
theorem Mem.tight {B w0 p mb sz n D W} (h : Mem B w0 p mb sz n D W) : Mem B w0 p mb sz (Maps.size D) D W := by
  refine ⟨h.below, h.hp, h.hm, h.hB, h.row, ?_, h.wfs⟩
  obtain ⟨es, clock, hb, F, hs, hD⟩ := h.own
  exact ⟨es, clock, hb, F, by rw [hD]; show es.size ≤ List.length _; rw [length_read]; exact Nat.le_refl _, hD⟩
theorem clone_calls {W : World} {b n : Nat} {D : DataW Unit} (h : W.ownsMap Try.prog 22 (plainElem Try.prog 22) b n D) :
    Calls Try.prog 48 #[.map (some b)] W fun e W' => e = .returned (.map (some W.heap.size)) ∧ W'.ownsMap Try.prog 22 (plainElem Try.prog 22) W.heap.size n D ∧ W.grownBy W' none ∧ W'.heap.size = W.heap.size + 1 := by
  obtain ⟨es, clock, hb, F, hs, hD⟩ := h
  have hq := fun w => run_eql_map_nil_sl (P := Try.prog) w 81 _ _ (some b) Try.underlying81
  go_enter Try.func48, Try.ntmps48
  go_wp2
  rw [run_callFunc_extern Try.func63 (by kernel_rfl) (by kernel_rfl) (by kernel_rfl) (e := Extern.MapsClone.clone) (by kernel_rfl), run_maps_clone_sl W 81 hb]
  simp only [Result.andThen]
  rw [Oper.upon_value]
  go_wp2
  rw [run_typeAssert_map_sl _ 81 20 _ _ _ Try.underlying81]
  simp only [Result.andThen]
  rw [Oper.upon_value]
  go_wp2
  go_ret
  exact ⟨rfl, ⟨es, clock, (MapKept.heap_alloc W _).1, F, hs, hD⟩, World.grownBy_alloc W _ none, by simp⟩
/-- What is no longer to come. -/
def Gone (left : Lit → Bool) (q : Int) : Prop := left (.int .u64 q) = false
def strike (left : Lit → Bool) (x : Int) : Lit → Bool := fun z => left z && !z.sameKey (.int .u64 x)
theorem same_int (q x : Int) : (Lit.int .u64 q).sameKey (.int .u64 x) = decide (q = x) := by
  simp [Lit.sameKey]
theorem gone_strike (left : Lit → Bool) (x q : Int) : Gone (strike left x) q ↔ Gone left q ∨ q = x := by
  unfold Gone strike
  rw [same_int]
  cases left (.int .u64 q) <;> simp
/-- What the memory has while it is cleared. -/
def CR (a k : Int) (D E : DataW Unit) (left : Lit → Bool) : Prop := ∀ t, 0 ≤ t → (Gone left (t / 8) ∧ a ≤ t ∧ t - a < k → byteAt E t = 0) ∧ (¬ (Gone left (t / 8) ∧ a ≤ t ∧ t - a < k) → byteAt E t = byteAt D t)
def CI (a k : Int) (D E : DataW Unit) (left : Lit → Bool) (x j : Int) : Prop := ∀ t, 0 ≤ t → ((Gone left (t / 8) ∨ t / 8 = x ∧ t % 8 < j) ∧ a ≤ t ∧ t - a < k → byteAt E t = 0) ∧ (¬ ((Gone left (t / 8) ∨ t / 8 = x ∧ t % 8 < j) ∧ a ≤ t ∧ t - a < k) → byteAt E t = byteAt D t)
theorem cr_start (a k : Int) {D : DataW Unit} (h : Good D) : CR a k D D (Maps.has D) := by
  intro t ht
  refine ⟨fun x => byte_zero ?_, fun _ => rfl⟩
  have := h.clean.2 (t / 8)
  rw [x.1] at this
  exact bne_eq_false_iff_eq.mp this.symm
theorem ci_start {a k : Int} {D E : DataW Unit} {left : Lit → Bool} (h : CR a k D E left) (x : Int) : CI a k D E left x 0 := by
  intro t ht
  have h0 : ¬ (t / 8 = x ∧ t % 8 < 0) := by omega
  refine ⟨fun z => (h t ht).1 ⟨z.1.resolve_right h0, z.2⟩, fun z => (h t ht).2 fun y => z ⟨.inl y.1, y.2⟩⟩
theorem ci_end {a k : Int} {D E : DataW Unit} {left : Lit → Bool} {x : Int} (h : CI a k D E left x 8) : CR a k D E (strike left x) := by
  intro t ht
  have h8 : t % 8 < 8 := by omega
  refine ⟨fun z => (h t ht).1 ⟨((gone_strike _ _ _).mp z.1).imp id (fun e => ⟨e, h8⟩), z.2⟩, fun z => (h t ht).2 fun y => z ⟨(gone_strike _ _ _).mpr (y.1.imp id (·.1)), y.2⟩⟩
theorem ci_skip {a k : Int} {D E : DataW Unit} {left : Lit → Bool} {x j : Int} (h : CI a k D E left x j) (hn : ¬ (a ≤ x * 8 + j ∧ x * 8 + j - a < k)) (hj : 0 ≤ j ∧ j < 8) : CI a k D E left x (j + 1) := by
  intro t ht
  have e : t / 8 = x ∧ t % 8 < j + 1 → t / 8 = x ∧ t % 8 < j ∨ t = x * 8 + j := by omega
  refine ⟨fun z => ?_, fun z => (h t ht).2 fun y => z ⟨y.1.imp id (fun w => ⟨w.1, by omega⟩), y.2⟩⟩
  rcases z.1 with y | y
  · exact (h t ht).1 ⟨.inl y, z.2⟩
  · rcases e y with y | y
    · exact (h t ht).1 ⟨.inr y, z.2⟩
    · exact absurd z.2 (by rw [y]; exact hn)
theorem ci_put {a k : Int} {D E : DataW Unit} {left : Lit → Bool} {x j : Int} (h : CI a k D E left x j) (hE : Good E) (hx : 0 ≤ x) (hn : a ≤ x * 8 + j ∧ x * 8 + j - a < k) (hj : 0 ≤ j ∧ j < 8) : CI a k D (st E ((x * 8 + j) / 8) (putB (rd E ((x * 8 + j) / 8)) (x * 8 + j) 0)) left x (j + 1) := by
  intro t ht
  rw [byte_put hE (by omega) (by decide) (by decide)]
  by_cases c : t = x * 8 + j
  · rw [if_pos c]
    exact ⟨fun _ => rfl, fun z => absurd ⟨.inr ⟨by omega, by omega⟩, by rw [c]; exact hn⟩ z⟩
  · rw [if_neg c]
    have e : t / 8 = x ∧ t % 8 < j + 1 ↔ t / 8 = x ∧ t % 8 < j := by omega
    rw [e]
    exact h t ht
theorem one_put (x a : Int) (hx : (Lit.int .u64 x).wf = true) : one (putB x a 0) ≤ one x := by
  unfold one
  by_cases h : x = 0
  · subst h
    obtain ⟨i, hi, hi7⟩ : ∃ i : Nat, a % 8 = 7 - (i : Int) ∧ i ≤ 7 := ⟨(7 - a % 8).toNat, by omega, by omega⟩
    have := putB_nat 0 0 i (by decide) (by decide) hi7 a hi
    have e : putOf 0 (i * 8) 8 0 = 0 := by unfold putOf; simp
    rw [e] at this
    have e2 : putB 0 a 0 = 0 := this
    rw [e2]
    exact Nat.le_refl _
  · rw [if_neg h]
    split <;> omega
theorem size_put_zero {E : DataW Unit} (h : Good E) (a : Int) : Maps.size (st E (a / 8) (putB (rd E (a / 8)) a 0)) ≤ Maps.size E := by
  have h1 := size_st h.clean (a / 8) (putB (rd E (a / 8)) a 0)
  have h2 := one_put (rd E (a / 8)) a (h.wf _)
  omega
theorem has_ne {D : DataW Unit} (h : Good D) {x : Int} {y : DataW Unit} (hat : ∀ zd, D.atKey (.int .u64 x) zd = y) : rd D x ≠ 0 := by
  have := h.clean.2 x
  rw [has_true_of_atKey hat] at this
  exact bne_iff_ne.mp this.symm
theorem may_one {sz a k : Int} (h : mayOf sz a k 1 = 0) : k ≤ 0 ∨ (a < sz ∧ k ≤ sz - a) := by
  unfold mayOf at h
  rw [if_neg (by omega)] at h
  by_cases c : k > 0 ∧ (a ≥ sz ∨ k > sz - a)
  · rw [if_pos c] at h; cases h
  · omega
theorem clear_calls {B w0 p mb sz n D W} (h : Mem B w0 p mb sz n D W) (hz : sz ≤ 2199023255552) (a k : Int) (ha : (Lit.int .u64 a).wf = true) (hk : (Lit.int .u64 k).wf = true) (hc : mayOf sz a k 1 = 0) (hG : Good D) (hn : Maps.size D < 900000) :
    Calls Try.prog 25 #[.pointer (some ⟨p, 0, none⟩), .int .u64 a, .int .u64 k] W fun e W' => e = .returned (.int .i64 0) ∧ ∃ D', Mem B w0 p mb sz (Maps.size D') D' W' ∧ Good D' ∧ Maps.size D' ≤ Maps.size D ∧ (∀ t, 0 ≤ t → byteAt D' t = if a ≤ t ∧ t - a < k then 0 else byteAt D t) ∧ W.grownBy W' (some mb) := by
  have hm1 := may_one hc
  have ha0 := (u64_b ha).1
  have ha1 := (u64_b ha).2
  have hk0 := (u64_b hk).1
  obtain ⟨_, c1⟩ := h.cells
  have HW0 := Aside0.mk (show mb < W.heap.size from h.own.lt)
  have HP0 := Aside0.mk h.lt
  have HB0 := Aside0.mk h.hB
  have HM := Aside0.mk h
  have HC := Aside0.mk hc
  have HGD := Aside0.mk hG
  clear h hc hG
  go_enter Try.func25, Try.ntmps25
  go_wp2_with (first | (go_at_call 44; refine (may_calls HM.out (by decide) _ _ ha hk HC.out).mono ?_; rintro e wn ⟨rfl, hW⟩; subst wn) | (go_at_call 48; refine (clone_calls HM.out.own).mono ?_; rintro e wc ⟨rfl, hown, hg, hs⟩; have HCO := Aside0.mk hown; have HCG := Aside0.mk hg; have HCS := Aside0.mk hs; clear hown hg hs) | (at_range; refine wpList_range_own _ rfl _ 81 rfl 22 22 law22 Try.underlying81 _ _ n D rfl HCO.out ?_; intro w1 hrg0 hg0 hs0; have HR := Aside0.mk hrg0; have HRG := Aside0.mk hg0; have HRS := Aside0.mk hs0; clear hrg0 hg0 hs0) | go_in)
  go_frame
  go_loopw [8] (fun _ wr => ∃ (left : Lit → Bool) (cnt : Nat) (E : DataW Unit), Aside0 (wr.ranges Try.prog 22 (plainElem Try.prog 22) W.heap.size wc.heap.size n D left cnt) ∧ Aside0 (Mem B w0 p mb sz (Maps.size E) E wr) ∧ Aside0 (Good E) ∧ Aside0 (Maps.size E ≤ Maps.size D) ∧ Aside0 (CR a k D E left) ∧ Aside0 (W.grownBy wr (some mb))) (fun _ wr => wr.rangeLeft W.heap.size wc.heap.size)
  case atStart => exact ⟨_, _, D, HR, ⟨((HM.out.same HCG.out).same HRG.out).tight⟩, HGD, ⟨Nat.le_refl _⟩, ⟨cr_start a k HGD.out⟩, ⟨(grown_two HCG.out HRG.out).but _⟩⟩
  case round =>
    clear HM HR HCO
    obtain ⟨left, cnt, E, HR, HM, HGE, HSE, HCR, HWG⟩ := hrel
    go_wp2_with (first
      | (at_next; refine wpList_next_ranges_ii _ rfl _ rfl 22 22 .u64 .u64 law22 Try.underlying22 Try.underlying22 W.heap.size wc.heap.size n _ _ _ rfl HR.out ?_ ?_)
      | go_in)
    · intro hc0 hl0
      have HL := Aside0.mk hl0
      clear hl0 hc0
      go_wp2
      go_ret
      refine ⟨rfl, E, HM.out, HGE.out, HSE.out, fun t ht => ?_, HWG.out⟩
      by_cases c : a ≤ t ∧ t - a < k
      · rw [if_pos c]; exact (HCR.out t ht).1 ⟨HL.out _, c⟩
      · rw [if_neg c]; exact (HCR.out t ht).2 fun z => c z.2
    · intro x c w2 cnt1 hwx hwc hlx hat hrg1 hlt hg1 hs1 hen
      have hx1 := HGD.out.low x (has_ne HGD.out hat)
      obtain ⟨hx0, hx1⟩ := hx1
      have HR1 := Aside0.mk hrg1
      have HLX := Aside0.mk hlx
      have HLT := Aside0.mk hlt
      have HNE := Aside0.mk (show wc.heap.size ≠ mb ∧ wc.heap.size ≠ p ∧ B ≤ wc.heap.size ∧ W.heap.size ≤ wc.heap.size ∧ W.heap.size ≠ mb by have h1 := HW0.out; have h2 := HP0.out; have h3 := HCS.out; have h4 := HB0.out; omega)
      have HM1 := Aside0.mk (HM.out.kept hg1 (fun e => HNE.out.1 (Option.some.inj e).symm) (fun e => HNE.out.2.1 (Option.some.inj e).symm) (fun j e => by cases e; exact HNE.out.2.2.1))
      have HWG1 := Aside0.mk (show W.grownBy w2 (some mb) from HWG.out.andThen hg1 (fun j e => by cases e; exact .inl HNE.out.2.2.2.1))
      clear HM HWG hrg1 hlx hlt hg1 hs1 hat hwc
      go_wp2
      go_loopw [9] (fun v9 wi => ∃ (j : Nat) (F : DataW Unit), v9 = .int .u64 (x * 8 + j) ∧ j ≤ 8 ∧ Aside0 (wi.ranges Try.prog 22 (plainElem Try.prog 22) W.heap.size wc.heap.size n D (strike left x) cnt1) ∧ Aside0 (Mem B w0 p mb sz (Maps.size F) F wi) ∧ Aside0 (Good F) ∧ Aside0 (Maps.size F ≤ Maps.size D) ∧ Aside0 (CI a k D F left x j) ∧ Aside0 (W.grownBy wi (some mb))) (fun v9 _ => 8 - ((intOf v9) - x * 8).toNat)
      case atStart => exact ⟨0, E, by go_num, by omega, HR1, HM1, HGE, HSE, ⟨ci_start HCR.out x⟩, HWG1⟩
      case round =>
        clear HR1 HM1 HGE HSE HCR HWG1
        obtain ⟨j, F, rfl, hj, HR1, HM, HGF, HSF, HCI, HWG⟩ := hrel
        by_cases h8 : j < 8
        · have h8' : (j : Int) < 8 := by omega
          by_cases hin : a ≤ x * 8 + j ∧ x * 8 + j - a < k
          · obtain ⟨hin1, hin2⟩ := hin
            have HWI := Aside0.mk (show (Lit.int .u64 (x * 8 + j)).wf = true from WalkArith.wf_u64 (by omega))
            go_wp2_with (first | (go_at_call 47; refine (put_calls HM.out _ _ HWI.out (by have := HSF.out; omega)).mono ?_; rintro e w3 ⟨rfl, hM, hg⟩; have HM2 := Aside0.mk hM; have HG2 := Aside0.mk hg; clear hM hg) | go_in)
            go_roundw
            case rel => exact ⟨j + 1, _, by go_num, by omega, ⟨HR1.out.kept HG2.out (fun e => HNE.out.2.2.2.2 (Option.some.inj e)) (fun e => HNE.out.1 (Option.some.inj e))⟩, ⟨HM2.out.tight⟩, ⟨good_st HGF.out (by omega) (putB_wf _ _ _)⟩, ⟨Nat.le_trans (size_put_zero HGF.out _) HSF.out⟩, ⟨ci_put HCI.out HGF.out (by omega) ⟨hin1, hin2⟩ (by omega)⟩, ⟨grown_two HWG.out HG2.out⟩⟩
            case measure => simp [intOf]; omega
          · have hin' : (decide (a ≤ x * 8 + j) && decide (x * 8 + j - a < k)) = false := by
              rw [Bool.and_eq_false_iff]; simp only [decide_eq_false_iff_not]; omega
            by_cases hin1 : a ≤ x * 8 + j
            · have hin2 : ¬ (x * 8 + j - a < k) := fun h => hin ⟨hin1, h⟩
              go_wp2
              go_roundw
              case rel => exact ⟨j + 1, F, by go_num, by omega, HR1, HM, HGF, HSF, ⟨ci_skip HCI.out hin (by omega)⟩, HWG⟩
              case measure => simp [intOf]; omega
            · go_wp2
              go_roundw
              case rel => exact ⟨j + 1, F, by go_num, by omega, HR1, HM, HGF, HSF, ⟨ci_skip HCI.out hin (by omega)⟩, HWG⟩
              case measure => simp [intOf]; omega
        · obtain rfl : j = 8 := by omega
          go_wp2
          go_roundw
          case rel => exact ⟨strike left x, cnt1, F, HR1, HM, HGF, HSF, ⟨ci_end HCI.out⟩, HWG⟩
          case measure => rw [HR1.out.left_eq, HR.out.left_eq]; exact HLT.out
theorem Mem.other {B w0 p mb sz n D W} (h : Mem B w0 p mb sz n D W) {p2 mb2 n2 : Nat} {D2 : DataW Unit} (hp : B ≤ p2) (hm : B ≤ mb2) (row : W.heap[p2]? = some (.cells #[.int .u64 sz, .map (some mb2)] 83 (0, 0))) (own : W.ownsMap Try.prog 22 (plainElem Try.prog 22) mb2 n2 D2) : Mem B w0 p2 mb2 sz n2 D2 W := ⟨h.below, hp, hm, h.hB, row, own, h.wfs⟩
theorem below_grown {W W1 : World} (h : Below W.heap.size W W1) : W.grownBy W1 none := ⟨h.os, h.tape, h.output, h.size, fun k hk _ => h.block k hk⟩
/-- What the memory has while bytes are copied. -/
def CC (f t k : Int) (D E : DataW Unit) (done : Int → Prop) : Prop := ∀ q, 0 ≤ q → (t ≤ q ∧ q - t < k → (done (q - t + f) → byteAt E q = byteAt D (q - t + f)) ∧ (¬ done (q - t + f) → byteAt E q = 0)) ∧ (¬ (t ≤ q ∧ q - t < k) → byteAt E q = byteAt D q)
def GI (left : Lit → Bool) (x j : Int) (u : Int) : Prop := Gone left (u / 8) ∨ u / 8 = x ∧ u % 8 < j
theorem cc_start {f t k : Int} {D E : DataW Unit} (h : Good D) (hE : ∀ q, 0 ≤ q → byteAt E q = if t ≤ q ∧ q - t < k then 0 else byteAt D q) : CC f t k D E (fun u => Gone (Maps.has D) (u / 8)) := by
  intro q hq
  refine ⟨fun c => ?_, fun c => by rw [hE q hq, if_neg c]⟩
  rw [hE q hq, if_pos c]
  refine ⟨fun g => ?_, fun _ => rfl⟩
  have := h.clean.2 ((q - t + f) / 8)
  rw [show Maps.has D (.int .u64 ((q - t + f) / 8)) = false from g] at this
  exact (byte_zero (bne_eq_false_iff_eq.mp this.symm)).symm
theorem cc_iff {f t k : Int} {D E : DataW Unit} {d d' : Int → Prop} (h : CC f t k D E d) (e : ∀ u, d u ↔ d' u) : CC f t k D E d' := by
  have : d = d' := funext fun u => propext (e u)
  rw [← this]; exact h
theorem ccI_start {f t k : Int} {D E : DataW Unit} {left : Lit → Bool} (h : CC f t k D E (fun u => Gone left (u / 8))) (x : Int) : CC f t k D E (GI left x 0) := cc_iff h fun u => by unfold GI; constructor; exact .inl; rintro (a | a); exact a; omega
theorem ccI_end {f t k : Int} {D E : DataW Unit} {left : Lit → Bool} {x : Int} (h : CC f t k D E (GI left x 8)) : CC f t k D E (fun u => Gone (strike left x) (u / 8)) := cc_iff h fun u => by
  rw [gone_strike]; unfold GI
  have : u % 8 < 8 := by omega
  constructor
  · rintro (a | a); exact .inl a; exact .inr a.1
  · rintro (a | a); exact .inl a; exact .inr ⟨a, this⟩
theorem ccI_skip {f t k : Int} {D E : DataW Unit} {left : Lit → Bool} {x j : Int} (h : CC f t k D E (GI left x j)) (hn : ¬ (f ≤ x * 8 + j ∧ x * 8 + j - f < k)) (hj : 0 ≤ j ∧ j < 8) : CC f t k D E (GI left x (j + 1)) := by
  intro q hq
  refine ⟨fun c => ?_, (h q hq).2⟩
  have e : GI left x (j + 1) (q - t + f) ↔ GI left x j (q - t + f) := by
    unfold GI
    have : (q - t + f) / 8 = x ∧ (q - t + f) % 8 < j + 1 ↔ (q - t + f) / 8 = x ∧ (q - t + f) % 8 < j := by omega
    rw [this]
  rw [e]
  exact (h q hq).1 c
theorem ccI_put {f t k : Int} {D E : DataW Unit} {left : Lit → Bool} {x j : Int} (h : CC f t k D E (GI left x j)) (hE : Good E) (ht : 0 ≤ t) (hn : f ≤ x * 8 + j ∧ x * 8 + j - f < k) (hj : 0 ≤ j ∧ j < 8) : CC f t k D (st E ((t + (x * 8 + j) - f) / 8) (putB (rd E ((t + (x * 8 + j) - f) / 8)) (t + (x * 8 + j) - f) (byteAt D (x * 8 + j)))) (GI left x (j + 1)) := by
  intro q hq
  have hb := byte_range D (x * 8 + j)
  rw [byte_put hE (by omega) hb.1 hb.2]
  by_cases c : q = t + (x * 8 + j) - f
  · rw [if_pos c]
    refine ⟨fun _ => ⟨fun _ => congrArg (byteAt D) (by omega), fun z => absurd (.inr ⟨by omega, by omega⟩) z⟩, fun z => absurd ⟨by omega, by omega⟩ z⟩
  · rw [if_neg c]
    refine ⟨fun y => ?_, (h q hq).2⟩
    have e : GI left x (j + 1) (q - t + f) ↔ GI left x j (q - t + f) := by
      unfold GI
      have : (q - t + f) / 8 = x ∧ (q - t + f) % 8 < j + 1 ↔ (q - t + f) / 8 = x ∧ (q - t + f) % 8 < j := by omega
      rw [this]
    rw [e]
    exact (h q hq).1 y
theorem size_put_any {E : DataW Unit} (h : Good E) (a b : Int) : Maps.size (st E (a / 8) (putB (rd E (a / 8)) a b)) ≤ Maps.size E + 1 := by
  have h1 := size_st h.clean (a / 8) (putB (rd E (a / 8)) a b)
  have h2 : one (putB (rd E (a / 8)) a b) ≤ 1 := by unfold one; split <;> omega
  omega
noncomputable def copy_T : Bool × List (List Nat × List Nat) := rtab .any (opsOf Try.f22 7)
theorem copy_tab : rtab .any (opsOf Try.f22 7) = copy_T := rfl
theorem copy_calls {B w0 p mb sz n D W} (h : Mem B w0 p mb sz n D W) (hz : sz ≤ 2199023255552) (f t k : Int) (hf : (Lit.int .u64 f).wf = true) (ht : (Lit.int .u64 t).wf = true) (hk : (Lit.int .u64 k).wf = true) (hcf : mayOf sz f k 1 = 0) (hct : mayOf sz t k 1 = 0) (hG : Good D) (hn : Maps.size D < 90000) :
    Calls Try.prog 22 #[.pointer (some ⟨p, 0, none⟩), .int .u64 f, .int .u64 t, .int .u64 k] W fun e W' => e = .returned (.int .i64 0) ∧ ∃ D', Mem B w0 p mb sz (Maps.size D') D' W' ∧ Good D' ∧ Maps.size D' ≤ 9 * Maps.size D ∧ (∀ q, 0 ≤ q → byteAt D' q = if t ≤ q ∧ q - t < k then byteAt D (q - t + f) else byteAt D q) ∧ W.grownBy W' (some mb) := by
  have hm1 := may_one hcf
  have hm2 := may_one hct
  have hf0 := (u64_b hf).1
  have ht0 := (u64_b ht).1
  have hk0 := (u64_b hk).1
  obtain ⟨c0, c1⟩ := h.cells
  have HW0 := Aside0.mk (show mb < W.heap.size from h.own.lt)
  have HP0 := Aside0.mk h.lt
  have HB0 := Aside0.mk h.hB
  have HM := Aside0.mk h
  have HC := Aside0.mk hcf
  have HC2 := Aside0.mk hct
  have HGD := Aside0.mk hG
  have AHS := Aside0.mk (show W.drew.cell? ⟨p, 0, none⟩ = some (.int .u64 sz) ∧ W.drew.cell? ⟨p, 1, none⟩ = some (.map (some mb)) from ⟨c0, c1⟩)
  clear h hcf hct hG
  go_enter Try.func22, Try.ntmps22
  go_wp2_with (first | (go_at_call 44; first | (refine (may_calls HM.out (by decide) f k hf hk HC.out).mono ?_; rintro e wn ⟨rfl, hW⟩; subst wn; clear HC) | (refine (may_calls HM.out (by decide) t k ht hk HC2.out).mono ?_; rintro e wn ⟨rfl, hW⟩; subst wn)) | go_in)
  have HMd := Aside0.mk (HM.out.same (grown_drew W none))
  clear HM
  refine start_ (n := 12) (S := fun w' => w'.cell? ⟨p, 0, none⟩ = some (.int .u64 sz) ∧ w'.cell? ⟨p, 1, none⟩ = some (.map (some mb))) (ds := []) #[false, false, false, false, false, false, false, false, false, false, false, false] (by kernel_rfl) rfl rfl AHS.out (fun hHeld => ?_)
  refine with_tab copy_tab (fun HT_ => ?_)
  have HWd := Aside0.mk (show W.grownBy W.drew (some mb) from grown_drew W _)
  have HW1 := Aside0.mk (show mb < W.drew.heap.size from HW0.out)
  have HP1 := Aside0.mk (show p < W.drew.heap.size from HP0.out)
  have HB1 := Aside0.mk (show B ≤ W.drew.heap.size from HB0.out)
  have HSZ := Aside0.mk (show W.drew.heap.size = W.heap.size from rfl)
  generalize W.drew = W1 at AHS HMd HWd HW1 HP1 HB1 HSZ hHeld ⊢
  refine pure_ (i := 0) (N := some 28) (v := ?_) (a' := ?_) #[true, false, false, false, false, false, false, false, false, false, false, false] rfl rfl (any_of HT_.out (by kernel_rfl)) (fun _ _ _ h => h) (Or.inl ⟨by rfl, ?_⟩) ?_ ?_
  rotate_left
  · intro w'
    go_simp
    with_reducible rfl
  rotate_left
  · simp only [Act.put, List.setIfInBounds_toArray, List.set_cons_zero, List.set_cons_succ, i64_w, i32_w]
    rfl
  refine pure_ (i := 1) (N := some 29) (v := ?_) (a' := ?_) #[true, true, false, false, false, false, false, false, false, false, false, false] rfl rfl (any_of HT_.out (by kernel_rfl)) (fun _ _ _ h => h) (Or.inl ⟨by rfl, ?_⟩) ?_ ?_
  rotate_left
  · intro w'
    go_simp
    with_reducible rfl
  rotate_left
  · simp only [Act.put, List.setIfInBounds_toArray, List.set_cons_zero, List.set_cons_succ, i64_w, i32_w]
    rfl
  refine pure_ (i := 2) (N := some 30) (v := ?_) (a' := ?_) #[true, true, true, false, false, false, false, false, false, false, false, false] rfl rfl (any_of HT_.out (by kernel_rfl)) (fun _ _ _ h => h) (Or.inl ⟨by rfl, ?_⟩) ?_ ?_
  rotate_left
  · intro w'
    go_simp
    with_reducible rfl
  rotate_left
  · simp only [Act.put, List.setIfInBounds_toArray, List.set_cons_zero, List.set_cons_succ, i64_w, i32_w]
    rfl
  refine take_ (i := 3) (N := some 31) (v := ?_) (a' := ?_) #[true, true, true, true, false, false, false, false, false, false, false, false] rfl rfl (take_of HT_.out (by kernel_rfl)) (fun _ _ _ h => h) (Or.inl ⟨by rfl, ?_⟩) hHeld ?_ ?_
  rotate_left
  · rintro w' ⟨s0, s1⟩
    go_simp
    with_reducible rfl
  rotate_left
  · simp only [Act.put, List.setIfInBounds_toArray, List.set_cons_zero, List.set_cons_succ, i64_w, i32_w]
    rfl
  refine pure_ (i := 4) (N := some 32) (v := ?_) (a' := ?_) #[true, true, true, true, true, false, false, false, false, false, false, false] rfl rfl (any_of HT_.out (by kernel_rfl)) (fun _ _ _ h => h) (Or.inl ⟨by rfl, ?_⟩) ?_ ?_
  rotate_left
  · intro w'
    go_simp
    with_reducible rfl
  rotate_left
  · simp only [Act.put, List.setIfInBounds_toArray, List.set_cons_zero, List.set_cons_succ, i64_w, i32_w]
    rfl
  refine pure_ (i := 5) (N := some 33) (v := ?_) (a' := ?_) #[true, true, true, true, true, true, false, false, false, false, false, false] rfl rfl (any_of HT_.out (by kernel_rfl)) (fun _ _ _ h => h) (Or.inl ⟨by rfl, ?_⟩) ?_ ?_
  rotate_left
  · intro w'
    go_simp
    with_reducible rfl
  rotate_left
  · simp only [Act.put, List.setIfInBounds_toArray, List.set_cons_zero, List.set_cons_succ, i64_w, i32_w]
    rfl
  refine pure_ (i := 6) (N := some 34) (v := ?_) (a' := ?_) #[true, true, true, true, true, true, true, false, false, false, false, false] rfl rfl (any_of HT_.out (by kernel_rfl)) (fun _ _ _ h => h) (Or.inl ⟨by rfl, ?_⟩) ?_ ?_
  rotate_left
  · intro w'
    go_simp
    with_reducible rfl
  rotate_left
  · simp only [Act.put, List.setIfInBounds_toArray, List.set_cons_zero, List.set_cons_succ, i64_w, i32_w]
    rfl
  refine take_ (i := 7) (N := some 35) (v := ?_) (a' := ?_) #[true, true, true, true, true, true, true, true, false, false, false, false] rfl rfl (take_of HT_.out (by kernel_rfl)) (fun _ _ _ h => h) (Or.inl ⟨by rfl, ?_⟩) hHeld ?_ ?_
  rotate_left
  · rintro w' ⟨s0, s1⟩
    go_simp
    with_reducible rfl
  rotate_left
  · simp only [Act.put, List.setIfInBounds_toArray, List.set_cons_zero, List.set_cons_succ, i64_w, i32_w]
    rfl
  refine one_ (i := 8) (N := some 36) #[true, true, true, true, true, true, true, true, true, false, false, false] rfl rfl (one_of HT_.out (by kernel_rfl)) (by decide) (fun K hK => ?_)
  refine goes_ Try.func48 (by kernel_rfl) rfl #[.map (some mb)] (by rfl) rfl rfl (by (try simp only [List.map_toArray, List.map_cons, List.map_nil]); first | done | rfl) ?_
  refine (clone_calls HMd.out.own).mono ?_
  rintro e wc ⟨rfl, hown, hg, hs⟩
  have HCO := Aside0.mk hown
  have HCG := Aside0.mk hg
  have HCS := Aside0.mk hs
  clear hown hg hs
  have HMc := Aside0.mk (HMd.out.same HCG.out)
  refine ⟨_, rfl, ?_⟩
  refine hK.out _ _ HMc.out.cells (fun hHeld => ?_)
  clear hK K
  refine norm_ (a' := ?_) ?_ ?_
  rotate_left
  · show Act.put _ (some 36) _ = _
    simp only [Act.put, List.setIfInBounds_toArray, List.set_cons_zero, List.set_cons_succ, i64_w, i32_w]
    rfl
  refine pure_ (i := 9) (N := some 37) (v := ?_) (a' := ?_) #[true, true, true, true, true, true, true, true, true, true, false, false] rfl rfl (any_of HT_.out (by kernel_rfl)) (fun _ _ _ h => h) (Or.inl ⟨by rfl, ?_⟩) ?_ ?_
  rotate_left
  · intro w'
    go_simp
    with_reducible rfl
  rotate_left
  · simp only [Act.put, List.setIfInBounds_toArray, List.set_cons_zero, List.set_cons_succ, i64_w, i32_w]
    rfl
  refine one_ (i := 10) (N := some 38) #[true, true, true, true, true, true, true, true, true, true, true, false] rfl rfl (one_of HT_.out (by kernel_rfl)) (by decide) (fun K hK => ?_)
  refine box_step ?hg (N := 38) ?hd (cs := #[.int .u64 sz, .map (some W1.heap.size)]) (t := 83) ?hr ?_; (case hd => rfl); (case hg => rfl); (case hr => first | (go_simp; done) | (go_simp; rfl))
  intro ob hob w4 hbox hb
  have HM := Aside0.mk (HMc.out.same (below_grown hb))
  have HO := Aside0.mk (HM.out.other (by rw [hob]; exact HMc.out.hB) HMd.out.hB hbox (HCO.out.kept (below_grown hb) (by simp)))
  have HOB := Aside0.mk (show ob = W1.heap.size + 1 by rw [hob]; exact HCS.out)
  have HWG := Aside0.mk (grown_two HCG.out (below_grown hb))
  clear hb hbox hob
  refine hK.out _ _ HM.out.cells (fun hHeld => ?_)
  clear hK K
  refine norm_ (a' := ?_) ?_ ?_
  rotate_left
  · show Act.put _ (some 38) _ = _
    simp only [Act.put, List.setIfInBounds_toArray, List.set_cons_zero, List.set_cons_succ, i64_w, i32_w]
    rfl
  refine pure_ (i := 11) (N := some 11) (v := ?_) (a' := ?_) #[true, true, true, true, true, true, true, true, true, true, true, true] rfl rfl (any_of HT_.out (by kernel_rfl)) (fun _ _ _ h => h) (Or.inl ⟨by rfl, ?_⟩) ?_ ?_
  rotate_left
  · intro w'
    go_simp
    with_reducible rfl
  rotate_left
  · simp only [Act.put, List.setIfInBounds_toArray, List.set_cons_zero, List.set_cons_succ, i64_w, i32_w]
    rfl
  refine done_ (done_of HT_.out (by kernel_rfl)) ?_
  have HNE := Aside0.mk (show some W1.heap.size ≠ some mb ∧ some ob ≠ some mb ∧ ob ≠ mb ∧ W1.heap.size ≠ mb from ⟨fun e => by have := Option.some.inj e; have := HW1.out; omega, fun e => by have := Option.some.inj e; have := HW1.out; have := HOB.out; omega, by have := HW1.out; have := HOB.out; omega, by have := HW1.out; omega⟩)
  go_wp2_with (first | (go_at_call 25; refine (clear_calls HM.out hz t k ht hk HC2.out HGD.out (by omega)).mono ?_; rintro e w5 ⟨rfl, E0, hM, hG, hS, hb, hg⟩; have HM5 := Aside0.mk hM; have HG5 := Aside0.mk hG; have HS5 := Aside0.mk hS; have HB5 := Aside0.mk hb; have HO5 := Aside0.mk (HO.out.kept hg HNE.out.1 HNE.out.2.1 (fun j e => by cases e; exact HM.out.hm)); have HWG5 := Aside0.mk hg; obtain ⟨d0, d1⟩ := HO5.out.cells; clear HM HO hM hG hS hb hg) | (at_range; refine wpList_range_own _ rfl _ 81 rfl 22 22 law22 Try.underlying81 _ _ n D rfl HO5.out.own ?_; intro w6 hrg0 hg0 hs0; have HR := Aside0.mk hrg0; have HRG := Aside0.mk hg0; have HRS := Aside0.mk hs0; clear hrg0 hg0 hs0) | go_in)
  go_frame
  have HN2 := Aside0.mk (show w5.heap.size ≠ mb ∧ w5.heap.size ≠ p ∧ w5.heap.size ≠ W1.heap.size ∧ w5.heap.size ≠ ob ∧ B ≤ w5.heap.size ∧ W.heap.size ≤ w5.heap.size from ⟨Nat.ne_of_gt HM5.out.own.lt, Nat.ne_of_gt HM5.out.lt, Nat.ne_of_gt HO5.out.own.lt, Nat.ne_of_gt HO5.out.lt, HM5.out.hB, by rw [← HSZ.out]; exact Nat.le_of_lt HO5.out.own.lt⟩)
  go_loopw [12] (fun _ wr => ∃ (left : Lit → Bool) (cnt : Nat) (E : DataW Unit), Aside0 (wr.ranges Try.prog 22 (plainElem Try.prog 22) W1.heap.size w5.heap.size n D left cnt) ∧ Aside0 (Mem B w0 p mb sz (Maps.size E) E wr) ∧ Aside0 (Mem B w0 ob W1.heap.size sz n D wr) ∧ Aside0 (Good E) ∧ Aside0 (cnt ≤ Maps.size D ∧ Maps.size E ≤ Maps.size D + 8 * (Maps.size D - cnt)) ∧ Aside0 (CC f t k D E (fun u => Gone left (u / 8))) ∧ Aside0 (W.grownBy wr (some mb))) (fun _ wr => wr.rangeLeft W1.heap.size w5.heap.size)
  case atStart => exact ⟨_, _, E0, HR, ⟨HM5.out.same HRG.out⟩, ⟨HO5.out.same HRG.out⟩, HG5, ⟨Nat.le_refl _, by have := HS5.out; omega⟩, ⟨cc_start HGD.out HB5.out⟩, ⟨grown_two (grown_two (grown_two HWd.out (HWG.out.but _)) HWG5.out) (HRG.out.but _)⟩⟩
  case round =>
    clear HM5 HO5 HR HCO HWG5 HS5 HB5 HG5 HRG d0 d1 HMc HMd
    obtain ⟨left, cnt, E, HR, HM, HO, HGE, HSE, HCR, HWG⟩ := hrel
    go_wp2_with (first
      | (at_next; refine wpList_next_ranges_ii _ rfl _ rfl 22 22 .u64 .u64 law22 Try.underlying22 Try.underlying22 W1.heap.size w5.heap.size n _ _ _ rfl HR.out ?_ ?_)
      | go_in)
    · intro hc0 hl0
      have HL := Aside0.mk hl0
      clear hl0 hc0
      go_wp2
      go_ret
      refine ⟨rfl, E, HM.out, HGE.out, by have := HSE.out; omega, fun q hq => ?_, HWG.out⟩
      by_cases c : t ≤ q ∧ q - t < k
      · rw [if_pos c]; exact ((HCR.out q hq).1 c).1 (HL.out _)
      · rw [if_neg c]; exact (HCR.out q hq).2 c
    · intro x c w2 cnt1 hwx hwc hlx hat hrg1 hlt hg1 hs1 hen
      have hx1 := HGD.out.low x (has_ne HGD.out hat)
      obtain ⟨hx0, hx1⟩ := hx1
      have HR1 := Aside0.mk hrg1
      have HLT := Aside0.mk hlt
      have HM1 := Aside0.mk (HM.out.kept hg1 (fun e => HN2.out.1 (Option.some.inj e).symm) (fun e => HN2.out.2.1 (Option.some.inj e).symm) (fun j e => by cases e; exact HN2.out.2.2.2.2.1))
      have HO1 := Aside0.mk (HO.out.kept hg1 (fun e => HN2.out.2.2.1 (Option.some.inj e).symm) (fun e => HN2.out.2.2.2.1 (Option.some.inj e).symm) (fun j e => by cases e; exact HN2.out.2.2.2.2.1))
      have HWG1 := Aside0.mk (show W.grownBy w2 (some mb) from HWG.out.andThen hg1 (fun j e => by cases e; exact .inl HN2.out.2.2.2.2.2))
      clear HM HO HWG hrg1 hlx hlt hg1 hs1 hat hwc
      go_wp2
      go_loopw [13] (fun v9 wi => ∃ (j : Nat) (F : DataW Unit), v9 = .int .u64 (x * 8 + j) ∧ j ≤ 8 ∧ Aside0 (wi.ranges Try.prog 22 (plainElem Try.prog 22) W1.heap.size w5.heap.size n D (strike left x) cnt1) ∧ Aside0 (Mem B w0 p mb sz (Maps.size F) F wi) ∧ Aside0 (Mem B w0 ob W1.heap.size sz n D wi) ∧ Aside0 (Good F) ∧ Aside0 (Maps.size F ≤ Maps.size D + 8 * (Maps.size D - cnt) + j) ∧ Aside0 (CC f t k D F (GI left x j)) ∧ Aside0 (W.grownBy wi (some mb))) (fun v9 _ => 8 - ((intOf v9) - x * 8).toNat)
      case atStart => exact ⟨0, E, by go_num, by omega, HR1, HM1, HO1, HGE, ⟨HSE.out.2⟩, ⟨ccI_start HCR.out x⟩, HWG1⟩
      case round =>
        clear HR1 HM1 HO1 HGE HCR HWG1
        obtain ⟨j, F, rfl, hj, HR1, HM, HO, HGF, HSF, HCI, HWG⟩ := hrel
        by_cases h8 : j < 8
        · have h8' : (j : Int) < 8 := by omega
          by_cases hin : f ≤ x * 8 + j ∧ x * 8 + j - f < k
          · obtain ⟨hin1, hin2⟩ := hin
            have hf9 : f < 2199023255552 := by omega
            have ht9 : t < 2199023255552 := by omega
            have hk9 : k ≤ 2199023255552 := by omega
            have HWI := Aside0.mk (show (Lit.int .u64 (x * 8 + j)).wf = true from WalkArith.wf_u64 (by omega))
            have HWT := Aside0.mk (show (Lit.int .u64 (t + (x * 8 + j) - f)).wf = true from WalkArith.wf_u64 (by omega))
            go_wp2_with (first
              | (go_at_call 46; refine (get_calls HO.out _ HWI.out).mono ?_; rintro e wg ⟨rfl, hW⟩; subst wg)
              | (go_at_call 47; refine (put_calls (HM.out.same (grown_drew _ none)) _ _ HWT.out (by have := HSF.out; have := HSE.out; omega)).mono ?_; rintro e w3 ⟨rfl, hM, hg⟩; have HM2 := Aside0.mk hM; have HG2 := Aside0.mk (grown_two (grown_drew _ _) hg); clear hM hg)
              | go_in)
            go_roundw
            case rel => exact ⟨j + 1, _, by go_num, by omega, ⟨HR1.out.kept HG2.out (fun e => HNE.out.2.2.2 (Option.some.inj e)) (fun e => HN2.out.1 (Option.some.inj e))⟩, ⟨HM2.out.tight⟩, ⟨HO.out.kept HG2.out (fun e => HNE.out.2.2.2 (Option.some.inj e)) (fun e => HNE.out.2.2.1 (Option.some.inj e)) (fun j e => by cases e; exact HM2.out.hm)⟩, ⟨good_st HGF.out (by omega) (putB_wf _ _ _)⟩, ⟨by have h1 := size_put_any HGF.out (t + (x * 8 + j) - f) (byteAt D (x * 8 + j)); have h2 := HSF.out; omega⟩, ⟨ccI_put HCI.out HGF.out ht0 ⟨hin1, hin2⟩ (by omega)⟩, ⟨grown_two HWG.out HG2.out⟩⟩
            case measure => simp [intOf]; omega
          · by_cases hin1 : f ≤ x * 8 + j
            · have hin2 : ¬ (x * 8 + j - f < k) := fun h => hin ⟨hin1, h⟩
              go_wp2
              go_roundw
              case rel => exact ⟨j + 1, F, by go_num, by omega, HR1, HM, HO, HGF, ⟨by have := HSF.out; omega⟩, ⟨ccI_skip HCI.out hin (by omega)⟩, HWG⟩
              case measure => simp [intOf]; omega
            · go_wp2
              go_roundw
              case rel => exact ⟨j + 1, F, by go_num, by omega, HR1, HM, HO, HGF, ⟨by have := HSF.out; omega⟩, ⟨ccI_skip HCI.out hin (by omega)⟩, HWG⟩
              case measure => simp [intOf]; omega
        · obtain rfl : j = 8 := by omega
          go_wp2
          go_roundw
          case rel => exact ⟨strike left x, cnt1, F, HR1, HM, HO, HGF, ⟨by have h1 := HLT.out; have h2 := HSF.out; have h3 := HSE.out; omega⟩, ⟨ccI_end HCI.out⟩, HWG⟩
          case measure => rw [HR1.out.left_eq, HR.out.left_eq]; exact HLT.out
end
end Go.Proofs.Ytlndljgoliepdaa.Mem
