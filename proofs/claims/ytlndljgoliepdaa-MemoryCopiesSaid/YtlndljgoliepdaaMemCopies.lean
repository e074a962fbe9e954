/- The walk through the law MemoryCopies, at whatever bytes, places and number; no conditions. -/
import Derived.Test.YtlndljgoliepdaaMem3
namespace Go.Proofs.Ytlndljgoliepdaa.Mem
open Go.RowKit Go.Maps Go.Proofs.YtlndljgoliepdaaW.PrintWords Go.Proofs.YtlndljgoliepdaaW.PrintLast Go.Proofs.YtlndljgoliepdaaW.PrintMore
set_option linter.unusedSimpArgs false
set_option linter.unusedVariables false
section
set_option maxHeartbeats 1000000
set_option maxRecDepth 100000
/-- The law's own bytes: those that the memory has below 300. -/
def ownOf (D : DataW Unit) : Array Value := ((List.range 300).map fun (t : Nat) => Value.int .u8 (byteAt D (t : Int))).toArray
theorem ownOf_get (D : DataW Unit) (i : Nat) (h : i < 300) : (ownOf D)[i]? = some (.int .u8 (byteAt D i)) := by
  unfold ownOf
  simp [h]
theorem made_one (v : Value) (n : Nat) : madeCells #[v] n = (List.replicate n v).toArray := by
  apply Array.ext
  · simp [madeCells]
  · intro i h1 h2
    simp [madeCells, Nat.mod_one]
theorem ownOf_empty : ownOf (.map []) = (List.replicate 300 (Value.int .u8 0)).toArray := by
  unfold ownOf
  refine congrArg List.toArray ?_
  apply List.ext_getElem
  · simp
  · intro i h1 h2
    have e : byteAt (.map []) (i : Int) = 0 := byte_zero rfl
    simp only [List.getElem_map, List.getElem_range, List.getElem_replicate, e]
theorem ownOf_put {D : DataW Unit} (h : Good D) (i : Nat) (hi : i < 300) (b : Int) (hb0 : 0 ≤ b) (hb : b < 256) : (ownOf D).setIfInBounds i (.int .u8 b) = ownOf (st D ((i : Int) / 8) (putB (rd D ((i : Int) / 8)) i b)) := by
  unfold ownOf
  apply Array.ext
  · simp
  · intro j h1 h2
    simp at h2
    simp only [List.setIfInBounds_toArray, List.getElem_toArray, List.getElem_set, List.getElem_map, List.getElem_range]
    rw [byte_put h (by omega) hb0 hb]
    by_cases c : i = j
    · subst c; simp
    · have : ¬ (j : Int) = i := by omega
      simp [c, this]
theorem own_frozen {W : World} {g : Nat} {D : DataW Unit} (h : W.heap[g]? = some (.cells (ownOf D) 5 (0, 0))) (i : Nat) : W.frozen? ⟨g, i, none⟩ = false := blk_frozen h i
theorem own_set {W : World} {g : Nat} {D : DataW Unit} (h : W.heap[g]? = some (.cells (ownOf D) 5 (0, 0))) (hG : Good D) (i : Nat) (hi : i < 300) (b : Int) (hb : 0 ≤ b ∧ b < 256) : (W.setCell ⟨g, i, none⟩ (.int .u8 b)).heap[g]? = some (.cells (ownOf (st D ((i : Int) / 8) (putB (rd D ((i : Int) / 8)) i b))) 5 (0, 0)) := blk_put h i _ (ownOf_put hG i hi b hb.1 hb.2)
theorem grown_set {W : World} {g : Nat} (a : Addr) (h : a.block = g) (v : Value) : W.grownBy (W.setCell a v) (some g) := ⟨rfl, rfl, rfl, by simp [World.setCell], fun k hk hn => Below.heap_setCell W a v k (fun e => hn (by rw [e, h]))⟩
theorem u8_b {a : Int} (h : (Lit.int .u8 a).wf = true) : 0 ≤ a ∧ a < 256 := by
  simp [Lit.wf, IntKind.min, IntKind.max, IntKind.signed, IntKind.bits] at h; omega
theorem rd_mem {z : List Int} {i : Nat} (h : i < z.length) : Go.Proofs.YtlndljgoliepdaaW.PrintWords.rd z i ∈ z := by
  unfold Go.Proofs.YtlndljgoliepdaaW.PrintWords.rd
  rw [Int.toNat_natCast]
  simp [List.getD, h]
theorem own_cell {W : World} {g : Nat} {D : DataW Unit} (h : W.heap[g]? = some (.cells (ownOf D) 5 (0, 0))) (i : Nat) (hi : i < 300) : W.cell? ⟨g, i, none⟩ = some (.int .u8 (byteAt D i)) := by
  rw [blk_cell h, ownOf_get D i hi]
theorem copies_le (a0 : Option Addr) (c : Nat) (z : List Int) (f t n : Int) (w : World) (hr : ReadsInt w .u8 a0 z.length z) (hm : z.length ≤ maxLen) (hz : ∀ x ∈ z, (Lit.int .u8 x).wf = true) (hc : z.length ≤ c) (hf : (Lit.int .u64 f).wf = true) (ht : (Lit.int .u64 t).wf = true) (hn : (Lit.int .u64 n).wf = true) (hl : z.length ≤ 60) :
    Calls Try.prog 5 #[.slice a0 z.length c, .int .u64 f, .int .u64 t, .int .u64 n] w fun e w' => e = .returned (.bool true) ∧ Below w.heap.size w w' := by
  have HB := Aside0.mk (Below.refl w.heap.size w)
  have HRd := Aside0.mk hr
  have HZ := Aside0.mk hz
  have hf0 := (u64_b hf).1
  have ht0 := (u64_b ht).1
  have hn0 := (u64_b hn).1
  clear hr hz
  have WF := Aside0.mk (show (Lit.int .u64 (f % 101)).wf = true from WalkArith.wf_u64 (by omega))
  have WT := Aside0.mk (show (Lit.int .u64 (t % 101)).wf = true from WalkArith.wf_u64 (by omega))
  have WN := Aside0.mk (show (Lit.int .u64 (n % 101)).wf = true from WalkArith.wf_u64 (by omega))
  have HCF := Aside0.mk (show mayOf 300 (f % 101) (n % 101) 1 = 0 by unfold mayOf; rw [if_neg (by omega), if_neg (by omega)])
  have HCT := Aside0.mk (show mayOf 300 (t % 101) (n % 101) 1 = 0 by unfold mayOf; rw [if_neg (by omega), if_neg (by omega)])
  have hmk : ∀ W, (Instr.makeSlice 39 (.int .i64 300) (.int .i64 300)).run Try.prog W = .ok (.slice (some ⟨W.heap.size, 0, none⟩) 300 300) (W.alloc (.cells (ownOf (.map [])) 5)) := fun W => run_make_row' (P := Try.prog) 39 5 (.int .u8 0) 1 Try.underlying39 (by kernel_rfl) rfl .i64 .i64 300 (by decide) (by decide) W |>.trans (by rw [made_one, ownOf_empty])
  go_enter Try.func5, Try.ntmps5
  go_wp2_with (first | (go_at_call 13; refine (new_calls HB.out (Nat.le_refl _) 300 (by decide) (by decide)).mono ?_; rintro e wn ⟨p, mb, rfl, hM, hg, hmb, hp⟩; have HP := Aside0.mk (And.intro hmb hp); clear hmb hp; have HM0 := Aside0.mk hM; have HG0 := Aside0.mk hg; clear hM hg ) | go_in)
  have HI0 := Aside0.mk (show (wn.alloc (.cells (ownOf (.map [])) 5)).heap[wn.heap.size]? = some (.cells (ownOf (.map [])) 5 (0, 0)) from (MapKept.heap_alloc wn _).1)
  have HM1 := Aside0.mk (HM0.out.same (World.grownBy_alloc wn (.cells (ownOf (.map [])) 5) none))
  have HNE := Aside0.mk (show wn.heap.size ≠ mb ∧ wn.heap.size ≠ p ∧ w.heap.size ≤ wn.heap.size from ⟨Nat.ne_of_gt HM0.out.own.lt, Nat.ne_of_gt HM0.out.lt, HM0.out.hB⟩)
  clear HM0
  generalize hG0 : wn.heap.size = g at HI0 HNE ⊢
  clear hG0
  generalize wn.alloc (.cells (ownOf (.map [])) 5) = w1 at HI0 HM1 ⊢
  go_loopw [11] (fun v11 wr => ∃ (i : Nat) (D : DataW Unit), v11 = .int .i64 i ∧ i ≤ z.length ∧ Aside0 (Mem w.heap.size w p mb 300 (Maps.size D) D wr) ∧ Aside0 (Good D) ∧ Aside0 (Maps.size D ≤ i) ∧ Aside0 (wr.heap[g]? = some (.cells (ownOf D) 5 (0, 0)))) (fun v11 _ => z.length - (intOf v11).toNat)
  case atStart => exact ⟨0, .map [], rfl, by omega, ⟨HM1.out.tight⟩, ⟨good_empty⟩, ⟨Nat.le_refl _⟩, HI0⟩
  case round =>
    clear HM1 HI0
    obtain ⟨i, D, rfl, hi, HM, HGD, HSD, HI⟩ := hrel
    by_cases hil : i < z.length
    · obtain ⟨ad, rfl, hcell⟩ := HRd.out.at_ i (by omega) (by omega)
      rw [Int.toNat_natCast] at hcell
      have hcr := pw_cell_below HM.out.below hcell
      have hb := u8_b (HZ.out _ (rd_mem (z := z) (i := i) (by omega)))
      generalize Go.Proofs.YtlndljgoliepdaaW.PrintWords.rd z i = b at hcr hb hcell
      have HCL := Aside0.mk hcell
      clear hcell
      have HWI := Aside0.mk (show (Lit.int .u64 (50 + i)).wf = true from WalkArith.wf_u64 (by omega))
      have HMI := Aside0.mk (show mayOf 300 (50 + i) 1 1 = 0 by unfold mayOf; rw [if_neg (by omega), if_neg (by omega)])
      go_wp2_with (first | (go_at_call 19; refine (putByte_ok HM.out _ HWI.out b (by have := HSD.out; omega) HMI.out).mono ?_; rintro e w2 ⟨rfl, hM, hg⟩; have HM2 := Aside0.mk hM; have HI2 := Aside0.mk (show w2.heap[g]? = some _ from (hg.block g (blk_lt HI.out) (fun e => HNE.out.1 (Option.some.inj e))).trans HI.out); have HG2 := Aside0.mk hg; clear hM hg HI HM; have hcr2 := pw_cell_below HM2.out.below HCL.out; have qs := own_cell HI2.out (50 + i) (by omega); have fs := own_frozen HI2.out (50 + i)) | go_in)
      have hcast : ((50 + i : Nat) : Int) = 50 + (i : Int) := by omega
      have HI3 := Aside0.mk (own_set HI2.out HGD.out (50 + i) (by omega) b hb)
      rw [hcast] at HI3
      have HG3 := Aside0.mk (grown_set (W := w2) (g := g) ⟨g, 50 + i, none⟩ rfl (.int .u8 b))
      have HM3 := Aside0.mk (HM2.out.kept HG3.out (fun e => HNE.out.1 (Option.some.inj e).symm) (fun e => HNE.out.2.1 (Option.some.inj e).symm) (fun j e => by cases e; exact HNE.out.2.2))
      go_roundw
      case rel => exact ⟨i + 1, _, by go_num, by omega, ⟨HM3.out.tight⟩, ⟨good_st HGD.out (by omega) (putB_wf _ _ _)⟩, ⟨by have h1 := size_put_any HGD.out (50 + i) b; have h2 := HSD.out; omega⟩, HI3⟩
      case measure => simp [intOf]; omega
    · obtain rfl : i = z.length := by omega
      go_wp2_with (first | (go_at_call 22; refine (copy_calls HM.out (by decide) _ _ _ WF.out WT.out WN.out HCF.out HCT.out HGD.out (by have := HSD.out; omega)).mono ?_; rintro e w4 ⟨rfl, E, hM, hG, hS, hb, hg⟩; have HME := Aside0.mk hM; have HBE := Aside0.mk hb; have HIE := Aside0.mk (show w4.heap[g]? = some _ from (hg.block g (blk_lt HI.out) (fun e => HNE.out.1 (Option.some.inj e))).trans HI.out); clear hM hG hS hb hg HI HM) | go_in)
      go_loopw [12] (fun v12 wr => ∃ i : Nat, v12 = .int .i64 i ∧ i ≤ 300 ∧ Aside0 (Mem w.heap.size w p mb 300 (Maps.size E) E wr) ∧ Aside0 (wr.heap[g]? = some (.cells (ownOf D) 5 (0, 0)))) (fun v12 _ => 300 - (intOf v12).toNat)
      case atStart => exact ⟨0, rfl, by omega, HME, HIE⟩
      case round =>
        clear HME HIE
        obtain ⟨i, rfl, hi3, HM, HI⟩ := hrel
        by_cases h3 : i < 300
        · have HWI := Aside0.mk (show (Lit.int .u64 (i : Int)).wf = true from WalkArith.wf_u64 (by omega))
          have HMI := Aside0.mk (show mayOf 300 (i : Int) 1 1 = 0 by unfold mayOf; rw [if_neg (by omega), if_neg (by omega)])
          have qs := own_cell HI.out i h3
          by_cases hin : t % 101 ≤ i ∧ (i : Int) < t % 101 + n % 101
          · obtain ⟨hin1, hin2⟩ := hin
            have qs2 : wr.cell? ⟨g, (f % 101 + i - t % 101).toNat, none⟩ = some (.int .u8 (byteAt D (f % 101 + i - t % 101))) := by
              rw [own_cell HI.out _ (by omega), Int.toNat_of_nonneg (by omega)]
            have HV := Aside0.mk (show byteAt E i = byteAt D (f % 101 + i - t % 101) by rw [HBE.out i (by omega), if_pos ⟨hin1, by omega⟩]; exact congrArg (byteAt D) (by omega))
            go_wp2_with (first | (go_at_call 16; refine (byte_eq HM.out _ HWI.out HMI.out _ HV.out).mono ?_; rintro e w6 ⟨rfl, hM, hg⟩; have HM6 := Aside0.mk hM; have HI6 := Aside0.mk (show w6.heap[g]? = some _ from (hg.block g (blk_lt HI.out) (by simp)).trans HI.out); clear hM hg) | go_in)
            go_roundw
            case rel => exact ⟨i + 1, by go_num, by omega, HM6, HI6⟩
            case measure => simp [intOf]; omega
          · have HV := Aside0.mk (show byteAt E i = byteAt D i by rw [HBE.out i (by omega), if_neg (fun x => hin ⟨x.1, by omega⟩)])
            by_cases hin1 : t % 101 ≤ i
            · have hin2 : ¬ ((i : Int) < t % 101 + n % 101) := fun x => hin ⟨hin1, x⟩
              go_wp2_with (first | (go_at_call 16; refine (byte_eq HM.out _ HWI.out HMI.out _ HV.out).mono ?_; rintro e w6 ⟨rfl, hM, hg⟩; have HM6 := Aside0.mk hM; have HI6 := Aside0.mk (show w6.heap[g]? = some _ from (hg.block g (blk_lt HI.out) (by simp)).trans HI.out); clear hM hg) | go_in)
              go_roundw
              case rel => exact ⟨i + 1, by go_num, by omega, HM6, HI6⟩
              case measure => simp [intOf]; omega
            · go_wp2_with (first | (go_at_call 16; refine (byte_eq HM.out _ HWI.out HMI.out _ HV.out).mono ?_; rintro e w6 ⟨rfl, hM, hg⟩; have HM6 := Aside0.mk hM; have HI6 := Aside0.mk (show w6.heap[g]? = some _ from (hg.block g (blk_lt HI.out) (by simp)).trans HI.out); clear hM hg) | go_in)
              go_roundw
              case rel => exact ⟨i + 1, by go_num, by omega, HM6, HI6⟩
              case measure => simp [intOf]; omega
        · obtain rfl : i = 300 := by omega
          go_wp2_with (first | (go_at_call 17; refine (lives_calls _).mono ?_; rintro e w7 ⟨rfl, hg⟩) | go_in)
          go_ret
          exact ⟨rfl, (HM.out.same hg).below⟩
theorem copies_gt (a0 : Option Addr) (c : Nat) (z : List Int) (f t n : Int) (w : World) (hr : ReadsInt w .u8 a0 z.length z) (hm : z.length ≤ maxLen) (hz : ∀ x ∈ z, (Lit.int .u8 x).wf = true) (hc : z.length ≤ c) (hf : (Lit.int .u64 f).wf = true) (ht : (Lit.int .u64 t).wf = true) (hn : (Lit.int .u64 n).wf = true) (hl : 60 < z.length) :
    Calls Try.prog 5 #[.slice a0 z.length c, .int .u64 f, .int .u64 t, .int .u64 n] w fun e w' => e = .returned (.bool true) ∧ Below w.heap.size w w' := by
  have HB := Aside0.mk (Below.refl w.heap.size w)
  have HRd := Aside0.mk hr
  have HZ := Aside0.mk hz
  have hf0 := (u64_b hf).1
  have ht0 := (u64_b ht).1
  have hn0 := (u64_b hn).1
  clear hr hz
  have WF := Aside0.mk (show (Lit.int .u64 (f % 101)).wf = true from WalkArith.wf_u64 (by omega))
  have WT := Aside0.mk (show (Lit.int .u64 (t % 101)).wf = true from WalkArith.wf_u64 (by omega))
  have WN := Aside0.mk (show (Lit.int .u64 (n % 101)).wf = true from WalkArith.wf_u64 (by omega))
  have HCF := Aside0.mk (show mayOf 300 (f % 101) (n % 101) 1 = 0 by unfold mayOf; rw [if_neg (by omega), if_neg (by omega)])
  have HCT := Aside0.mk (show mayOf 300 (t % 101) (n % 101) 1 = 0 by unfold mayOf; rw [if_neg (by omega), if_neg (by omega)])
  have hmk : ∀ W, (Instr.makeSlice 39 (.int .i64 300) (.int .i64 300)).run Try.prog W = .ok (.slice (some ⟨W.heap.size, 0, none⟩) 300 300) (W.alloc (.cells (ownOf (.map [])) 5)) := fun W => run_make_row' (P := Try.prog) 39 5 (.int .u8 0) 1 Try.underlying39 (by kernel_rfl) rfl .i64 .i64 300 (by decide) (by decide) W |>.trans (by rw [made_one, ownOf_empty])
  go_enter Try.func5, Try.ntmps5
  go_wp2_with (first | (go_at_call 13; refine (new_calls HB.out (Nat.le_refl _) 300 (by decide) (by decide)).mono ?_; rintro e wn ⟨p, mb, rfl, hM, hg, hmb, hp⟩; have HP := Aside0.mk (And.intro hmb hp); clear hmb hp; have HM0 := Aside0.mk hM; have HG0 := Aside0.mk hg; clear hM hg ) | go_in)
  have HI0 := Aside0.mk (show (wn.alloc (.cells (ownOf (.map [])) 5)).heap[wn.heap.size]? = some (.cells (ownOf (.map [])) 5 (0, 0)) from (MapKept.heap_alloc wn _).1)
  have HM1 := Aside0.mk (HM0.out.same (World.grownBy_alloc wn (.cells (ownOf (.map [])) 5) none))
  have HNE := Aside0.mk (show wn.heap.size ≠ mb ∧ wn.heap.size ≠ p ∧ w.heap.size ≤ wn.heap.size from ⟨Nat.ne_of_gt HM0.out.own.lt, Nat.ne_of_gt HM0.out.lt, HM0.out.hB⟩)
  clear HM0
  generalize hG0 : wn.heap.size = g at HI0 HNE ⊢
  clear hG0
  generalize wn.alloc (.cells (ownOf (.map [])) 5) = w1 at HI0 HM1 ⊢
  go_loopw [11] (fun v11 wr => ∃ (i : Nat) (D : DataW Unit), v11 = .int .i64 i ∧ i ≤ 60 ∧ Aside0 (Mem w.heap.size w p mb 300 (Maps.size D) D wr) ∧ Aside0 (Good D) ∧ Aside0 (Maps.size D ≤ i) ∧ Aside0 (wr.heap[g]? = some (.cells (ownOf D) 5 (0, 0)))) (fun v11 _ => 60 - (intOf v11).toNat)
  case atStart => exact ⟨0, .map [], rfl, by omega, ⟨HM1.out.tight⟩, ⟨good_empty⟩, ⟨Nat.le_refl _⟩, HI0⟩
  case round =>
    clear HM1 HI0
    obtain ⟨i, D, rfl, hi, HM, HGD, HSD, HI⟩ := hrel
    by_cases hil : i < 60
    · obtain ⟨ad, rfl, hcell⟩ := HRd.out.at_ i (by omega) (by omega)
      rw [Int.toNat_natCast] at hcell
      have hcr := pw_cell_below HM.out.below hcell
      have hb := u8_b (HZ.out _ (rd_mem (z := z) (i := i) (by omega)))
      generalize Go.Proofs.YtlndljgoliepdaaW.PrintWords.rd z i = b at hcr hb hcell
      have HCL := Aside0.mk hcell
      clear hcell
      have HWI := Aside0.mk (show (Lit.int .u64 (50 + i)).wf = true from WalkArith.wf_u64 (by omega))
      have HMI := Aside0.mk (show mayOf 300 (50 + i) 1 1 = 0 by unfold mayOf; rw [if_neg (by omega), if_neg (by omega)])
      go_wp2_with (first | (go_at_call 19; refine (putByte_ok HM.out _ HWI.out b (by have := HSD.out; omega) HMI.out).mono ?_; rintro e w2 ⟨rfl, hM, hg⟩; have HM2 := Aside0.mk hM; have HI2 := Aside0.mk (show w2.heap[g]? = some _ from (hg.block g (blk_lt HI.out) (fun e => HNE.out.1 (Option.some.inj e))).trans HI.out); have HG2 := Aside0.mk hg; clear hM hg HI HM; have hcr2 := pw_cell_below HM2.out.below HCL.out; have qs := own_cell HI2.out (50 + i) (by omega); have fs := own_frozen HI2.out (50 + i)) | go_in)
      have hcast : ((50 + i : Nat) : Int) = 50 + (i : Int) := by omega
      have HI3 := Aside0.mk (own_set HI2.out HGD.out (50 + i) (by omega) b hb)
      rw [hcast] at HI3
      have HG3 := Aside0.mk (grown_set (W := w2) (g := g) ⟨g, 50 + i, none⟩ rfl (.int .u8 b))
      have HM3 := Aside0.mk (HM2.out.kept HG3.out (fun e => HNE.out.1 (Option.some.inj e).symm) (fun e => HNE.out.2.1 (Option.some.inj e).symm) (fun j e => by cases e; exact HNE.out.2.2))
      go_roundw
      case rel => exact ⟨i + 1, _, by go_num, by omega, ⟨HM3.out.tight⟩, ⟨good_st HGD.out (by omega) (putB_wf _ _ _)⟩, ⟨by have h1 := size_put_any HGD.out (50 + i) b; have h2 := HSD.out; omega⟩, HI3⟩
      case measure => simp [intOf]; omega
    · obtain rfl : i = 60 := by omega
      go_wp2_with (first | (go_at_call 22; refine (copy_calls HM.out (by decide) _ _ _ WF.out WT.out WN.out HCF.out HCT.out HGD.out (by have := HSD.out; omega)).mono ?_; rintro e w4 ⟨rfl, E, hM, hG, hS, hb, hg⟩; have HME := Aside0.mk hM; have HBE := Aside0.mk hb; have HIE := Aside0.mk (show w4.heap[g]? = some _ from (hg.block g (blk_lt HI.out) (fun e => HNE.out.1 (Option.some.inj e))).trans HI.out); clear hM hG hS hb hg HI HM) | go_in)
      go_loopw [12] (fun v12 wr => ∃ i : Nat, v12 = .int .i64 i ∧ i ≤ 300 ∧ Aside0 (Mem w.heap.size w p mb 300 (Maps.size E) E wr) ∧ Aside0 (wr.heap[g]? = some (.cells (ownOf D) 5 (0, 0)))) (fun v12 _ => 300 - (intOf v12).toNat)
      case atStart => exact ⟨0, rfl, by omega, HME, HIE⟩
      case round =>
        clear HME HIE
        obtain ⟨i, rfl, hi3, HM, HI⟩ := hrel
        by_cases h3 : i < 300
        · have HWI := Aside0.mk (show (Lit.int .u64 (i : Int)).wf = true from WalkArith.wf_u64 (by omega))
          have HMI := Aside0.mk (show mayOf 300 (i : Int) 1 1 = 0 by unfold mayOf; rw [if_neg (by omega), if_neg (by omega)])
          have qs := own_cell HI.out i h3
          by_cases hin : t % 101 ≤ i ∧ (i : Int) < t % 101 + n % 101
          · obtain ⟨hin1, hin2⟩ := hin
            have qs2 : wr.cell? ⟨g, (f % 101 + i - t % 101).toNat, none⟩ = some (.int .u8 (byteAt D (f % 101 + i - t % 101))) := by
              rw [own_cell HI.out _ (by omega), Int.toNat_of_nonneg (by omega)]
            have HV := Aside0.mk (show byteAt E i = byteAt D (f % 101 + i - t % 101) by rw [HBE.out i (by omega), if_pos ⟨hin1, by omega⟩]; exact congrArg (byteAt D) (by omega))
            go_wp2_with (first | (go_at_call 16; refine (byte_eq HM.out _ HWI.out HMI.out _ HV.out).mono ?_; rintro e w6 ⟨rfl, hM, hg⟩; have HM6 := Aside0.mk hM; have HI6 := Aside0.mk (show w6.heap[g]? = some _ from (hg.block g (blk_lt HI.out) (by simp)).trans HI.out); clear hM hg) | go_in)
            go_roundw
            case rel => exact ⟨i + 1, by go_num, by omega, HM6, HI6⟩
            case measure => simp [intOf]; omega
          · have HV := Aside0.mk (show byteAt E i = byteAt D i by rw [HBE.out i (by omega), if_neg (fun x => hin ⟨x.1, by omega⟩)])
            by_cases hin1 : t % 101 ≤ i
            · have hin2 : ¬ ((i : Int) < t % 101 + n % 101) := fun x => hin ⟨hin1, x⟩
              go_wp2_with (first | (go_at_call 16; refine (byte_eq HM.out _ HWI.out HMI.out _ HV.out).mono ?_; rintro e w6 ⟨rfl, hM, hg⟩; have HM6 := Aside0.mk hM; have HI6 := Aside0.mk (show w6.heap[g]? = some _ from (hg.block g (blk_lt HI.out) (by simp)).trans HI.out); clear hM hg) | go_in)
              go_roundw
              case rel => exact ⟨i + 1, by go_num, by omega, HM6, HI6⟩
              case measure => simp [intOf]; omega
            · go_wp2_with (first | (go_at_call 16; refine (byte_eq HM.out _ HWI.out HMI.out _ HV.out).mono ?_; rintro e w6 ⟨rfl, hM, hg⟩; have HM6 := Aside0.mk hM; have HI6 := Aside0.mk (show w6.heap[g]? = some _ from (hg.block g (blk_lt HI.out) (by simp)).trans HI.out); clear hM hg) | go_in)
              go_roundw
              case rel => exact ⟨i + 1, by go_num, by omega, HM6, HI6⟩
              case measure => simp [intOf]; omega
        · obtain rfl : i = 300 := by omega
          go_wp2_with (first | (go_at_call 17; refine (lives_calls _).mono ?_; rintro e w7 ⟨rfl, hg⟩) | go_in)
          go_ret
          exact ⟨rfl, (HM.out.same hg).below⟩
theorem copies_walk (a0 : Option Addr) (len cap : Nat) (zs : List Int) (f t n : Int) (w : World) (h0 : (a0 = none ∧ len = 0 ∧ cap = 0 ∧ zs = []) ∨ ∃ x, a0 = some x ∧ len ≤ cap ∧ cap ≤ maxLen ∧ zs.length = cap ∧ (∀ i, i < zs.length → w.cell? (x.add i) = some (.int .u8 (zs.getD i 0))) ∧ ∀ n ∈ zs, (Lit.int .u8 n).wf = true) (y0 : len * 1 ≤ 140737488351232) (hf : (Lit.int .u64 f).wf = true) (ht : (Lit.int .u64 t).wf = true) (hn : (Lit.int .u64 n).wf = true) :
    Calls Try.prog 5 #[.slice a0 len cap, .int .u64 f, .int .u64 t, .int .u64 n] w fun e w' => e = .returned (.bool true) ∧ Below w.heap.size w w' := by
  obtain ⟨z, rfl, hr, hm, hz, hc⟩ := ReadsInt.ofRowC h0
  by_cases h : z.length ≤ 60
  · exact copies_le a0 cap z f t n w hr hm hz hc hf ht hn h
  · exact copies_gt a0 cap z f t n w hr hm hz hc hf ht hn (by omega)
end
end Go.Proofs.Ytlndljgoliepdaa.Mem
