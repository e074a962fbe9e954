/- The document's DropContext, whatever the words are. -/
import Derived.Test.YtjnffegjpkbjmaaTpE
namespace Go.Proofs.Ytjnffegjpkbjmaa.Mem
open Go.RowKit Go.Maps Go.Proofs.YtjnffegjpkbjmaaW.PrintWords Go.Proofs.YtjnffegjpkbjmaaW.PrintLast Go.Proofs.YtjnffegjpkbjmaaW.PrintMore Go.Proofs.Ytjnffegjpkbjmaa.QTsbPlays Go.Proofs.Ytjnffegjpkbjmaa.Pure
set_option linter.unusedSimpArgs false
set_option linter.unusedVariables false
section
set_option maxHeartbeats 2000000
set_option maxRecDepth 100000
noncomputable def rdropc7_T : Bool × List (List Nat × List Nat) := rtab .any (opsOf Try.f81 7)
theorem rdropc7_tab : rtab .any (opsOf Try.f81 7) = rdropc7_T := rfl
theorem WOK.bad {N s : Nat} {ws : Nat → Wd} (h : WOK N s ws) (i : Nat) : WOK N s (setW ws i (BADW, 0)) := fun j hj => by
 by_cases e : j = i
 ·subst e; rw [setW_at]; exact ⟨by decide, by decide, .inl rfl⟩
 ·rw [setW_ne e]; exact h j hj
theorem pW_le (l : List WS) (a : Int) : (pW l a 9223372036854775807 0).length ≤ l.length := by
 unfold pW
 rw [if_pos ⟨rfl, rfl⟩, List.append_nil]
 exact List.length_filter_le _ _
theorem dfold_range (N s : Nat) (ctx : Int) (ws : Nat → Wd) (k : Nat) : dfold N s ctx ws (List.range (k + 1)) = dstep N s ctx (dfold N s ctx ws (List.range k)) k := by rw [List.range_succ, dfold_snoc]
/-- What the document has between two rounds. -/
structure DR (N s : Nat) (x : (Nat → Wd) × Nat) (l : List WS) (m : Nat) : Prop where
 wok : WOK N s x.1
 dw : DWw N x.1 l
 lok : LOK N l
 le : l.length ≤ m
theorem rdropctx_W {N s base : Nat} {sz : Int} (b : TB base N s sz) {ws : Nat → Wd} (hok : WOK N s ws) {A : Option Addr} {c : Nat} {l : List WS} (hdw : DWw N ws l) (hlk : LOK N l) (ctx : Int) {B : Nat} {W : World} (hR : Kd.R k122 122 W B (fun _ => True) (.slice A l.length c) (l)) (hB : B ≤ W.heap.size) (hl : l.length ≤ 900000) :
  Calls Try.prog 81 #[.agg #[.int .i64 (s : Int), .int .i64 (N : Int), .slice A l.length c], .int .i64 ctx] W fun e W' => ∃ v l', e = .returned (.tuple #[.agg #[.int .i64 (s : Int), .int .i64 (N : Int), v], .int .i64 ((dfold N s ctx ws (List.range N)).2 : Int)]) ∧ Kd.R k122 122 W' B (fun _ => True) v (l') ∧ DR N s (dfold N s ctx ws (List.range N)) l' l.length ∧ W.grownBy W' none := by
 have hu := Try.underlying44
 have hu2 := Try.underlying50
 have hu3 := Try.underlying122
 have hN := b.hN
 have HDR0 := Aside0.mk (show DR N s (dfold N s ctx ws (List.range 0)) l l.length from ⟨hok, hdw, hlk, Nat.le_refl _⟩)
 clear hlk
 have HTB := Aside0.mk b
 have HRL := Aside0.mk hR
 have HLL := Aside0.mk hl
 have HBW := Aside0.mk hB
 clear hok hdw b hl hR hB
 have hgb0 := World.grownBy_alloc (W) (.cells #[.int .i64 (s : Int), .int .i64 (N : Int), .slice A l.length c] 44) none
 have hb2 := heap_alloc_new (W) (.cells #[.int .i64 (s : Int), .int .i64 (N : Int), .slice A l.length c] 44)
 have hgb1 := World.grownBy_alloc ((W).alloc (.cells #[.int .i64 (s : Int), .int .i64 (N : Int), .slice A l.length c] 44)) (.cells #[.int .i64 0, .int .i64 0, .slice none 0 0] 44) none
 have hb4 := heap_alloc_new ((W).alloc (.cells #[.int .i64 (s : Int), .int .i64 (N : Int), .slice A l.length c] 44)) (.cells #[.int .i64 0, .int .i64 0, .slice none 0 0] 44)
 have hz1 : ((W).alloc (.cells #[.int .i64 (s : Int), .int .i64 (N : Int), .slice A l.length c] 44)).heap.size = W.heap.size + 1 := by simp only [World.size_alloc]
 rw [hz1] at hb4
 have HG := Aside0.mk (grown_two hgb0 hgb1)
 have HB2 := Aside0.mk (blk_grown hb2 hgb1)
 have HB4 := Aside0.mk hb4
 clear hgb0 hgb1 hb2 hb4 hz1
 replace HRL := Aside0.mk (Kd.R_grown HRL.out HG.out (by simp))
 obtain ⟨h2, hh2⟩ : ∃ z, z = W.heap.size := ⟨_, rfl⟩
 obtain ⟨h4, hh4⟩ : ∃ z, z = W.heap.size + 1 := ⟨_, rfl⟩
 have HH := Aside0.mk (And.intro hh2 hh4)
 go_enter Try.func81, Try.ntmps81
 go_wp2_with fail
 rw [← hh2] at HB2
 rw [← hh4] at HB4
 rw [← hh4, ← hh2]
 clear hh2 hh4
 generalize (W.alloc (.cells #[.int .i64 (s : Int), .int .i64 (N : Int), .slice A l.length c] 44)).alloc (.cells #[.int .i64 0, .int .i64 0, .slice none 0 0] 44) = w1 at HG HB2 HB4 HRL ⊢
 go_loopw [6, 7] (fun v6 v7 wr => ∃ (k : Nat) (A' : Option Addr) (c' : Nat) (l' : List WS), v6 = .int .i64 ((dfold N s ctx ws (List.range k)).2 : Int) ∧ v7 = .int .i64 k ∧ k ≤ N ∧ Aside0 (DR N s (dfold N s ctx ws (List.range k)) l' l.length) ∧ Aside0 (Kd.R k122 122 wr B (fun _ => True) (.slice A' l'.length c') (l')) ∧ Aside0 (W.grownBy wr none) ∧ Aside0 (wr.heap[h2]? = some (.cells #[.int .i64 (s : Int), .int .i64 (N : Int), .slice A' l'.length c'] 44 (0, 0))) ∧ Aside0 (wr.heap[h4]? = some (.cells #[.int .i64 0, .int .i64 0, .slice none 0 0] 44 (0, 0)))) (fun _ v7 _ => N - (intOf v7).toNat)
 case atStart => exact ⟨0, A, c, l, rfl, rfl, by omega, HDR0, HRL, HG, HB2, HB4⟩
 case round =>
  clear HG HB2 HB4 HRL HDR0
  obtain ⟨k, A', c', l', rfl, rfl, hk, HDR, HR, HG, HB2, HB4⟩ := hrel
  have HPL := Aside0.mk (dfold_le N s ctx ws (List.range k))
  rw [List.length_range] at HPL
  have HSN := Aside0.mk (dfold_range N s ctx ws k)
  by_cases hkN : k < N
  ·have h1' : (k : Int) < (N : Int) := by omega
   obtain ⟨PR, hPR⟩ : ∃ x, x = dfold N s ctx ws (List.range k) := ⟨_, rfl⟩
   rw [← hPR] at HDR HPL HSN
   rw [← hPR]
   clear hPR
   obtain ⟨pc, hpc⟩ : ∃ z, z = PR.2 := ⟨_, rfl⟩
   rw [← hpc] at HPL
   rw [← hpc]
   have HPC := Aside0.mk hpc
   clear hpc
   obtain ⟨q0, q1, q2⟩ := cz3q HB2.out
   go_wp2_with fail
   refine (rown_W HTB.out HDR.out.wok HDR.out.dw hkN (Kd.R_reads' HR.out).2.2 (Kd.R_reads' HR.out).2.1 (by have := HDR.out.le; have := HLL.out; omega)).mono ?_
   rintro x0 w3 ⟨he, hg⟩
   replace HG := Aside0.mk (grown_two HG.out hg)
   replace HR := Aside0.mk (Kd.R_grown HR.out hg (by simp))
   replace HB2 := Aside0.mk (blk_grown HB2.out hg)
   replace HB4 := Aside0.mk (blk_grown HB4.out hg)
   clear hg q0 q1 q2
   obtain ⟨F, hF⟩ : ∃ z, z = owO N s PR.1 k := ⟨_, rfl⟩
   rw [← hF, foundV_row] at he
   have HF := Aside0.mk (show ownW N s k (PR.1 k) = F from hF.symm)
   clear hF
   have hgc := World.grownBy_alloc w3 (.cells (entA (rowE F)) 50) none
   have HB8 := Aside0.mk (heap_alloc_new w3 (.cells (entA (rowE F)) 50))
   replace HG := Aside0.mk (grown_two HG.out hgc)
   replace HR := Aside0.mk (Kd.R_grown HR.out hgc (by simp))
   replace HB2 := Aside0.mk (blk_grown HB2.out hgc)
   replace HB4 := Aside0.mk (blk_grown HB4.out hgc)
   clear hgc
   by_cases hd : dropsAt ctx F = true
   ·have HSD := Aside0.mk (show dfold N s ctx ws (List.range (k + 1)) = (setW PR.1 k (BADW, 0), pc + 1) by rw [HSN.out]; unfold dstep; rw [HF.out, if_pos hd, HPC.out])
    cases F with
    | none => exact absurd hd (by simp [dropsAt])
    | some g =>
     have hgg : g.g = false ∧ ((g.c : Int) == ctx) = true := by unfold dropsAt at hd; simpa using hd
     obtain ⟨hgg, hcc⟩ := hgg
     clear hd HSN HF
     replace HB8 := Aside0.mk (show (w3.alloc (.cells (geA g) 50)).heap[w3.heap.size]? = some (.cells (geA g) 50 (0, 0)) from HB8.out)
     obtain ⟨z0, z1, z2, z3, z4, z5, z6, z7, z8, z9, z10⟩ := tte_Read.cz11 HB8.out
     rw [hgg] at z8
     obtain rfl : x0 = .returned (.tuple #[.agg (geA g), .bool true]) := he
     clear HB8 hgg
     go_upto_region 7 with fail
     clear z0 z1 z2 z3 z4 z5 z6 z7 z8 z9 z10 hcc
     replace HG := Aside0.mk (show W.grownBy (w3.alloc (.cells (geA g) 50)) none from HG.out)
     replace HR := Aside0.mk (show Kd.R k122 122 (w3.alloc (.cells (geA g) 50)) B (fun _ => True) (.slice A' l'.length c') (l') from HR.out)
     replace HB2 := Aside0.mk (show (w3.alloc (.cells (geA g) 50)).heap[h2]? = some (.cells #[.int .i64 (s : Int), .int .i64 (N : Int), .slice A' l'.length c'] 44 (0, 0)) from HB2.out)
     replace HB4 := Aside0.mk (show (w3.alloc (.cells (geA g) 50)).heap[h4]? = some (.cells #[.int .i64 0, .int .i64 0, .slice none 0 0] 44 (0, 0)) from HB4.out)
     generalize w3.alloc (.cells (geA g) 50) = w4 at HG HR HB2 HB4 ⊢
     have hg := grown_drew w4 none
     replace HG := Aside0.mk (grown_two HG.out hg)
     replace HR := Aside0.mk (Kd.R_grown HR.out hg (by simp))
     replace HB2 := Aside0.mk (blk_grown HB2.out hg)
     replace HB4 := Aside0.mk (blk_grown HB4.out hg)
     clear hg
     have HPT := Aside0.mk (show lookasideref10_put.f (l'.length + 1) (s : Int) (N : Int) l' (k : Int) 9223372036854775807 0 = some ((s : Int), (N : Int), pW l' (k : Int) 9223372036854775807 0) from pW_f _ _ _ _ _ l' (by have := HDR.out.le; have := HLL.out; omega) (Nat.le_refl _))
     refine start_ (n := 6) (S := fun w' => w'.heap[h2]? = some (.cells #[.int .i64 (s : Int), .int .i64 (N : Int), .slice A' l'.length c'] 44 (0, 0))) (ds := [5]) #[false, false, false, false, false, false] (by kernel_rfl) rfl rfl HB2.out (fun hHeld => ?_)
     refine with_tab rdropc7_tab (fun HT_ => ?_)
     refine pure_ (i := 1) (N := some 36) (v := ?_) (a' := ?_) #[false, true, false, false, false, false] rfl rfl (any_of HT_.out (by kernel_rfl)) (fun _ _ _ h => h) (Or.inl ⟨by rfl, ?_⟩) ?_ ?_
     rotate_left
     ·intro w'
      go_simp
      with_reducible rfl
     rotate_left
     ·simp only [ap_]
      rfl
     refine take_ (i := 0) (N := some 35) (v := .agg #[.int .i64 (s : Int), .int .i64 (N : Int), .slice A' l'.length c']) (a' := ?_) #[true, true, false, false, false, false] rfl rfl (take_of HT_.out (by kernel_rfl)) (fun _ _ _ h => h) (Or.inl ⟨by rfl, ?_⟩) hHeld ?_ ?_
     ·rintro w' s1
      obtain ⟨q0, q1, q2⟩ := cz3q s1
      go_simp
     rotate_left
     ·simp only [ap_]
      rfl
     refine one_ (i := 2) (N := some 37) #[true, true, true, false, false, false] rfl rfl (one_of HT_.out (by kernel_rfl)) (by decide) (fun K hK => ?_)
     refine goes_ Try.func83 (by kernel_rfl) rfl #[] (by rfl) rfl rfl (by (try simp only [List.map_toArray, List.map_cons, List.map_nil]); first | done | rfl) ?_
     refine (lookasideref10_Bad.calls _ _ badf).mono ?_
     rintro x0 wn ⟨rfl, hd⟩
     have hg := drawn_grown hd
     replace HR := Aside0.mk (Kd.R_grown HR.out hg (by simp))
     replace HG := Aside0.mk (grown_two HG.out hg)
     replace HB2 := Aside0.mk (blk_grown HB2.out hg)
     replace HB4 := Aside0.mk (blk_grown HB4.out hg)
     have hs : wn.heap[h2]? = some (.cells #[.int .i64 (s : Int), .int .i64 (N : Int), .slice A' l'.length c'] 44 (0, 0)) := blk_grown hHeld hg
     clear hg hd
     refine ⟨_, rfl, ?_⟩
     refine hK.out _ _ hs (fun hHeld => ?_)
     clear hK K
     refine norm_ (a' := ?_) ?_ ?_
     rotate_left
     ·show Act.put _ (some 37) _ = _
      simp only [ap_]
      rfl
     refine pure_ (i := 3) (N := some 38) (v := ?_) (a' := ?_) #[true, true, true, true, false, false] rfl rfl (any_of HT_.out (by kernel_rfl)) (fun _ _ _ h => h) (Or.inl ⟨by rfl, ?_⟩) ?_ ?_
     rotate_left
     ·intro w'
      go_simp
      with_reducible rfl
     rotate_left
     ·simp only [ap_]
      rfl
     refine one_ (i := 4) (N := some 39) #[true, true, true, true, true, false] rfl rfl (one_of HT_.out (by kernel_rfl)) (by decide) (fun K hK => ?_)
     refine goes_ Try.func102 (by kernel_rfl) rfl #[.agg #[.int .i64 (s : Int), .int .i64 (N : Int), .slice A' l'.length c'], .agg #[.int .i64 (k : Int), .int .u64 9223372036854775807, .int .u64 0]] (by rfl) rfl rfl (by (try simp only [List.map_toArray, List.map_cons, List.map_nil]); first | done | rfl) ?_
     refine (lookasideref10_put.calls (l'.length + 1) _ _ A' c' l' _ _ _ _ _ _ _ (Kd.R_reads' HR.out).2.2 (Kd.R_reads' HR.out).2.1 HPT.out).mono ?_
     rintro x0 wn ⟨v2, rfl, hR2, hb⟩
     have hg := below_grown hb
     obtain ⟨A2, c2, rfl⟩ := Kd.R_slice hR2
     have HR2 := Aside0.mk (Kd.R_lower hR2 (Nat.le_trans HBW.out HG.out.size))
     replace HG := Aside0.mk (grown_two HG.out hg)
     replace HB2 := Aside0.mk (blk_grown HB2.out hg)
     replace HB4 := Aside0.mk (blk_grown HB4.out hg)
     have hs : wn.heap[h2]? = some (.cells #[.int .i64 (s : Int), .int .i64 (N : Int), .slice A' l'.length c'] 44 (0, 0)) := blk_grown hHeld hg
     clear hg hb hR2
     refine ⟨_, rfl, ?_⟩
     refine hK.out _ _ hs (fun hHeld => ?_)
     clear hK K
     refine norm_ (a' := ?_) ?_ ?_
     rotate_left
     ·show Act.put _ (some 39) _ = _
      simp only [ap_]
      rfl
     refine last_ (i := 5) (N := none) #[true, true, true, true, true, true] rfl rfl (one_of HT_.out (by kernel_rfl)) (by decide) (fun K hK => ?_)
     rw [if_pos (by rfl)]
     refine wp_store_row 44 (.tmp 2) (.tmp 39) rfl h2 #[.int .i64 (s : Int), .int .i64 (N : Int), .slice A2 (pW l' (k : Int) 9223372036854775807 0).length c2] rfl rfl 44 #[.int .i64 (s : Int), .int .i64 (N : Int), .slice A' l'.length c'] HB2.out (by kernel_rfl) rfl (by kernel_rfl) ?_
     have hb2 := setRow_heap wn h2 _ #[.int .i64 (s : Int), .int .i64 (N : Int), .slice A2 (pW l' (k : Int) 9223372036854775807 0).length c2] _ _ HB2.out
     have hgr := grown_row wn h2 #[.int .i64 (s : Int), .int .i64 (N : Int), .slice A2 (pW l' (k : Int) 9223372036854775807 0).length c2]
     replace HG := Aside0.mk (grown_loc HG.out hgr (by have := HH.out; omega))
     replace HR2 := Aside0.mk (Kd.R_mono (ok' := fun _ => True) (Kd.R_grown (Kd.R_types HR2.out HB2.out (by decide)) hgr (fun k hk e => hk.2 (Option.some.inj e))) (fun _ _ => trivial))
     replace HB4 := Aside0.mk ((hgr.block h4 (blk_lt HB4.out) (fun e => by have := HH.out; have := Option.some.inj e; omega)).trans HB4.out)
     generalize World.setRow wn h2 #[.int .i64 (s : Int), .int .i64 (N : Int), .slice A2 (pW l' (k : Int) 9223372036854775807 0).length c2] = wb at hb2 HG HR2 HB4 ⊢
     clear HB2 HR
     have HB2 := Aside0.mk hb2
     clear hgr hb2
     refine hK.out _ _ ?_
     clear hK K
     refine norm_ (a' := ?_) ?_ ?_
     rotate_left
     ·show Act.put _ none _ = _
      rfl
     refine done_ (done_of HT_.out (by kernel_rfl)) ?_
     have hpl := HPL.out
     go_wp2_with fail
     go_roundw
     case rel => exact ⟨k + 1, A2, c2, pW l' (k : Int) 9223372036854775807 0, by rw [HSD.out]; go_num, by go_num, by omega, ⟨by rw [HSD.out]; exact ⟨HDR.out.wok.bad k, HDR.out.dw.set k BADW 0 (fun j => gW_pW l' _ _ _ j), HDR.out.lok.put hkN _ _, Nat.le_trans (pW_le _ _) HDR.out.le⟩⟩, HR2, HG, HB2, HB4⟩
     case measure => simp [intOf]; omega
   ·have HSD := Aside0.mk (show dfold N s ctx ws (List.range (k + 1)) = PR by rw [HSN.out]; unfold dstep; rw [HF.out, if_neg hd])
    have HNX := Aside0.mk (show k + 1 ≤ N ∧ DR N s (dfold N s ctx ws (List.range (k + 1))) l' l.length ∧ (dfold N s ctx ws (List.range (k + 1))).2 = pc from ⟨hkN, by rw [HSD.out]; exact HDR.out, by rw [HSD.out, HPC.out]⟩)
    cases F with
    | none =>
     obtain rfl : x0 = .returned (.tuple #[.agg #[.int .i64 0, .int .i64 0, .int .u64 0, .int .u64 0, .bool false, .bool false, .bool false, .bool false, .bool false, .bool false, .bool false], .bool false]) := he
     clear hd HSN HF HB8
     go_wp2_with fail
     go_roundw
     case rel => exact ⟨k + 1, A', c', l', by rw [HNX.out.2.2], by go_num, by omega, ⟨HNX.out.2.1⟩, ⟨HR.out⟩, ⟨HG.out⟩, ⟨HB2.out⟩, ⟨HB4.out⟩⟩
     case measure => simp [intOf]; omega
    | some g =>
     replace HB8 := Aside0.mk (show (w3.alloc (.cells (geA g) 50)).heap[w3.heap.size]? = some (.cells (geA g) 50 (0, 0)) from HB8.out)
     obtain ⟨z0, z1, z2, z3, z4, z5, z6, z7, z8, z9, z10⟩ := tte_Read.cz11 HB8.out
     obtain rfl : x0 = .returned (.tuple #[.agg (geA g), .bool true]) := he
     have hdd : g.g = true ∨ (g.g = false ∧ ((g.c : Int) == ctx) = false) := by
      have hd2 : ¬ (!g.g && ((g.c : Int) == ctx)) = true := hd
      revert hd2
      cases g.g <;> simp
     clear HB8 hd HSN HF
     rcases hdd with hgg | ⟨hgg, hcc⟩
     all_goals
      rw [hgg] at z8
      clear hgg
      go_wp2_with fail
      go_roundw
      case rel => exact ⟨k + 1, A', c', l', by rw [HNX.out.2.2], by go_num, by omega, ⟨HNX.out.2.1⟩, ⟨HR.out⟩, ⟨HG.out⟩, ⟨HB2.out⟩, ⟨HB4.out⟩⟩
      case measure => simp [intOf]; omega
  ·obtain rfl : k = N := by omega
   obtain ⟨q0, q1, q2⟩ := cz3q HB2.out
   clear HPL HSN
   obtain ⟨PR, hPR⟩ : ∃ x, x = dfold k s ctx ws (List.range k) := ⟨_, rfl⟩
   rw [← hPR] at HDR
   rw [← hPR]
   have HPE := Aside0.mk hPR
   clear hPR
   go_wp2_with (((with_reducible refine gate_store (t := 44) (p := 4) rfl ?_); refine wpList_store_row rfl 44 (.tmp 4) (.tmp 42) rfl h4 #[.int .i64 (s : Int), .int .i64 (k : Int), .slice A' l'.length c'] rfl rfl 44 _ HB4.out (by kernel_rfl) rfl (by kernel_rfl) ?_; have SHB4 := Aside0.mk (setRow_heap _ h4 _ #[.int .i64 (s : Int), .int .i64 (k : Int), .slice A' l'.length c'] _ _ HB4.out); have THB4 := Aside0.mk (grown_row wr h4 #[.int .i64 (s : Int), .int .i64 (k : Int), .slice A' l'.length c'])))
   replace HR := Aside0.mk (Kd.R_mono (ok' := fun _ => True) (Kd.R_grown (Kd.R_types HR.out HB4.out (by decide)) THB4.out (fun k hk e => hk.2 (Option.some.inj e))) (fun _ _ => trivial))
   obtain ⟨q0, q1, q2⟩ := cz3q SHB4.out
   exact bodyPost_ret (v := .tuple #[.agg #[.int .i64 (s : Int), .int .i64 (k : Int), .slice A' l'.length c'], .int .i64 (PR.2 : Int)]) (by simp [results, Try.f81, go_sem, q0, q1, q2]) rfl ⟨_, l', by rw [HPE.out], HR.out, by rw [← HPE.out]; exact HDR.out, grown_loc HG.out THB4.out (by have := HH.out; omega)⟩
end
end Go.Proofs.Ytjnffegjpkbjmaa.Mem
-- halved
