/- The walk through the law MemoryEdges, at whatever size and address; no conditions. -/
import Derived.Test.YtlndljgoliepdaaMemRef
namespace Go.Proofs.Ytlndljgoliepdaa.Mem
open Go.RowKit Go.Maps Go.Proofs.YtlndljgoliepdaaW.PrintWords Go.Proofs.YtlndljgoliepdaaW.PrintLast Go.Proofs.YtlndljgoliepdaaW.PrintMore
set_option linter.unusedSimpArgs false
set_option linter.unusedVariables false
section
set_option maxHeartbeats 2000000
set_option maxRecDepth 100000
theorem byte_any {B w0 p mb sz n D W} (h : Mem B w0 p mb sz n D W) (a : Int) (ha : (Lit.int .u64 a).wf = true) :
    Calls Try.prog 16 #[.pointer (some ⟨p, 0, none⟩), .int .u64 a] W fun e W' => ∃ v, e = .returned (.tuple #[.int .u8 v, .int .i64 (mayOf sz a 1 1)]) ∧ Mem B w0 p mb sz n D W' ∧ W.grownBy W' none := by
  by_cases hc : mayOf sz a 1 1 = 0
  · exact (byte_ok h a ha hc).mono fun e W' x => ⟨_, by rw [hc]; exact x.1, x.2 ▸ h.same (grown_drew _ _), x.2 ▸ grown_drew _ _⟩
  · exact (byte_bad h a ha (bne_iff_ne.mpr hc) rfl).mono fun e W' x => ⟨_, x.1, x.2 ▸ h, x.2 ▸ grown_refl _ _⟩
theorem word_any {B w0 p mb sz n D W} (h : Mem B w0 p mb sz n D W) (a : Int) (ha : (Lit.int .u64 a).wf = true) :
    Calls Try.prog 15 #[.pointer (some ⟨p, 0, none⟩), .int .u64 a] W fun e W' => ∃ v, e = .returned (.tuple #[.int .u64 v, .int .i64 (mayOf sz a 8 8)]) ∧ Mem B w0 p mb sz n D W' ∧ W.grownBy W' none := by
  by_cases hc : mayOf sz a 8 8 = 0
  · exact (word_ok h a ha hc).mono fun e W' x => ⟨_, by rw [hc]; exact x.1, x.2 ▸ h, x.2 ▸ grown_refl _ _⟩
  · exact (word_bad h a ha (bne_iff_ne.mpr hc) rfl).mono fun e W' x => ⟨_, x.1, x.2 ▸ h, x.2 ▸ grown_refl _ _⟩
theorem pair_any {B w0 p mb sz n D W} (h : Mem B w0 p mb sz n D W) (a : Int) (ha : (Lit.int .u64 a).wf = true) :
    Calls Try.prog 20 #[.pointer (some ⟨p, 0, none⟩), .int .u64 a] W fun e W' => ∃ v v', e = .returned (.tuple #[.int .u64 v, .int .u64 v', .int .i64 (mayOf sz a 16 16)]) ∧ Mem B w0 p mb sz n D W' ∧ W.grownBy W' none := by
  by_cases hc : mayOf sz a 16 16 = 0
  · exact (pair_ok h a ha hc).mono fun e W' x => ⟨_, _, by rw [hc]; exact x.1, x.2 ▸ h.same (grown_drew _ _), x.2 ▸ grown_drew _ _⟩
  · exact (pair_bad h a ha (bne_iff_ne.mpr hc) rfl).mono fun e W' x => ⟨_, _, x.1, x.2 ▸ h, x.2 ▸ grown_refl _ _⟩
def cellsOf (vs : List Int) : Array Value := (vs.map (Value.int .u64)).toArray
theorem cellsOf_at {W : World} {g : Nat} {vs : List Int} {t : TypeId} (h : W.heap[g]? = some (.cells (cellsOf vs) t (0, 0))) (i : Nat) (hi : i < vs.length) : W.cell? ⟨g, i, none⟩ = some (.int .u64 (vs.getD i 0)) := by
  rw [blk_cell h]
  simp [cellsOf, hi]
/-- The addresses that are asked. -/
def askOf (s a : Int) : List Int := [a % 2000, s, IntKind.u64.wrap (s - 1), IntKind.u64.wrap (s - 8), IntKind.u64.wrap (s - 16), 18446744073709551615, 18446744073709551608, 18446744073709551600]
theorem askOf_wf (s a : Int) (hs : (Lit.int .u64 s).wf = true) (ha : 0 ≤ a) : ∀ i, i < 8 → (Lit.int .u64 ((askOf s a).getD i 0)).wf = true := by
  intro i hi
  match i, hi with
  | 0, _ => exact WalkArith.wf_u64 (show 0 ≤ a % 2000 ∧ a % 2000 ≤ 18446744073709551615 by omega)
  | 1, _ => exact hs
  | 2, _ => exact wf_wrap _ _
  | 3, _ => exact wf_wrap _ _
  | 4, _ => exact wf_wrap _ _
  | 5, _ => exact (by decide : (Lit.int .u64 18446744073709551615).wf = true)
  | 6, _ => exact (by decide : (Lit.int .u64 18446744073709551608).wf = true)
  | 7, _ => exact (by decide : (Lit.int .u64 18446744073709551600).wf = true)
theorem may_zero (sz a : Int) : mayOf sz a 0 1 = 0 := by unfold mayOf; rw [if_neg (by omega), if_neg (by omega)]
noncomputable def edges_T : Bool × List (List Nat × List Nat) := rtab .any (opsOf Try.f6 13)
theorem edges_tab : rtab .any (opsOf Try.f6 13) = edges_T := rfl
theorem edges_walk (s a : Int) (w : World) (hs : (Lit.int .u64 s).wf = true) (ha : (Lit.int .u64 a).wf = true) :
    Calls Try.prog 6 #[.int .u64 s, .int .u64 a] w fun e w' => e = .returned (.bool true) ∧ Below w.heap.size w w' := by
  have HB := Aside0.mk (Below.refl w.heap.size w)
  have hs0 := (u64_b hs).1
  have ha0 := (u64_b ha).1
  have HWS := Aside0.mk (show (Lit.int .u64 (s % 1001)).wf = true from WalkArith.wf_u64 (by omega))
  have HSM := Aside0.mk (show s % 1001 ≤ 2199023255552 by omega)
  have hu := Try.underlying43
  go_enter Try.func6, Try.ntmps6
  go_wp2_with (first | (go_at_call 13; refine (new_calls HB.out (Nat.le_refl _) _ HWS.out HSM.out).mono ?_; rintro e wn ⟨p, mb, rfl, hM, hg, hmb, hp⟩; have HM0 := Aside0.mk hM; clear hM hg hmb hp) | (go_at_call 23; refine (refNew_calls _ _ HWS.out HSM.out).mono ?_; rintro e w1 ⟨rfl, hg⟩; have HM1 := Aside0.mk (HM0.out.same hg); clear hg HM0) | ((with_reducible refine gate_dst (N := 6) rfl ?_); refine box_event ?hg (N := 6) ?hd (cs := #[.int .u64 0, .slice none 0 0]) (t := 43) ?hr ?_; (case hd => rfl); (case hg => rfl); (case hr => first | (go_simp; done) | (go_simp; rfl)); intro gr hgb w2 hbox hb; have HR := Aside0.mk hbox; have GHR := Aside0.mk (below_grown hb); have LHR := Aside0.mk (Nat.le_of_eq hgb.symm); clear hgb hbox hb) | ((with_reducible refine gate_store (t := 43) (p := 6) rfl ?_); refine wpList_store_row rfl 43 (.tmp 6) (.tmp 23) rfl gr #[.int .u64 (s % 1001), .slice none 0 0] rfl rfl 43 _ HR.out (by kernel_rfl) rfl (by kernel_rfl) ?_; have SHR := Aside0.mk (setRow_heap _ gr _ #[.int .u64 (s % 1001), .slice none 0 0] _ _ HR.out); have THR := Aside0.mk (grown_row w2 gr #[.int .u64 (s % 1001), .slice none 0 0])) | go_in)
  have HN := Aside0.mk (show gr ≠ mb ∧ gr ≠ p ∧ w.heap.size ≤ gr from ⟨Nat.ne_of_gt (Nat.lt_of_lt_of_le HM1.out.own.lt LHR.out), Nat.ne_of_gt (Nat.lt_of_lt_of_le HM1.out.lt LHR.out), Nat.le_trans HM1.out.hB LHR.out⟩)
  have HM3 := Aside0.mk ((HM1.out.same GHR.out).kept THR.out (fun e => HN.out.1 (Option.some.inj e).symm) (fun e => HN.out.2.1 (Option.some.inj e).symm) (fun j e => by cases e; exact HN.out.2.2))
  have e3 : (w2.setRow gr #[.int .u64 (s % 1001), .slice none 0 0]).heap.size = w2.heap.size := by simp [World.setRow]
  have HM := Aside0.mk (show Mem w.heap.size w p mb (s % 1001) 0 (.map []) ((w2.setRow gr #[.int .u64 (s % 1001), .slice none 0 0]).alloc (.cells #[.int .u64 (a % 2000), .int .u64 (s % 1001), .int .u64 (IntKind.u64.wrap (s % 1001 - 1)), .int .u64 (IntKind.u64.wrap (s % 1001 - 8)), .int .u64 (IntKind.u64.wrap (s % 1001 - 16)), .int .u64 18446744073709551615, .int .u64 18446744073709551608, .int .u64 18446744073709551600] 22)) from HM3.out.same (World.grownBy_alloc _ _ none))
  have HGR := Aside0.mk (show ((w2.setRow gr #[.int .u64 (s % 1001), .slice none 0 0]).alloc (.cells #[.int .u64 (a % 2000), .int .u64 (s % 1001), .int .u64 (IntKind.u64.wrap (s % 1001 - 1)), .int .u64 (IntKind.u64.wrap (s % 1001 - 8)), .int .u64 (IntKind.u64.wrap (s % 1001 - 16)), .int .u64 18446744073709551615, .int .u64 18446744073709551608, .int .u64 18446744073709551600] 22)).heap[gr]? = some (.cells #[.int .u64 (s % 1001), .slice none 0 0] 43 (0, 0)) from ((World.grownBy_alloc (w2.setRow gr #[.int .u64 (s % 1001), .slice none 0 0]) (.cells #[.int .u64 (a % 2000), .int .u64 (s % 1001), .int .u64 (IntKind.u64.wrap (s % 1001 - 1)), .int .u64 (IntKind.u64.wrap (s % 1001 - 8)), .int .u64 (IntKind.u64.wrap (s % 1001 - 16)), .int .u64 18446744073709551615, .int .u64 18446744073709551608, .int .u64 18446744073709551600] 22) none).block gr (blk_lt SHR.out) (by simp)).trans SHR.out)
  have HGA := Aside0.mk (show ((w2.setRow gr #[.int .u64 (s % 1001), .slice none 0 0]).alloc (.cells #[.int .u64 (a % 2000), .int .u64 (s % 1001), .int .u64 (IntKind.u64.wrap (s % 1001 - 1)), .int .u64 (IntKind.u64.wrap (s % 1001 - 8)), .int .u64 (IntKind.u64.wrap (s % 1001 - 16)), .int .u64 18446744073709551615, .int .u64 18446744073709551608, .int .u64 18446744073709551600] 22)).heap[w2.heap.size]? = some (.cells (cellsOf (askOf (s % 1001) a)) 22 (0, 0)) by rw [← e3]; exact (MapKept.heap_alloc (w2.setRow gr #[.int .u64 (s % 1001), .slice none 0 0]) _).1)
  have HGN := Aside0.mk (show w2.heap.size ≠ mb from Nat.ne_of_gt (HM1.out.same GHR.out).own.lt)
  clear HM3 HM1 HR SHR THR GHR e3
  generalize ((w2.setRow gr #[.int .u64 (s % 1001), .slice none 0 0]).alloc (.cells #[.int .u64 (a % 2000), .int .u64 (s % 1001), .int .u64 (IntKind.u64.wrap (s % 1001 - 1)), .int .u64 (IntKind.u64.wrap (s % 1001 - 8)), .int .u64 (IntKind.u64.wrap (s % 1001 - 16)), .int .u64 18446744073709551615, .int .u64 18446744073709551608, .int .u64 18446744073709551600] 22)) = w4 at HM HGR HGA ⊢
  generalize w2.heap.size = ga at HGA HGN ⊢
  have HWF := Aside0.mk (askOf_wf (s % 1001) a HWS.out ha0)
  go_loopw [8] (fun v8 wr => ∃ (i n : Nat) (D : DataW Unit), v8 = .int .i64 i ∧ i ≤ 8 ∧ Aside0 (Mem w.heap.size w p mb (s % 1001) n D wr) ∧ Aside0 (Good D) ∧ Aside0 (Maps.size D = 0) ∧ Aside0 (wr.heap[gr]? = some (.cells #[.int .u64 (s % 1001), .slice none 0 0] 43 (0, 0))) ∧ Aside0 (wr.heap[ga]? = some (.cells (cellsOf (askOf (s % 1001) a)) 22 (0, 0)))) (fun v8 _ => 8 - (intOf v8).toNat)
  case atStart => exact ⟨0, 0, .map [], rfl, by omega, HM, ⟨good_empty⟩, ⟨rfl⟩, HGR, HGA⟩
  case round =>
    clear HM HGR HGA
    obtain ⟨i, n, D, rfl, hi, HM, HGD, HSD, HGR, HGA⟩ := hrel
    by_cases h8 : i < 8
    · have h8' : (i : Int) < 8 := by omega
      have qs := cellsOf_at HGA.out i h8
      have HWA := Aside0.mk (HWF.out i h8)
      have HQ := Aside0.mk (fun (W : World) (h : W.heap[ga]? = some (.cells (cellsOf (askOf (s % 1001) a)) 22 (0, 0))) => cellsOf_at h i h8)
      generalize (askOf (s % 1001) a).getD i 0 = x at qs HWA HQ
      go_wp2_with (first | (go_at_call 16; refine (byte_any HM.out _ HWA.out).mono ?_; rintro e w5 ⟨v1, rfl, hM, hg⟩; have HM1 := Aside0.mk hM; have HGRn := Aside0.mk (show w5.heap[gr]? = some _ from (hg.block gr (blk_lt HGR.out) (by simp)).trans HGR.out); have HGAn := Aside0.mk (show w5.heap[ga]? = some _ from (hg.block ga (blk_lt HGA.out) (by simp)).trans HGA.out); clear HGR HGA; have HGR := HGRn; have HGA := HGAn; clear HGRn HGAn; have qs1 := HQ.out _ HGA.out; clear HM hM hg) | (go_at_call 15; refine (word_any HM1.out _ HWA.out).mono ?_; rintro e w6 ⟨v2, rfl, hM, hg⟩; have HM2 := Aside0.mk hM; have HGRn := Aside0.mk (show w6.heap[gr]? = some _ from (hg.block gr (blk_lt HGR.out) (by simp)).trans HGR.out); have HGAn := Aside0.mk (show w6.heap[ga]? = some _ from (hg.block ga (blk_lt HGA.out) (by simp)).trans HGA.out); clear HGR HGA; have HGR := HGRn; have HGA := HGAn; clear HGRn HGAn; have qs2 := HQ.out _ HGA.out; clear HM1 hM hg) | (go_at_call 20; refine (pair_any HM2.out _ HWA.out).mono ?_; rintro e w7 ⟨v3, v3', rfl, hM, hg⟩; have HM3 := Aside0.mk hM; have HGRn := Aside0.mk (show w7.heap[gr]? = some _ from (hg.block gr (blk_lt HGR.out) (by simp)).trans HGR.out); have HGAn := Aside0.mk (show w7.heap[ga]? = some _ from (hg.block ga (blk_lt HGA.out) (by simp)).trans HGA.out); clear HGR HGA; have HGR := HGRn; have HGA := HGAn; clear HGRn HGAn; have qs3 := HQ.out _ HGA.out; clear HM2 hM hg) | go_in)
      have HM := Aside0.mk (HM3.out.same (grown_drew _ none))
      clear HM3
      have HGRd := Aside0.mk (show w7.drew.heap[gr]? = some _ from HGR.out)
      have HGAd := Aside0.mk (show w7.drew.heap[ga]? = some _ from HGA.out)
      clear HGR HGA
      have HGR := HGRd
      have HGA := HGAd
      clear HGRd HGAd qs qs1 qs2 qs3
      refine start_ (n := 46) (S := fun w' => w'.cell? ⟨gr, 0, none⟩ = some (.int .u64 (s % 1001)) ∧ w'.cell? ⟨gr, 1, none⟩ = some (.slice none 0 0) ∧ w'.cell? ⟨ga, i, none⟩ = some (.int .u64 x)) (ds := []) #[false, false, false, false, false, false, false, false, false, false, false, false, false, false, false, false, false, false, false, false, false, false, false, false, false, false, false, false, false, false, false, false, false, false, false, false, false, false, false, false, false, false, false, false, false, false] (by kernel_rfl) rfl rfl ⟨(cz2 HGR.out).1, (cz2 HGR.out).2, HQ.out _ HGA.out⟩ (fun hHeld => ?_)
      refine with_tab edges_tab (fun HT_ => ?_)
      generalize w7.drew = w8 at HM HGR HGA hHeld ⊢
      refine pure_ (i := 0) (N := some 68) (v := ?_) (a' := ?_) #[true, false, false, false, false, false, false, false, false, false, false, false, false, false, false, false, false, false, false, false, false, false, false, false, false, false, false, false, false, false, false, false, false, false, false, false, false, false, false, false, false, false, false, false, false, false] rfl rfl (any_of HT_.out (by kernel_rfl)) (fun _ _ _ h => h) (Or.inl ⟨by rfl, ?_⟩) ?_ ?_
      rotate_left
      · intro w'
        go_simp
        with_reducible rfl
      rotate_left
      · simp only [Act.put, List.setIfInBounds_toArray, List.set_cons_zero, List.set_cons_succ, i64_w, i32_w]
        rfl
      refine take_ (i := 1) (N := some 69) (v := ?_) (a' := ?_) #[true, true, false, false, false, false, false, false, false, false, false, false, false, false, false, false, false, false, false, false, false, false, false, false, false, false, false, false, false, false, false, false, false, false, false, false, false, false, false, false, false, false, false, false, false, false] rfl rfl (take_of HT_.out (by kernel_rfl)) (fun _ _ _ h => h) (Or.inl ⟨by rfl, ?_⟩) hHeld ?_ ?_
      rotate_left
      · rintro w' ⟨s0, s1, s2⟩
        go_simp
        with_reducible rfl
      rotate_left
      · simp only [Act.put, List.setIfInBounds_toArray, List.set_cons_zero, List.set_cons_succ, i64_w, i32_w]
        rfl
      refine pure_ (i := 2) (N := some 70) (v := ?_) (a' := ?_) #[true, true, true, false, false, false, false, false, false, false, false, false, false, false, false, false, false, false, false, false, false, false, false, false, false, false, false, false, false, false, false, false, false, false, false, false, false, false, false, false, false, false, false, false, false, false] rfl rfl (any_of HT_.out (by kernel_rfl)) (fun _ _ _ h => h) (Or.inl ⟨by rfl, ?_⟩) ?_ ?_
      rotate_left
      · intro w'
        go_simp
        with_reducible rfl
      rotate_left
      · simp only [Act.put, List.setIfInBounds_toArray, List.set_cons_zero, List.set_cons_succ, i64_w, i32_w]
        rfl
      refine pure_ (i := 3) (N := some 71) (v := ?_) (a' := ?_) #[true, true, true, true, false, false, false, false, false, false, false, false, false, false, false, false, false, false, false, false, false, false, false, false, false, false, false, false, false, false, false, false, false, false, false, false, false, false, false, false, false, false, false, false, false, false] rfl rfl (any_of HT_.out (by kernel_rfl)) (fun _ _ _ h => h) (Or.inl ⟨by rfl, ?_⟩) ?_ ?_
      rotate_left
      · intro w'
        go_simp
        with_reducible rfl
      rotate_left
      · simp only [Act.put, List.setIfInBounds_toArray, List.set_cons_zero, List.set_cons_succ, i64_w, i32_w]
        rfl
      refine pure_ (i := 4) (N := some 72) (v := ?_) (a' := ?_) #[true, true, true, true, true, false, false, false, false, false, false, false, false, false, false, false, false, false, false, false, false, false, false, false, false, false, false, false, false, false, false, false, false, false, false, false, false, false, false, false, false, false, false, false, false, false] rfl rfl (any_of HT_.out (by kernel_rfl)) (fun _ _ _ h => h) (Or.inl ⟨by rfl, ?_⟩) ?_ ?_
      rotate_left
      · intro w'
        go_simp
        with_reducible rfl
      rotate_left
      · simp only [Act.put, List.setIfInBounds_toArray, List.set_cons_zero, List.set_cons_succ, i64_w, i32_w]
        rfl
      refine take_ (i := 5) (N := some 73) (v := ?_) (a' := ?_) #[true, true, true, true, true, true, false, false, false, false, false, false, false, false, false, false, false, false, false, false, false, false, false, false, false, false, false, false, false, false, false, false, false, false, false, false, false, false, false, false, false, false, false, false, false, false] rfl rfl (take_of HT_.out (by kernel_rfl)) (fun _ _ _ h => h) (Or.inl ⟨by rfl, ?_⟩) hHeld ?_ ?_
      rotate_left
      · rintro w' ⟨s0, s1, s2⟩
        go_simp
        with_reducible rfl
      rotate_left
      · simp only [Act.put, List.setIfInBounds_toArray, List.set_cons_zero, List.set_cons_succ, i64_w, i32_w]
        rfl
      refine one_ (i := 6) (N := some 74) #[true, true, true, true, true, true, true, false, false, false, false, false, false, false, false, false, false, false, false, false, false, false, false, false, false, false, false, false, false, false, false, false, false, false, false, false, false, false, false, false, false, false, false, false, false, false] rfl rfl (one_of HT_.out (by kernel_rfl)) (by decide) (fun K hK => ?_)
      refine goes_ Try.func24 (by kernel_rfl) rfl #[.agg #[.int .u64 (s % 1001), .slice none 0 0], .int .u64 x, .int .u64 1, .int .u64 1] (by rfl) rfl rfl (by (try simp only [List.map_toArray, List.map_cons, List.map_nil]); first | done | rfl) ?_
      refine (refMay_calls (.inl rfl) _ _ _ _ HWS.out HWA.out (by decide)).mono ?_
      rintro e x1 ⟨rfl, hg⟩
      have HMx := Aside0.mk (HM.out.same hg)
      clear HM
      have HM := HMx
      clear HMx
      have HGRn := Aside0.mk (show x1.heap[gr]? = some _ from (hg.block gr (blk_lt HGR.out) (by simp)).trans HGR.out); have HGAn := Aside0.mk (show x1.heap[ga]? = some _ from (hg.block ga (blk_lt HGA.out) (by simp)).trans HGA.out); clear HGR HGA; have HGR := HGRn; have HGA := HGAn; clear HGRn HGAn
      clear hg
      refine ⟨_, rfl, ?_⟩
      refine hK.out _ _ ⟨(cz2 HGR.out).1, (cz2 HGR.out).2, HQ.out _ HGA.out⟩ (fun hHeld => ?_)
      clear hK K
      refine norm_ (a' := ?_) ?_ ?_
      rotate_left
      · show Act.put _ (some 74) _ = _
        simp only [Act.put, List.setIfInBounds_toArray, List.set_cons_zero, List.set_cons_succ, i64_w, i32_w]
        rfl
      refine pure_ (i := 7) (N := some 75) (v := ?_) (a' := ?_) #[true, true, true, true, true, true, true, true, false, false, false, false, false, false, false, false, false, false, false, false, false, false, false, false, false, false, false, false, false, false, false, false, false, false, false, false, false, false, false, false, false, false, false, false, false, false] rfl rfl (any_of HT_.out (by kernel_rfl)) (fun _ _ _ h => h) (Or.inl ⟨by rfl, ?_⟩) ?_ ?_
      rotate_left
      · intro w'
        go_simp
        with_reducible rfl
      rotate_left
      · simp only [Act.put, List.setIfInBounds_toArray, List.set_cons_zero, List.set_cons_succ, i64_w, i32_w]
        rfl
      refine pure_ (i := 8) (N := some 76) (v := ?_) (a' := ?_) #[true, true, true, true, true, true, true, true, true, false, false, false, false, false, false, false, false, false, false, false, false, false, false, false, false, false, false, false, false, false, false, false, false, false, false, false, false, false, false, false, false, false, false, false, false, false] rfl rfl (any_of HT_.out (by kernel_rfl)) (fun _ _ _ h => h) (Or.inl ⟨by rfl, ?_⟩) ?_ ?_
      rotate_left
      · intro w'
        go_simp
        with_reducible rfl
      rotate_left
      · simp only [Act.put, List.setIfInBounds_toArray, List.set_cons_zero, List.set_cons_succ, i64_w, i32_w]
        rfl
      refine pure_ (i := 9) (N := some 77) (v := ?_) (a' := ?_) #[true, true, true, true, true, true, true, true, true, true, false, false, false, false, false, false, false, false, false, false, false, false, false, false, false, false, false, false, false, false, false, false, false, false, false, false, false, false, false, false, false, false, false, false, false, false] rfl rfl (any_of HT_.out (by kernel_rfl)) (fun _ _ _ h => h) (Or.inl ⟨by rfl, ?_⟩) ?_ ?_
      rotate_left
      · intro w'
        go_simp
        with_reducible rfl
      rotate_left
      · simp only [Act.put, List.setIfInBounds_toArray, List.set_cons_zero, List.set_cons_succ, i64_w, i32_w]
        rfl
      refine take_ (i := 10) (N := some 78) (v := ?_) (a' := ?_) #[true, true, true, true, true, true, true, true, true, true, true, false, false, false, false, false, false, false, false, false, false, false, false, false, false, false, false, false, false, false, false, false, false, false, false, false, false, false, false, false, false, false, false, false, false, false] rfl rfl (take_of HT_.out (by kernel_rfl)) (fun _ _ _ h => h) (Or.inl ⟨by rfl, ?_⟩) hHeld ?_ ?_
      rotate_left
      · rintro w' ⟨s0, s1, s2⟩
        go_simp
        with_reducible rfl
      rotate_left
      · simp only [Act.put, List.setIfInBounds_toArray, List.set_cons_zero, List.set_cons_succ, i64_w, i32_w]
        rfl
      refine pure_ (i := 11) (N := some 79) (v := ?_) (a' := ?_) #[true, true, true, true, true, true, true, true, true, true, true, true, false, false, false, false, false, false, false, false, false, false, false, false, false, false, false, false, false, false, false, false, false, false, false, false, false, false, false, false, false, false, false, false, false, false] rfl rfl (any_of HT_.out (by kernel_rfl)) (fun _ _ _ h => h) (Or.inl ⟨by rfl, ?_⟩) ?_ ?_
      rotate_left
      · intro w'
        go_simp
        with_reducible rfl
      rotate_left
      · simp only [Act.put, List.setIfInBounds_toArray, List.set_cons_zero, List.set_cons_succ, i64_w, i32_w]
        rfl
      refine pure_ (i := 12) (N := some 80) (v := ?_) (a' := ?_) #[true, true, true, true, true, true, true, true, true, true, true, true, true, false, false, false, false, false, false, false, false, false, false, false, false, false, false, false, false, false, false, false, false, false, false, false, false, false, false, false, false, false, false, false, false, false] rfl rfl (any_of HT_.out (by kernel_rfl)) (fun _ _ _ h => h) (Or.inl ⟨by rfl, ?_⟩) ?_ ?_
      rotate_left
      · intro w'
        go_simp
        with_reducible rfl
      rotate_left
      · simp only [Act.put, List.setIfInBounds_toArray, List.set_cons_zero, List.set_cons_succ, i64_w, i32_w]
        rfl
      refine pure_ (i := 13) (N := some 81) (v := ?_) (a' := ?_) #[true, true, true, true, true, true, true, true, true, true, true, true, true, true, false, false, false, false, false, false, false, false, false, false, false, false, false, false, false, false, false, false, false, false, false, false, false, false, false, false, false, false, false, false, false, false] rfl rfl (any_of HT_.out (by kernel_rfl)) (fun _ _ _ h => h) (Or.inl ⟨by rfl, ?_⟩) ?_ ?_
      rotate_left
      · intro w'
        go_simp
        with_reducible rfl
      rotate_left
      · simp only [Act.put, List.setIfInBounds_toArray, List.set_cons_zero, List.set_cons_succ, i64_w, i32_w]
        rfl
      refine take_ (i := 14) (N := some 82) (v := ?_) (a' := ?_) #[true, true, true, true, true, true, true, true, true, true, true, true, true, true, true, false, false, false, false, false, false, false, false, false, false, false, false, false, false, false, false, false, false, false, false, false, false, false, false, false, false, false, false, false, false, false] rfl rfl (take_of HT_.out (by kernel_rfl)) (fun _ _ _ h => h) (Or.inl ⟨by rfl, ?_⟩) hHeld ?_ ?_
      rotate_left
      · rintro w' ⟨s0, s1, s2⟩
        go_simp
        with_reducible rfl
      rotate_left
      · simp only [Act.put, List.setIfInBounds_toArray, List.set_cons_zero, List.set_cons_succ, i64_w, i32_w]
        rfl
      refine one_ (i := 15) (N := some 83) #[true, true, true, true, true, true, true, true, true, true, true, true, true, true, true, true, false, false, false, false, false, false, false, false, false, false, false, false, false, false, false, false, false, false, false, false, false, false, false, false, false, false, false, false, false, false] rfl rfl (one_of HT_.out (by kernel_rfl)) (by decide) (fun K hK => ?_)
      refine goes_ Try.func24 (by kernel_rfl) rfl #[.agg #[.int .u64 (s % 1001), .slice none 0 0], .int .u64 x, .int .u64 8, .int .u64 8] (by rfl) rfl rfl (by (try simp only [List.map_toArray, List.map_cons, List.map_nil]); first | done | rfl) ?_
      refine (refMay_calls (.inr (.inl rfl)) _ _ _ _ HWS.out HWA.out (by decide)).mono ?_
      rintro e x2 ⟨rfl, hg⟩
      have HMx := Aside0.mk (HM.out.same hg)
      clear HM
      have HM := HMx
      clear HMx
      have HGRn := Aside0.mk (show x2.heap[gr]? = some _ from (hg.block gr (blk_lt HGR.out) (by simp)).trans HGR.out); have HGAn := Aside0.mk (show x2.heap[ga]? = some _ from (hg.block ga (blk_lt HGA.out) (by simp)).trans HGA.out); clear HGR HGA; have HGR := HGRn; have HGA := HGAn; clear HGRn HGAn
      clear hg
      refine ⟨_, rfl, ?_⟩
      refine hK.out _ _ ⟨(cz2 HGR.out).1, (cz2 HGR.out).2, HQ.out _ HGA.out⟩ (fun hHeld => ?_)
      clear hK K
      refine norm_ (a' := ?_) ?_ ?_
      rotate_left
      · show Act.put _ (some 83) _ = _
        simp only [Act.put, List.setIfInBounds_toArray, List.set_cons_zero, List.set_cons_succ, i64_w, i32_w]
        rfl
      refine pure_ (i := 16) (N := some 84) (v := ?_) (a' := ?_) #[true, true, true, true, true, true, true, true, true, true, true, true, true, true, true, true, true, false, false, false, false, false, false, false, false, false, false, false, false, false, false, false, false, false, false, false, false, false, false, false, false, false, false, false, false, false] rfl rfl (any_of HT_.out (by kernel_rfl)) (fun _ _ _ h => h) (Or.inl ⟨by rfl, ?_⟩) ?_ ?_
      rotate_left
      · intro w'
        go_simp
        with_reducible rfl
      rotate_left
      · simp only [Act.put, List.setIfInBounds_toArray, List.set_cons_zero, List.set_cons_succ, i64_w, i32_w]
        rfl
      refine pure_ (i := 17) (N := some 85) (v := ?_) (a' := ?_) #[true, true, true, true, true, true, true, true, true, true, true, true, true, true, true, true, true, true, false, false, false, false, false, false, false, false, false, false, false, false, false, false, false, false, false, false, false, false, false, false, false, false, false, false, false, false] rfl rfl (any_of HT_.out (by kernel_rfl)) (fun _ _ _ h => h) (Or.inl ⟨by rfl, ?_⟩) ?_ ?_
      rotate_left
      · intro w'
        go_simp
        with_reducible rfl
      rotate_left
      · simp only [Act.put, List.setIfInBounds_toArray, List.set_cons_zero, List.set_cons_succ, i64_w, i32_w]
        rfl
      refine pure_ (i := 18) (N := some 86) (v := ?_) (a' := ?_) #[true, true, true, true, true, true, true, true, true, true, true, true, true, true, true, true, true, true, true, false, false, false, false, false, false, false, false, false, false, false, false, false, false, false, false, false, false, false, false, false, false, false, false, false, false, false] rfl rfl (any_of HT_.out (by kernel_rfl)) (fun _ _ _ h => h) (Or.inl ⟨by rfl, ?_⟩) ?_ ?_
      rotate_left
      · intro w'
        go_simp
        with_reducible rfl
      rotate_left
      · simp only [Act.put, List.setIfInBounds_toArray, List.set_cons_zero, List.set_cons_succ, i64_w, i32_w]
        rfl
      refine pure_ (i := 19) (N := some 87) (v := ?_) (a' := ?_) #[true, true, true, true, true, true, true, true, true, true, true, true, true, true, true, true, true, true, true, true, false, false, false, false, false, false, false, false, false, false, false, false, false, false, false, false, false, false, false, false, false, false, false, false, false, false] rfl rfl (any_of HT_.out (by kernel_rfl)) (fun _ _ _ h => h) (Or.inl ⟨by rfl, ?_⟩) ?_ ?_
      rotate_left
      · intro w'
        go_simp
        with_reducible rfl
      rotate_left
      · simp only [Act.put, List.setIfInBounds_toArray, List.set_cons_zero, List.set_cons_succ, i64_w, i32_w]
        rfl
      refine take_ (i := 20) (N := some 88) (v := ?_) (a' := ?_) #[true, true, true, true, true, true, true, true, true, true, true, true, true, true, true, true, true, true, true, true, true, false, false, false, false, false, false, false, false, false, false, false, false, false, false, false, false, false, false, false, false, false, false, false, false, false] rfl rfl (take_of HT_.out (by kernel_rfl)) (fun _ _ _ h => h) (Or.inl ⟨by rfl, ?_⟩) hHeld ?_ ?_
      rotate_left
      · rintro w' ⟨s0, s1, s2⟩
        go_simp
        with_reducible rfl
      rotate_left
      · simp only [Act.put, List.setIfInBounds_toArray, List.set_cons_zero, List.set_cons_succ, i64_w, i32_w]
        rfl
      refine pure_ (i := 21) (N := some 89) (v := ?_) (a' := ?_) #[true, true, true, true, true, true, true, true, true, true, true, true, true, true, true, true, true, true, true, true, true, true, false, false, false, false, false, false, false, false, false, false, false, false, false, false, false, false, false, false, false, false, false, false, false, false] rfl rfl (any_of HT_.out (by kernel_rfl)) (fun _ _ _ h => h) (Or.inl ⟨by rfl, ?_⟩) ?_ ?_
      rotate_left
      · intro w'
        go_simp
        with_reducible rfl
      rotate_left
      · simp only [Act.put, List.setIfInBounds_toArray, List.set_cons_zero, List.set_cons_succ, i64_w, i32_w]
        rfl
      refine pure_ (i := 22) (N := some 90) (v := ?_) (a' := ?_) #[true, true, true, true, true, true, true, true, true, true, true, true, true, true, true, true, true, true, true, true, true, true, true, false, false, false, false, false, false, false, false, false, false, false, false, false, false, false, false, false, false, false, false, false, false, false] rfl rfl (any_of HT_.out (by kernel_rfl)) (fun _ _ _ h => h) (Or.inl ⟨by rfl, ?_⟩) ?_ ?_
      rotate_left
      · intro w'
        go_simp
        with_reducible rfl
      rotate_left
      · simp only [Act.put, List.setIfInBounds_toArray, List.set_cons_zero, List.set_cons_succ, i64_w, i32_w]
        rfl
      refine pure_ (i := 23) (N := some 91) (v := ?_) (a' := ?_) #[true, true, true, true, true, true, true, true, true, true, true, true, true, true, true, true, true, true, true, true, true, true, true, true, false, false, false, false, false, false, false, false, false, false, false, false, false, false, false, false, false, false, false, false, false, false] rfl rfl (any_of HT_.out (by kernel_rfl)) (fun _ _ _ h => h) (Or.inl ⟨by rfl, ?_⟩) ?_ ?_
      rotate_left
      · intro w'
        go_simp
        with_reducible rfl
      rotate_left
      · simp only [Act.put, List.setIfInBounds_toArray, List.set_cons_zero, List.set_cons_succ, i64_w, i32_w]
        rfl
      refine take_ (i := 24) (N := some 92) (v := ?_) (a' := ?_) #[true, true, true, true, true, true, true, true, true, true, true, true, true, true, true, true, true, true, true, true, true, true, true, true, true, false, false, false, false, false, false, false, false, false, false, false, false, false, false, false, false, false, false, false, false, false] rfl rfl (take_of HT_.out (by kernel_rfl)) (fun _ _ _ h => h) (Or.inl ⟨by rfl, ?_⟩) hHeld ?_ ?_
      rotate_left
      · rintro w' ⟨s0, s1, s2⟩
        go_simp
        with_reducible rfl
      rotate_left
      · simp only [Act.put, List.setIfInBounds_toArray, List.set_cons_zero, List.set_cons_succ, i64_w, i32_w]
        rfl
      refine one_ (i := 25) (N := some 93) #[true, true, true, true, true, true, true, true, true, true, true, true, true, true, true, true, true, true, true, true, true, true, true, true, true, true, false, false, false, false, false, false, false, false, false, false, false, false, false, false, false, false, false, false, false, false] rfl rfl (one_of HT_.out (by kernel_rfl)) (by decide) (fun K hK => ?_)
      refine goes_ Try.func24 (by kernel_rfl) rfl #[.agg #[.int .u64 (s % 1001), .slice none 0 0], .int .u64 x, .int .u64 16, .int .u64 16] (by rfl) rfl rfl (by (try simp only [List.map_toArray, List.map_cons, List.map_nil]); first | done | rfl) ?_
      refine (refMay_calls (.inr (.inr rfl)) _ _ _ _ HWS.out HWA.out (by decide)).mono ?_
      rintro e x3 ⟨rfl, hg⟩
      have HMx := Aside0.mk (HM.out.same hg)
      clear HM
      have HM := HMx
      clear HMx
      have HGRn := Aside0.mk (show x3.heap[gr]? = some _ from (hg.block gr (blk_lt HGR.out) (by simp)).trans HGR.out); have HGAn := Aside0.mk (show x3.heap[ga]? = some _ from (hg.block ga (blk_lt HGA.out) (by simp)).trans HGA.out); clear HGR HGA; have HGR := HGRn; have HGA := HGAn; clear HGRn HGAn
      clear hg
      refine ⟨_, rfl, ?_⟩
      refine hK.out _ _ ⟨(cz2 HGR.out).1, (cz2 HGR.out).2, HQ.out _ HGA.out⟩ (fun hHeld => ?_)
      clear hK K
      refine norm_ (a' := ?_) ?_ ?_
      rotate_left
      · show Act.put _ (some 93) _ = _
        simp only [Act.put, List.setIfInBounds_toArray, List.set_cons_zero, List.set_cons_succ, i64_w, i32_w]
        rfl
      refine pure_ (i := 26) (N := some 94) (v := ?_) (a' := ?_) #[true, true, true, true, true, true, true, true, true, true, true, true, true, true, true, true, true, true, true, true, true, true, true, true, true, true, true, false, false, false, false, false, false, false, false, false, false, false, false, false, false, false, false, false, false, false] rfl rfl (any_of HT_.out (by kernel_rfl)) (fun _ _ _ h => h) (Or.inl ⟨by rfl, ?_⟩) ?_ ?_
      rotate_left
      · intro w'
        go_simp
        with_reducible rfl
      rotate_left
      · simp only [Act.put, List.setIfInBounds_toArray, List.set_cons_zero, List.set_cons_succ, i64_w, i32_w]
        rfl
      refine pure_ (i := 27) (N := some 95) (v := ?_) (a' := ?_) #[true, true, true, true, true, true, true, true, true, true, true, true, true, true, true, true, true, true, true, true, true, true, true, true, true, true, true, true, false, false, false, false, false, false, false, false, false, false, false, false, false, false, false, false, false, false] rfl rfl (any_of HT_.out (by kernel_rfl)) (fun _ _ _ h => h) (Or.inl ⟨by rfl, ?_⟩) ?_ ?_
      rotate_left
      · intro w'
        go_simp
        with_reducible rfl
      rotate_left
      · simp only [Act.put, List.setIfInBounds_toArray, List.set_cons_zero, List.set_cons_succ, i64_w, i32_w]
        rfl
      refine pure_ (i := 28) (N := some 96) (v := ?_) (a' := ?_) #[true, true, true, true, true, true, true, true, true, true, true, true, true, true, true, true, true, true, true, true, true, true, true, true, true, true, true, true, true, false, false, false, false, false, false, false, false, false, false, false, false, false, false, false, false, false] rfl rfl (any_of HT_.out (by kernel_rfl)) (fun _ _ _ h => h) (Or.inl ⟨by rfl, ?_⟩) ?_ ?_
      rotate_left
      · intro w'
        go_simp
        with_reducible rfl
      rotate_left
      · simp only [Act.put, List.setIfInBounds_toArray, List.set_cons_zero, List.set_cons_succ, i64_w, i32_w]
        rfl
      refine pure_ (i := 29) (N := some 97) (v := ?_) (a' := ?_) #[true, true, true, true, true, true, true, true, true, true, true, true, true, true, true, true, true, true, true, true, true, true, true, true, true, true, true, true, true, true, false, false, false, false, false, false, false, false, false, false, false, false, false, false, false, false] rfl rfl (any_of HT_.out (by kernel_rfl)) (fun _ _ _ h => h) (Or.inl ⟨by rfl, ?_⟩) ?_ ?_
      rotate_left
      · intro w'
        go_simp
        with_reducible rfl
      rotate_left
      · simp only [Act.put, List.setIfInBounds_toArray, List.set_cons_zero, List.set_cons_succ, i64_w, i32_w]
        rfl
      refine pure_ (i := 30) (N := some 98) (v := ?_) (a' := ?_) #[true, true, true, true, true, true, true, true, true, true, true, true, true, true, true, true, true, true, true, true, true, true, true, true, true, true, true, true, true, true, true, false, false, false, false, false, false, false, false, false, false, false, false, false, false, false] rfl rfl (any_of HT_.out (by kernel_rfl)) (fun _ _ _ h => h) (Or.inl ⟨by rfl, ?_⟩) ?_ ?_
      rotate_left
      · intro w'
        go_simp
        with_reducible rfl
      rotate_left
      · simp only [Act.put, List.setIfInBounds_toArray, List.set_cons_zero, List.set_cons_succ, i64_w, i32_w]
        rfl
      refine pure_ (i := 31) (N := some 99) (v := ?_) (a' := ?_) #[true, true, true, true, true, true, true, true, true, true, true, true, true, true, true, true, true, true, true, true, true, true, true, true, true, true, true, true, true, true, true, true, false, false, false, false, false, false, false, false, false, false, false, false, false, false] rfl rfl (any_of HT_.out (by kernel_rfl)) (fun _ _ _ h => h) (Or.inl ⟨by rfl, ?_⟩) ?_ ?_
      rotate_left
      · intro w'
        go_simp
        with_reducible rfl
      rotate_left
      · simp only [Act.put, List.setIfInBounds_toArray, List.set_cons_zero, List.set_cons_succ, i64_w, i32_w]
        rfl
      refine pure_ (i := 32) (N := some 100) (v := ?_) (a' := ?_) #[true, true, true, true, true, true, true, true, true, true, true, true, true, true, true, true, true, true, true, true, true, true, true, true, true, true, true, true, true, true, true, true, true, false, false, false, false, false, false, false, false, false, false, false, false, false] rfl rfl (any_of HT_.out (by kernel_rfl)) (fun _ _ _ h => h) (Or.inl ⟨by rfl, ?_⟩) ?_ ?_
      rotate_left
      · intro w'
        go_simp
        with_reducible rfl
      rotate_left
      · simp only [Act.put, List.setIfInBounds_toArray, List.set_cons_zero, List.set_cons_succ, i64_w, i32_w]
        rfl
      refine take_ (i := 33) (N := some 101) (v := ?_) (a' := ?_) #[true, true, true, true, true, true, true, true, true, true, true, true, true, true, true, true, true, true, true, true, true, true, true, true, true, true, true, true, true, true, true, true, true, true, false, false, false, false, false, false, false, false, false, false, false, false] rfl rfl (take_of HT_.out (by kernel_rfl)) (fun _ _ _ h => h) (Or.inl ⟨by rfl, ?_⟩) hHeld ?_ ?_
      rotate_left
      · rintro w' ⟨s0, s1, s2⟩
        go_simp
        with_reducible rfl
      rotate_left
      · simp only [Act.put, List.setIfInBounds_toArray, List.set_cons_zero, List.set_cons_succ, i64_w, i32_w]
        rfl
      refine one_ (i := 34) (N := some 102) #[true, true, true, true, true, true, true, true, true, true, true, true, true, true, true, true, true, true, true, true, true, true, true, true, true, true, true, true, true, true, true, true, true, true, true, false, false, false, false, false, false, false, false, false, false, false] rfl rfl (one_of HT_.out (by kernel_rfl)) (by decide) (fun K hK => ?_)
      refine goes_ Try.func25 (by kernel_rfl) rfl #[.pointer (some ⟨p, 0, none⟩), .int .u64 x, .int .u64 0] (by rfl) rfl rfl (by (try simp only [List.map_toArray, List.map_cons, List.map_nil]); first | done | rfl) ?_
      refine (clear_calls HM.out HSM.out x 0 HWA.out (by decide) (may_zero _ _) HGD.out (by have := HSD.out; omega)).mono ?_
      rintro e x4 ⟨rfl, E, hM, hG, hS, hb, hg⟩
      have HME := Aside0.mk hM
      have HGE := Aside0.mk hG
      have HSE := Aside0.mk (show Maps.size E = 0 by have := HSD.out; omega)
      have HGRn := Aside0.mk (show x4.heap[gr]? = some _ from (hg.block gr (blk_lt HGR.out) (fun e => HN.out.1 (Option.some.inj e))).trans HGR.out); have HGAn := Aside0.mk (show x4.heap[ga]? = some _ from (hg.block ga (blk_lt HGA.out) (fun e => HGN.out (Option.some.inj e))).trans HGA.out); clear HGR HGA; have HGR := HGRn; have HGA := HGAn; clear HGRn HGAn
      clear hg hb hS hG hM HM
      refine ⟨_, rfl, ?_⟩
      refine hK.out _ _ ⟨(cz2 HGR.out).1, (cz2 HGR.out).2, HQ.out _ HGA.out⟩ (fun hHeld => ?_)
      clear hK K
      refine norm_ (a' := ?_) ?_ ?_
      rotate_left
      · show Act.put _ (some 102) _ = _
        simp only [Act.put, List.setIfInBounds_toArray, List.set_cons_zero, List.set_cons_succ, i64_w, i32_w]
        rfl
      refine pure_ (i := 35) (N := some 103) (v := ?_) (a' := ?_) #[true, true, true, true, true, true, true, true, true, true, true, true, true, true, true, true, true, true, true, true, true, true, true, true, true, true, true, true, true, true, true, true, true, true, true, true, false, false, false, false, false, false, false, false, false, false] rfl rfl (any_of HT_.out (by kernel_rfl)) (fun _ _ _ h => h) (Or.inl ⟨by rfl, ?_⟩) ?_ ?_
      rotate_left
      · intro w'
        go_simp
        with_reducible rfl
      rotate_left
      · simp only [Act.put, List.setIfInBounds_toArray, List.set_cons_zero, List.set_cons_succ, i64_w, i32_w]
        rfl
      refine pure_ (i := 36) (N := some 104) (v := ?_) (a' := ?_) #[true, true, true, true, true, true, true, true, true, true, true, true, true, true, true, true, true, true, true, true, true, true, true, true, true, true, true, true, true, true, true, true, true, true, true, true, true, false, false, false, false, false, false, false, false, false] rfl rfl (any_of HT_.out (by kernel_rfl)) (fun _ _ _ h => h) (Or.inl ⟨by rfl, ?_⟩) ?_ ?_
      rotate_left
      · intro w'
        go_simp
        with_reducible rfl
      rotate_left
      · simp only [Act.put, List.setIfInBounds_toArray, List.set_cons_zero, List.set_cons_succ, i64_w, i32_w]
        rfl
      refine pure_ (i := 37) (N := some 105) (v := ?_) (a' := ?_) #[true, true, true, true, true, true, true, true, true, true, true, true, true, true, true, true, true, true, true, true, true, true, true, true, true, true, true, true, true, true, true, true, true, true, true, true, true, true, false, false, false, false, false, false, false, false] rfl rfl (any_of HT_.out (by kernel_rfl)) (fun _ _ _ h => h) (Or.inl ⟨by rfl, ?_⟩) ?_ ?_
      rotate_left
      · intro w'
        go_simp
        with_reducible rfl
      rotate_left
      · simp only [Act.put, List.setIfInBounds_toArray, List.set_cons_zero, List.set_cons_succ, i64_w, i32_w]
        rfl
      refine pure_ (i := 38) (N := some 106) (v := ?_) (a' := ?_) #[true, true, true, true, true, true, true, true, true, true, true, true, true, true, true, true, true, true, true, true, true, true, true, true, true, true, true, true, true, true, true, true, true, true, true, true, true, true, true, false, false, false, false, false, false, false] rfl rfl (any_of HT_.out (by kernel_rfl)) (fun _ _ _ h => h) (Or.inl ⟨by rfl, ?_⟩) ?_ ?_
      rotate_left
      · intro w'
        go_simp
        with_reducible rfl
      rotate_left
      · simp only [Act.put, List.setIfInBounds_toArray, List.set_cons_zero, List.set_cons_succ, i64_w, i32_w]
        rfl
      refine pure_ (i := 39) (N := some 107) (v := ?_) (a' := ?_) #[true, true, true, true, true, true, true, true, true, true, true, true, true, true, true, true, true, true, true, true, true, true, true, true, true, true, true, true, true, true, true, true, true, true, true, true, true, true, true, true, false, false, false, false, false, false] rfl rfl (any_of HT_.out (by kernel_rfl)) (fun _ _ _ h => h) (Or.inl ⟨by rfl, ?_⟩) ?_ ?_
      rotate_left
      · intro w'
        go_simp
        with_reducible rfl
      rotate_left
      · simp only [Act.put, List.setIfInBounds_toArray, List.set_cons_zero, List.set_cons_succ, i64_w, i32_w]
        rfl
      refine pure_ (i := 40) (N := some 108) (v := ?_) (a' := ?_) #[true, true, true, true, true, true, true, true, true, true, true, true, true, true, true, true, true, true, true, true, true, true, true, true, true, true, true, true, true, true, true, true, true, true, true, true, true, true, true, true, true, false, false, false, false, false] rfl rfl (any_of HT_.out (by kernel_rfl)) (fun _ _ _ h => h) (Or.inl ⟨by rfl, ?_⟩) ?_ ?_
      rotate_left
      · intro w'
        go_simp
        with_reducible rfl
      rotate_left
      · simp only [Act.put, List.setIfInBounds_toArray, List.set_cons_zero, List.set_cons_succ, i64_w, i32_w]
        rfl
      refine pure_ (i := 41) (N := some 109) (v := ?_) (a' := ?_) #[true, true, true, true, true, true, true, true, true, true, true, true, true, true, true, true, true, true, true, true, true, true, true, true, true, true, true, true, true, true, true, true, true, true, true, true, true, true, true, true, true, true, false, false, false, false] rfl rfl (any_of HT_.out (by kernel_rfl)) (fun _ _ _ h => h) (Or.inl ⟨by rfl, ?_⟩) ?_ ?_
      rotate_left
      · intro w'
        go_simp
        with_reducible rfl
      rotate_left
      · simp only [Act.put, List.setIfInBounds_toArray, List.set_cons_zero, List.set_cons_succ, i64_w, i32_w]
        rfl
      refine take_ (i := 42) (N := some 110) (v := ?_) (a' := ?_) #[true, true, true, true, true, true, true, true, true, true, true, true, true, true, true, true, true, true, true, true, true, true, true, true, true, true, true, true, true, true, true, true, true, true, true, true, true, true, true, true, true, true, true, false, false, false] rfl rfl (take_of HT_.out (by kernel_rfl)) (fun _ _ _ h => h) (Or.inl ⟨by rfl, ?_⟩) hHeld ?_ ?_
      rotate_left
      · rintro w' ⟨s0, s1, s2⟩
        go_simp
        with_reducible rfl
      rotate_left
      · simp only [Act.put, List.setIfInBounds_toArray, List.set_cons_zero, List.set_cons_succ, i64_w, i32_w]
        rfl
      refine one_ (i := 43) (N := some 111) #[true, true, true, true, true, true, true, true, true, true, true, true, true, true, true, true, true, true, true, true, true, true, true, true, true, true, true, true, true, true, true, true, true, true, true, true, true, true, true, true, true, true, true, true, false, false] rfl rfl (one_of HT_.out (by kernel_rfl)) (by decide) (fun K hK => ?_)
      refine goes_ Try.func22 (by kernel_rfl) rfl #[.pointer (some ⟨p, 0, none⟩), .int .u64 x, .int .u64 0, .int .u64 0] (by rfl) rfl rfl (by (try simp only [List.map_toArray, List.map_cons, List.map_nil]); first | done | rfl) ?_
      refine (copy_calls HME.out HSM.out x 0 0 HWA.out (by decide) (by decide) (may_zero _ _) (may_zero _ _) HGE.out (by have := HSE.out; omega)).mono ?_
      rintro e x5 ⟨rfl, F, hM, hG, hS, hb, hg⟩
      have HMF := Aside0.mk hM
      have HGF := Aside0.mk hG
      have HSF := Aside0.mk (show Maps.size F = 0 by have := HSE.out; omega)
      have HGRn := Aside0.mk (show x5.heap[gr]? = some _ from (hg.block gr (blk_lt HGR.out) (fun e => HN.out.1 (Option.some.inj e))).trans HGR.out); have HGAn := Aside0.mk (show x5.heap[ga]? = some _ from (hg.block ga (blk_lt HGA.out) (fun e => HGN.out (Option.some.inj e))).trans HGA.out); clear HGR HGA; have HGR := HGRn; have HGA := HGAn; clear HGRn HGAn
      clear hg hb hS hG hM
      refine ⟨_, rfl, ?_⟩
      refine hK.out _ _ ⟨(cz2 HGR.out).1, (cz2 HGR.out).2, HQ.out _ HGA.out⟩ (fun hHeld => ?_)
      clear hK K
      refine norm_ (a' := ?_) ?_ ?_
      rotate_left
      · show Act.put _ (some 111) _ = _
        simp only [Act.put, List.setIfInBounds_toArray, List.set_cons_zero, List.set_cons_succ, i64_w, i32_w]
        rfl
      refine pure_ (i := 44) (N := some 112) (v := ?_) (a' := ?_) #[true, true, true, true, true, true, true, true, true, true, true, true, true, true, true, true, true, true, true, true, true, true, true, true, true, true, true, true, true, true, true, true, true, true, true, true, true, true, true, true, true, true, true, true, true, false] rfl rfl (any_of HT_.out (by kernel_rfl)) (fun _ _ _ h => h) (Or.inl ⟨by rfl, ?_⟩) ?_ ?_
      rotate_left
      · intro w'
        go_simp
        with_reducible rfl
      rotate_left
      · simp only [Act.put, List.setIfInBounds_toArray, List.set_cons_zero, List.set_cons_succ, i64_w, i32_w]
        rfl
      refine pure_ (i := 45) (N := some 113) (v := ?_) (a' := ?_) #[true, true, true, true, true, true, true, true, true, true, true, true, true, true, true, true, true, true, true, true, true, true, true, true, true, true, true, true, true, true, true, true, true, true, true, true, true, true, true, true, true, true, true, true, true, true] rfl rfl (any_of HT_.out (by kernel_rfl)) (fun _ _ _ h => h) (Or.inl ⟨by rfl, ?_⟩) ?_ ?_
      rotate_left
      · intro w'
        go_simp
        with_reducible rfl
      rotate_left
      · simp only [Act.put, List.setIfInBounds_toArray, List.set_cons_zero, List.set_cons_succ, i64_w, i32_w]
        rfl
      refine done_ (done_of HT_.out (by kernel_rfl)) ?_
      go_wp2
      exact ⟨⟨i + 1, _, F, by go_num, by omega, HMF, HGF, HSF, HGR, HGA⟩, by simp [intOf]; omega⟩
    · obtain rfl : i = 8 := by omega
      go_wp2_with (first | (go_at_call 17; refine (lives_calls _).mono ?_; rintro e w9 ⟨rfl, hg⟩) | go_in)
      go_ret
      exact ⟨rfl, (HM.out.same hg).below⟩
end
end Go.Proofs.Ytlndljgoliepdaa.Mem
