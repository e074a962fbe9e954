/- The document's Drop and Locked, whatever the words are. -/
import Derived.Test.YtjnffegjpkbjmaaTpD
namespace Go.Proofs.Ytjnffegjpkbjmaa.Mem
open Go.RowKit Go.Maps Go.Proofs.YtjnffegjpkbjmaaW.PrintWords Go.Proofs.YtjnffegjpkbjmaaW.PrintLast Go.Proofs.YtjnffegjpkbjmaaW.PrintMore Go.Proofs.Ytjnffegjpkbjmaa.QTsbPlays Go.Proofs.Ytjnffegjpkbjmaa.Pure
set_option linter.unusedSimpArgs false
set_option linter.unusedVariables false
section
set_option maxHeartbeats 2000000
set_option maxRecDepth 100000
noncomputable def rdrop4_T : Bool × List (List Nat × List Nat) := rtab .any (opsOf Try.f80 4)
theorem rdrop4_tab : rtab .any (opsOf Try.f80 4) = rdrop4_T := rfl
theorem rdrop_W {N s base : Nat} {sz : Int} (b : TB base N s sz) {ws : Nat → Wd} (hok : WOK N s ws) {A : Option Addr} {c : Nat} {l : List WS} (hdw : DWw N ws l) (va : Nat) (hva : va < 18446744073709551616) (ctx : Int) {B : Nat} {W : World} (hR : Kd.R k122 122 W B (fun _ => True) (.slice A l.length c) (l)) (hB : B ≤ W.heap.size) (hl : l.length ≤ 900000) :
  Calls Try.prog 80 #[.agg #[.int .i64 (s : Int), .int .i64 (N : Int), .slice A l.length c], .int .u64 (va : Int), .int .i64 ctx] W fun e W' => ∃ v, e = .returned (.tuple #[.agg #[.int .i64 (s : Int), .int .i64 (N : Int), v], .bool (findO (readW (ws (plcOf N (s : Int) va)) va) va ctx).isSome]) ∧ Kd.R k122 122 W' B (fun _ => True) v (if (findO (readW (ws (plcOf N (s : Int) va)) va) va ctx).isSome = true then pW l (plcOf N (s : Int) va : Int) 9223372036854775807 0 else l) ∧ W.grownBy W' none := by
 have hu := Try.underlying44
 have hu2 := Try.underlying50
 have hu3 := Try.underlying122
 have HFD := Aside0.mk (fun {W1 : World} (hC : Kd.C k122 W1 A l.length l) => rfind_W b hok hdw (c := c) va hva ctx hC (Kd.R_reads' hR).2.1 hl)
 obtain ⟨i, hi⟩ : ∃ i, i = plcOf N (s : Int) va := ⟨_, rfl⟩
 have HPL := Aside0.mk (show lookasideref10_place.f (s : Int) (N : Int) l (va : Int) = some (i : Int) from by rw [hi]; exact plc_f va hva s N b.hs b.h1 (by have := b.hN; omega) l)
 have HPT := Aside0.mk (show lookasideref10_put.f (l.length + 1) (s : Int) (N : Int) l (i : Int) 9223372036854775807 0 = some ((s : Int), (N : Int), pW l (i : Int) 9223372036854775807 0) from pW_f _ _ _ _ _ l (by omega) (Nat.le_refl _))
 rw [← hi] at HFD
 rw [← hi]
 obtain ⟨F, hF⟩ : ∃ z, z = findO (readW (ws i) va) va ctx := ⟨_, rfl⟩
 rw [← hF] at HFD
 rw [← hF]
 obtain ⟨lf, hlf⟩ : ∃ z, z = (if F.isSome = true then pW l (i : Int) 9223372036854775807 0 else l) := ⟨_, rfl⟩
 rw [← hlf]
 obtain ⟨fs, hfs⟩ : ∃ z, z = F.isSome := ⟨_, rfl⟩
 rw [← hfs] at hlf
 rw [← hfs]
 have HLF := Aside0.mk hlf
 have HFS := Aside0.mk hfs
 clear hi hva hF hlf hfs
 have HTB := Aside0.mk b
 have HOK := Aside0.mk hok
 have HDW := Aside0.mk hdw
 have HC0 := Aside0.mk (Kd.R_reads' hR).2.2
 have HCC := Aside0.mk (Kd.R_reads' hR).2.1
 have HRL := Aside0.mk hR
 have HLL := Aside0.mk hl
 have HBW := Aside0.mk hB
 clear hok hdw b hl hR hB
 have hgb0 := World.grownBy_alloc (W) (.cells #[.int .i64 (s : Int), .int .i64 (N : Int), .slice A l.length c] 44) none
 have hb2 := heap_alloc_new (W) (.cells #[.int .i64 (s : Int), .int .i64 (N : Int), .slice A l.length c] 44)
 have hgb1 := World.grownBy_alloc ((W).alloc (.cells #[.int .i64 (s : Int), .int .i64 (N : Int), .slice A l.length c] 44)) (.cells #[.int .i64 0, .int .i64 0, .slice none 0 0] 44) none
 have hb3 := heap_alloc_new ((W).alloc (.cells #[.int .i64 (s : Int), .int .i64 (N : Int), .slice A l.length c] 44)) (.cells #[.int .i64 0, .int .i64 0, .slice none 0 0] 44)
 have hz1 : ((W).alloc (.cells #[.int .i64 (s : Int), .int .i64 (N : Int), .slice A l.length c] 44)).heap.size = W.heap.size + 1 := by simp only [World.size_alloc]
 rw [hz1] at hb3
 have HG := Aside0.mk (grown_two hgb0 hgb1)
 have HB2 := Aside0.mk (blk_grown hb2 hgb1)
 have HB3 := Aside0.mk hb3
 clear hgb0 hgb1 hb2 hb3 hz1
 replace HRL := Aside0.mk (Kd.R_grown HRL.out HG.out (by simp))
 obtain ⟨h2, hh2⟩ : ∃ z, z = W.heap.size := ⟨_, rfl⟩
 obtain ⟨h3, hh3⟩ : ∃ z, z = W.heap.size + 1 := ⟨_, rfl⟩
 have HH := Aside0.mk (And.intro hh2 hh3)
 obtain ⟨q0, q1, q2⟩ := cz3q HB2.out
 go_enter Try.func80, Try.ntmps80
 go_wp2_with fail
 rw [← hh2] at HB2
 rw [← hh3] at HB3
 rw [← hh3, ← hh2]
 clear hh2 hh3 q0 q1 q2
 refine (HFD.out (Kd.C_below HC0.out (below_of_grown HG.out))).mono ?_
 rintro x0 w2 ⟨hx0, hg⟩
 obtain rfl : x0 = .returned (.tuple #[.agg (entA (rowE F)), .bool fs]) := by rw [hx0, foundV_row, HFS.out]
 have hgc := World.grownBy_alloc w2 (.cells (entA (rowE F)) 50) none
 replace hg := grown_two hg hgc
 replace HG := Aside0.mk (grown_two HG.out hg)
 replace HB2 := Aside0.mk (blk_grown HB2.out hg)
 replace HB3 := Aside0.mk (blk_grown HB3.out hg)
 replace HRL := Aside0.mk (Kd.R_grown HRL.out hg (by simp))
 clear hx0 hg hgc
 cases fs with
 | false =>
  obtain ⟨q0, q1, q2⟩ := cz3q HB2.out
  go_wp2_with (((with_reducible refine gate_store (t := 44) (p := 6) rfl ?_); refine wpList_store_row rfl 44 (.tmp 6) (.tmp 19) rfl h3 #[.int .i64 (s : Int), .int .i64 (N : Int), .slice A l.length c] rfl rfl 44 _ HB3.out (by kernel_rfl) rfl (by kernel_rfl) ?_; have SHB3 := Aside0.mk (setRow_heap _ h3 _ #[.int .i64 (s : Int), .int .i64 (N : Int), .slice A l.length c] _ _ HB3.out); have THB3 := Aside0.mk (grown_row (w2.alloc (.cells (entA (rowE F)) 50)) h3 #[.int .i64 (s : Int), .int .i64 (N : Int), .slice A l.length c])))
  replace HRL := Aside0.mk (Kd.R_mono (ok' := fun _ => True) (Kd.R_grown (Kd.R_types HRL.out HB3.out (by decide)) THB3.out (fun k hk e => hk.2 (Option.some.inj e))) (fun _ _ => trivial))
  obtain ⟨q0, q1, q2⟩ := cz3q SHB3.out
  exact bodyPost_ret (v := .tuple #[.agg #[.int .i64 (s : Int), .int .i64 (N : Int), .slice A l.length c], .bool false]) (by simp [results, Try.f80, go_sem, q0, q1, q2]) rfl ⟨_, rfl, by rw [HLF.out]; exact HRL.out, grown_loc HG.out THB3.out (by have := HH.out; omega)⟩
 | true =>
  go_upto_region 4 with fail
  generalize w2.alloc (.cells (entA (rowE F)) 50) = w3 at HG HB2 HB3 HRL ⊢
  replace HG := Aside0.mk (grown_two HG.out (grown_drew w3 none))
  replace HB2 := Aside0.mk (blk_grown HB2.out (grown_drew w3 none))
  replace HB3 := Aside0.mk (blk_grown HB3.out (grown_drew w3 none))
  clear HRL
  refine start_ (n := 9) (S := fun w' => w'.heap[h2]? = some (.cells #[.int .i64 (s : Int), .int .i64 (N : Int), .slice A l.length c] 44 (0, 0))) (ds := []) #[false, false, false, false, false, false, false, false, false] (by kernel_rfl) rfl rfl HB2.out (fun hHeld => ?_)
  refine with_tab rdrop4_tab (fun HT_ => ?_)
  refine pure_ (i := 2) (N := some 22) (v := ?_) (a' := ?_) #[false, false, true, false, false, false, false, false, false] rfl rfl (any_of HT_.out (by kernel_rfl)) (fun _ _ _ h => h) (Or.inl ⟨by rfl, ?_⟩) ?_ ?_
  rotate_left
  ·intro w'
   go_simp
   with_reducible rfl
  rotate_left
  ·simp only [ap_]
   rfl
  refine take_ (i := 0) (N := some 20) (v := .agg #[.int .i64 (s : Int), .int .i64 (N : Int), .slice A l.length c]) (a' := ?_) #[true, false, true, false, false, false, false, false, false] rfl rfl (take_of HT_.out (by kernel_rfl)) (fun _ _ _ h => h) (Or.inl ⟨by rfl, ?_⟩) hHeld ?_ ?_
  ·rintro w' s1
   obtain ⟨q0, q1, q2⟩ := cz3q s1
   go_simp
  rotate_left
  ·simp only [ap_]
   rfl
  refine take_ (i := 1) (N := some 21) (v := .agg #[.int .i64 (s : Int), .int .i64 (N : Int), .slice A l.length c]) (a' := ?_) #[true, true, true, false, false, false, false, false, false] rfl rfl (take_of HT_.out (by kernel_rfl)) (fun _ _ _ h => h) (Or.inl ⟨by rfl, ?_⟩) hHeld ?_ ?_
  ·rintro w' s1
   obtain ⟨q0, q1, q2⟩ := cz3q s1
   go_simp
  rotate_left
  ·simp only [ap_]
   rfl
  refine one_ (i := 3) (N := some 23) #[true, true, true, true, false, false, false, false, false] rfl rfl (one_of HT_.out (by kernel_rfl)) (by decide) (fun K hK => ?_)
  refine goes_ Try.func100 (by kernel_rfl) rfl #[.agg #[.int .i64 (s : Int), .int .i64 (N : Int), .slice A l.length c], .int .u64 (va : Int)] (by rfl) rfl rfl (by (try simp only [List.map_toArray, List.map_cons, List.map_nil]); first | done | rfl) ?_
  refine (lookasideref10_place.calls _ _ A c l _ _ _ (Kd.C_below HC0.out (below_of_grown HG.out)) HCC.out HPL.out).mono ?_
  rintro x0 wn ⟨rfl, hb⟩
  have hg := below_grown hb
  replace HG := Aside0.mk (grown_two HG.out hg)
  replace HB2 := Aside0.mk (blk_grown HB2.out hg)
  replace HB3 := Aside0.mk (blk_grown HB3.out hg)
  have hs : wn.heap[h2]? = some (.cells #[.int .i64 (s : Int), .int .i64 (N : Int), .slice A l.length c] 44 (0, 0)) := blk_grown hHeld hg
  clear hg hb
  refine ⟨_, rfl, ?_⟩
  refine hK.out _ _ hs (fun hHeld => ?_)
  clear hK K
  refine norm_ (a' := ?_) ?_ ?_
  rotate_left
  ·show Act.put _ (some 23) _ = _
   simp only [ap_]
   rfl
  refine one_ (i := 4) (N := some 24) #[true, true, true, true, true, false, false, false, false] rfl rfl (one_of HT_.out (by kernel_rfl)) (by decide) (fun K hK => ?_)
  refine goes_ Try.func83 (by kernel_rfl) rfl #[] (by rfl) rfl rfl (by (try simp only [List.map_toArray, List.map_cons, List.map_nil]); first | done | rfl) ?_
  refine (lookasideref10_Bad.calls _ _ badf).mono ?_
  rintro x0 wn ⟨rfl, hd⟩
  have hg := drawn_grown hd
  replace HG := Aside0.mk (grown_two HG.out hg)
  replace HB2 := Aside0.mk (blk_grown HB2.out hg)
  replace HB3 := Aside0.mk (blk_grown HB3.out hg)
  have hs : wn.heap[h2]? = some (.cells #[.int .i64 (s : Int), .int .i64 (N : Int), .slice A l.length c] 44 (0, 0)) := blk_grown hHeld hg
  clear hg hd
  refine ⟨_, rfl, ?_⟩
  refine hK.out _ _ hs (fun hHeld => ?_)
  clear hK K
  refine norm_ (a' := ?_) ?_ ?_
  rotate_left
  ·show Act.put _ (some 24) _ = _
   simp only [ap_]
   rfl
  refine pure_ (i := 5) (N := some 25) (v := ?_) (a' := ?_) #[true, true, true, true, true, true, false, false, false] rfl rfl (any_of HT_.out (by kernel_rfl)) (fun _ _ _ h => h) (Or.inl ⟨by rfl, ?_⟩) ?_ ?_
  rotate_left
  ·intro w'
   go_simp
   with_reducible rfl
  rotate_left
  ·simp only [ap_]
   rfl
  refine one_ (i := 6) (N := some 26) #[true, true, true, true, true, true, true, false, false] rfl rfl (one_of HT_.out (by kernel_rfl)) (by decide) (fun K hK => ?_)
  refine goes_ Try.func102 (by kernel_rfl) rfl #[.agg #[.int .i64 (s : Int), .int .i64 (N : Int), .slice A l.length c], .agg #[.int .i64 (i : Int), .int .u64 9223372036854775807, .int .u64 0]] (by rfl) rfl rfl (by (try simp only [List.map_toArray, List.map_cons, List.map_nil]); first | done | rfl) ?_
  refine (lookasideref10_put.calls (l.length + 1) _ _ A c l _ _ _ _ _ _ _ (Kd.C_below HC0.out (below_of_grown HG.out)) HCC.out HPT.out).mono ?_
  rintro x0 wn ⟨v2, rfl, hR2, hb⟩
  have hg := below_grown hb
  obtain ⟨A2, c2, rfl⟩ := Kd.R_slice hR2
  have HRL := Aside0.mk (Kd.R_lower hR2 (Nat.le_trans HBW.out HG.out.size))
  replace HG := Aside0.mk (grown_two HG.out hg)
  replace HB2 := Aside0.mk (blk_grown HB2.out hg)
  replace HB3 := Aside0.mk (blk_grown HB3.out hg)
  have hs : wn.heap[h2]? = some (.cells #[.int .i64 (s : Int), .int .i64 (N : Int), .slice A l.length c] 44 (0, 0)) := blk_grown hHeld hg
  clear hg hb hR2
  refine ⟨_, rfl, ?_⟩
  refine hK.out _ _ hs (fun hHeld => ?_)
  clear hK K
  refine norm_ (a' := ?_) ?_ ?_
  rotate_left
  ·show Act.put _ (some 26) _ = _
   simp only [ap_]
   rfl
  refine one_ (i := 7) (N := none) #[true, true, true, true, true, true, true, true, false] rfl rfl (one_of HT_.out (by kernel_rfl)) (by decide) (fun K hK => ?_)
  rw [if_pos (by rfl)]
  refine wp_store_row 44 (.tmp 6) (.tmp 26) rfl h3 #[.int .i64 (s : Int), .int .i64 (N : Int), .slice A2 (pW l (i : Int) 9223372036854775807 0).length c2] rfl rfl 44 #[.int .i64 0, .int .i64 0, .slice none 0 0] HB3.out (by kernel_rfl) rfl (by kernel_rfl) ?_
  have hb2 := setRow_heap wn h3 _ #[.int .i64 (s : Int), .int .i64 (N : Int), .slice A2 (pW l (i : Int) 9223372036854775807 0).length c2] _ _ HB3.out
  have hgr := grown_row wn h3 #[.int .i64 (s : Int), .int .i64 (N : Int), .slice A2 (pW l (i : Int) 9223372036854775807 0).length c2]
  replace HG := Aside0.mk (grown_loc HG.out hgr (by have := HH.out; omega))
  replace HRL := Aside0.mk (Kd.R_mono (ok' := fun _ => True) (Kd.R_grown (Kd.R_types HRL.out HB3.out (by decide)) hgr (fun k hk e => hk.2 (Option.some.inj e))) (fun _ _ => trivial))
  have hs : (World.setRow wn h3 #[.int .i64 (s : Int), .int .i64 (N : Int), .slice A2 (pW l (i : Int) 9223372036854775807 0).length c2]).heap[h2]? = some (.cells #[.int .i64 (s : Int), .int .i64 (N : Int), .slice A l.length c] 44 (0, 0)) := (hgr.block h2 (blk_lt HB2.out) (fun e => by have := HH.out; have := Option.some.inj e; omega)).trans HB2.out
  generalize World.setRow wn h3 #[.int .i64 (s : Int), .int .i64 (N : Int), .slice A2 (pW l (i : Int) 9223372036854775807 0).length c2] = wb at hb2 hs HG HRL ⊢
  clear HB2
  replace HB3 := Aside0.mk hb2
  clear hgr hb2
  refine hK.out _ _ hs (fun hHeld => ?_)
  clear hK K
  refine norm_ (a' := ?_) ?_ ?_
  rotate_left
  ·show Act.put _ none _ = _
   rfl
  refine pure_ (i := 8) (N := some 7) (v := ?_) (a' := ?_) #[true, true, true, true, true, true, true, true, true] rfl rfl (any_of HT_.out (by kernel_rfl)) (fun _ _ _ h => h) (Or.inl ⟨by rfl, ?_⟩) ?_ ?_
  rotate_left
  ·intro w'
   go_simp
   with_reducible rfl
  rotate_left
  ·simp only [ap_]
   rfl
  refine done_ (done_of HT_.out (by kernel_rfl)) ?_
  obtain ⟨q0, q1, q2⟩ := cz3q HB3.out
  go_wp2
  exact bodyPost_ret (v := .tuple #[.agg #[.int .i64 (s : Int), .int .i64 (N : Int), .slice A2 (pW l (i : Int) 9223372036854775807 0).length c2], .bool true]) (by simp [results, Try.f80, go_sem, q0, q1, q2]) rfl ⟨_, rfl, by rw [HLF.out]; exact HRL.out, HG.out⟩
noncomputable def rlocked5_T : Bool × List (List Nat × List Nat) := rtab .any (opsOf Try.f47 5)
theorem rlocked5_tab : rtab .any (opsOf Try.f47 5) = rlocked5_T := rfl
theorem filt_take (l : List WS) (i : Nat) (hi : i < l.length) : ((l.take (i + 1)).filter (fun x => !(x.f1 == 9223372036854775807))).length = ((l.take i).filter (fun x => !(x.f1 == 9223372036854775807))).length + (if l[i].f1 = 9223372036854775807 then 0 else 1) := by
 rw [List.take_succ_eq_append_getElem hi, List.filter_append, List.length_append]
 congr 1
 by_cases e : l[i].f1 = 9223372036854775807 <;> simp [e]
theorem rlocked_W {N s base : Nat} {sz : Int} (b : TB base N s sz) {ws : Nat → Wd} (hok : WOK N s ws) {A : Option Addr} {c : Nat} {l : List WS} (hdw : DWw N ws l) (hlk : LOK N l) {W : World} (hC : Kd.C k122 W A l.length l) (hc : l.length ≤ c) (hl : l.length ≤ 900000) :
  Calls Try.prog 47 #[.agg #[.int .i64 (s : Int), .int .i64 (N : Int), .slice A l.length c]] W fun e W' => e = .returned (.int .i64 (lockX ws (List.range N) : Int)) ∧ W.grownBy W' none := by
 have hu := Try.underlying44
 have HLW := Aside0.mk (locked_W hdw hlk)
 have hN := b.hN
 obtain ⟨LX, hLX⟩ : ∃ z, z = lockX ws (List.range N) := ⟨_, rfl⟩
 rw [← hLX] at HLW
 rw [← hLX]
 clear hlk hLX
 have HTB := Aside0.mk b
 have HOK := Aside0.mk hok
 have HDW := Aside0.mk hdw
 have HC0 := Aside0.mk hC
 have HCC := Aside0.mk hc
 have HLL := Aside0.mk hl
 clear hC hc hok hdw b hl
 have hgb0 := World.grownBy_alloc (W) (.cells #[.int .i64 (s : Int), .int .i64 (N : Int), .slice A l.length c] 44) none
 have hb2 := heap_alloc_new (W) (.cells #[.int .i64 (s : Int), .int .i64 (N : Int), .slice A l.length c] 44)
 have HG := Aside0.mk hgb0
 have HB2 := Aside0.mk hb2
 clear hgb0 hb2
 obtain ⟨h2, hh2⟩ : ∃ z, z = W.heap.size := ⟨_, rfl⟩
 have hl := HLL.out
 obtain ⟨q0, q1, q2⟩ := cz3q HB2.out
 go_enter Try.func47, Try.ntmps47
 go_wp2_with fail
 clear q0 q1 q2
 rw [← hh2] at HB2
 rw [← hh2]
 clear hh2
 generalize W.alloc (.cells #[.int .i64 (s : Int), .int .i64 (N : Int), .slice A l.length c] 44) = w1 at HG HB2 ⊢
 go_loopw [3, 4] (fun v3 v4 wr => ∃ (i n : Nat), v3 = .int .i64 n ∧ v4 = .int .i64 i ∧ i ≤ l.length ∧ n ≤ N ∧ Aside0 (n + ((l.take i).filter (fun x => !(x.f1 == 9223372036854775807))).length = N) ∧ Aside0 (W.grownBy wr none) ∧ Aside0 (wr.heap[h2]? = some (.cells #[.int .i64 (s : Int), .int .i64 (N : Int), .slice A l.length c] 44 (0, 0)))) (fun _ v4 _ => l.length - (intOf v4).toNat)
 case atStart => exact ⟨0, N, rfl, rfl, by omega, Nat.le_refl _, ⟨by simp⟩, HG, HB2⟩
 case round =>
  clear HG HB2
  obtain ⟨i, n, rfl, rfl, hi, hn, HCT, HG, HB2⟩ := hrel
  obtain ⟨q0, q1, q2⟩ := cz3q HB2.out
  by_cases hix : i < l.length
  ·have hi1 : (i : Int) < (l.length : Int) := by omega
   have hi0 : (0 : Int) ≤ (i : Int) := by omega
   have HTK := Aside0.mk (filt_take l i hix)
   obtain ⟨ad, rfl, hx0, hx1, hx2⟩ := at_T122 (Kd.C_below HC0.out (below_of_grown HG.out)) (i : Int) (by omega) (by omega)
   have hr : rd_T122 l (i : Int) = l[i] := rd_atW l hix
   rw [Int.toNat_natCast, hr] at hx1
   generalize l[i] = x at HTK hx1
   have HX1 := Aside0.mk hx1
   clear hx0 hx1 hx2 hr
   go_upto_region 5 with fail
   clear q0 q1 q2
   have hg := grown_drew wr none
   replace HG := Aside0.mk (grown_two HG.out hg)
   replace HB2 := Aside0.mk (blk_grown HB2.out hg)
   replace HX1 := Aside0.mk (cell_grown HX1.out hg)
   clear hg
   refine start_ (n := 8) (S := fun w' => w'.heap[h2]? = some (.cells #[.int .i64 (s : Int), .int .i64 (N : Int), .slice (some ad) l.length c] 44 (0, 0)) ∧ w'.cell? ⟨(ad.add (i * 3)).block, (ad.add (i * 3)).off + 1, none⟩ = some (.int .u64 x.f1)) (ds := []) #[false, false, false, false, false, false, false, false] (by kernel_rfl) rfl rfl ⟨HB2.out, HX1.out⟩ (fun hHeld => ?_)
   refine with_tab rlocked5_tab (fun HT_ => ?_)
   refine pure_ (i := 0) (N := some 14) (v := ?_) (a' := ?_) #[true, false, false, false, false, false, false, false] rfl rfl (any_of HT_.out (by kernel_rfl)) (fun _ _ _ h => h) (Or.inl ⟨by rfl, ?_⟩) ?_ ?_
   rotate_left
   ·intro w'
    go_simp
    with_reducible rfl
   rotate_left
   ·simp only [ap_]
    rfl
   refine pure_ (i := 2) (N := some 16) (v := ?_) (a' := ?_) #[true, false, true, false, false, false, false, false] rfl rfl (any_of HT_.out (by kernel_rfl)) (fun _ _ _ h => h) (Or.inl ⟨by rfl, ?_⟩) ?_ ?_
   rotate_left
   ·intro w'
    go_simp
    with_reducible rfl
   rotate_left
   ·simp only [ap_]
    rfl
   refine take_ (i := 1) (N := some 15) (v := .slice (some ad) l.length c) (a' := ?_) #[true, true, true, false, false, false, false, false] rfl rfl (take_of HT_.out (by kernel_rfl)) (fun _ _ _ h => h) (Or.inl ⟨by rfl, ?_⟩) hHeld ?_ ?_
   ·rintro w' ⟨s1, s2⟩
    obtain ⟨q0, q1, q2⟩ := cz3q s1
    go_simp
   rotate_left
   ·simp only [ap_]
    rfl
   refine pure_ (i := 3) (N := some 17) (v := ?_) (a' := ?_) #[true, true, true, true, false, false, false, false] rfl rfl (any_of HT_.out (by kernel_rfl)) (fun _ _ _ h => h) (Or.inl ⟨by rfl, ?_⟩) ?_ ?_
   rotate_left
   ·intro w'
    go_simp
    with_reducible rfl
   rotate_left
   ·simp only [ap_]
    rfl
   refine pure_ (i := 4) (N := some 18) (v := ?_) (a' := ?_) #[true, true, true, true, true, false, false, false] rfl rfl (any_of HT_.out (by kernel_rfl)) (fun _ _ _ h => h) (Or.inl ⟨by rfl, ?_⟩) ?_ ?_
   rotate_left
   ·intro w'
    go_simp
    with_reducible rfl
   rotate_left
   ·simp only [ap_]
    rfl
   refine take_ (i := 5) (N := some 19) (v := .int .u64 x.f1) (a' := ?_) #[true, true, true, true, true, true, false, false] rfl rfl (take_of HT_.out (by kernel_rfl)) (fun _ _ _ h => h) (Or.inl ⟨by rfl, ?_⟩) hHeld ?_ ?_
   ·rintro w' ⟨s1, s2⟩
    go_simp
   rotate_left
   ·simp only [ap_]
    rfl
   refine one_ (i := 6) (N := some 20) #[true, true, true, true, true, true, true, false] rfl rfl (one_of HT_.out (by kernel_rfl)) (by decide) (fun K hK => ?_)
   refine goes_ Try.func83 (by kernel_rfl) rfl #[] (by rfl) rfl rfl (by (try simp only [List.map_toArray, List.map_cons, List.map_nil]); first | done | rfl) ?_
   refine (lookasideref10_Bad.calls _ _ badf).mono ?_
   rintro x0 wn ⟨rfl, hd⟩
   have hg := drawn_grown hd
   replace HG := Aside0.mk (grown_two HG.out hg)
   replace HB2 := Aside0.mk (blk_grown HB2.out hg)
   have hs : wn.heap[h2]? = some (.cells #[.int .i64 (s : Int), .int .i64 (N : Int), .slice (some ad) l.length c] 44 (0, 0)) ∧ wn.cell? ⟨(ad.add (i * 3)).block, (ad.add (i * 3)).off + 1, none⟩ = some (.int .u64 x.f1) := ⟨blk_grown hHeld.1 hg, cell_grown hHeld.2 hg⟩
   clear hg hd
   refine ⟨_, rfl, ?_⟩
   refine hK.out _ _ hs (fun hHeld => ?_)
   clear hK K
   refine norm_ (a' := ?_) ?_ ?_
   rotate_left
   ·show Act.put _ (some 20) _ = _
    simp only [ap_]
    rfl
   refine pure_ (i := 7) (N := some 21) (v := ?_) (a' := ?_) #[true, true, true, true, true, true, true, true] rfl rfl (any_of HT_.out (by kernel_rfl)) (fun _ _ _ h => h) (Or.inl ⟨by rfl, ?_⟩) ?_ ?_
   rotate_left
   ·intro w'
    go_simp
    with_reducible rfl
   rotate_left
   ·simp only [ap_]
    rfl
   refine done_ (done_of HT_.out (by kernel_rfl)) ?_
   clear hHeld
   by_cases e : x.f1 = 9223372036854775807
   ·have e2 : (x.f1 != 9223372036854775807) = false := by simp [e]
    have HCN := Aside0.mk (show n + ((l.take (i + 1)).filter (fun x => !(x.f1 == 9223372036854775807))).length = N by rw [HTK.out, if_pos e]; exact HCT.out)
    clear e
    go_wp2_with fail
    go_roundw
    case rel => exact ⟨i + 1, n, rfl, by go_num, by omega, hn, HCN, HG, HB2⟩
    case measure => simp [intOf]; omega
   ·have e2 : (x.f1 != 9223372036854775807) = true := by simp [e]
    have HCN := Aside0.mk (show n - 1 + ((l.take (i + 1)).filter (fun x => !(x.f1 == 9223372036854775807))).length = N ∧ 1 ≤ n by
     rw [HTK.out, if_neg e]
     have h1 := HCT.out
     have h2 := HLW.out
     have h3 := HTK.out
     rw [if_neg e] at h3
     have h4 : ((l.take (i + 1)).filter (fun x => !(x.f1 == 9223372036854775807))).length ≤ (l.filter (fun x => !(x.f1 == 9223372036854775807))).length := (List.Sublist.filter _ (List.take_sublist _ _)).length_le
     omega)
    clear e
    have hn1 := HCN.out.2
    go_wp2_with fail
    go_roundw
    case rel => exact ⟨i + 1, n - 1, by go_num, by go_num, by omega, by omega, ⟨HCN.out.1⟩, HG, HB2⟩
    case measure => simp [intOf]; omega
  ·obtain rfl : i = l.length := by omega
   obtain rfl : n = LX := by have h1 := HCT.out; rw [List.take_length] at h1; have := HLW.out; omega
   go_wp2
   go_ret
   exact ⟨rfl, HG.out⟩
end
end Go.Proofs.Ytjnffegjpkbjmaa.Mem
-- halved
