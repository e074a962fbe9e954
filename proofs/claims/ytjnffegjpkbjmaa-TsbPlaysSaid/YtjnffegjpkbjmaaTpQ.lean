/- A deed, of a TSB and of the document's. -/
import Derived.Test.YtjnffegjpkbjmaaTpP
namespace Go.Proofs.Ytjnffegjpkbjmaa.Mem
open Go.RowKit Go.Maps Go.Proofs.YtjnffegjpkbjmaaW.PrintWords Go.Proofs.YtjnffegjpkbjmaaW.PrintLast Go.Proofs.YtjnffegjpkbjmaaW.PrintMore Go.Proofs.Ytjnffegjpkbjmaa.QTsbPlays Go.Proofs.Ytjnffegjpkbjmaa.Pure
set_option linter.unusedSimpArgs false
set_option linter.unusedVariables false
section
set_option maxHeartbeats 2000000
set_option maxRecDepth 100000
noncomputable def does5_T : Bool × List (List Nat × List Nat) := rtab .any (opsOf Try.f46 5)
theorem does5_tab : rtab .any (opsOf Try.f46 5) = does5_T := rfl
/-- Find. -/
theorem does_find {B : Nat} {w0 W : World} {p mb pt : Nat} {sz : Int} {base N s n : Nat} {grade : Int} {ws : Nat → Wd} {l : List WS} {A : Option Addr} {c : Nat} (b : TB base N s sz) (hQ : QW B w0 p mb pt sz base N s grade n ws W) (hdw : DWw N ws l) (hlk : LOK N l) (hR : Kd.R k122 122 W B (fun _ => True) (.slice A l.length c) (l)) (hB : B ≤ W.heap.size) (hmb : B ≤ mb) (hn : n ≤ 300000) (hl : l.length ≤ 1000) (cx va : Int) (raw : Bool) (e : Ent) (he : EntW e) (hva : (Lit.int .u64 va).wf = true) :
  Calls Try.prog 46 #[.pointer (some ⟨pt, 0, none⟩), .agg #[.int .i64 (s : Int), .int .i64 (N : Int), .slice A l.length c], .agg #[.int .i64 1, .int .i64 cx, .int .u64 va, .int .i64 e.f0, .int .i64 e.f1, .int .u64 e.f2, .int .u64 e.f3, .bool e.f4.f0, .bool e.f4.f1, .bool e.f4.f2, .bool e.f4.f3, .bool e.f4.f4, .bool e.f4.f5, .bool e.f5, .bool raw]] W fun x W' => ∃ ws' l' A' c', x = .returned (.tuple #[.agg #[.int .i64 (s : Int), .int .i64 (N : Int), .slice A' l'.length c'], .bool true]) ∧ QW B w0 p mb pt sz base N s grade (n + 2 * N + 3) ws' W' ∧ DWw N ws' l' ∧ LOK N l' ∧ Kd.R k122 122 W' B (fun _ => True) (.slice A' l'.length c') (l') ∧ l'.length ≤ l.length + 3 ∧ W.grownBy W' (some mb) := by
 have hu := Try.underlying44
 have hu2 := Try.underlying50
 have hu3 := Try.underlying52
 have HWE := Aside0.mk he
 obtain ⟨va, rfl⟩ := Int.eq_ofNat_of_zero_le (m_u64 hva).1
 have HVL := Aside0.mk (show va < 18446744073709551616 by have := (m_u64 hva).2; omega)
 clear he hva
 have HTB := Aside0.mk b
 have HQ := Aside0.mk hQ
 have HDW := Aside0.mk hdw
 have HLK := Aside0.mk hlk
 have HRL := Aside0.mk hR
 have HBW := Aside0.mk (And.intro hB hmb)
 have HNN := Aside0.mk (And.intro hn hl)
 clear b hQ hdw hlk hR hB hmb hn hl
 have hgb0 := World.grownBy_alloc (W) (.cells #[.int .i64 (s : Int), .int .i64 (N : Int), .slice A l.length c] 44) none
 have hb4 := heap_alloc_new (W) (.cells #[.int .i64 (s : Int), .int .i64 (N : Int), .slice A l.length c] 44)
 have hgb1 := World.grownBy_alloc ((W).alloc (.cells #[.int .i64 (s : Int), .int .i64 (N : Int), .slice A l.length c] 44)) (.cells #[.int .i64 1, .int .i64 cx, .int .u64 (va : Int), .int .i64 e.f0, .int .i64 e.f1, .int .u64 e.f2, .int .u64 e.f3, .bool e.f4.f0, .bool e.f4.f1, .bool e.f4.f2, .bool e.f4.f3, .bool e.f4.f4, .bool e.f4.f5, .bool e.f5, .bool raw] 52) none
 have hb5 := heap_alloc_new ((W).alloc (.cells #[.int .i64 (s : Int), .int .i64 (N : Int), .slice A l.length c] 44)) (.cells #[.int .i64 1, .int .i64 cx, .int .u64 (va : Int), .int .i64 e.f0, .int .i64 e.f1, .int .u64 e.f2, .int .u64 e.f3, .bool e.f4.f0, .bool e.f4.f1, .bool e.f4.f2, .bool e.f4.f3, .bool e.f4.f4, .bool e.f4.f5, .bool e.f5, .bool raw] 52)
 have hz1 : ((W).alloc (.cells #[.int .i64 (s : Int), .int .i64 (N : Int), .slice A l.length c] 44)).heap.size = W.heap.size + 1 := by simp only [World.size_alloc]
 rw [hz1] at hb5
 have hgb2 := World.grownBy_alloc (((W).alloc (.cells #[.int .i64 (s : Int), .int .i64 (N : Int), .slice A l.length c] 44)).alloc (.cells #[.int .i64 1, .int .i64 cx, .int .u64 (va : Int), .int .i64 e.f0, .int .i64 e.f1, .int .u64 e.f2, .int .u64 e.f3, .bool e.f4.f0, .bool e.f4.f1, .bool e.f4.f2, .bool e.f4.f3, .bool e.f4.f4, .bool e.f4.f5, .bool e.f5, .bool raw] 52)) (.cells #[.int .i64 0, .int .i64 0, .slice none 0 0] 44) none
 have hb6 := heap_alloc_new (((W).alloc (.cells #[.int .i64 (s : Int), .int .i64 (N : Int), .slice A l.length c] 44)).alloc (.cells #[.int .i64 1, .int .i64 cx, .int .u64 (va : Int), .int .i64 e.f0, .int .i64 e.f1, .int .u64 e.f2, .int .u64 e.f3, .bool e.f4.f0, .bool e.f4.f1, .bool e.f4.f2, .bool e.f4.f3, .bool e.f4.f4, .bool e.f4.f5, .bool e.f5, .bool raw] 52)) (.cells #[.int .i64 0, .int .i64 0, .slice none 0 0] 44)
 have hz2 : (((W).alloc (.cells #[.int .i64 (s : Int), .int .i64 (N : Int), .slice A l.length c] 44)).alloc (.cells #[.int .i64 1, .int .i64 cx, .int .u64 (va : Int), .int .i64 e.f0, .int .i64 e.f1, .int .u64 e.f2, .int .u64 e.f3, .bool e.f4.f0, .bool e.f4.f1, .bool e.f4.f2, .bool e.f4.f3, .bool e.f4.f4, .bool e.f4.f5, .bool e.f5, .bool raw] 52)).heap.size = W.heap.size + 2 := by simp only [World.size_alloc]
 rw [hz2] at hb6
 have HG := Aside0.mk (grown_two (grown_two hgb0 hgb1) hgb2)
 have HB4 := Aside0.mk (blk_grown (blk_grown hb4 hgb1) hgb2)
 have HB5 := Aside0.mk (blk_grown hb5 hgb2)
 have HB6 := Aside0.mk hb6
 clear hgb0 hgb1 hgb2 hb4 hb5 hb6 hz1 hz2
 replace HQ := Aside0.mk (HQ.out.same HG.out)
 replace HRL := Aside0.mk (Kd.R_grown HRL.out HG.out (by simp))
 replace HG := Aside0.mk (grown_but HG.out (some mb))
 obtain ⟨h4, hh4⟩ : ∃ z, z = W.heap.size := ⟨_, rfl⟩
 obtain ⟨h5, hh5⟩ : ∃ z, z = W.heap.size + 1 := ⟨_, rfl⟩
 obtain ⟨h6, hh6⟩ : ∃ z, z = W.heap.size + 2 := ⟨_, rfl⟩
 have HH := Aside0.mk (show h4 = W.heap.size ∧ h5 = h4 + 1 ∧ h6 = h4 + 2 by omega)
 obtain ⟨q0, q1, q2⟩ := cz3q HB4.out
 obtain ⟨d0, d1, d2, d3, d4, d5, d6, d7, d8, d9, d10, d11, d12, d13, d14⟩ := cz15 HB5.out
 go_enter Try.func46, Try.ntmps46
 go_wp2_with fail
 rw [← hh4] at HB4
 rw [← hh5] at HB5
 rw [← hh6] at HB6
 rw [← hh6, ← hh5, ← hh4]
 clear hh4 hh5 hh6 q0 q1 q2 d0 d1 d2 d3 d4 d5 d6 d7 d8 d9 d10 d11 d12 d13 d14
 refine (w_find HTB.out HQ.out va HVL.out cx).mono ?_
 rintro x0 w2 ⟨hx0, hg⟩
 obtain ⟨F, hF⟩ : ∃ z, z = findO (readW (ws (plcOf N (s : Int) va)) va) va cx := ⟨_, rfl⟩
 rw [← hF, foundV_row] at hx0
 have HF := Aside0.mk hF.symm
 obtain ⟨er, her⟩ : ∃ z, z = rowE F := ⟨_, rfl⟩
 obtain ⟨fs, hfs⟩ : ∃ z, z = F.isSome := ⟨_, rfl⟩
 rw [← her, ← hfs] at hx0
 have HER := Aside0.mk (And.intro her.symm hfs.symm)
 clear hF her hfs
 subst hx0
 replace HB4 := Aside0.mk (blk_grown HB4.out hg)
 replace HB5 := Aside0.mk (blk_grown HB5.out hg)
 replace HB6 := Aside0.mk (blk_grown HB6.out hg)
 replace HG := Aside0.mk (grown_two HG.out (grown_but hg (some mb)))
 replace HQ := Aside0.mk (HQ.out.same hg)
 replace HRL := Aside0.mk (Kd.R_grown HRL.out hg (by simp))
 clear hg
 have hg := World.grownBy_alloc w2 (.cells (entA er) 50) none
 have HB8 := Aside0.mk (heap_alloc_new w2 (.cells (entA er) 50))
 replace HB4 := Aside0.mk (blk_grown HB4.out hg)
 replace HB5 := Aside0.mk (blk_grown HB5.out hg)
 replace HB6 := Aside0.mk (blk_grown HB6.out hg)
 replace HG := Aside0.mk (grown_two HG.out (grown_but hg (some mb)))
 replace HQ := Aside0.mk (HQ.out.same hg)
 replace HRL := Aside0.mk (Kd.R_grown HRL.out hg (by simp))
 clear hg
 obtain ⟨q0, q1, q2⟩ := cz3q HB4.out
 obtain ⟨d0, d1, d2, d3, d4, d5, d6, d7, d8, d9, d10, d11, d12, d13, d14⟩ := cz15 HB5.out
 go_wp2_with fail
 generalize w2.heap.size = h8 at HB8 ⊢
 generalize w2.alloc (.cells (entA er) 50) = w3 at HG HB4 HB5 HB6 HB8 HRL HQ ⊢
 clear q0 q1 q2 d0 d1 d2 d3 d4 d5 d6 d7 d8 d9 d10 d11 d12 d13 d14
 refine (rfind_W HTB.out HQ.out.wok HDW.out va HVL.out cx (Kd.R_reads' HRL.out).2.2 (Kd.R_reads' HRL.out).2.1 (by have := HNN.out; omega)).mono ?_
 rintro x0 w4 ⟨hx0, hg⟩
 rw [HF.out, foundV_row, HER.out.1, HER.out.2] at hx0
 subst hx0
 replace HB4 := Aside0.mk (blk_grown HB4.out hg)
 replace HB6 := Aside0.mk (blk_grown HB6.out hg)
 replace HB8 := Aside0.mk (blk_grown HB8.out hg)
 replace HG := Aside0.mk (grown_two HG.out (grown_but hg (some mb)))
 replace HQ := Aside0.mk (HQ.out.same hg)
 replace HRL := Aside0.mk (Kd.R_grown HRL.out hg (by simp))
 clear hg HB5
 have hg := World.grownBy_alloc w4 (.cells (entA er) 50) none
 have HB10 := Aside0.mk (heap_alloc_new w4 (.cells (entA er) 50))
 replace HB4 := Aside0.mk (blk_grown HB4.out hg)
 replace HB6 := Aside0.mk (blk_grown HB6.out hg)
 replace HB8 := Aside0.mk (blk_grown HB8.out hg)
 replace HG := Aside0.mk (grown_two HG.out (grown_but hg (some mb)))
 replace HQ := Aside0.mk (HQ.out.same hg)
 replace HRL := Aside0.mk (Kd.R_grown HRL.out hg (by simp))
 clear hg
 go_upto_region 5 with fail
 generalize w4.heap.size = h10 at HB10 ⊢
 generalize w4.alloc (.cells (entA er) 50) = w5 at HG HB4 HB6 HB8 HB10 HRL HQ ⊢
 have hg := grown_drew w5 none
 replace HB4 := Aside0.mk (blk_grown HB4.out hg)
 replace HB6 := Aside0.mk (blk_grown HB6.out hg)
 replace HB8 := Aside0.mk (blk_grown HB8.out hg)
 replace HB10 := Aside0.mk (blk_grown HB10.out hg)
 replace HG := Aside0.mk (grown_two HG.out (grown_but hg (some mb)))
 replace HQ := Aside0.mk (HQ.out.same hg)
 replace HRL := Aside0.mk (Kd.R_grown HRL.out hg (by simp))
 clear hg
 refine start_ (n := 11) (S := fun w' => w'.heap[h4]? = some (.cells #[.int .i64 (s : Int), .int .i64 (N : Int), .slice A l.length c] 44 (0, 0)) ∧ w'.heap[h8]? = some (.cells (entA er) 50 (0, 0)) ∧ w'.heap[h10]? = some (.cells (entA er) 50 (0, 0))) (ds := [9]) #[false, false, false, false, false, false, false, false, false, false, false] (by kernel_rfl) rfl rfl ⟨HB4.out, HB8.out, HB10.out⟩ (fun hHeld => ?_)
 refine with_tab does5_tab (fun HT_ => ?_)
 refine take_ (i := 0) (N := some 38) (v := .agg #[.int .i64 (s : Int), .int .i64 (N : Int), .slice A l.length c]) (a' := ?_) #[true, false, false, false, false, false, false, false, false, false, false] rfl rfl (take_of HT_.out (by kernel_rfl)) (fun _ _ _ h => h) (Or.inl ⟨by rfl, ?_⟩) hHeld ?_ ?_
 ·rintro w' ⟨s1, s2, s3⟩
  obtain ⟨q0, q1, q2⟩ := cz3q s1
  go_simp
 rotate_left
 ·simp only [ap_]
  rfl
 refine take_ (i := 1) (N := some 39) (v := .agg (entA er)) (a' := ?_) #[true, true, false, false, false, false, false, false, false, false, false] rfl rfl (take_of HT_.out (by kernel_rfl)) (fun _ _ _ h => h) (Or.inl ⟨by rfl, ?_⟩) hHeld ?_ ?_
 ·rintro w' ⟨s1, s2, s3⟩
  obtain ⟨z0, z1, z2, z3, z4, z5, z6, z7, z8, z9, z10⟩ := tte_Read.cz11 s2
  go_simp
 rotate_left
 ·simp only [ap_]
  rfl
 refine take_ (i := 2) (N := some 40) (v := .agg (entA er)) (a' := ?_) #[true, true, true, false, false, false, false, false, false, false, false] rfl rfl (take_of HT_.out (by kernel_rfl)) (fun _ _ _ h => h) (Or.inl ⟨by rfl, ?_⟩) hHeld ?_ ?_
 ·rintro w' ⟨s1, s2, s3⟩
  obtain ⟨z0, z1, z2, z3, z4, z5, z6, z7, z8, z9, z10⟩ := tte_Read.cz11 s3
  go_simp
 rotate_left
 ·simp only [ap_]
  rfl
 refine pure_ (i := 3) (N := some 41) (v := .bool true) (a' := ?_) #[true, true, true, true, false, false, false, false, false, false, false] rfl rfl (any_of HT_.out (by kernel_rfl)) (fun _ _ _ h => h) (Or.inl ⟨by rfl, ?_⟩) ?_ ?_
 ·intro w'
  go_simp
 rotate_left
 ·simp only [ap_]
  rfl
 refine pure_ (i := 4) (N := some 42) (v := ?_) (a' := ?_) #[true, true, true, true, true, false, false, false, false, false, false] rfl rfl (any_of HT_.out (by kernel_rfl)) (fun _ _ _ h => h) (Or.inl ⟨by rfl, ?_⟩) ?_ ?_
 rotate_left
 ·intro w'
  go_simp
  with_reducible rfl
 rotate_left
 ·simp only [ap_]
  rfl
 refine pure_ (i := 5) (N := some 43) (v := ?_) (a' := ?_) #[true, true, true, true, true, true, false, false, false, false, false] rfl rfl (any_of HT_.out (by kernel_rfl)) (fun _ _ _ h => h) (Or.inl ⟨by rfl, ?_⟩) ?_ ?_
 rotate_left
 ·intro w'
  go_simp
  with_reducible rfl
 rotate_left
 ·simp only [ap_]
  rfl
 refine pure_ (i := 6) (N := some 44) (v := ?_) (a' := ?_) #[true, true, true, true, true, true, true, false, false, false, false] rfl rfl (any_of HT_.out (by kernel_rfl)) (fun _ _ _ h => h) (Or.inl ⟨by rfl, ?_⟩) ?_ ?_
 rotate_left
 ·intro w'
  go_simp
  with_reducible rfl
 rotate_left
 ·simp only [ap_]
  rfl
 refine pure_ (i := 7) (N := some 45) (v := ?_) (a' := ?_) #[true, true, true, true, true, true, true, true, false, false, false] rfl rfl (any_of HT_.out (by kernel_rfl)) (fun _ _ _ h => h) (Or.inl ⟨by rfl, ?_⟩) ?_ ?_
 rotate_left
 ·intro w'
  go_simp
  with_reducible rfl
 rotate_left
 ·simp only [ap_]
  rfl
 refine pure_ (i := 8) (N := some 46) (v := ?_) (a' := ?_) #[true, true, true, true, true, true, true, true, true, false, false] rfl rfl (any_of HT_.out (by kernel_rfl)) (fun _ _ _ h => h) (Or.inl ⟨by rfl, ?_⟩) ?_ ?_
 rotate_left
 ·intro w'
  go_simp
  with_reducible rfl
 rotate_left
 ·simp only [ap_]
  rfl
 refine last_ (i := 9) (N := none) #[true, true, true, true, true, true, true, true, true, true, false] rfl rfl (one_of HT_.out (by kernel_rfl)) (by decide) (fun K hK => ?_)
 rw [if_pos (by rfl)]
 refine wp_store_row 44 (.tmp 6) (.tmp 38) rfl h6 #[.int .i64 (s : Int), .int .i64 (N : Int), .slice A l.length c] rfl rfl 44 #[.int .i64 0, .int .i64 0, .slice none 0 0] HB6.out (by kernel_rfl) rfl (by kernel_rfl) ?_
 have hb2 := setRow_heap w5.drew h6 _ #[.int .i64 (s : Int), .int .i64 (N : Int), .slice A l.length c] _ _ HB6.out
 have hgr := grown_row w5.drew h6 #[.int .i64 (s : Int), .int .i64 (N : Int), .slice A l.length c]
 replace HQ := Aside0.mk (HQ.out.kept hgr HB6.out (by decide) (by decide) (by have := HBW.out; have := HH.out; omega))
 replace HRL := Aside0.mk (Kd.R_mono (ok' := fun _ => True) (Kd.R_grown (Kd.R_types HRL.out HB6.out (by decide)) hgr (fun k hk e => hk.2 (Option.some.inj e))) (fun _ _ => trivial))
 replace HG := Aside0.mk (grown_loc HG.out hgr (by have := HH.out; omega))
 generalize World.setRow w5.drew h6 #[.int .i64 (s : Int), .int .i64 (N : Int), .slice A l.length c] = w6 at hb2 HQ HRL HG ⊢
 replace HB6 := Aside0.mk hb2
 clear hgr hb2
 refine hK.out _ _ ?_
 clear hK K
 refine norm_ (a' := ?_) ?_ ?_
 rotate_left
 ·show Act.put _ none _ = _
  rfl
 refine pure_ (i := 10) (N := some 7) (v := ?_) (a' := ?_) #[true, true, true, true, true, true, true, true, true, true, true] rfl rfl (any_of HT_.out (by kernel_rfl)) (fun _ _ _ h => h) (Or.inl ⟨by rfl, ?_⟩) ?_ ?_
 rotate_left
 ·intro w'
  go_simp
  with_reducible rfl
 rotate_left
 ·simp only [ap_]
  rfl
 refine done_ (done_of HT_.out (by kernel_rfl)) ?_
 clear hHeld
 obtain ⟨q0, q1, q2⟩ := cz3q HB6.out
 go_wp2
 exact bodyPost_ret (v := .tuple #[.agg #[.int .i64 (s : Int), .int .i64 (N : Int), .slice A l.length c], .bool true]) (by simp [results, Try.f46, go_sem, q0, q1, q2]) rfl ⟨_, _, _, _, rfl, HQ.out.mono (by omega), HDW.out, HLK.out, HRL.out, by omega, HG.out⟩
noncomputable def does8_T : Bool × List (List Nat × List Nat) := rtab .any (opsOf Try.f46 8)
theorem does8_tab : rtab .any (opsOf Try.f46 8) = does8_T := rfl
/-- Drop. -/
theorem does_drop {B : Nat} {w0 W : World} {p mb pt : Nat} {sz : Int} {base N s n : Nat} {grade : Int} {ws : Nat → Wd} {l : List WS} {A : Option Addr} {c : Nat} (b : TB base N s sz) (hQ : QW B w0 p mb pt sz base N s grade n ws W) (hdw : DWw N ws l) (hlk : LOK N l) (hR : Kd.R k122 122 W B (fun _ => True) (.slice A l.length c) (l)) (hB : B ≤ W.heap.size) (hmb : B ≤ mb) (hn : n ≤ 300000) (hl : l.length ≤ 1000) (cx va : Int) (raw : Bool) (e : Ent) (he : EntW e) (hva : (Lit.int .u64 va).wf = true) :
  Calls Try.prog 46 #[.pointer (some ⟨pt, 0, none⟩), .agg #[.int .i64 (s : Int), .int .i64 (N : Int), .slice A l.length c], .agg #[.int .i64 2, .int .i64 cx, .int .u64 va, .int .i64 e.f0, .int .i64 e.f1, .int .u64 e.f2, .int .u64 e.f3, .bool e.f4.f0, .bool e.f4.f1, .bool e.f4.f2, .bool e.f4.f3, .bool e.f4.f4, .bool e.f4.f5, .bool e.f5, .bool raw]] W fun x W' => ∃ ws' l' A' c', x = .returned (.tuple #[.agg #[.int .i64 (s : Int), .int .i64 (N : Int), .slice A' l'.length c'], .bool true]) ∧ QW B w0 p mb pt sz base N s grade (n + 2 * N + 3) ws' W' ∧ DWw N ws' l' ∧ LOK N l' ∧ Kd.R k122 122 W' B (fun _ => True) (.slice A' l'.length c') (l') ∧ l'.length ≤ l.length + 3 ∧ W.grownBy W' (some mb) := by
 have hu := Try.underlying44
 have hu2 := Try.underlying50
 have hu3 := Try.underlying52
 have HWE := Aside0.mk he
 obtain ⟨va, rfl⟩ := Int.eq_ofNat_of_zero_le (m_u64 hva).1
 have HVL := Aside0.mk (show va < 18446744073709551616 by have := (m_u64 hva).2; omega)
 clear he hva
 have HTB := Aside0.mk b
 have HQ := Aside0.mk hQ
 have HDW := Aside0.mk hdw
 have HLK := Aside0.mk hlk
 have HRL := Aside0.mk hR
 have HBW := Aside0.mk (And.intro hB hmb)
 have HNN := Aside0.mk (And.intro hn hl)
 clear b hQ hdw hlk hR hB hmb hn hl
 have hgb0 := World.grownBy_alloc (W) (.cells #[.int .i64 (s : Int), .int .i64 (N : Int), .slice A l.length c] 44) none
 have hb4 := heap_alloc_new (W) (.cells #[.int .i64 (s : Int), .int .i64 (N : Int), .slice A l.length c] 44)
 have hgb1 := World.grownBy_alloc ((W).alloc (.cells #[.int .i64 (s : Int), .int .i64 (N : Int), .slice A l.length c] 44)) (.cells #[.int .i64 2, .int .i64 cx, .int .u64 (va : Int), .int .i64 e.f0, .int .i64 e.f1, .int .u64 e.f2, .int .u64 e.f3, .bool e.f4.f0, .bool e.f4.f1, .bool e.f4.f2, .bool e.f4.f3, .bool e.f4.f4, .bool e.f4.f5, .bool e.f5, .bool raw] 52) none
 have hb5 := heap_alloc_new ((W).alloc (.cells #[.int .i64 (s : Int), .int .i64 (N : Int), .slice A l.length c] 44)) (.cells #[.int .i64 2, .int .i64 cx, .int .u64 (va : Int), .int .i64 e.f0, .int .i64 e.f1, .int .u64 e.f2, .int .u64 e.f3, .bool e.f4.f0, .bool e.f4.f1, .bool e.f4.f2, .bool e.f4.f3, .bool e.f4.f4, .bool e.f4.f5, .bool e.f5, .bool raw] 52)
 have hz1 : ((W).alloc (.cells #[.int .i64 (s : Int), .int .i64 (N : Int), .slice A l.length c] 44)).heap.size = W.heap.size + 1 := by simp only [World.size_alloc]
 rw [hz1] at hb5
 have hgb2 := World.grownBy_alloc (((W).alloc (.cells #[.int .i64 (s : Int), .int .i64 (N : Int), .slice A l.length c] 44)).alloc (.cells #[.int .i64 2, .int .i64 cx, .int .u64 (va : Int), .int .i64 e.f0, .int .i64 e.f1, .int .u64 e.f2, .int .u64 e.f3, .bool e.f4.f0, .bool e.f4.f1, .bool e.f4.f2, .bool e.f4.f3, .bool e.f4.f4, .bool e.f4.f5, .bool e.f5, .bool raw] 52)) (.cells #[.int .i64 0, .int .i64 0, .slice none 0 0] 44) none
 have hb6 := heap_alloc_new (((W).alloc (.cells #[.int .i64 (s : Int), .int .i64 (N : Int), .slice A l.length c] 44)).alloc (.cells #[.int .i64 2, .int .i64 cx, .int .u64 (va : Int), .int .i64 e.f0, .int .i64 e.f1, .int .u64 e.f2, .int .u64 e.f3, .bool e.f4.f0, .bool e.f4.f1, .bool e.f4.f2, .bool e.f4.f3, .bool e.f4.f4, .bool e.f4.f5, .bool e.f5, .bool raw] 52)) (.cells #[.int .i64 0, .int .i64 0, .slice none 0 0] 44)
 have hz2 : (((W).alloc (.cells #[.int .i64 (s : Int), .int .i64 (N : Int), .slice A l.length c] 44)).alloc (.cells #[.int .i64 2, .int .i64 cx, .int .u64 (va : Int), .int .i64 e.f0, .int .i64 e.f1, .int .u64 e.f2, .int .u64 e.f3, .bool e.f4.f0, .bool e.f4.f1, .bool e.f4.f2, .bool e.f4.f3, .bool e.f4.f4, .bool e.f4.f5, .bool e.f5, .bool raw] 52)).heap.size = W.heap.size + 2 := by simp only [World.size_alloc]
 rw [hz2] at hb6
 have HG := Aside0.mk (grown_two (grown_two hgb0 hgb1) hgb2)
 have HB4 := Aside0.mk (blk_grown (blk_grown hb4 hgb1) hgb2)
 have HB5 := Aside0.mk (blk_grown hb5 hgb2)
 have HB6 := Aside0.mk hb6
 clear hgb0 hgb1 hgb2 hb4 hb5 hb6 hz1 hz2
 replace HQ := Aside0.mk (HQ.out.same HG.out)
 replace HRL := Aside0.mk (Kd.R_grown HRL.out HG.out (by simp))
 replace HG := Aside0.mk (grown_but HG.out (some mb))
 obtain ⟨h4, hh4⟩ : ∃ z, z = W.heap.size := ⟨_, rfl⟩
 obtain ⟨h5, hh5⟩ : ∃ z, z = W.heap.size + 1 := ⟨_, rfl⟩
 obtain ⟨h6, hh6⟩ : ∃ z, z = W.heap.size + 2 := ⟨_, rfl⟩
 have HH := Aside0.mk (show h4 = W.heap.size ∧ h5 = h4 + 1 ∧ h6 = h4 + 2 by omega)
 obtain ⟨q0, q1, q2⟩ := cz3q HB4.out
 obtain ⟨d0, d1, d2, d3, d4, d5, d6, d7, d8, d9, d10, d11, d12, d13, d14⟩ := cz15 HB5.out
 go_enter Try.func46, Try.ntmps46
 go_wp2_with fail
 rw [← hh4] at HB4
 rw [← hh5] at HB5
 rw [← hh6] at HB6
 rw [← hh6, ← hh5, ← hh4]
 clear hh4 hh5 hh6 q0 q1 q2 d0 d1 d2 d3 d4 d5 d6 d7 d8 d9 d10 d11 d12 d13 d14
 have HWF := Aside0.mk (rdrop_W HTB.out HQ.out.wok HDW.out va HVL.out cx HRL.out (show B ≤ _ from Nat.le_trans HBW.out.1 HG.out.size) (by have := HNN.out; omega))
 obtain ⟨F, hF⟩ : ∃ z, z = findO (readW (ws (plcOf N (s : Int) va)) va) va cx := ⟨_, rfl⟩
 rw [← hF] at HWF
 have HF := Aside0.mk hF.symm
 clear hF
 refine HWF.out.mono ?_
 rintro x0 w2 ⟨v, hx0, hR, hg⟩
 clear HWF
 obtain ⟨fs, hfs⟩ : ∃ z, z = F.isSome := ⟨_, rfl⟩
 obtain ⟨l2, hl2⟩ : ∃ z, z = (if F.isSome = true then pW l (plcOf N (s : Int) va : Int) 9223372036854775807 0 else l) := ⟨_, rfl⟩
 obtain ⟨ws2, hws2⟩ : ∃ z, z = (if F.isSome = true then setW ws (plcOf N (s : Int) va) (BADW, 0) else ws) := ⟨_, rfl⟩
 rw [← hl2] at hR
 rw [← hfs] at hx0
 obtain ⟨A2, c2, rfl⟩ := Kd.R_slice hR
 have HDX := Aside0.mk (show DWw N ws2 l2 ∧ LOK N l2 ∧ l2.length ≤ l.length + 3 by
  rw [hl2, hws2]
  by_cases h : F.isSome = true
  ·rw [if_pos h, if_pos h]
   exact ⟨HDW.out.set _ BADW 0 (fun j => gW_pW l _ _ _ j), HLK.out.put (HTB.out.in _) _ _, Nat.le_trans (pW_le _ _) (by omega)⟩
  ·rw [if_neg h, if_neg h]
   exact ⟨HDW.out, HLK.out, by omega⟩)
 have HFX := Aside0.mk (And.intro hfs.symm hws2.symm)
 clear hfs hl2 hws2
 subst hx0
 replace HRL := Aside0.mk hR
 replace HB4 := Aside0.mk (blk_grown HB4.out hg)
 replace HB5 := Aside0.mk (blk_grown HB5.out hg)
 replace HB6 := Aside0.mk (blk_grown HB6.out hg)
 replace HG := Aside0.mk (grown_two HG.out (grown_but hg (some mb)))
 replace HQ := Aside0.mk (HQ.out.same hg)
 clear hg hR HDW HLK HB4
 have hg := World.grownBy_alloc w2 (.cells #[.int .i64 (s : Int), .int .i64 (N : Int), .slice A2 l2.length c2] 44) none
 have HB8 := Aside0.mk (heap_alloc_new w2 (.cells #[.int .i64 (s : Int), .int .i64 (N : Int), .slice A2 l2.length c2] 44))
 replace HB5 := Aside0.mk (blk_grown HB5.out hg)
 replace HB6 := Aside0.mk (blk_grown HB6.out hg)
 replace HG := Aside0.mk (grown_two HG.out (grown_but hg (some mb)))
 replace HQ := Aside0.mk (HQ.out.same hg)
 replace HRL := Aside0.mk (Kd.R_grown HRL.out hg (by simp))
 clear hg
 go_upto_region 8 with fail
 generalize w2.heap.size = h8 at HB8 ⊢
 generalize w2.alloc (.cells #[.int .i64 (s : Int), .int .i64 (N : Int), .slice A2 l2.length c2] 44) = w3 at HG HB5 HB6 HB8 HRL HQ ⊢
 have hg := grown_drew w3 none
 replace HB5 := Aside0.mk (blk_grown HB5.out hg)
 replace HB6 := Aside0.mk (blk_grown HB6.out hg)
 replace HB8 := Aside0.mk (blk_grown HB8.out hg)
 replace HG := Aside0.mk (grown_two HG.out (grown_but hg (some mb)))
 replace HQ := Aside0.mk (HQ.out.same hg)
 replace HRL := Aside0.mk (Kd.R_grown HRL.out hg (by simp))
 clear hg
 refine start_ (n := 11) (S := fun w' => w'.heap[h8]? = some (.cells #[.int .i64 (s : Int), .int .i64 (N : Int), .slice A2 l2.length c2] 44 (0, 0)) ∧ w'.heap[h5]? = some (.cells #[.int .i64 2, .int .i64 cx, .int .u64 (va : Int), .int .i64 e.f0, .int .i64 e.f1, .int .u64 e.f2, .int .u64 e.f3, .bool e.f4.f0, .bool e.f4.f1, .bool e.f4.f2, .bool e.f4.f3, .bool e.f4.f4, .bool e.f4.f5, .bool e.f5, .bool raw] 52 (0, 0))) (ds := [9]) #[false, false, false, false, false, false, false, false, false, false, false] (by kernel_rfl) rfl rfl ⟨HB8.out, HB5.out⟩ (fun hHeld => ?_)
 refine with_tab does8_tab (fun HT_ => ?_)
 refine pure_ (i := 1) (N := some 59) (v := ?_) (a' := ?_) #[false, true, false, false, false, false, false, false, false, false, false] rfl rfl (any_of HT_.out (by kernel_rfl)) (fun _ _ _ h => h) (Or.inl ⟨by rfl, ?_⟩) ?_ ?_
 rotate_left
 ·intro w'
  go_simp
  with_reducible rfl
 rotate_left
 ·simp only [ap_]
  rfl
 refine pure_ (i := 2) (N := some 60) (v := ?_) (a' := ?_) #[false, true, true, false, false, false, false, false, false, false, false] rfl rfl (any_of HT_.out (by kernel_rfl)) (fun _ _ _ h => h) (Or.inl ⟨by rfl, ?_⟩) ?_ ?_
 rotate_left
 ·intro w'
  go_simp
  with_reducible rfl
 rotate_left
 ·simp only [ap_]
  rfl
 refine pure_ (i := 4) (N := some 62) (v := ?_) (a' := ?_) #[false, true, true, false, true, false, false, false, false, false, false] rfl rfl (any_of HT_.out (by kernel_rfl)) (fun _ _ _ h => h) (Or.inl ⟨by rfl, ?_⟩) ?_ ?_
 rotate_left
 ·intro w'
  go_simp
  with_reducible rfl
 rotate_left
 ·simp only [ap_]
  rfl
 refine pure_ (i := 7) (N := some 65) (v := ?_) (a' := ?_) #[false, true, true, false, true, false, false, true, false, false, false] rfl rfl (any_of HT_.out (by kernel_rfl)) (fun _ _ _ h => h) (Or.inl ⟨by rfl, ?_⟩) ?_ ?_
 rotate_left
 ·intro w'
  go_simp
  with_reducible rfl
 rotate_left
 ·simp only [ap_]
  rfl
 refine take_ (i := 0) (N := some 58) (v := .agg #[.int .i64 (s : Int), .int .i64 (N : Int), .slice A2 l2.length c2]) (a' := ?_) #[true, true, true, false, true, false, false, true, false, false, false] rfl rfl (take_of HT_.out (by kernel_rfl)) (fun _ _ _ h => h) (Or.inl ⟨by rfl, ?_⟩) hHeld ?_ ?_
 ·rintro w' ⟨s1, s2⟩
  obtain ⟨q0, q1, q2⟩ := cz3q s1
  go_simp
 rotate_left
 ·simp only [ap_]
  rfl
 refine take_ (i := 3) (N := some 61) (v := .int .u64 (va : Int)) (a' := ?_) #[true, true, true, true, true, false, false, true, false, false, false] rfl rfl (take_of HT_.out (by kernel_rfl)) (fun _ _ _ h => h) (Or.inl ⟨by rfl, ?_⟩) hHeld ?_ ?_
 ·rintro w' ⟨s1, s2⟩
  obtain ⟨d0, d1, d2, d3, d4, d5, d6, d7, d8, d9, d10, d11, d12, d13, d14⟩ := cz15 s2
  go_simp
 rotate_left
 ·simp only [ap_]
  rfl
 refine take_ (i := 5) (N := some 63) (v := .int .i64 cx) (a' := ?_) #[true, true, true, true, true, true, false, true, false, false, false] rfl rfl (take_of HT_.out (by kernel_rfl)) (fun _ _ _ h => h) (Or.inl ⟨by rfl, ?_⟩) hHeld ?_ ?_
 ·rintro w' ⟨s1, s2⟩
  obtain ⟨d0, d1, d2, d3, d4, d5, d6, d7, d8, d9, d10, d11, d12, d13, d14⟩ := cz15 s2
  go_simp
 rotate_left
 ·simp only [ap_]
  rfl
 refine one_ (i := 6) (N := some 64) #[true, true, true, true, true, true, true, true, false, false, false] rfl rfl (one_of HT_.out (by kernel_rfl)) (by decide) (fun K hK => ?_)
 refine goes_ Try.func43 (by kernel_rfl) rfl #[.pointer (some ⟨pt, 0, none⟩), .int .u64 (va : Int), .int .i64 cx] (by rfl) rfl rfl (by (try simp only [List.map_toArray, List.map_cons, List.map_nil]); first | done | rfl) ?_
 refine (w_drop HTB.out HQ.out va HVL.out cx (by have := HNN.out; omega)).mono ?_
 rintro x0 wn ⟨hx0, hM, hg⟩
 rw [HF.out] at hx0 hM
 rw [HFX.out.1] at hx0
 rw [HFX.out.2] at hM
 subst hx0
 have hs : wn.heap[h8]? = some (.cells #[.int .i64 (s : Int), .int .i64 (N : Int), .slice A2 l2.length c2] 44 (0, 0)) ∧ wn.heap[h5]? = some (.cells #[.int .i64 2, .int .i64 cx, .int .u64 (va : Int), .int .i64 e.f0, .int .i64 e.f1, .int .u64 e.f2, .int .u64 e.f3, .bool e.f4.f0, .bool e.f4.f1, .bool e.f4.f2, .bool e.f4.f3, .bool e.f4.f4, .bool e.f4.f5, .bool e.f5, .bool raw] 52 (0, 0)) := ⟨((hg.block h8 (blk_lt hHeld.1) (fun e => HQ.out.nb _ _ _ hHeld.1 (Option.some.inj e))).trans hHeld.1), ((hg.block h5 (blk_lt hHeld.2) (fun e => HQ.out.nb _ _ _ hHeld.2 (Option.some.inj e))).trans hHeld.2)⟩
 replace HB6 := Aside0.mk ((hg.block h6 (blk_lt HB6.out) (fun e => HQ.out.nb _ _ _ HB6.out (Option.some.inj e))).trans HB6.out)
 replace HRL := Aside0.mk (Kd.R_mono (ok' := fun _ => True) (Kd.R_grown (Kd.R_bound HRL.out) hg (fun k hk e => by obtain ⟨_, _, _, q, _, cs, hc⟩ := hk; exact HQ.out.nb k cs q hc (Option.some.inj e))) (fun _ _ => trivial))
 replace HG := Aside0.mk (grown_two HG.out hg)
 replace HQ := Aside0.mk hM
 clear hM hg
 refine ⟨_, rfl, ?_⟩
 refine hK.out _ _ hs (fun hHeld => ?_)
 clear hK K
 refine norm_ (a' := ?_) ?_ ?_
 rotate_left
 ·show Act.put _ (some 64) _ = _
  simp only [ap_]
  rfl
 refine pure_ (i := 8) (N := some 66) (v := .bool true) (a' := ?_) #[true, true, true, true, true, true, true, true, true, false, false] rfl rfl (any_of HT_.out (by kernel_rfl)) (fun _ _ _ h => h) (Or.inl ⟨by rfl, ?_⟩) ?_ ?_
 ·intro w'
  go_simp
 rotate_left
 ·simp only [ap_]
  rfl
 refine last_ (i := 9) (N := none) #[true, true, true, true, true, true, true, true, true, true, false] rfl rfl (one_of HT_.out (by kernel_rfl)) (by decide) (fun K hK => ?_)
 rw [if_pos (by rfl)]
 refine wp_store_row 44 (.tmp 6) (.tmp 58) rfl h6 #[.int .i64 (s : Int), .int .i64 (N : Int), .slice A2 l2.length c2] rfl rfl 44 #[.int .i64 0, .int .i64 0, .slice none 0 0] HB6.out (by kernel_rfl) rfl (by kernel_rfl) ?_
 have hb2 := setRow_heap wn h6 _ #[.int .i64 (s : Int), .int .i64 (N : Int), .slice A2 l2.length c2] _ _ HB6.out
 have hgr := grown_row wn h6 #[.int .i64 (s : Int), .int .i64 (N : Int), .slice A2 l2.length c2]
 replace HQ := Aside0.mk (HQ.out.kept hgr HB6.out (by decide) (by decide) (by have := HBW.out; have := HH.out; omega))
 replace HRL := Aside0.mk (Kd.R_mono (ok' := fun _ => True) (Kd.R_grown (Kd.R_types HRL.out HB6.out (by decide)) hgr (fun k hk e => hk.2 (Option.some.inj e))) (fun _ _ => trivial))
 replace HG := Aside0.mk (grown_loc HG.out hgr (by have := HH.out; omega))
 generalize World.setRow wn h6 #[.int .i64 (s : Int), .int .i64 (N : Int), .slice A2 l2.length c2] = w6 at hb2 HQ HRL HG ⊢
 replace HB6 := Aside0.mk hb2
 clear hgr hb2
 refine hK.out _ _ ?_
 clear hK K
 refine norm_ (a' := ?_) ?_ ?_
 rotate_left
 ·show Act.put _ none _ = _
  rfl
 refine pure_ (i := 10) (N := some 7) (v := ?_) (a' := ?_) #[true, true, true, true, true, true, true, true, true, true, true] rfl rfl (any_of HT_.out (by kernel_rfl)) (fun _ _ _ h => h) (Or.inl ⟨by rfl, ?_⟩) ?_ ?_
 rotate_left
 ·intro w'
  go_simp
  with_reducible rfl
 rotate_left
 ·simp only [ap_]
  rfl
 refine done_ (done_of HT_.out (by kernel_rfl)) ?_
 clear hHeld
 obtain ⟨q0, q1, q2⟩ := cz3q HB6.out
 go_wp2
 exact bodyPost_ret (v := .tuple #[.agg #[.int .i64 (s : Int), .int .i64 (N : Int), .slice A2 l2.length c2], .bool true]) (by simp [results, Try.f46, go_sem, q0, q1, q2]) rfl ⟨_, _, _, _, rfl, HQ.out.mono (by omega), HDX.out.1, HDX.out.2.1, HRL.out, HDX.out.2.2, HG.out⟩
noncomputable def does11_T : Bool × List (List Nat × List Nat) := rtab .any (opsOf Try.f46 11)
theorem does11_tab : rtab .any (opsOf Try.f46 11) = does11_T := rfl
/-- DropContext. -/
theorem does_ctx {B : Nat} {w0 W : World} {p mb pt : Nat} {sz : Int} {base N s n : Nat} {grade : Int} {ws : Nat → Wd} {l : List WS} {A : Option Addr} {c : Nat} (b : TB base N s sz) (hQ : QW B w0 p mb pt sz base N s grade n ws W) (hdw : DWw N ws l) (hlk : LOK N l) (hR : Kd.R k122 122 W B (fun _ => True) (.slice A l.length c) (l)) (hB : B ≤ W.heap.size) (hmb : B ≤ mb) (hn : n ≤ 300000) (hl : l.length ≤ 1000) (cx va : Int) (raw : Bool) (e : Ent) (he : EntW e) (hva : (Lit.int .u64 va).wf = true) :
  Calls Try.prog 46 #[.pointer (some ⟨pt, 0, none⟩), .agg #[.int .i64 (s : Int), .int .i64 (N : Int), .slice A l.length c], .agg #[.int .i64 3, .int .i64 cx, .int .u64 va, .int .i64 e.f0, .int .i64 e.f1, .int .u64 e.f2, .int .u64 e.f3, .bool e.f4.f0, .bool e.f4.f1, .bool e.f4.f2, .bool e.f4.f3, .bool e.f4.f4, .bool e.f4.f5, .bool e.f5, .bool raw]] W fun x W' => ∃ ws' l' A' c', x = .returned (.tuple #[.agg #[.int .i64 (s : Int), .int .i64 (N : Int), .slice A' l'.length c'], .bool true]) ∧ QW B w0 p mb pt sz base N s grade (n + 2 * N + 3) ws' W' ∧ DWw N ws' l' ∧ LOK N l' ∧ Kd.R k122 122 W' B (fun _ => True) (.slice A' l'.length c') (l') ∧ l'.length ≤ l.length + 3 ∧ W.grownBy W' (some mb) := by
 have hu := Try.underlying44
 have hu2 := Try.underlying50
 have hu3 := Try.underlying52
 have HWE := Aside0.mk he
 obtain ⟨va, rfl⟩ := Int.eq_ofNat_of_zero_le (m_u64 hva).1
 have HVL := Aside0.mk (show va < 18446744073709551616 by have := (m_u64 hva).2; omega)
 clear he hva
 have HTB := Aside0.mk b
 have HQ := Aside0.mk hQ
 have HDW := Aside0.mk hdw
 have HLK := Aside0.mk hlk
 have HRL := Aside0.mk hR
 have HBW := Aside0.mk (And.intro hB hmb)
 have HNN := Aside0.mk (And.intro hn hl)
 clear b hQ hdw hlk hR hB hmb hn hl
 have hgb0 := World.grownBy_alloc (W) (.cells #[.int .i64 (s : Int), .int .i64 (N : Int), .slice A l.length c] 44) none
 have hb4 := heap_alloc_new (W) (.cells #[.int .i64 (s : Int), .int .i64 (N : Int), .slice A l.length c] 44)
 have hgb1 := World.grownBy_alloc ((W).alloc (.cells #[.int .i64 (s : Int), .int .i64 (N : Int), .slice A l.length c] 44)) (.cells #[.int .i64 3, .int .i64 cx, .int .u64 (va : Int), .int .i64 e.f0, .int .i64 e.f1, .int .u64 e.f2, .int .u64 e.f3, .bool e.f4.f0, .bool e.f4.f1, .bool e.f4.f2, .bool e.f4.f3, .bool e.f4.f4, .bool e.f4.f5, .bool e.f5, .bool raw] 52) none
 have hb5 := heap_alloc_new ((W).alloc (.cells #[.int .i64 (s : Int), .int .i64 (N : Int), .slice A l.length c] 44)) (.cells #[.int .i64 3, .int .i64 cx, .int .u64 (va : Int), .int .i64 e.f0, .int .i64 e.f1, .int .u64 e.f2, .int .u64 e.f3, .bool e.f4.f0, .bool e.f4.f1, .bool e.f4.f2, .bool e.f4.f3, .bool e.f4.f4, .bool e.f4.f5, .bool e.f5, .bool raw] 52)
 have hz1 : ((W).alloc (.cells #[.int .i64 (s : Int), .int .i64 (N : Int), .slice A l.length c] 44)).heap.size = W.heap.size + 1 := by simp only [World.size_alloc]
 rw [hz1] at hb5
 have hgb2 := World.grownBy_alloc (((W).alloc (.cells #[.int .i64 (s : Int), .int .i64 (N : Int), .slice A l.length c] 44)).alloc (.cells #[.int .i64 3, .int .i64 cx, .int .u64 (va : Int), .int .i64 e.f0, .int .i64 e.f1, .int .u64 e.f2, .int .u64 e.f3, .bool e.f4.f0, .bool e.f4.f1, .bool e.f4.f2, .bool e.f4.f3, .bool e.f4.f4, .bool e.f4.f5, .bool e.f5, .bool raw] 52)) (.cells #[.int .i64 0, .int .i64 0, .slice none 0 0] 44) none
 have hb6 := heap_alloc_new (((W).alloc (.cells #[.int .i64 (s : Int), .int .i64 (N : Int), .slice A l.length c] 44)).alloc (.cells #[.int .i64 3, .int .i64 cx, .int .u64 (va : Int), .int .i64 e.f0, .int .i64 e.f1, .int .u64 e.f2, .int .u64 e.f3, .bool e.f4.f0, .bool e.f4.f1, .bool e.f4.f2, .bool e.f4.f3, .bool e.f4.f4, .bool e.f4.f5, .bool e.f5, .bool raw] 52)) (.cells #[.int .i64 0, .int .i64 0, .slice none 0 0] 44)
 have hz2 : (((W).alloc (.cells #[.int .i64 (s : Int), .int .i64 (N : Int), .slice A l.length c] 44)).alloc (.cells #[.int .i64 3, .int .i64 cx, .int .u64 (va : Int), .int .i64 e.f0, .int .i64 e.f1, .int .u64 e.f2, .int .u64 e.f3, .bool e.f4.f0, .bool e.f4.f1, .bool e.f4.f2, .bool e.f4.f3, .bool e.f4.f4, .bool e.f4.f5, .bool e.f5, .bool raw] 52)).heap.size = W.heap.size + 2 := by simp only [World.size_alloc]
 rw [hz2] at hb6
 have HG := Aside0.mk (grown_two (grown_two hgb0 hgb1) hgb2)
 have HB4 := Aside0.mk (blk_grown (blk_grown hb4 hgb1) hgb2)
 have HB5 := Aside0.mk (blk_grown hb5 hgb2)
 have HB6 := Aside0.mk hb6
 clear hgb0 hgb1 hgb2 hb4 hb5 hb6 hz1 hz2
 replace HQ := Aside0.mk (HQ.out.same HG.out)
 replace HRL := Aside0.mk (Kd.R_grown HRL.out HG.out (by simp))
 replace HG := Aside0.mk (grown_but HG.out (some mb))
 obtain ⟨h4, hh4⟩ : ∃ z, z = W.heap.size := ⟨_, rfl⟩
 obtain ⟨h5, hh5⟩ : ∃ z, z = W.heap.size + 1 := ⟨_, rfl⟩
 obtain ⟨h6, hh6⟩ : ∃ z, z = W.heap.size + 2 := ⟨_, rfl⟩
 have HH := Aside0.mk (show h4 = W.heap.size ∧ h5 = h4 + 1 ∧ h6 = h4 + 2 by omega)
 obtain ⟨q0, q1, q2⟩ := cz3q HB4.out
 obtain ⟨d0, d1, d2, d3, d4, d5, d6, d7, d8, d9, d10, d11, d12, d13, d14⟩ := cz15 HB5.out
 go_enter Try.func46, Try.ntmps46
 go_wp2_with fail
 rw [← hh4] at HB4
 rw [← hh5] at HB5
 rw [← hh6] at HB6
 rw [← hh6, ← hh5, ← hh4]
 clear hh4 hh5 hh6 q0 q1 q2 d0 d1 d2 d3 d4 d5 d6 d7 d8 d9 d10 d11 d12 d13 d14
 refine (rdropctx_W HTB.out HQ.out.wok HDW.out HLK.out cx HRL.out (show B ≤ _ from Nat.le_trans HBW.out.1 HG.out.size) (by have := HNN.out; omega)).mono ?_
 rintro x0 w2 ⟨v, l2, hx0, hR, hDR, hg⟩
 obtain ⟨fs, hfs⟩ : ∃ z, z = (dfold N s cx ws (List.range N)).2 := ⟨_, rfl⟩
 rw [← hfs] at hx0
 have HF := Aside0.mk hfs.symm
 obtain ⟨A2, c2, rfl⟩ := Kd.R_slice hR
 have HDX := Aside0.mk (And.intro hDR.dw (And.intro hDR.lok (show l2.length ≤ l.length + 3 from Nat.le_trans hDR.le (by omega))))
 clear hfs hDR
 subst hx0
 replace HRL := Aside0.mk hR
 replace HB4 := Aside0.mk (blk_grown HB4.out hg)
 replace HB5 := Aside0.mk (blk_grown HB5.out hg)
 replace HB6 := Aside0.mk (blk_grown HB6.out hg)
 replace HG := Aside0.mk (grown_two HG.out (grown_but hg (some mb)))
 replace HQ := Aside0.mk (HQ.out.same hg)
 clear hg hR HDW HLK HB4
 have hg := World.grownBy_alloc w2 (.cells #[.int .i64 (s : Int), .int .i64 (N : Int), .slice A2 l2.length c2] 44) none
 have HB8 := Aside0.mk (heap_alloc_new w2 (.cells #[.int .i64 (s : Int), .int .i64 (N : Int), .slice A2 l2.length c2] 44))
 replace HB5 := Aside0.mk (blk_grown HB5.out hg)
 replace HB6 := Aside0.mk (blk_grown HB6.out hg)
 replace HG := Aside0.mk (grown_two HG.out (grown_but hg (some mb)))
 replace HQ := Aside0.mk (HQ.out.same hg)
 replace HRL := Aside0.mk (Kd.R_grown HRL.out hg (by simp))
 clear hg
 go_upto_region 11 with fail
 generalize w2.heap.size = h8 at HB8 ⊢
 generalize w2.alloc (.cells #[.int .i64 (s : Int), .int .i64 (N : Int), .slice A2 l2.length c2] 44) = w3 at HG HB5 HB6 HB8 HRL HQ ⊢
 have hg := grown_drew w3 none
 replace HB5 := Aside0.mk (blk_grown HB5.out hg)
 replace HB6 := Aside0.mk (blk_grown HB6.out hg)
 replace HB8 := Aside0.mk (blk_grown HB8.out hg)
 replace HG := Aside0.mk (grown_two HG.out (grown_but hg (some mb)))
 replace HQ := Aside0.mk (HQ.out.same hg)
 replace HRL := Aside0.mk (Kd.R_grown HRL.out hg (by simp))
 clear hg
 refine start_ (n := 9) (S := fun w' => w'.heap[h8]? = some (.cells #[.int .i64 (s : Int), .int .i64 (N : Int), .slice A2 l2.length c2] 44 (0, 0)) ∧ w'.heap[h5]? = some (.cells #[.int .i64 3, .int .i64 cx, .int .u64 (va : Int), .int .i64 e.f0, .int .i64 e.f1, .int .u64 e.f2, .int .u64 e.f3, .bool e.f4.f0, .bool e.f4.f1, .bool e.f4.f2, .bool e.f4.f3, .bool e.f4.f4, .bool e.f4.f5, .bool e.f5, .bool raw] 52 (0, 0))) (ds := [7]) #[false, false, false, false, false, false, false, false, false] (by kernel_rfl) rfl rfl ⟨HB8.out, HB5.out⟩ (fun hHeld => ?_)
 refine with_tab does11_tab (fun HT_ => ?_)
 refine pure_ (i := 1) (N := some 77) (v := ?_) (a' := ?_) #[false, true, false, false, false, false, false, false, false] rfl rfl (any_of HT_.out (by kernel_rfl)) (fun _ _ _ h => h) (Or.inl ⟨by rfl, ?_⟩) ?_ ?_
 rotate_left
 ·intro w'
  go_simp
  with_reducible rfl
 rotate_left
 ·simp only [ap_]
  rfl
 refine pure_ (i := 2) (N := some 78) (v := ?_) (a' := ?_) #[false, true, true, false, false, false, false, false, false] rfl rfl (any_of HT_.out (by kernel_rfl)) (fun _ _ _ h => h) (Or.inl ⟨by rfl, ?_⟩) ?_ ?_
 rotate_left
 ·intro w'
  go_simp
  with_reducible rfl
 rotate_left
 ·simp only [ap_]
  rfl
 refine pure_ (i := 5) (N := some 81) (v := ?_) (a' := ?_) #[false, true, true, false, false, true, false, false, false] rfl rfl (any_of HT_.out (by kernel_rfl)) (fun _ _ _ h => h) (Or.inl ⟨by rfl, ?_⟩) ?_ ?_
 rotate_left
 ·intro w'
  go_simp
  with_reducible rfl
 rotate_left
 ·simp only [ap_]
  rfl
 refine take_ (i := 0) (N := some 76) (v := .agg #[.int .i64 (s : Int), .int .i64 (N : Int), .slice A2 l2.length c2]) (a' := ?_) #[true, true, true, false, false, true, false, false, false] rfl rfl (take_of HT_.out (by kernel_rfl)) (fun _ _ _ h => h) (Or.inl ⟨by rfl, ?_⟩) hHeld ?_ ?_
 ·rintro w' ⟨s1, s2⟩
  obtain ⟨q0, q1, q2⟩ := cz3q s1
  go_simp
 rotate_left
 ·simp only [ap_]
  rfl
 refine take_ (i := 3) (N := some 79) (v := .int .i64 cx) (a' := ?_) #[true, true, true, true, false, true, false, false, false] rfl rfl (take_of HT_.out (by kernel_rfl)) (fun _ _ _ h => h) (Or.inl ⟨by rfl, ?_⟩) hHeld ?_ ?_
 ·rintro w' ⟨s1, s2⟩
  obtain ⟨d0, d1, d2, d3, d4, d5, d6, d7, d8, d9, d10, d11, d12, d13, d14⟩ := cz15 s2
  go_simp
 rotate_left
 ·simp only [ap_]
  rfl
 refine one_ (i := 4) (N := some 80) #[true, true, true, true, true, true, false, false, false] rfl rfl (one_of HT_.out (by kernel_rfl)) (by decide) (fun K hK => ?_)
 refine goes_ Try.func44 (by kernel_rfl) rfl #[.pointer (some ⟨pt, 0, none⟩), .int .i64 cx] (by rfl) rfl rfl (by (try simp only [List.map_toArray, List.map_cons, List.map_nil]); first | done | rfl) ?_
 refine (w_dropCtx HTB.out HQ.out cx (by have := HNN.out; omega)).mono ?_
 rintro x0 wn ⟨hx0, hM, hg⟩
 rw [HF.out] at hx0
 subst hx0
 have hs : wn.heap[h8]? = some (.cells #[.int .i64 (s : Int), .int .i64 (N : Int), .slice A2 l2.length c2] 44 (0, 0)) ∧ wn.heap[h5]? = some (.cells #[.int .i64 3, .int .i64 cx, .int .u64 (va : Int), .int .i64 e.f0, .int .i64 e.f1, .int .u64 e.f2, .int .u64 e.f3, .bool e.f4.f0, .bool e.f4.f1, .bool e.f4.f2, .bool e.f4.f3, .bool e.f4.f4, .bool e.f4.f5, .bool e.f5, .bool raw] 52 (0, 0)) := ⟨((hg.block h8 (blk_lt hHeld.1) (fun e => HQ.out.nb _ _ _ hHeld.1 (Option.some.inj e))).trans hHeld.1), ((hg.block h5 (blk_lt hHeld.2) (fun e => HQ.out.nb _ _ _ hHeld.2 (Option.some.inj e))).trans hHeld.2)⟩
 replace HB6 := Aside0.mk ((hg.block h6 (blk_lt HB6.out) (fun e => HQ.out.nb _ _ _ HB6.out (Option.some.inj e))).trans HB6.out)
 replace HRL := Aside0.mk (Kd.R_mono (ok' := fun _ => True) (Kd.R_grown (Kd.R_bound HRL.out) hg (fun k hk e => by obtain ⟨_, _, _, q, _, cs, hc⟩ := hk; exact HQ.out.nb k cs q hc (Option.some.inj e))) (fun _ _ => trivial))
 replace HG := Aside0.mk (grown_two HG.out hg)
 replace HQ := Aside0.mk hM
 clear hM hg
 refine ⟨_, rfl, ?_⟩
 refine hK.out _ _ hs (fun hHeld => ?_)
 clear hK K
 refine norm_ (a' := ?_) ?_ ?_
 rotate_left
 ·show Act.put _ (some 80) _ = _
  simp only [ap_]
  rfl
 refine pure_ (i := 6) (N := some 82) (v := .bool true) (a' := ?_) #[true, true, true, true, true, true, true, false, false] rfl rfl (any_of HT_.out (by kernel_rfl)) (fun _ _ _ h => h) (Or.inl ⟨by rfl, ?_⟩) ?_ ?_
 ·intro w'
  go_simp
 rotate_left
 ·simp only [ap_]
  rfl
 refine last_ (i := 7) (N := none) #[true, true, true, true, true, true, true, true, false] rfl rfl (one_of HT_.out (by kernel_rfl)) (by decide) (fun K hK => ?_)
 rw [if_pos (by rfl)]
 refine wp_store_row 44 (.tmp 6) (.tmp 76) rfl h6 #[.int .i64 (s : Int), .int .i64 (N : Int), .slice A2 l2.length c2] rfl rfl 44 #[.int .i64 0, .int .i64 0, .slice none 0 0] HB6.out (by kernel_rfl) rfl (by kernel_rfl) ?_
 have hb2 := setRow_heap wn h6 _ #[.int .i64 (s : Int), .int .i64 (N : Int), .slice A2 l2.length c2] _ _ HB6.out
 have hgr := grown_row wn h6 #[.int .i64 (s : Int), .int .i64 (N : Int), .slice A2 l2.length c2]
 replace HQ := Aside0.mk (HQ.out.kept hgr HB6.out (by decide) (by decide) (by have := HBW.out; have := HH.out; omega))
 replace HRL := Aside0.mk (Kd.R_mono (ok' := fun _ => True) (Kd.R_grown (Kd.R_types HRL.out HB6.out (by decide)) hgr (fun k hk e => hk.2 (Option.some.inj e))) (fun _ _ => trivial))
 replace HG := Aside0.mk (grown_loc HG.out hgr (by have := HH.out; omega))
 generalize World.setRow wn h6 #[.int .i64 (s : Int), .int .i64 (N : Int), .slice A2 l2.length c2] = w6 at hb2 HQ HRL HG ⊢
 replace HB6 := Aside0.mk hb2
 clear hgr hb2
 refine hK.out _ _ ?_
 clear hK K
 refine norm_ (a' := ?_) ?_ ?_
 rotate_left
 ·show Act.put _ none _ = _
  rfl
 refine pure_ (i := 8) (N := some 7) (v := ?_) (a' := ?_) #[true, true, true, true, true, true, true, true, true] rfl rfl (any_of HT_.out (by kernel_rfl)) (fun _ _ _ h => h) (Or.inl ⟨by rfl, ?_⟩) ?_ ?_
 rotate_left
 ·intro w'
  go_simp
  with_reducible rfl
 rotate_left
 ·simp only [ap_]
  rfl
 refine done_ (done_of HT_.out (by kernel_rfl)) ?_
 clear hHeld
 obtain ⟨q0, q1, q2⟩ := cz3q HB6.out
 go_wp2
 exact bodyPost_ret (v := .tuple #[.agg #[.int .i64 (s : Int), .int .i64 (N : Int), .slice A2 l2.length c2], .bool true]) (by simp [results, Try.f46, go_sem, q0, q1, q2]) rfl ⟨_, _, _, _, rfl, HQ.out.mono (by omega), HDX.out.1, HDX.out.2.1, HRL.out, HDX.out.2.2, HG.out⟩
/-- Lock. -/
theorem does_lock {B : Nat} {w0 W : World} {p mb pt : Nat} {sz : Int} {base N s n : Nat} {grade : Int} {ws : Nat → Wd} {l : List WS} {A : Option Addr} {c : Nat} (b : TB base N s sz) (hQ : QW B w0 p mb pt sz base N s grade n ws W) (hdw : DWw N ws l) (hlk : LOK N l) (hR : Kd.R k122 122 W B (fun _ => True) (.slice A l.length c) (l)) (hB : B ≤ W.heap.size) (hmb : B ≤ mb) (hn : n ≤ 300000) (hl : l.length ≤ 1000) (cx va : Int) (raw : Bool) (e : Ent) (he : EntW e) (hva : (Lit.int .u64 va).wf = true) :
  Calls Try.prog 46 #[.pointer (some ⟨pt, 0, none⟩), .agg #[.int .i64 (s : Int), .int .i64 (N : Int), .slice A l.length c], .agg #[.int .i64 4, .int .i64 cx, .int .u64 va, .int .i64 e.f0, .int .i64 e.f1, .int .u64 e.f2, .int .u64 e.f3, .bool e.f4.f0, .bool e.f4.f1, .bool e.f4.f2, .bool e.f4.f3, .bool e.f4.f4, .bool e.f4.f5, .bool e.f5, .bool raw]] W fun x W' => ∃ ws' l' A' c', x = .returned (.tuple #[.agg #[.int .i64 (s : Int), .int .i64 (N : Int), .slice A' l'.length c'], .bool true]) ∧ QW B w0 p mb pt sz base N s grade (n + 2 * N + 3) ws' W' ∧ DWw N ws' l' ∧ LOK N l' ∧ Kd.R k122 122 W' B (fun _ => True) (.slice A' l'.length c') (l') ∧ l'.length ≤ l.length + 3 ∧ W.grownBy W' (some mb) := by
 have hu := Try.underlying44
 have hu2 := Try.underlying50
 have hu3 := Try.underlying52
 have HWE := Aside0.mk he
 obtain ⟨va, rfl⟩ := Int.eq_ofNat_of_zero_le (m_u64 hva).1
 have HVL := Aside0.mk (show va < 18446744073709551616 by have := (m_u64 hva).2; omega)
 clear he hva
 have HTB := Aside0.mk b
 have HQ := Aside0.mk hQ
 have HDW := Aside0.mk hdw
 have HLK := Aside0.mk hlk
 have HRL := Aside0.mk hR
 have HBW := Aside0.mk (And.intro hB hmb)
 have HNN := Aside0.mk (And.intro hn hl)
 clear b hQ hdw hlk hR hB hmb hn hl
 have hgb0 := World.grownBy_alloc (W) (.cells #[.int .i64 (s : Int), .int .i64 (N : Int), .slice A l.length c] 44) none
 have hb4 := heap_alloc_new (W) (.cells #[.int .i64 (s : Int), .int .i64 (N : Int), .slice A l.length c] 44)
 have hgb1 := World.grownBy_alloc ((W).alloc (.cells #[.int .i64 (s : Int), .int .i64 (N : Int), .slice A l.length c] 44)) (.cells #[.int .i64 4, .int .i64 cx, .int .u64 (va : Int), .int .i64 e.f0, .int .i64 e.f1, .int .u64 e.f2, .int .u64 e.f3, .bool e.f4.f0, .bool e.f4.f1, .bool e.f4.f2, .bool e.f4.f3, .bool e.f4.f4, .bool e.f4.f5, .bool e.f5, .bool raw] 52) none
 have hb5 := heap_alloc_new ((W).alloc (.cells #[.int .i64 (s : Int), .int .i64 (N : Int), .slice A l.length c] 44)) (.cells #[.int .i64 4, .int .i64 cx, .int .u64 (va : Int), .int .i64 e.f0, .int .i64 e.f1, .int .u64 e.f2, .int .u64 e.f3, .bool e.f4.f0, .bool e.f4.f1, .bool e.f4.f2, .bool e.f4.f3, .bool e.f4.f4, .bool e.f4.f5, .bool e.f5, .bool raw] 52)
 have hz1 : ((W).alloc (.cells #[.int .i64 (s : Int), .int .i64 (N : Int), .slice A l.length c] 44)).heap.size = W.heap.size + 1 := by simp only [World.size_alloc]
 rw [hz1] at hb5
 have hgb2 := World.grownBy_alloc (((W).alloc (.cells #[.int .i64 (s : Int), .int .i64 (N : Int), .slice A l.length c] 44)).alloc (.cells #[.int .i64 4, .int .i64 cx, .int .u64 (va : Int), .int .i64 e.f0, .int .i64 e.f1, .int .u64 e.f2, .int .u64 e.f3, .bool e.f4.f0, .bool e.f4.f1, .bool e.f4.f2, .bool e.f4.f3, .bool e.f4.f4, .bool e.f4.f5, .bool e.f5, .bool raw] 52)) (.cells #[.int .i64 0, .int .i64 0, .slice none 0 0] 44) none
 have hb6 := heap_alloc_new (((W).alloc (.cells #[.int .i64 (s : Int), .int .i64 (N : Int), .slice A l.length c] 44)).alloc (.cells #[.int .i64 4, .int .i64 cx, .int .u64 (va : Int), .int .i64 e.f0, .int .i64 e.f1, .int .u64 e.f2, .int .u64 e.f3, .bool e.f4.f0, .bool e.f4.f1, .bool e.f4.f2, .bool e.f4.f3, .bool e.f4.f4, .bool e.f4.f5, .bool e.f5, .bool raw] 52)) (.cells #[.int .i64 0, .int .i64 0, .slice none 0 0] 44)
 have hz2 : (((W).alloc (.cells #[.int .i64 (s : Int), .int .i64 (N : Int), .slice A l.length c] 44)).alloc (.cells #[.int .i64 4, .int .i64 cx, .int .u64 (va : Int), .int .i64 e.f0, .int .i64 e.f1, .int .u64 e.f2, .int .u64 e.f3, .bool e.f4.f0, .bool e.f4.f1, .bool e.f4.f2, .bool e.f4.f3, .bool e.f4.f4, .bool e.f4.f5, .bool e.f5, .bool raw] 52)).heap.size = W.heap.size + 2 := by simp only [World.size_alloc]
 rw [hz2] at hb6
 have HG := Aside0.mk (grown_two (grown_two hgb0 hgb1) hgb2)
 have HB4 := Aside0.mk (blk_grown (blk_grown hb4 hgb1) hgb2)
 have HB5 := Aside0.mk (blk_grown hb5 hgb2)
 have HB6 := Aside0.mk hb6
 clear hgb0 hgb1 hgb2 hb4 hb5 hb6 hz1 hz2
 replace HQ := Aside0.mk (HQ.out.same HG.out)
 replace HRL := Aside0.mk (Kd.R_grown HRL.out HG.out (by simp))
 replace HG := Aside0.mk (grown_but HG.out (some mb))
 obtain ⟨h4, hh4⟩ : ∃ z, z = W.heap.size := ⟨_, rfl⟩
 obtain ⟨h5, hh5⟩ : ∃ z, z = W.heap.size + 1 := ⟨_, rfl⟩
 obtain ⟨h6, hh6⟩ : ∃ z, z = W.heap.size + 2 := ⟨_, rfl⟩
 have HH := Aside0.mk (show h4 = W.heap.size ∧ h5 = h4 + 1 ∧ h6 = h4 + 2 by omega)
 obtain ⟨q0, q1, q2⟩ := cz3q HB4.out
 obtain ⟨d0, d1, d2, d3, d4, d5, d6, d7, d8, d9, d10, d11, d12, d13, d14⟩ := cz15 HB5.out
 go_enter Try.func46, Try.ntmps46
 go_wp2_with fail
 rw [← hh4] at HB4
 rw [← hh5] at HB5
 rw [← hh6] at HB6
 rw [← hh6, ← hh5, ← hh4]
 clear hh4 hh5 hh6 q0 q1 q2 d0 d1 d2 d3 d4 d5 d6 d7 d8 d9 d10 d11 d12 d13 d14
 refine (w_lock HTB.out HQ.out va HVL.out (by have := HNN.out; omega)).mono ?_
 rintro x0 w2 ⟨rfl, hM, hg⟩
 replace HB4 := Aside0.mk ((hg.block _ (blk_lt HB4.out) (fun e => HQ.out.nb _ _ _ HB4.out (Option.some.inj e))).trans HB4.out)
 replace HB5 := Aside0.mk ((hg.block _ (blk_lt HB5.out) (fun e => HQ.out.nb _ _ _ HB5.out (Option.some.inj e))).trans HB5.out)
 replace HB6 := Aside0.mk ((hg.block _ (blk_lt HB6.out) (fun e => HQ.out.nb _ _ _ HB6.out (Option.some.inj e))).trans HB6.out)
 replace HRL := Aside0.mk (Kd.R_mono (ok' := fun _ => True) (Kd.R_grown (Kd.R_bound HRL.out) hg (fun k hk e => by obtain ⟨_, _, _, q, _, cs, hc⟩ := hk; exact HQ.out.nb k cs q hc (Option.some.inj e))) (fun _ _ => trivial))
 replace HG := Aside0.mk (grown_two HG.out hg)
 replace HQ := Aside0.mk (hM.mono (show n + 1 ≤ n + 2 * N + 3 by omega))
 clear hM hg
 have HDX := Aside0.mk (show DWw N (setW ws (plcOf N (s : Int) va) (BADW, (ws (plcOf N (s : Int) va)).2)) (pW l (plcOf N (s : Int) va : Int) 9223372036854775807 (gW l (plcOf N (s : Int) va : Int)).2) from HDW.out.tag (HTB.out.in _) BADW)
 have HLX := Aside0.mk (show LOK N (pW l (plcOf N (s : Int) va : Int) 9223372036854775807 (gW l (plcOf N (s : Int) va : Int)).2) ∧ (pW l (plcOf N (s : Int) va : Int) 9223372036854775807 (gW l (plcOf N (s : Int) va : Int)).2).length ≤ l.length + 3 from ⟨HLK.out.put (HTB.out.in _) _ _, Nat.le_trans (pW_len _ _ _ _) (by omega)⟩)
 obtain ⟨q0, q1, q2⟩ := cz3q HB4.out
 obtain ⟨d0, d1, d2, d3, d4, d5, d6, d7, d8, d9, d10, d11, d12, d13, d14⟩ := cz15 HB5.out
 go_wp2_with fail
 clear q0 q1 q2 d0 d1 d2 d3 d4 d5 d6 d7 d8 d9 d10 d11 d12 d13 d14
 refine (rlock_calls HTB.out.hs HTB.out.h1 HTB.out.hN va HVL.out (Kd.R_reads' HRL.out).2.2 (Kd.R_reads' HRL.out).2.1 (by have := HNN.out; omega)).mono ?_
 rintro x0 w7 ⟨v2, rfl, hR, hg⟩
 generalize pW l (plcOf N (s : Int) va : Int) 9223372036854775807 (gW l (plcOf N (s : Int) va : Int)).2 = l2 at hR HDX HLX
 generalize setW ws (plcOf N (s : Int) va) (BADW, (ws (plcOf N (s : Int) va)).2) = ws2 at HQ HDX
 obtain ⟨A2, c2, rfl⟩ := Kd.R_slice hR
 have HR2 := Aside0.mk (Kd.R_lower hR (show B ≤ w2.heap.size from Nat.le_trans HBW.out.1 HG.out.size))
 replace HB6 := Aside0.mk (blk_grown HB6.out hg)
 replace HG := Aside0.mk (grown_two HG.out (grown_but hg (some mb)))
 replace HQ := Aside0.mk (HQ.out.same hg)
 clear hR hg HRL HB4 HB5
 go_wp2_with (((with_reducible refine gate_store (t := 44) (p := 6) rfl ?_); refine wpList_store_row rfl 44 (.tmp 6) (.tmp 92) rfl h6 #[.int .i64 (s : Int), .int .i64 (N : Int), .slice A2 l2.length c2] rfl rfl 44 _ HB6.out (by kernel_rfl) rfl (by kernel_rfl) ?_; have SHB6 := Aside0.mk (setRow_heap _ h6 _ #[.int .i64 (s : Int), .int .i64 (N : Int), .slice A2 l2.length c2] _ _ HB6.out); have THB6 := Aside0.mk (grown_row w7 h6 #[.int .i64 (s : Int), .int .i64 (N : Int), .slice A2 l2.length c2])))
 replace HQ := Aside0.mk (HQ.out.kept THB6.out HB6.out (by decide) (by decide) (by have := HBW.out; have := HH.out; omega))
 have HRZ := Aside0.mk (Kd.R_mono (ok' := fun _ => True) (Kd.R_grown (Kd.R_types HR2.out HB6.out (by decide)) THB6.out (fun k hk e => hk.2 (Option.some.inj e))) (fun _ _ => trivial))
 replace HG := Aside0.mk (grown_loc HG.out THB6.out (by have := HH.out; omega))
 obtain ⟨q0, q1, q2⟩ := cz3q SHB6.out
 exact bodyPost_ret (v := .tuple #[.agg #[.int .i64 (s : Int), .int .i64 (N : Int), .slice A2 l2.length c2], .bool true]) (by simp [results, Try.f46, go_sem, q0, q1, q2]) rfl ⟨_, _, _, _, rfl, HQ.out, HDX.out, HLX.out.1, HRZ.out, HLX.out.2, HG.out⟩
theorem r_nil (W : World) (B : Nat) : Kd.R k122 122 W B (fun _ => True) (.slice none ([] : List WS).length 0) ([]) := Kd.R_nil _ _ _ _ _
/-- Clear. -/
theorem does_clear {B : Nat} {w0 W : World} {p mb pt : Nat} {sz : Int} {base N s n : Nat} {grade : Int} {ws : Nat → Wd} {l : List WS} {A : Option Addr} {c : Nat} (b : TB base N s sz) (hQ : QW B w0 p mb pt sz base N s grade n ws W) (hdw : DWw N ws l) (hlk : LOK N l) (hR : Kd.R k122 122 W B (fun _ => True) (.slice A l.length c) (l)) (hB : B ≤ W.heap.size) (hmb : B ≤ mb) (hn : n ≤ 300000) (hl : l.length ≤ 1000) (cx va : Int) (raw : Bool) (e : Ent) (he : EntW e) (hva : (Lit.int .u64 va).wf = true) :
  Calls Try.prog 46 #[.pointer (some ⟨pt, 0, none⟩), .agg #[.int .i64 (s : Int), .int .i64 (N : Int), .slice A l.length c], .agg #[.int .i64 7, .int .i64 cx, .int .u64 va, .int .i64 e.f0, .int .i64 e.f1, .int .u64 e.f2, .int .u64 e.f3, .bool e.f4.f0, .bool e.f4.f1, .bool e.f4.f2, .bool e.f4.f3, .bool e.f4.f4, .bool e.f4.f5, .bool e.f5, .bool raw]] W fun x W' => ∃ ws' l' A' c', x = .returned (.tuple #[.agg #[.int .i64 (s : Int), .int .i64 (N : Int), .slice A' l'.length c'], .bool true]) ∧ QW B w0 p mb pt sz base N s grade (n + 2 * N + 3) ws' W' ∧ DWw N ws' l' ∧ LOK N l' ∧ Kd.R k122 122 W' B (fun _ => True) (.slice A' l'.length c') (l') ∧ l'.length ≤ l.length + 3 ∧ W.grownBy W' (some mb) := by
 have hu := Try.underlying44
 have hu2 := Try.underlying50
 have hu3 := Try.underlying52
 have HWE := Aside0.mk he
 obtain ⟨va, rfl⟩ := Int.eq_ofNat_of_zero_le (m_u64 hva).1
 have HVL := Aside0.mk (show va < 18446744073709551616 by have := (m_u64 hva).2; omega)
 clear he hva
 have HTB := Aside0.mk b
 have HQ := Aside0.mk hQ
 have HDW := Aside0.mk hdw
 have HLK := Aside0.mk hlk
 have HRL := Aside0.mk hR
 have HBW := Aside0.mk (And.intro hB hmb)
 have HNN := Aside0.mk (And.intro hn hl)
 clear b hQ hdw hlk hR hB hmb hn hl
 have hgb0 := World.grownBy_alloc (W) (.cells #[.int .i64 (s : Int), .int .i64 (N : Int), .slice A l.length c] 44) none
 have hb4 := heap_alloc_new (W) (.cells #[.int .i64 (s : Int), .int .i64 (N : Int), .slice A l.length c] 44)
 have hgb1 := World.grownBy_alloc ((W).alloc (.cells #[.int .i64 (s : Int), .int .i64 (N : Int), .slice A l.length c] 44)) (.cells #[.int .i64 7, .int .i64 cx, .int .u64 (va : Int), .int .i64 e.f0, .int .i64 e.f1, .int .u64 e.f2, .int .u64 e.f3, .bool e.f4.f0, .bool e.f4.f1, .bool e.f4.f2, .bool e.f4.f3, .bool e.f4.f4, .bool e.f4.f5, .bool e.f5, .bool raw] 52) none
 have hb5 := heap_alloc_new ((W).alloc (.cells #[.int .i64 (s : Int), .int .i64 (N : Int), .slice A l.length c] 44)) (.cells #[.int .i64 7, .int .i64 cx, .int .u64 (va : Int), .int .i64 e.f0, .int .i64 e.f1, .int .u64 e.f2, .int .u64 e.f3, .bool e.f4.f0, .bool e.f4.f1, .bool e.f4.f2, .bool e.f4.f3, .bool e.f4.f4, .bool e.f4.f5, .bool e.f5, .bool raw] 52)
 have hz1 : ((W).alloc (.cells #[.int .i64 (s : Int), .int .i64 (N : Int), .slice A l.length c] 44)).heap.size = W.heap.size + 1 := by simp only [World.size_alloc]
 rw [hz1] at hb5
 have hgb2 := World.grownBy_alloc (((W).alloc (.cells #[.int .i64 (s : Int), .int .i64 (N : Int), .slice A l.length c] 44)).alloc (.cells #[.int .i64 7, .int .i64 cx, .int .u64 (va : Int), .int .i64 e.f0, .int .i64 e.f1, .int .u64 e.f2, .int .u64 e.f3, .bool e.f4.f0, .bool e.f4.f1, .bool e.f4.f2, .bool e.f4.f3, .bool e.f4.f4, .bool e.f4.f5, .bool e.f5, .bool raw] 52)) (.cells #[.int .i64 0, .int .i64 0, .slice none 0 0] 44) none
 have hb6 := heap_alloc_new (((W).alloc (.cells #[.int .i64 (s : Int), .int .i64 (N : Int), .slice A l.length c] 44)).alloc (.cells #[.int .i64 7, .int .i64 cx, .int .u64 (va : Int), .int .i64 e.f0, .int .i64 e.f1, .int .u64 e.f2, .int .u64 e.f3, .bool e.f4.f0, .bool e.f4.f1, .bool e.f4.f2, .bool e.f4.f3, .bool e.f4.f4, .bool e.f4.f5, .bool e.f5, .bool raw] 52)) (.cells #[.int .i64 0, .int .i64 0, .slice none 0 0] 44)
 have hz2 : (((W).alloc (.cells #[.int .i64 (s : Int), .int .i64 (N : Int), .slice A l.length c] 44)).alloc (.cells #[.int .i64 7, .int .i64 cx, .int .u64 (va : Int), .int .i64 e.f0, .int .i64 e.f1, .int .u64 e.f2, .int .u64 e.f3, .bool e.f4.f0, .bool e.f4.f1, .bool e.f4.f2, .bool e.f4.f3, .bool e.f4.f4, .bool e.f4.f5, .bool e.f5, .bool raw] 52)).heap.size = W.heap.size + 2 := by simp only [World.size_alloc]
 rw [hz2] at hb6
 have HG := Aside0.mk (grown_two (grown_two hgb0 hgb1) hgb2)
 have HB4 := Aside0.mk (blk_grown (blk_grown hb4 hgb1) hgb2)
 have HB5 := Aside0.mk (blk_grown hb5 hgb2)
 have HB6 := Aside0.mk hb6
 clear hgb0 hgb1 hgb2 hb4 hb5 hb6 hz1 hz2
 replace HQ := Aside0.mk (HQ.out.same HG.out)
 replace HRL := Aside0.mk (Kd.R_grown HRL.out HG.out (by simp))
 replace HG := Aside0.mk (grown_but HG.out (some mb))
 obtain ⟨h4, hh4⟩ : ∃ z, z = W.heap.size := ⟨_, rfl⟩
 obtain ⟨h5, hh5⟩ : ∃ z, z = W.heap.size + 1 := ⟨_, rfl⟩
 obtain ⟨h6, hh6⟩ : ∃ z, z = W.heap.size + 2 := ⟨_, rfl⟩
 have HH := Aside0.mk (show h4 = W.heap.size ∧ h5 = h4 + 1 ∧ h6 = h4 + 2 by omega)
 obtain ⟨q0, q1, q2⟩ := cz3q HB4.out
 obtain ⟨d0, d1, d2, d3, d4, d5, d6, d7, d8, d9, d10, d11, d12, d13, d14⟩ := cz15 HB5.out
 go_enter Try.func46, Try.ntmps46
 go_wp2_with fail
 rw [← hh4] at HB4
 rw [← hh5] at HB5
 rw [← hh6] at HB6
 rw [← hh6, ← hh5, ← hh4]
 clear hh4 hh5 hh6 q0 q1 q2 d0 d1 d2 d3 d4 d5 d6 d7 d8 d9 d10 d11 d12 d13 d14
 refine (w_clear HTB.out HQ.out (by have := HNN.out; omega)).mono ?_
 rintro x0 w2 ⟨rfl, hM, hg⟩
 replace HB4 := Aside0.mk ((hg.block _ (blk_lt HB4.out) (fun e => HQ.out.nb _ _ _ HB4.out (Option.some.inj e))).trans HB4.out)
 replace HB6 := Aside0.mk ((hg.block _ (blk_lt HB6.out) (fun e => HQ.out.nb _ _ _ HB6.out (Option.some.inj e))).trans HB6.out)
 replace HG := Aside0.mk (grown_two HG.out hg)
 replace HQ := Aside0.mk (hM.mono (show n + 2 * N ≤ n + 2 * N + 3 by omega))
 clear hM hg HRL HB5
 obtain ⟨q0, q1, q2⟩ := cz3q HB4.out
 have qf := blk_frozen HB4.out 2
 go_wp2_with (first | ((with_reducible refine gate_store (t := 42) (p := 97) rfl ?_); refine store_event rfl rfl rfl (w1 := w2.setCell ⟨h4, 2, none⟩ (.slice none 0 0)) ?hr ?_; (case hr => first | (go_simp; done) | (go_simp; rfl)); intro w3 hw; have hgr : w2.grownBy w3 (some h4) := (by rw [hw]; exact grown_cellq w2 ⟨h4, 2, none⟩ (.slice none 0 0)); have hb2 := (show w3.heap[h4]? = some (.cells #[.int .i64 (s : Int), .int .i64 (N : Int), .slice none 0 0] 44 (0, 0)) from by rw [hw]; exact blk_put HB4.out 2 _ rfl); have HB6b := Aside0.mk ((hgr.block h6 (blk_lt HB6.out) (fun e => by have := Option.some.inj e; have := HH.out; omega)).trans HB6.out); have HQb := Aside0.mk (HQ.out.kept hgr HB4.out (by decide) (by decide) (by have := HBW.out; have := HH.out; omega)); have HGb := Aside0.mk (grown_loc HG.out hgr (by have := HH.out; omega)); clear HQ HG HB4 HB6 qf q0 q1 q2 hw hgr; have HQ := HQb; have HG := HGb; have HB6 := HB6b; have HB4 := Aside0.mk hb2; obtain ⟨q0, q1, q2⟩ := cz3q hb2; clear HQb HGb HB6b hb2) | ((with_reducible refine gate_store (t := 44) (p := 6) rfl ?_); refine wpList_store_row rfl 44 (.tmp 6) (.tmp 98) rfl h6 #[.int .i64 (s : Int), .int .i64 (N : Int), .slice none 0 0] rfl rfl 44 _ HB6.out (by kernel_rfl) rfl (by kernel_rfl) ?_; have SHB6 := Aside0.mk (setRow_heap _ h6 _ #[.int .i64 (s : Int), .int .i64 (N : Int), .slice none 0 0] _ _ HB6.out); have THB6 := Aside0.mk (grown_row w3 h6 #[.int .i64 (s : Int), .int .i64 (N : Int), .slice none 0 0])))
 replace HQ := Aside0.mk (HQ.out.kept THB6.out HB6.out (by decide) (by decide) (by have := HBW.out; have := HH.out; omega))
 replace HG := Aside0.mk (grown_loc HG.out THB6.out (by have := HH.out; omega))
 obtain ⟨q0, q1, q2⟩ := cz3q SHB6.out
 exact bodyPost_ret (v := .tuple #[.agg #[.int .i64 (s : Int), .int .i64 (N : Int), .slice none 0 0], .bool true]) (by simp [results, Try.f46, go_sem, q0, q1, q2]) rfl ⟨_, [], none, 0, rfl, HQ.out, dww_nil N, lok_nil N, r_nil _ _, Nat.zero_le _, HG.out⟩
/-- A deed that puts an entry. -/
theorem does_put {B : Nat} {w0 W : World} {p mb pt : Nat} {sz : Int} {base N s n : Nat} {grade : Int} {ws : Nat → Wd} {l : List WS} {A : Option Addr} {c : Nat} (b : TB base N s sz) (hQ : QW B w0 p mb pt sz base N s grade n ws W) (hdw : DWw N ws l) (hlk : LOK N l) (hR : Kd.R k122 122 W B (fun _ => True) (.slice A l.length c) (l)) (hB : B ≤ W.heap.size) (hmb : B ≤ mb) (hn : n ≤ 300000) (hl : l.length ≤ 1000) (kd : Int) (k1 : (kd == 1) = false) (k2 : (kd == 2) = false) (k3 : (kd == 3) = false) (k4 : (kd == 4) = false) (k7 : (kd == 7) = false) (cx va : Int) (raw : Bool) (e : Ent) (he : EntW e) (hva : (Lit.int .u64 va).wf = true) :
  Calls Try.prog 46 #[.pointer (some ⟨pt, 0, none⟩), .agg #[.int .i64 (s : Int), .int .i64 (N : Int), .slice A l.length c], .agg #[.int .i64 kd, .int .i64 cx, .int .u64 va, .int .i64 e.f0, .int .i64 e.f1, .int .u64 e.f2, .int .u64 e.f3, .bool e.f4.f0, .bool e.f4.f1, .bool e.f4.f2, .bool e.f4.f3, .bool e.f4.f4, .bool e.f4.f5, .bool e.f5, .bool raw]] W fun x W' => ∃ ws' l' A' c', x = .returned (.tuple #[.agg #[.int .i64 (s : Int), .int .i64 (N : Int), .slice A' l'.length c'], .bool true]) ∧ QW B w0 p mb pt sz base N s grade (n + 2 * N + 3) ws' W' ∧ DWw N ws' l' ∧ LOK N l' ∧ Kd.R k122 122 W' B (fun _ => True) (.slice A' l'.length c') (l') ∧ l'.length ≤ l.length + 3 ∧ W.grownBy W' (some mb) := by
 have hu := Try.underlying44
 have hu2 := Try.underlying50
 have hu3 := Try.underlying52
 have HWE := Aside0.mk he
 obtain ⟨va, rfl⟩ := Int.eq_ofNat_of_zero_le (m_u64 hva).1
 have HVL := Aside0.mk (show va < 18446744073709551616 by have := (m_u64 hva).2; omega)
 clear he hva
 have HTB := Aside0.mk b
 have HQ := Aside0.mk hQ
 have HDW := Aside0.mk hdw
 have HLK := Aside0.mk hlk
 have HRL := Aside0.mk hR
 have HBW := Aside0.mk (And.intro hB hmb)
 have HNN := Aside0.mk (And.intro hn hl)
 clear b hQ hdw hlk hR hB hmb hn hl
 have hgb0 := World.grownBy_alloc (W) (.cells #[.int .i64 (s : Int), .int .i64 (N : Int), .slice A l.length c] 44) none
 have hb4 := heap_alloc_new (W) (.cells #[.int .i64 (s : Int), .int .i64 (N : Int), .slice A l.length c] 44)
 have hgb1 := World.grownBy_alloc ((W).alloc (.cells #[.int .i64 (s : Int), .int .i64 (N : Int), .slice A l.length c] 44)) (.cells #[.int .i64 kd, .int .i64 cx, .int .u64 (va : Int), .int .i64 e.f0, .int .i64 e.f1, .int .u64 e.f2, .int .u64 e.f3, .bool e.f4.f0, .bool e.f4.f1, .bool e.f4.f2, .bool e.f4.f3, .bool e.f4.f4, .bool e.f4.f5, .bool e.f5, .bool raw] 52) none
 have hb5 := heap_alloc_new ((W).alloc (.cells #[.int .i64 (s : Int), .int .i64 (N : Int), .slice A l.length c] 44)) (.cells #[.int .i64 kd, .int .i64 cx, .int .u64 (va : Int), .int .i64 e.f0, .int .i64 e.f1, .int .u64 e.f2, .int .u64 e.f3, .bool e.f4.f0, .bool e.f4.f1, .bool e.f4.f2, .bool e.f4.f3, .bool e.f4.f4, .bool e.f4.f5, .bool e.f5, .bool raw] 52)
 have hz1 : ((W).alloc (.cells #[.int .i64 (s : Int), .int .i64 (N : Int), .slice A l.length c] 44)).heap.size = W.heap.size + 1 := by simp only [World.size_alloc]
 rw [hz1] at hb5
 have hgb2 := World.grownBy_alloc (((W).alloc (.cells #[.int .i64 (s : Int), .int .i64 (N : Int), .slice A l.length c] 44)).alloc (.cells #[.int .i64 kd, .int .i64 cx, .int .u64 (va : Int), .int .i64 e.f0, .int .i64 e.f1, .int .u64 e.f2, .int .u64 e.f3, .bool e.f4.f0, .bool e.f4.f1, .bool e.f4.f2, .bool e.f4.f3, .bool e.f4.f4, .bool e.f4.f5, .bool e.f5, .bool raw] 52)) (.cells #[.int .i64 0, .int .i64 0, .slice none 0 0] 44) none
 have hb6 := heap_alloc_new (((W).alloc (.cells #[.int .i64 (s : Int), .int .i64 (N : Int), .slice A l.length c] 44)).alloc (.cells #[.int .i64 kd, .int .i64 cx, .int .u64 (va : Int), .int .i64 e.f0, .int .i64 e.f1, .int .u64 e.f2, .int .u64 e.f3, .bool e.f4.f0, .bool e.f4.f1, .bool e.f4.f2, .bool e.f4.f3, .bool e.f4.f4, .bool e.f4.f5, .bool e.f5, .bool raw] 52)) (.cells #[.int .i64 0, .int .i64 0, .slice none 0 0] 44)
 have hz2 : (((W).alloc (.cells #[.int .i64 (s : Int), .int .i64 (N : Int), .slice A l.length c] 44)).alloc (.cells #[.int .i64 kd, .int .i64 cx, .int .u64 (va : Int), .int .i64 e.f0, .int .i64 e.f1, .int .u64 e.f2, .int .u64 e.f3, .bool e.f4.f0, .bool e.f4.f1, .bool e.f4.f2, .bool e.f4.f3, .bool e.f4.f4, .bool e.f4.f5, .bool e.f5, .bool raw] 52)).heap.size = W.heap.size + 2 := by simp only [World.size_alloc]
 rw [hz2] at hb6
 have HG := Aside0.mk (grown_two (grown_two hgb0 hgb1) hgb2)
 have HB4 := Aside0.mk (blk_grown (blk_grown hb4 hgb1) hgb2)
 have HB5 := Aside0.mk (blk_grown hb5 hgb2)
 have HB6 := Aside0.mk hb6
 clear hgb0 hgb1 hgb2 hb4 hb5 hb6 hz1 hz2
 replace HQ := Aside0.mk (HQ.out.same HG.out)
 replace HRL := Aside0.mk (Kd.R_grown HRL.out HG.out (by simp))
 replace HG := Aside0.mk (grown_but HG.out (some mb))
 obtain ⟨h4, hh4⟩ : ∃ z, z = W.heap.size := ⟨_, rfl⟩
 obtain ⟨h5, hh5⟩ : ∃ z, z = W.heap.size + 1 := ⟨_, rfl⟩
 obtain ⟨h6, hh6⟩ : ∃ z, z = W.heap.size + 2 := ⟨_, rfl⟩
 have HH := Aside0.mk (show h4 = W.heap.size ∧ h5 = h4 + 1 ∧ h6 = h4 + 2 by omega)
 obtain ⟨q0, q1, q2⟩ := cz3q HB4.out
 obtain ⟨d0, d1, d2, d3, d4, d5, d6, d7, d8, d9, d10, d11, d12, d13, d14⟩ := cz15 HB5.out
 go_enter Try.func46, Try.ntmps46
 go_wp2_with fail
 rw [← hh4] at HB4
 rw [← hh5] at HB5
 rw [← hh6] at HB6
 rw [← hh6, ← hh5, ← hh4]
 clear hh4 hh5 hh6 q0 q1 q2 d0 d1 d2 d3 d4 d5 d6 d7 d8 d9 d10 d11 d12 d13 d14
 clear k1 k2 k3 k4 k7
 refine (puts_calls HTB.out HQ.out HDW.out HLK.out HRL.out (show B ≤ _ from Nat.le_trans HBW.out.1 HG.out.size) HBW.out.2 HNN.out.1 HNN.out.2 kd cx va raw e HWE.out).mono ?_
 rintro x0 w2 ⟨ws2, l2, A2, c2, rfl, hM, hdw, hlk, hR, hll, hg⟩
 replace HB6 := Aside0.mk ((hg.block _ (blk_lt HB6.out) (fun e => HQ.out.nb _ _ _ HB6.out (Option.some.inj e))).trans HB6.out)
 replace HG := Aside0.mk (grown_two HG.out hg)
 replace HQ := Aside0.mk hM
 have HDX := Aside0.mk (And.intro hdw (And.intro hlk hll))
 have HR2 := Aside0.mk hR
 clear hM hg hdw hlk hll hR HRL HB4 HB5
 go_wp2_with (((with_reducible refine gate_store (t := 44) (p := 6) rfl ?_); refine wpList_store_row rfl 44 (.tmp 6) (.tmp 103) rfl h6 #[.int .i64 (s : Int), .int .i64 (N : Int), .slice A2 l2.length c2] rfl rfl 44 _ HB6.out (by kernel_rfl) rfl (by kernel_rfl) ?_; have SHB6 := Aside0.mk (setRow_heap _ h6 _ #[.int .i64 (s : Int), .int .i64 (N : Int), .slice A2 l2.length c2] _ _ HB6.out); have THB6 := Aside0.mk (grown_row w2 h6 #[.int .i64 (s : Int), .int .i64 (N : Int), .slice A2 l2.length c2])))
 replace HQ := Aside0.mk (HQ.out.kept THB6.out HB6.out (by decide) (by decide) (by have := HBW.out; have := HH.out; omega))
 have HRZ := Aside0.mk (Kd.R_mono (ok' := fun _ => True) (Kd.R_grown (Kd.R_types HR2.out HB6.out (by decide)) THB6.out (fun k hk e => hk.2 (Option.some.inj e))) (fun _ _ => trivial))
 replace HG := Aside0.mk (grown_loc HG.out THB6.out (by have := HH.out; omega))
 obtain ⟨q0, q1, q2⟩ := cz3q SHB6.out
 exact bodyPost_ret (v := .tuple #[.agg #[.int .i64 (s : Int), .int .i64 (N : Int), .slice A2 l2.length c2], .bool true]) (by simp [results, Try.f46, go_sem, q0, q1, q2]) rfl ⟨_, _, _, _, rfl, HQ.out, HDX.out.1, HDX.out.2.1, HRZ.out, HDX.out.2.2, HG.out⟩
/-- Any deed. -/
theorem does_any {B : Nat} {w0 W : World} {p mb pt : Nat} {sz : Int} {base N s n : Nat} {grade : Int} {ws : Nat → Wd} {l : List WS} {A : Option Addr} {c : Nat} (b : TB base N s sz) (hQ : QW B w0 p mb pt sz base N s grade n ws W) (hdw : DWw N ws l) (hlk : LOK N l) (hR : Kd.R k122 122 W B (fun _ => True) (.slice A l.length c) (l)) (hB : B ≤ W.heap.size) (hmb : B ≤ mb) (hn : n ≤ 300000) (hl : l.length ≤ 1000) (kd cx va : Int) (raw : Bool) (e : Ent) (he : EntW e) (hva : (Lit.int .u64 va).wf = true) :
  Calls Try.prog 46 #[.pointer (some ⟨pt, 0, none⟩), .agg #[.int .i64 (s : Int), .int .i64 (N : Int), .slice A l.length c], .agg #[.int .i64 kd, .int .i64 cx, .int .u64 va, .int .i64 e.f0, .int .i64 e.f1, .int .u64 e.f2, .int .u64 e.f3, .bool e.f4.f0, .bool e.f4.f1, .bool e.f4.f2, .bool e.f4.f3, .bool e.f4.f4, .bool e.f4.f5, .bool e.f5, .bool raw]] W fun x W' => ∃ ws' l' A' c', x = .returned (.tuple #[.agg #[.int .i64 (s : Int), .int .i64 (N : Int), .slice A' l'.length c'], .bool true]) ∧ QW B w0 p mb pt sz base N s grade (n + 2 * N + 3) ws' W' ∧ DWw N ws' l' ∧ LOK N l' ∧ Kd.R k122 122 W' B (fun _ => True) (.slice A' l'.length c') (l') ∧ l'.length ≤ l.length + 3 ∧ W.grownBy W' (some mb) := by
 cases k1 : (kd == 1)
 case' true =>
  obtain rfl := eq_of_beq k1
  exact does_find b hQ hdw hlk hR hB hmb hn hl cx va raw e he hva
 cases k2 : (kd == 2)
 case' true =>
  obtain rfl := eq_of_beq k2
  exact does_drop b hQ hdw hlk hR hB hmb hn hl cx va raw e he hva
 cases k3 : (kd == 3)
 case' true =>
  obtain rfl := eq_of_beq k3
  exact does_ctx b hQ hdw hlk hR hB hmb hn hl cx va raw e he hva
 cases k4 : (kd == 4)
 case' true =>
  obtain rfl := eq_of_beq k4
  exact does_lock b hQ hdw hlk hR hB hmb hn hl cx va raw e he hva
 cases k7 : (kd == 7)
 case' true =>
  obtain rfl := eq_of_beq k7
  exact does_clear b hQ hdw hlk hR hB hmb hn hl cx va raw e he hva
 exact does_put b hQ hdw hlk hR hB hmb hn hl kd k1 k2 k3 k4 k7 cx va raw e he hva
end
end Go.Proofs.Ytjnffegjpkbjmaa.Mem
-- halved
