/- A deed of frames that gives what was taken: done to frames, and to the document's; at whatever numbers. -/
import Derived.Test.YtlndljgoliepdaaFrDo
namespace Go.Proofs.Ytlndljgoliepdaa.QFramesPlays
open Go.RowKit Go.Proofs.YtlndljgoliepdaaW.PrintWords Go.Proofs.YtlndljgoliepdaaW.PrintLast Go.Proofs.YtlndljgoliepdaaW.PrintMore
set_option linter.unusedSimpArgs false
set_option linter.unusedVariables false
section
set_option maxHeartbeats 4000000
set_option maxRecDepth 100000
theorem doF_30 {w0 Wc : World} {p r : Nat} {o : Option Nat} {X : Nat → Prop} {ts : List Bool} {A : Option Addr} {c : Nat} {tA : Option Addr} {tc : Nat} {tl : List (Nat × Nat)} {W : World} {n : Nat} (h : PF w0 Wc p r o X ts (tk ts) A c tA tc tl W) (hn : ts.length = n) (hlow : Low tl) (hm : tl.length ≤ 1000) (a b : Int) (ha : (Lit.int .i64 a).wf = true) (hb : (Lit.int .i64 b).wf = true) (h0 : tl.length = 0) :
    Calls Try.prog 41 #[.pointer (some ⟨p, 0, none⟩), .agg #[.int .i64 n, .slice A (tk ts).length c], .slice tA tl.length tc, .agg #[.int .i64 3, .int .i64 a, .int .i64 b]] W (DidF w0 W p r n tl.length X (tv tA tc tl).ownBlock) := by
  have h0b : ((tl.length : Int) == 0) = true := by rw [h0]; rfl
  clear h0
  have hu := Try.underlying59
  have hu2 := Try.underlying77
  have hu3 := Try.underlying68
  have hu4 := Try.underlying70
  obtain ⟨i0, hi0, hz0, hz1, hz2⟩ := info_parts infoTaken
  have HI0 := Aside0.mk (And.intro hi0 (And.intro hz0 (And.intro hz1 hz2)))
  clear hi0 hz0 hz1 hz2
  have hb3 := box3 W #[.int .i64 n, .slice A (tk ts).length c] #[.int .i64 3, .int .i64 a, .int .i64 b] #[.int .i64 0, .slice none 0 0] 59 77 59
  have hlt := blk_lt hb3.2.2.1
  obtain ⟨N0, hN0⟩ : ∃ N0, N0 = W.heap.size := ⟨_, rfl⟩
  have HB5 := Aside0.mk hb3.1
  have HB7 := Aside0.mk hb3.2.1
  have HB8 := Aside0.mk hb3.2.2.1
  have HP := Aside0.mk (PF.al (Y := fun k => X k ∨ k = W.heap.size ∨ k = W.heap.size + 1 ∨ k = W.heap.size + 1 + 1) h.begin hb3.2.2.2 (fun k hk => hk.elim .inl (fun q => .inr ⟨by omega, by omega⟩)))
  have HK := Aside0.mk (show N0 ≤ W.heap.size ∧ W.heap.size < W.heap.size + 1 ∧ W.heap.size + 1 < W.heap.size + 1 + 1 from ⟨by omega, by omega, by omega⟩)
  have HN0 := Aside0.mk hN0
  have HN := Aside0.mk hn
  have HLT := Aside0.mk (show ts.length ≤ 65536 from h.fs.len)
  have HLOW := Aside0.mk hlow
  have HWA := Aside0.mk ha
  have HWB := Aside0.mk hb
  have hn2 : n ≤ 65536 := by rw [← hn]; exact h.fs.len
  clear h hn hlow ha hb hb3 hlt hN0
  obtain ⟨q0, q1⟩ := cz2 HB5.out
  obtain ⟨y0, y1, y2⟩ := cz3 HB7.out
  go_enter Try.func41, Try.ntmps41
  go_wp2_with (first | ((with_reducible refine gate_store (t := 59) (p := 8) rfl ?_); refine wpList_store_row rfl 59 (.tmp 8) (.tmp 112) rfl (W.heap.size + 1 + 1) #[.int .i64 n, .slice A (tk ts).length c] rfl rfl 59 _ HB8.out (by kernel_rfl) rfl (by kernel_rfl) ?_; have SHB8 := Aside0.mk (setRow_heap _ (W.heap.size + 1 + 1) _ #[.int .i64 n, .slice A (tk ts).length c] _ _ HB8.out); have THB8 := Aside0.mk (grown_row (((W.alloc (.cells #[.int .i64 n, .slice A (tk ts).length c] 59)).alloc (.cells #[.int .i64 3, .int .i64 a, .int .i64 b] 77)).alloc (.cells #[.int .i64 0, .slice none 0 0] 59)) (W.heap.size + 1 + 1) #[.int .i64 n, .slice A (tk ts).length c])))
  replace HP := Aside0.mk (PF.put (g := W.heap.size + 1 + 1) HP.out (.inr (.inr (.inr rfl))) (by omega) THB8.out)
  clear q0 q1 y0 y1 y2 THB8
  generalize World.setRow (((W.alloc (.cells #[.int .i64 n, .slice A (tk ts).length c] 59)).alloc (.cells #[.int .i64 3, .int .i64 a, .int .i64 b] 77)).alloc (.cells #[.int .i64 0, .slice none 0 0] 59)) (W.heap.size + 1 + 1) #[.int .i64 n, .slice A (tk ts).length c] = we at SHB8 HP ⊢
  generalize W.heap.size + 1 + 1 = h8 at SHB8 HP ⊢
  obtain ⟨q0, q1⟩ := cz2 SHB8.out
  exact bodyPost_ret (v := .tuple #[.agg #[.int .i64 n, .slice A (tk ts).length c], .slice tA tl.length tc, .bool true]) (by simp [results, Try.f41, go_sem, q0, q1]) rfl ⟨_, _, _, _, _, _, rfl, HP.out.drop (fun k hk => .inl hk), HN.out, by omega, HLOW.out⟩
noncomputable def dof25_T : Bool × List (List Nat × List Nat) := rtab .any (opsOf Try.f41 25)
theorem dof25_tab : rtab .any (opsOf Try.f41 25) = dof25_T := rfl
theorem doF_31 {w0 Wc : World} {p r : Nat} {o : Option Nat} {X : Nat → Prop} {ts : List Bool} {A : Option Addr} {c : Nat} {tA : Option Addr} {tc : Nat} {tl : List (Nat × Nat)} {W : World} {n : Nat} (h : PF w0 Wc p r o X ts (tk ts) A c tA tc tl W) (hn : ts.length = n) (hlow : Low tl) (hm : tl.length ≤ 1000) (a b : Int) (ha : (Lit.int .i64 a).wf = true) (hb : (Lit.int .i64 b).wf = true) (h0 : 0 < tl.length) :
    Calls Try.prog 41 #[.pointer (some ⟨p, 0, none⟩), .agg #[.int .i64 n, .slice A (tk ts).length c], .slice tA tl.length tc, .agg #[.int .i64 3, .int .i64 a, .int .i64 b]] W (DidF w0 W p r n tl.length X (tv tA tc tl).ownBlock) := by
  have h0b : ((tl.length : Int) == 0) = false := beq_eq_false_iff_ne.2 (by omega)
  have hu := Try.underlying59
  have hu2 := Try.underlying77
  have hu3 := Try.underlying68
  have hu4 := Try.underlying70
  obtain ⟨i0, hi0, hz0, hz1, hz2⟩ := info_parts infoTaken
  have HI0 := Aside0.mk (And.intro hi0 (And.intro hz0 (And.intro hz1 hz2)))
  clear hi0 hz0 hz1 hz2
  have hb3 := box3 W #[.int .i64 n, .slice A (tk ts).length c] #[.int .i64 3, .int .i64 a, .int .i64 b] #[.int .i64 0, .slice none 0 0] 59 77 59
  have hlt := blk_lt hb3.2.2.1
  obtain ⟨N0, hN0⟩ : ∃ N0, N0 = W.heap.size := ⟨_, rfl⟩
  have HB5 := Aside0.mk hb3.1
  have HB7 := Aside0.mk hb3.2.1
  have HB8 := Aside0.mk hb3.2.2.1
  have HP := Aside0.mk (PF.al (Y := fun k => X k ∨ k = W.heap.size ∨ k = W.heap.size + 1 ∨ k = W.heap.size + 1 + 1) h.begin hb3.2.2.2 (fun k hk => hk.elim .inl (fun q => .inr ⟨by omega, by omega⟩)))
  have HK := Aside0.mk (show N0 ≤ W.heap.size ∧ W.heap.size < W.heap.size + 1 ∧ W.heap.size + 1 < W.heap.size + 1 + 1 from ⟨by omega, by omega, by omega⟩)
  have HN0 := Aside0.mk hN0
  have HN := Aside0.mk hn
  have HLT := Aside0.mk (show ts.length ≤ 65536 from h.fs.len)
  have HLOW := Aside0.mk hlow
  have HWA := Aside0.mk ha
  have HWB := Aside0.mk hb
  have hn2 : n ≤ 65536 := by rw [← hn]; exact h.fs.len
  clear h hn hlow ha hb hb3 hlt hN0
  obtain ⟨q0, q1⟩ := cz2 HB5.out
  obtain ⟨y0, y1, y2⟩ := cz3 HB7.out
  go_enter Try.func41, Try.ntmps41
  go_wp2_with fail
  generalize W.heap.size + 1 + 1 = h8 at HB8 HP HK ⊢
  generalize W.heap.size + 1 = h7 at HB7 HP HK ⊢
  generalize W.heap.size = h5 at HB5 HP HK ⊢
  refine (place_any b tl.length HWB.out (by omega) _).mono ?_
  rintro x0 wn ⟨k, rfl, -, hk2, hg⟩
  replace HB5 := Aside0.mk (blk_own HB5.out hg (by simp))
  replace HB7 := Aside0.mk (blk_own HB7.out hg (by simp))
  replace HB8 := Aside0.mk (blk_own HB8.out hg (by simp))
  replace HP := Aside0.mk (HP.out.same hg)
  clear hg
  clear q0 q1 y0 y1 y2
  obtain ⟨q0, q1⟩ := cz2 HB5.out
  obtain ⟨y0, y1, y2⟩ := cz3 HB7.out
  have hk3 : k < tl.length := by omega
  have hk0 : (0 : Int) ≤ (k : Int) := by omega
  obtain ⟨g, rfl, c1, c2⟩ := HP.out.tr.at k hk3
  have hmem : tl.getD k (0, 0) ∈ tl := by simp [List.getD, hk3]
  generalize tl.getD k (0, 0) = y at hmem c1 c2
  obtain ⟨f, m⟩ := y
  simp only at c1 c2
  have HT := Aside0.mk (show lookasideref05_Give.f 200000 (n : Int) (tk ts) (f : Nat) (m : Nat) = some ((n : Int), tk (giveOf ts (f : Nat) (m : Nat)).2, (giveOf ts (f : Nat) (m : Nat)).1) from by rw [← HN.out]; exact give_tk HLT.out _ _)
  clear hmem
  go_wp2_with (first | ((with_reducible refine gate_dst (N := 19) rfl ?_); refine box_event ?hg (N := 19) ?hd (cs := #[.int .i64 0, .int .i64 0]) (t := 70) ?hr ?_; (case hd => rfl); (case hg => rfl); (case hr => first | (go_simp; done) | (go_simp; rfl)); intro h12 hgb w4 hbox hb; have HC := Aside0.mk hbox; have GHC := Aside0.mk (below_grown hb); have LHC := Aside0.mk (Nat.le_of_eq hgb.symm); clear hgb hbox hb) | ((with_reducible refine gate_store (t := 70) (p := 19) rfl ?_); refine wpList_store_row rfl 70 (.tmp 19) (.tmp 121) rfl h12 #[.int .i64 (f : Nat), .int .i64 (m : Nat)] rfl rfl 70 _ HC.out (by kernel_rfl) rfl (by kernel_rfl) ?_; have SHC := Aside0.mk (setRow_heap _ h12 _ #[.int .i64 (f : Nat), .int .i64 (m : Nat)] _ _ HC.out); have THC := Aside0.mk (grown_row w4 h12 #[.int .i64 (f : Nat), .int .i64 (m : Nat)]); have HK_h12 := Aside0.mk (show N0 ≤ h12 ∧ h5 ≠ h12 ∧ h7 ≠ h12 ∧ h8 ≠ h12 from ⟨by have := blk_lt HB5.out; have := LHC.out; have := HK.out; omega, by have := blk_lt HB5.out; have := LHC.out; omega, by have := blk_lt HB7.out; have := LHC.out; omega, by have := blk_lt HB8.out; have := LHC.out; omega⟩); have HPn := Aside0.mk (HP.out.box (Y := fun k => X k ∨ k = h5 ∨ k = h7 ∨ k = h8 ∨ k = h12) GHC.out LHC.out (blk_lt HC.out) y12 (.inr (.inr (.inr (.inr rfl)))) (by rw [← HN0.out]; exact HK_h12.out.1) THC.out); clear HP; have HP := HPn; clear HPn; replace HB5 := Aside0.mk (blk_own (blk_own HB5.out GHC.out (by simp)) THC.out (fun e => HK_h12.out.2.1 (Option.some.inj e))); replace HB7 := Aside0.mk (blk_own (blk_own HB7.out GHC.out (by simp)) THC.out (fun e => HK_h12.out.2.2.1 (Option.some.inj e))); replace HB8 := Aside0.mk (blk_own (blk_own HB8.out GHC.out (by simp)) THC.out (fun e => HK_h12.out.2.2.2 (Option.some.inj e))); have HB12 := Aside0.mk SHC.out; generalize World.setRow w4 h12 #[.int .i64 (f : Nat), .int .i64 (m : Nat)] = w5 at HP HB5 HB7 HB8 HB12 ⊢; clear HC GHC LHC SHC THC; clear q0 q1 y0 y1 y2; obtain ⟨q0, q1⟩ := cz2 HB5.out; obtain ⟨y0, y1, y2⟩ := cz3 HB7.out; clear c1 c2; obtain ⟨z0, z1⟩ := cz2 HB12.out))
  refine (lookasideref05_Give.calls 200000 n _ A c (tk ts) (f : Nat) (m : Nat) _ _ _ _ HP.out.v HT.out).mono ?_
  rintro x0 wn ⟨v1, rfl, hV, hb⟩
  obtain ⟨A2, c2, rfl⟩ := Kd.V_slice hV
  have hg := below_grown hb
  replace HB5 := Aside0.mk (blk_own HB5.out hg (by simp))
  replace HB7 := Aside0.mk (blk_own HB7.out hg (by simp))
  replace HB8 := Aside0.mk (blk_own HB8.out hg (by simp))
  replace HB12 := Aside0.mk (blk_own HB12.out hg (by simp))
  replace HP := Aside0.mk (HP.out.ref hb hV)
  clear hg hb hV z0 z1
  clear q0 q1 y0 y1 y2
  obtain ⟨q0, q1⟩ := cz2 HB5.out
  obtain ⟨y0, y1, y2⟩ := cz3 HB7.out
  go_wp2_with (first | ((with_reducible refine gate_dst (N := 20) rfl ?_); refine box_event ?hg (N := 20) ?hd (cs := #[.int .i64 0, .slice none 0 0]) (t := 59) ?hr ?_; (case hd => rfl); (case hg => rfl); (case hr => first | (go_simp; done) | (go_simp; rfl)); intro h20 hgb w4 hbox hb; have HC := Aside0.mk hbox; have GHC := Aside0.mk (below_grown hb); have LHC := Aside0.mk (Nat.le_of_eq hgb.symm); clear hgb hbox hb) | ((with_reducible refine gate_store (t := 59) (p := 20) rfl ?_); refine wpList_store_row rfl 59 (.tmp 20) (.tmp 129) rfl h20 #[.int .i64 n, .slice A2 (tk (giveOf ts (f : Nat) (m : Nat)).2).length c2] rfl rfl 59 _ HC.out (by kernel_rfl) rfl (by kernel_rfl) ?_; have SHC := Aside0.mk (setRow_heap _ h20 _ #[.int .i64 n, .slice A2 (tk (giveOf ts (f : Nat) (m : Nat)).2).length c2] _ _ HC.out); have THC := Aside0.mk (grown_row w4 h20 #[.int .i64 n, .slice A2 (tk (giveOf ts (f : Nat) (m : Nat)).2).length c2]); have HK_h20 := Aside0.mk (show N0 ≤ h20 ∧ h5 ≠ h20 ∧ h7 ≠ h20 ∧ h8 ≠ h20 ∧ h12 ≠ h20 from ⟨by have := blk_lt HB5.out; have := LHC.out; have := HK.out; omega, by have := blk_lt HB5.out; have := LHC.out; omega, by have := blk_lt HB7.out; have := LHC.out; omega, by have := blk_lt HB8.out; have := LHC.out; omega, by have := blk_lt HB12.out; have := LHC.out; omega⟩); have HPn := Aside0.mk (HP.out.box (Y := fun k => (X k ∨ k = h5 ∨ k = h7 ∨ k = h8 ∨ k = h12) ∨ k = h20) GHC.out LHC.out (blk_lt HC.out) (fun _ h => h) (.inr rfl) (by rw [← HN0.out]; exact HK_h20.out.1) THC.out); clear HP; have HP := HPn; clear HPn; replace HB5 := Aside0.mk (blk_own (blk_own HB5.out GHC.out (by simp)) THC.out (fun e => HK_h20.out.2.1 (Option.some.inj e))); replace HB7 := Aside0.mk (blk_own (blk_own HB7.out GHC.out (by simp)) THC.out (fun e => HK_h20.out.2.2.1 (Option.some.inj e))); replace HB8 := Aside0.mk (blk_own (blk_own HB8.out GHC.out (by simp)) THC.out (fun e => HK_h20.out.2.2.2.1 (Option.some.inj e))); replace HB12 := Aside0.mk (blk_own (blk_own HB12.out GHC.out (by simp)) THC.out (fun e => HK_h20.out.2.2.2.2 (Option.some.inj e))); have HB20 := Aside0.mk SHC.out; generalize World.setRow w4 h20 #[.int .i64 n, .slice A2 (tk (giveOf ts (f : Nat) (m : Nat)).2).length c2] = w5 at HP HB5 HB7 HB8 HB12 HB20 ⊢; clear HC GHC LHC SHC THC; clear q0 q1 y0 y1 y2; obtain ⟨q0, q1⟩ := cz2 HB5.out; obtain ⟨y0, y1, y2⟩ := cz3 HB7.out))
  clear q0 q1 y0 y1 y2
  have hg := grown_drew w5 none
  replace HB5 := Aside0.mk (blk_own HB5.out hg (by simp))
  replace HB7 := Aside0.mk (blk_own HB7.out hg (by simp))
  replace HB8 := Aside0.mk (blk_own HB8.out hg (by simp))
  replace HB12 := Aside0.mk (blk_own HB12.out hg (by simp))
  replace HB20 := Aside0.mk (blk_own HB20.out hg (by simp))
  replace HP := Aside0.mk (HP.out.same hg)
  clear hg
  refine start_ (n := 13) (S := fun w' => w'.heap[h20]? = some (.cells #[.int .i64 n, .slice A2 (tk (giveOf ts (f : Nat) (m : Nat)).2).length c2] 59 (0, 0)) ∧ w'.heap[h12]? = some (.cells #[.int .i64 (f : Nat), .int .i64 (m : Nat)] 70 (0, 0)) ∧ w'.heap[h8]? = some (.cells #[.int .i64 0, .slice none 0 0] 59 (0, 0))) (ds := [10]) #[false, false, false, false, false, false, false, false, false, false, false, false, false] (by kernel_rfl) rfl rfl ⟨HB20.out, HB12.out, HB8.out⟩ (fun hHeld => ?_)
  refine with_tab dof25_tab (fun HT_ => ?_)
  refine pure_ (i := 1) (N := some 132) (v := ?_) (a' := ?_) #[false, true, false, false, false, false, false, false, false, false, false, false, false] rfl rfl (any_of HT_.out (by kernel_rfl)) (fun _ _ _ h => h) (Or.inl ⟨by rfl, ?_⟩) ?_ ?_
  rotate_left
  · intro w'
    go_simp
    with_reducible rfl
  rotate_left
  · simp only [Act.put, List.setIfInBounds_toArray, List.set_cons_zero, List.set_cons_succ, i64_w, i32_w]
    rfl
  refine pure_ (i := 2) (N := some 133) (v := ?_) (a' := ?_) #[false, true, true, false, false, false, false, false, false, false, false, false, false] rfl rfl (any_of HT_.out (by kernel_rfl)) (fun _ _ _ h => h) (Or.inl ⟨by rfl, ?_⟩) ?_ ?_
  rotate_left
  · intro w'
    go_simp
    with_reducible rfl
  rotate_left
  · simp only [Act.put, List.setIfInBounds_toArray, List.set_cons_zero, List.set_cons_succ, i64_w, i32_w]
    rfl
  refine pure_ (i := 3) (N := some 134) (v := ?_) (a' := ?_) #[false, true, true, true, false, false, false, false, false, false, false, false, false] rfl rfl (any_of HT_.out (by kernel_rfl)) (fun _ _ _ h => h) (Or.inl ⟨by rfl, ?_⟩) ?_ ?_
  rotate_left
  · intro w'
    go_simp
    with_reducible rfl
  rotate_left
  · simp only [Act.put, List.setIfInBounds_toArray, List.set_cons_zero, List.set_cons_succ, i64_w, i32_w]
    rfl
  refine pure_ (i := 5) (N := some 136) (v := ?_) (a' := ?_) #[false, true, true, true, false, true, false, false, false, false, false, false, false] rfl rfl (any_of HT_.out (by kernel_rfl)) (fun _ _ _ h => h) (Or.inl ⟨by rfl, ?_⟩) ?_ ?_
  rotate_left
  · intro w'
    go_simp
    with_reducible rfl
  rotate_left
  · simp only [Act.put, List.setIfInBounds_toArray, List.set_cons_zero, List.set_cons_succ, i64_w, i32_w]
    rfl
  refine pure_ (i := 8) (N := some 139) (v := ?_) (a' := ?_) #[false, true, true, true, false, true, false, false, true, false, false, false, false] rfl rfl (any_of HT_.out (by kernel_rfl)) (fun _ _ _ h => h) (Or.inl ⟨by rfl, ?_⟩) ?_ ?_
  rotate_left
  · intro w'
    go_simp
    with_reducible rfl
  rotate_left
  · simp only [Act.put, List.setIfInBounds_toArray, List.set_cons_zero, List.set_cons_succ, i64_w, i32_w]
    rfl
  refine take_ (i := 0) (N := some 131) (v := .agg #[.int .i64 n, .slice A2 (tk (giveOf ts (f : Nat) (m : Nat)).2).length c2]) (a' := ?_) #[true, true, true, true, false, true, false, false, true, false, false, false, false] rfl rfl (take_of HT_.out (by kernel_rfl)) (fun _ _ _ h => h) (Or.inl ⟨by rfl, ?_⟩) hHeld ?_ ?_
  · rintro w' ⟨s1, s2, s3⟩
    obtain ⟨q0, q1⟩ := cz2 s1
    go_simp
  rotate_left
  · simp only [Act.put, List.setIfInBounds_toArray, List.set_cons_zero, List.set_cons_succ, i64_w, i32_w]
    rfl
  refine take_ (i := 4) (N := some 135) (v := .int .i64 (f : Nat)) (a' := ?_) #[true, true, true, true, true, true, false, false, true, false, false, false, false] rfl rfl (take_of HT_.out (by kernel_rfl)) (fun _ _ _ h => h) (Or.inl ⟨by rfl, ?_⟩) hHeld ?_ ?_
  · rintro w' ⟨s1, s2, s3⟩
    obtain ⟨z0, z1⟩ := cz2 s2
    go_simp
  rotate_left
  · simp only [Act.put, List.setIfInBounds_toArray, List.set_cons_zero, List.set_cons_succ, i64_w, i32_w]
    rfl
  refine take_ (i := 6) (N := some 137) (v := .int .i64 (m : Nat)) (a' := ?_) #[true, true, true, true, true, true, true, false, true, false, false, false, false] rfl rfl (take_of HT_.out (by kernel_rfl)) (fun _ _ _ h => h) (Or.inl ⟨by rfl, ?_⟩) hHeld ?_ ?_
  · rintro w' ⟨s1, s2, s3⟩
    obtain ⟨z0, z1⟩ := cz2 s2
    go_simp
  rotate_left
  · simp only [Act.put, List.setIfInBounds_toArray, List.set_cons_zero, List.set_cons_succ, i64_w, i32_w]
    rfl
  refine one_ (i := 7) (N := some 138) #[true, true, true, true, true, true, true, true, true, false, false, false, false] rfl rfl (one_of HT_.out (by kernel_rfl)) (by decide) (fun K hK => ?_)
  refine goes_ Try.func38 (by kernel_rfl) rfl #[.pointer (some ⟨p, 0, none⟩), .int .i64 (f : Nat), .int .i64 (m : Nat)] (by rfl) rfl rfl (by (try simp only [List.map_toArray, List.map_cons, List.map_nil]); first | done | rfl) ?_
  refine (fs_give HP.out.fs (f : Nat) (m : Nat)).mono ?_
  rintro x0 wn ⟨rfl, hf, hk⟩
  have hs : wn.heap[h20]? = some (.cells #[.int .i64 n, .slice A2 (tk (giveOf ts (f : Nat) (m : Nat)).2).length c2] 59 (0, 0)) ∧ wn.heap[h12]? = some (.cells #[.int .i64 (f : Nat), .int .i64 (m : Nat)] 70 (0, 0)) ∧ wn.heap[h8]? = some (.cells #[.int .i64 0, .slice none 0 0] 59 (0, 0)) := ⟨blk_frk hHeld.1 hk ⟨(HP.out.xs h20 (.inr rfl)).1, (HP.out.xs h20 (.inr rfl)).2.1⟩, blk_frk hHeld.2.1 hk ⟨(HP.out.xs h12 (.inl (.inr (.inr (.inr (.inr rfl)))))).1, (HP.out.xs h12 (.inl (.inr (.inr (.inr (.inr rfl)))))).2.1⟩, blk_frk hHeld.2.2 hk ⟨(HP.out.xs h8 (.inl (.inr (.inr (.inr (.inl rfl)))))).1, (HP.out.xs h8 (.inl (.inr (.inr (.inr (.inl rfl)))))).2.1⟩⟩
  replace HP := Aside0.mk (HP.out.frk hf hk)
  clear hf hk
  refine ⟨_, rfl, ?_⟩
  refine hK.out _ _ hs (fun hHeld => ?_)
  clear hK K
  refine norm_ (a' := ?_) ?_ ?_
  rotate_left
  · show Act.put _ (some 138) _ = _
    simp only [Act.put, List.setIfInBounds_toArray, List.set_cons_zero, List.set_cons_succ, i64_w, i32_w]
    rfl
  refine pure_ (i := 9) (N := some 140) (v := .bool true) (a' := ?_) #[true, true, true, true, true, true, true, true, true, true, false, false, false] rfl rfl (any_of HT_.out (by kernel_rfl)) (fun _ _ _ h => h) (Or.inl ⟨by rfl, ?_⟩) ?_ ?_
  · intro w'
    go_simp
  rotate_left
  · simp only [Act.put, List.setIfInBounds_toArray, List.set_cons_zero, List.set_cons_succ, i64_w, i32_w]
    rfl
  refine last_ (i := 10) (N := none) #[true, true, true, true, true, true, true, true, true, true, true, false, false] rfl rfl (one_of HT_.out (by kernel_rfl)) (by decide) (fun K hK => ?_)
  rw [if_pos (by rfl)]
  refine wp_store_row 59 (.tmp 8) (.tmp 131) rfl h8 #[.int .i64 n, .slice A2 (tk (giveOf ts (f : Nat) (m : Nat)).2).length c2] rfl rfl 59 #[.int .i64 0, .slice none 0 0] hHeld.2.2 (by kernel_rfl) rfl (by kernel_rfl) ?_
  have hb2 := setRow_heap wn h8 _ #[.int .i64 n, .slice A2 (tk (giveOf ts (f : Nat) (m : Nat)).2).length c2] _ _ hHeld.2.2
  have hgr := grown_row wn h8 #[.int .i64 n, .slice A2 (tk (giveOf ts (f : Nat) (m : Nat)).2).length c2]
  generalize World.setRow wn h8 #[.int .i64 n, .slice A2 (tk (giveOf ts (f : Nat) (m : Nat)).2).length c2] = we at hb2 hgr ⊢
  have HBE := Aside0.mk hb2
  have HGE := Aside0.mk hgr
  clear hb2 hgr
  refine hK.out _ _ ?_
  clear hK K
  refine pure_ (i := 11) (N := some 9) (v := ?_) (a' := ?_) #[true, true, true, true, true, true, true, true, true, true, true, true, false] rfl rfl (any_of HT_.out (by kernel_rfl)) (fun _ _ _ h => h) (Or.inl ⟨by rfl, ?_⟩) ?_ ?_
  rotate_left
  · intro w'
    go_simp
    with_reducible rfl
  rotate_left
  · simp only [Act.put, List.setIfInBounds_toArray, List.set_cons_zero, List.set_cons_succ, i64_w, i32_w]
    rfl
  refine pure_ (i := 12) (N := some 10) (v := ?_) (a' := ?_) #[true, true, true, true, true, true, true, true, true, true, true, true, true] rfl rfl (any_of HT_.out (by kernel_rfl)) (fun _ _ _ h => h) (Or.inl ⟨by rfl, ?_⟩) ?_ ?_
  rotate_left
  · intro w'
    go_simp
    with_reducible rfl
  rotate_left
  · simp only [Act.put, List.setIfInBounds_toArray, List.set_cons_zero, List.set_cons_succ, i64_w, i32_w]
    rfl
  refine done_ (done_of HT_.out (by kernel_rfl)) ?_
  replace HP := Aside0.mk (PF.put (g := h8) HP.out (.inl (.inr (.inr (.inr (.inl rfl))))) (by rw [← HN0.out]; have := HK.out; omega) HGE.out)
  obtain ⟨q0, q1⟩ := cz2 HBE.out
  go_wp2
  exact bodyPost_ret (v := .tuple #[.agg #[.int .i64 n, .slice A2 (tk (giveOf ts (f : Nat) (m : Nat)).2).length c2], .slice (some ⟨g, 0, none⟩) tl.length tc, .bool true]) (by simp [results, Try.f41, go_sem, q0, q1]) rfl ⟨_, _, _, _, _, _, rfl, HP.out.drop (fun k hk => .inl (.inl hk)), (giveOf_len _ _ _).trans HN.out, by omega, HLOW.out⟩
end
end Go.Proofs.Ytlndljgoliepdaa.QFramesPlays
