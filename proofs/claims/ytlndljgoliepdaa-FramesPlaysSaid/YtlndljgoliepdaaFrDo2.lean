/- Deeds of frames that give, that ask: done to frames, and to the document's; at whatever numbers. -/
import Derived.Test.YtlndljgoliepdaaFrDo
namespace Go.Proofs.Ytlndljgoliepdaa.QFramesPlays
open Go.RowKit Go.Proofs.YtlndljgoliepdaaW.PrintWords Go.Proofs.YtlndljgoliepdaaW.PrintLast Go.Proofs.YtlndljgoliepdaaW.PrintMore
set_option linter.unusedSimpArgs false
set_option linter.unusedVariables false
section
set_option maxHeartbeats 4000000
set_option maxRecDepth 100000
noncomputable def dof19_T : Bool × List (List Nat × List Nat) := rtab .any (opsOf Try.f41 19)
theorem dof19_tab : rtab .any (opsOf Try.f41 19) = dof19_T := rfl
theorem doF_2 {w0 Wc : World} {p r : Nat} {o : Option Nat} {X : Nat → Prop} {ts : List Bool} {A : Option Addr} {c : Nat} {tA : Option Addr} {tc : Nat} {tl : List (Nat × Nat)} {W : World} {n : Nat} (h : PF w0 Wc p r o X ts (tk ts) A c tA tc tl W) (hn : ts.length = n) (hlow : Low tl) (hm : tl.length ≤ 1000) (a b : Int) (ha : (Lit.int .i64 a).wf = true) (hb : (Lit.int .i64 b).wf = true) :
    Calls Try.prog 41 #[.pointer (some ⟨p, 0, none⟩), .agg #[.int .i64 n, .slice A (tk ts).length c], .slice tA tl.length tc, .agg #[.int .i64 2, .int .i64 a, .int .i64 b]] W (DidF w0 W p r n tl.length X (tv tA tc tl).ownBlock) := by
  have HT := Aside0.mk (show lookasideref05_Give.f 200000 (n : Int) (tk ts) b a = some ((n : Int), tk (giveOf ts b a).2, (giveOf ts b a).1) from by subst hn; exact give_tk h.fs.len b a)
  have hu := Try.underlying59
  have hu2 := Try.underlying77
  have hu3 := Try.underlying68
  have hu4 := Try.underlying70
  obtain ⟨i0, hi0, hz0, hz1, hz2⟩ := info_parts infoTaken
  have HI0 := Aside0.mk (And.intro hi0 (And.intro hz0 (And.intro hz1 hz2)))
  clear hi0 hz0 hz1 hz2
  have hb3 := box3 W #[.int .i64 n, .slice A (tk ts).length c] #[.int .i64 2, .int .i64 a, .int .i64 b] #[.int .i64 0, .slice none 0 0] 59 77 59
  have hlt := blk_lt hb3.2.2.1
  obtain ⟨N0, hN0⟩ : ∃ N0, N0 = W.heap.size := ⟨_, rfl⟩
  have HB5 := Aside0.mk hb3.1
  have HB7 := Aside0.mk hb3.2.1
  have HB8 := Aside0.mk hb3.2.2.1
  have HP := Aside0.mk (PF.al (Y := fun k => X k ∨ k = W.heap.size ∨ k = W.heap.size + 1 ∨ k = W.heap.size + 1 + 1) h.begin hb3.2.2.2 (fun k hk => hk.elim .inl (fun q => .inr ⟨by omega, by omega⟩)))
  have HK := Aside0.mk (show N0 ≤ W.heap.size ∧ W.heap.size < W.heap.size + 1 ∧ W.heap.size + 1 < W.heap.size + 1 + 1 from ⟨by omega, by omega, by omega⟩)
  have HN0 := Aside0.mk hN0
  have HN := Aside0.mk hn
  have HLT := Aside0.mk (show ts.length ≤ 65536 from h.fs.len)
  have HLOW := Aside0.mk hlow
  have HWA := Aside0.mk ha
  have HWB := Aside0.mk hb
  have hn2 : n ≤ 65536 := by rw [← hn]; exact h.fs.len
  clear h hn hlow ha hb hb3 hlt hN0
  obtain ⟨q0, q1⟩ := cz2 HB5.out
  obtain ⟨y0, y1, y2⟩ := cz3 HB7.out
  go_enter Try.func41, Try.ntmps41
  go_wp2_with fail
  generalize W.heap.size + 1 + 1 = h8 at HB8 HP HK ⊢
  generalize W.heap.size + 1 = h7 at HB7 HP HK ⊢
  generalize W.heap.size = h5 at HB5 HP HK ⊢
  refine (lookasideref05_Give.calls 200000 n _ A c (tk ts) b a _ _ _ _ HP.out.v HT.out).mono ?_
  rintro x0 wn ⟨v1, rfl, hV, hb⟩
  obtain ⟨A2, c2, rfl⟩ := Kd.V_slice hV
  have hg := below_grown hb
  replace HB5 := Aside0.mk (blk_own HB5.out hg (by simp))
  replace HB7 := Aside0.mk (blk_own HB7.out hg (by simp))
  replace HB8 := Aside0.mk (blk_own HB8.out hg (by simp))
  replace HP := Aside0.mk (HP.out.ref hb hV)
  clear hg hb hV
  clear q0 q1 y0 y1 y2
  obtain ⟨q0, q1⟩ := cz2 HB5.out
  obtain ⟨y0, y1, y2⟩ := cz3 HB7.out
  go_wp2_with (first | ((with_reducible refine gate_dst (N := 17) rfl ?_); refine box_event ?hg (N := 17) ?hd (cs := #[.int .i64 0, .slice none 0 0]) (t := 59) ?hr ?_; (case hd => rfl); (case hg => rfl); (case hr => first | (go_simp; done) | (go_simp; rfl)); intro h12 hgb w4 hbox hb; have HC := Aside0.mk hbox; have GHC := Aside0.mk (below_grown hb); have LHC := Aside0.mk (Nat.le_of_eq hgb.symm); clear hgb hbox hb) | ((with_reducible refine gate_store (t := 59) (p := 17) rfl ?_); refine wpList_store_row rfl 59 (.tmp 17) (.tmp 95) rfl h12 #[.int .i64 n, .slice A2 (tk (giveOf ts b a).2).length c2] rfl rfl 59 _ HC.out (by kernel_rfl) rfl (by kernel_rfl) ?_; have SHC := Aside0.mk (setRow_heap _ h12 _ #[.int .i64 n, .slice A2 (tk (giveOf ts b a).2).length c2] _ _ HC.out); have THC := Aside0.mk (grown_row w4 h12 #[.int .i64 n, .slice A2 (tk (giveOf ts b a).2).length c2]); have HK_h12 := Aside0.mk (show N0 ≤ h12 ∧ h5 ≠ h12 ∧ h7 ≠ h12 ∧ h8 ≠ h12 from ⟨by have := blk_lt HB5.out; have := LHC.out; have := HK.out; omega, by have := blk_lt HB5.out; have := LHC.out; omega, by have := blk_lt HB7.out; have := LHC.out; omega, by have := blk_lt HB8.out; have := LHC.out; omega⟩); have HPn := Aside0.mk (HP.out.box (Y := fun k => X k ∨ k = h5 ∨ k = h7 ∨ k = h8 ∨ k = h12) GHC.out LHC.out (blk_lt HC.out) y12 (.inr (.inr (.inr (.inr rfl)))) (by rw [← HN0.out]; exact HK_h12.out.1) THC.out); clear HP; have HP := HPn; clear HPn; replace HB5 := Aside0.mk (blk_own (blk_own HB5.out GHC.out (by simp)) THC.out (fun e => HK_h12.out.2.1 (Option.some.inj e))); replace HB7 := Aside0.mk (blk_own (blk_own HB7.out GHC.out (by simp)) THC.out (fun e => HK_h12.out.2.2.1 (Option.some.inj e))); replace HB8 := Aside0.mk (blk_own (blk_own HB8.out GHC.out (by simp)) THC.out (fun e => HK_h12.out.2.2.2 (Option.some.inj e))); have HB12 := Aside0.mk SHC.out; generalize World.setRow w4 h12 #[.int .i64 n, .slice A2 (tk (giveOf ts b a).2).length c2] = w5 at HP HB5 HB7 HB8 HB12 ⊢; clear HC GHC LHC SHC THC; clear q0 q1 y0 y1 y2; obtain ⟨q0, q1⟩ := cz2 HB5.out; obtain ⟨y0, y1, y2⟩ := cz3 HB7.out))
  clear q0 q1 y0 y1 y2
  have hg := grown_drew w5 none
  replace HB5 := Aside0.mk (blk_own HB5.out hg (by simp))
  replace HB7 := Aside0.mk (blk_own HB7.out hg (by simp))
  replace HB8 := Aside0.mk (blk_own HB8.out hg (by simp))
  replace HB12 := Aside0.mk (blk_own HB12.out hg (by simp))
  replace HP := Aside0.mk (HP.out.same hg)
  clear hg
  refine start_ (n := 13) (S := fun w' => w'.heap[h12]? = some (.cells #[.int .i64 n, .slice A2 (tk (giveOf ts b a).2).length c2] 59 (0, 0)) ∧ w'.heap[h7]? = some (.cells #[.int .i64 2, .int .i64 a, .int .i64 b] 77 (0, 0)) ∧ w'.heap[h8]? = some (.cells #[.int .i64 0, .slice none 0 0] 59 (0, 0))) (ds := [10]) #[false, false, false, false, false, false, false, false, false, false, false, false, false] (by kernel_rfl) rfl rfl ⟨HB12.out, HB7.out, HB8.out⟩ (fun hHeld => ?_)
  refine with_tab dof19_tab (fun HT_ => ?_)
  refine pure_ (i := 1) (N := some 98) (v := ?_) (a' := ?_) #[false, true, false, false, false, false, false, false, false, false, false, false, false] rfl rfl (any_of HT_.out (by kernel_rfl)) (fun _ _ _ h => h) (Or.inl ⟨by rfl, ?_⟩) ?_ ?_
  rotate_left
  · intro w'
    go_simp
    with_reducible rfl
  rotate_left
  · simp only [Act.put, List.setIfInBounds_toArray, List.set_cons_zero, List.set_cons_succ, i64_w, i32_w]
    rfl
  refine pure_ (i := 2) (N := some 99) (v := ?_) (a' := ?_) #[false, true, true, false, false, false, false, false, false, false, false, false, false] rfl rfl (any_of HT_.out (by kernel_rfl)) (fun _ _ _ h => h) (Or.inl ⟨by rfl, ?_⟩) ?_ ?_
  rotate_left
  · intro w'
    go_simp
    with_reducible rfl
  rotate_left
  · simp only [Act.put, List.setIfInBounds_toArray, List.set_cons_zero, List.set_cons_succ, i64_w, i32_w]
    rfl
  refine pure_ (i := 3) (N := some 100) (v := ?_) (a' := ?_) #[false, true, true, true, false, false, false, false, false, false, false, false, false] rfl rfl (any_of HT_.out (by kernel_rfl)) (fun _ _ _ h => h) (Or.inl ⟨by rfl, ?_⟩) ?_ ?_
  rotate_left
  · intro w'
    go_simp
    with_reducible rfl
  rotate_left
  · simp only [Act.put, List.setIfInBounds_toArray, List.set_cons_zero, List.set_cons_succ, i64_w, i32_w]
    rfl
  refine pure_ (i := 5) (N := some 102) (v := ?_) (a' := ?_) #[false, true, true, true, false, true, false, false, false, false, false, false, false] rfl rfl (any_of HT_.out (by kernel_rfl)) (fun _ _ _ h => h) (Or.inl ⟨by rfl, ?_⟩) ?_ ?_
  rotate_left
  · intro w'
    go_simp
    with_reducible rfl
  rotate_left
  · simp only [Act.put, List.setIfInBounds_toArray, List.set_cons_zero, List.set_cons_succ, i64_w, i32_w]
    rfl
  refine pure_ (i := 8) (N := some 105) (v := ?_) (a' := ?_) #[false, true, true, true, false, true, false, false, true, false, false, false, false] rfl rfl (any_of HT_.out (by kernel_rfl)) (fun _ _ _ h => h) (Or.inl ⟨by rfl, ?_⟩) ?_ ?_
  rotate_left
  · intro w'
    go_simp
    with_reducible rfl
  rotate_left
  · simp only [Act.put, List.setIfInBounds_toArray, List.set_cons_zero, List.set_cons_succ, i64_w, i32_w]
    rfl
  refine take_ (i := 0) (N := some 97) (v := .agg #[.int .i64 n, .slice A2 (tk (giveOf ts b a).2).length c2]) (a' := ?_) #[true, true, true, true, false, true, false, false, true, false, false, false, false] rfl rfl (take_of HT_.out (by kernel_rfl)) (fun _ _ _ h => h) (Or.inl ⟨by rfl, ?_⟩) hHeld ?_ ?_
  · rintro w' ⟨s1, s2, s3⟩
    obtain ⟨q0, q1⟩ := cz2 s1
    go_simp
  rotate_left
  · simp only [Act.put, List.setIfInBounds_toArray, List.set_cons_zero, List.set_cons_succ, i64_w, i32_w]
    rfl
  refine take_ (i := 4) (N := some 101) (v := .int .i64 b) (a' := ?_) #[true, true, true, true, true, true, false, false, true, false, false, false, false] rfl rfl (take_of HT_.out (by kernel_rfl)) (fun _ _ _ h => h) (Or.inl ⟨by rfl, ?_⟩) hHeld ?_ ?_
  · rintro w' ⟨s1, s2, s3⟩
    obtain ⟨y0, y1, y2⟩ := cz3 s2
    go_simp
  rotate_left
  · simp only [Act.put, List.setIfInBounds_toArray, List.set_cons_zero, List.set_cons_succ, i64_w, i32_w]
    rfl
  refine take_ (i := 6) (N := some 103) (v := .int .i64 a) (a' := ?_) #[true, true, true, true, true, true, true, false, true, false, false, false, false] rfl rfl (take_of HT_.out (by kernel_rfl)) (fun _ _ _ h => h) (Or.inl ⟨by rfl, ?_⟩) hHeld ?_ ?_
  · rintro w' ⟨s1, s2, s3⟩
    obtain ⟨y0, y1, y2⟩ := cz3 s2
    go_simp
  rotate_left
  · simp only [Act.put, List.setIfInBounds_toArray, List.set_cons_zero, List.set_cons_succ, i64_w, i32_w]
    rfl
  refine one_ (i := 7) (N := some 104) #[true, true, true, true, true, true, true, true, true, false, false, false, false] rfl rfl (one_of HT_.out (by kernel_rfl)) (by decide) (fun K hK => ?_)
  refine goes_ Try.func38 (by kernel_rfl) rfl #[.pointer (some ⟨p, 0, none⟩), .int .i64 b, .int .i64 a] (by rfl) rfl rfl (by (try simp only [List.map_toArray, List.map_cons, List.map_nil]); first | done | rfl) ?_
  refine (fs_give HP.out.fs b a).mono ?_
  rintro x0 wn ⟨rfl, hf, hk⟩
  have hs : wn.heap[h12]? = some (.cells #[.int .i64 n, .slice A2 (tk (giveOf ts b a).2).length c2] 59 (0, 0)) ∧ wn.heap[h7]? = some (.cells #[.int .i64 2, .int .i64 a, .int .i64 b] 77 (0, 0)) ∧ wn.heap[h8]? = some (.cells #[.int .i64 0, .slice none 0 0] 59 (0, 0)) := ⟨blk_frk hHeld.1 hk ⟨(HP.out.xs h12 (.inr (.inr (.inr (.inr rfl))))).1, (HP.out.xs h12 (.inr (.inr (.inr (.inr rfl))))).2.1⟩, blk_frk hHeld.2.1 hk ⟨(HP.out.xs h7 (.inr (.inr (.inl rfl)))).1, (HP.out.xs h7 (.inr (.inr (.inl rfl)))).2.1⟩, blk_frk hHeld.2.2 hk ⟨(HP.out.xs h8 (.inr (.inr (.inr (.inl rfl))))).1, (HP.out.xs h8 (.inr (.inr (.inr (.inl rfl))))).2.1⟩⟩
  replace HP := Aside0.mk (HP.out.frk hf hk)
  clear hf hk
  refine ⟨_, rfl, ?_⟩
  refine hK.out _ _ hs (fun hHeld => ?_)
  clear hK K
  refine norm_ (a' := ?_) ?_ ?_
  rotate_left
  · show Act.put _ (some 104) _ = _
    simp only [Act.put, List.setIfInBounds_toArray, List.set_cons_zero, List.set_cons_succ, i64_w, i32_w]
    rfl
  refine pure_ (i := 9) (N := some 106) (v := .bool true) (a' := ?_) #[true, true, true, true, true, true, true, true, true, true, false, false, false] rfl rfl (any_of HT_.out (by kernel_rfl)) (fun _ _ _ h => h) (Or.inl ⟨by rfl, ?_⟩) ?_ ?_
  · intro w'
    go_simp
  rotate_left
  · simp only [Act.put, List.setIfInBounds_toArray, List.set_cons_zero, List.set_cons_succ, i64_w, i32_w]
    rfl
  refine last_ (i := 10) (N := none) #[true, true, true, true, true, true, true, true, true, true, true, false, false] rfl rfl (one_of HT_.out (by kernel_rfl)) (by decide) (fun K hK => ?_)
  rw [if_pos (by rfl)]
  refine wp_store_row 59 (.tmp 8) (.tmp 97) rfl h8 #[.int .i64 n, .slice A2 (tk (giveOf ts b a).2).length c2] rfl rfl 59 #[.int .i64 0, .slice none 0 0] hHeld.2.2 (by kernel_rfl) rfl (by kernel_rfl) ?_
  have hb2 := setRow_heap wn h8 _ #[.int .i64 n, .slice A2 (tk (giveOf ts b a).2).length c2] _ _ hHeld.2.2
  have hgr := grown_row wn h8 #[.int .i64 n, .slice A2 (tk (giveOf ts b a).2).length c2]
  generalize World.setRow wn h8 #[.int .i64 n, .slice A2 (tk (giveOf ts b a).2).length c2] = we at hb2 hgr ⊢
  have HBE := Aside0.mk hb2
  have HGE := Aside0.mk hgr
  clear hb2 hgr
  refine hK.out _ _ ?_
  clear hK K
  refine pure_ (i := 11) (N := some 9) (v := ?_) (a' := ?_) #[true, true, true, true, true, true, true, true, true, true, true, true, false] rfl rfl (any_of HT_.out (by kernel_rfl)) (fun _ _ _ h => h) (Or.inl ⟨by rfl, ?_⟩) ?_ ?_
  rotate_left
  · intro w'
    go_simp
    with_reducible rfl
  rotate_left
  · simp only [Act.put, List.setIfInBounds_toArray, List.set_cons_zero, List.set_cons_succ, i64_w, i32_w]
    rfl
  refine pure_ (i := 12) (N := some 10) (v := ?_) (a' := ?_) #[true, true, true, true, true, true, true, true, true, true, true, true, true] rfl rfl (any_of HT_.out (by kernel_rfl)) (fun _ _ _ h => h) (Or.inl ⟨by rfl, ?_⟩) ?_ ?_
  rotate_left
  · intro w'
    go_simp
    with_reducible rfl
  rotate_left
  · simp only [Act.put, List.setIfInBounds_toArray, List.set_cons_zero, List.set_cons_succ, i64_w, i32_w]
    rfl
  refine done_ (done_of HT_.out (by kernel_rfl)) ?_
  replace HP := Aside0.mk (PF.put (g := h8) HP.out (.inr (.inr (.inr (.inl rfl)))) (by rw [← HN0.out]; have := HK.out; omega) HGE.out)
  obtain ⟨q0, q1⟩ := cz2 HBE.out
  go_wp2
  exact bodyPost_ret (v := .tuple #[.agg #[.int .i64 n, .slice A2 (tk (giveOf ts b a).2).length c2], .slice tA tl.length tc, .bool true]) (by simp [results, Try.f41, go_sem, q0, q1]) rfl ⟨_, _, _, _, _, _, rfl, HP.out.drop (fun k hk => .inl hk), (giveOf_len _ _ _).trans HN.out, by omega, HLOW.out⟩
noncomputable def dof26_T : Bool × List (List Nat × List Nat) := rtab .any (opsOf Try.f41 26)
theorem dof26_tab : rtab .any (opsOf Try.f41 26) = dof26_T := rfl
theorem doF_n {w0 Wc : World} {p r : Nat} {o : Option Nat} {X : Nat → Prop} {ts : List Bool} {A : Option Addr} {c : Nat} {tA : Option Addr} {tc : Nat} {tl : List (Nat × Nat)} {W : World} {n : Nat} (h : PF w0 Wc p r o X ts (tk ts) A c tA tc tl W) (hn : ts.length = n) (hlow : Low tl) (hm : tl.length ≤ 1000) (a b : Int) (ha : (Lit.int .i64 a).wf = true) (hb : (Lit.int .i64 b).wf = true) (kd : Int) (k0 : ¬ kd = 0) (k1 : ¬ kd = 1) (k2 : ¬ kd = 2) (k3 : ¬ kd = 3) :
    Calls Try.prog 41 #[.pointer (some ⟨p, 0, none⟩), .agg #[.int .i64 n, .slice A (tk ts).length c], .slice tA tl.length tc, .agg #[.int .i64 kd, .int .i64 a, .int .i64 b]] W (DidF w0 W p r n tl.length X (tv tA tc tl).ownBlock) := by
  have k0b : (kd == 0) = false := beq_eq_false_iff_ne.2 k0
  have k1b : (kd == 1) = false := beq_eq_false_iff_ne.2 k1
  have k2b : (kd == 2) = false := beq_eq_false_iff_ne.2 k2
  have k3b : (kd == 3) = false := beq_eq_false_iff_ne.2 k3
  clear k0 k1 k2 k3
  have HT := Aside0.mk (show lookasideref05_Is.f 200000 (n : Int) (tk ts) a = some (isOf ts a) from by subst hn; exact isR_tk h.fs.len a)
  have hu := Try.underlying59
  have hu2 := Try.underlying77
  have hu3 := Try.underlying68
  have hu4 := Try.underlying70
  obtain ⟨i0, hi0, hz0, hz1, hz2⟩ := info_parts infoTaken
  have HI0 := Aside0.mk (And.intro hi0 (And.intro hz0 (And.intro hz1 hz2)))
  clear hi0 hz0 hz1 hz2
  have hb3 := box3 W #[.int .i64 n, .slice A (tk ts).length c] #[.int .i64 kd, .int .i64 a, .int .i64 b] #[.int .i64 0, .slice none 0 0] 59 77 59
  have hlt := blk_lt hb3.2.2.1
  obtain ⟨N0, hN0⟩ : ∃ N0, N0 = W.heap.size := ⟨_, rfl⟩
  have HB5 := Aside0.mk hb3.1
  have HB7 := Aside0.mk hb3.2.1
  have HB8 := Aside0.mk hb3.2.2.1
  have HP := Aside0.mk (PF.al (Y := fun k => X k ∨ k = W.heap.size ∨ k = W.heap.size + 1 ∨ k = W.heap.size + 1 + 1) h.begin hb3.2.2.2 (fun k hk => hk.elim .inl (fun q => .inr ⟨by omega, by omega⟩)))
  have HK := Aside0.mk (show N0 ≤ W.heap.size ∧ W.heap.size < W.heap.size + 1 ∧ W.heap.size + 1 < W.heap.size + 1 + 1 from ⟨by omega, by omega, by omega⟩)
  have HN0 := Aside0.mk hN0
  have HN := Aside0.mk hn
  have HLT := Aside0.mk (show ts.length ≤ 65536 from h.fs.len)
  have HLOW := Aside0.mk hlow
  have HWA := Aside0.mk ha
  have HWB := Aside0.mk hb
  have hn2 : n ≤ 65536 := by rw [← hn]; exact h.fs.len
  clear h hn hlow ha hb hb3 hlt hN0
  obtain ⟨q0, q1⟩ := cz2 HB5.out
  obtain ⟨y0, y1, y2⟩ := cz3 HB7.out
  go_enter Try.func41, Try.ntmps41
  go_wp2_with fail
  generalize W.heap.size + 1 + 1 = h8 at HB8 HP HK ⊢
  generalize W.heap.size + 1 = h7 at HB7 HP HK ⊢
  generalize W.heap.size = h5 at HB5 HP HK ⊢
  clear q0 q1 y0 y1 y2
  have hg := grown_drew (((W.alloc (.cells #[.int .i64 n, .slice A (tk ts).length c] 59)).alloc (.cells #[.int .i64 kd, .int .i64 a, .int .i64 b] 77)).alloc (.cells #[.int .i64 0, .slice none 0 0] 59)) none
  replace HB5 := Aside0.mk (blk_own HB5.out hg (by simp))
  replace HB7 := Aside0.mk (blk_own HB7.out hg (by simp))
  replace HB8 := Aside0.mk (blk_own HB8.out hg (by simp))
  replace HP := Aside0.mk (HP.out.same hg)
  clear hg
  refine start_ (n := 14) (S := fun w' => w'.heap[h5]? = some (.cells #[.int .i64 n, .slice A (tk ts).length c] 59 (0, 0)) ∧ w'.heap[h7]? = some (.cells #[.int .i64 kd, .int .i64 a, .int .i64 b] 77 (0, 0)) ∧ w'.heap[h8]? = some (.cells #[.int .i64 0, .slice none 0 0] 59 (0, 0))) (ds := [11]) #[false, false, false, false, false, false, false, false, false, false, false, false, false, false] (by kernel_rfl) rfl rfl ⟨HB5.out, HB7.out, HB8.out⟩ (fun hHeld => ?_)
  refine with_tab dof26_tab (fun HT_ => ?_)
  refine pure_ (i := 1) (N := some 142) (v := ?_) (a' := ?_) #[false, true, false, false, false, false, false, false, false, false, false, false, false, false] rfl rfl (any_of HT_.out (by kernel_rfl)) (fun _ _ _ h => h) (Or.inl ⟨by rfl, ?_⟩) ?_ ?_
  rotate_left
  · intro w'
    go_simp
    with_reducible rfl
  rotate_left
  · simp only [Act.put, List.setIfInBounds_toArray, List.set_cons_zero, List.set_cons_succ, i64_w, i32_w]
    rfl
  refine pure_ (i := 2) (N := some 143) (v := ?_) (a' := ?_) #[false, true, true, false, false, false, false, false, false, false, false, false, false, false] rfl rfl (any_of HT_.out (by kernel_rfl)) (fun _ _ _ h => h) (Or.inl ⟨by rfl, ?_⟩) ?_ ?_
  rotate_left
  · intro w'
    go_simp
    with_reducible rfl
  rotate_left
  · simp only [Act.put, List.setIfInBounds_toArray, List.set_cons_zero, List.set_cons_succ, i64_w, i32_w]
    rfl
  refine pure_ (i := 3) (N := some 144) (v := ?_) (a' := ?_) #[false, true, true, true, false, false, false, false, false, false, false, false, false, false] rfl rfl (any_of HT_.out (by kernel_rfl)) (fun _ _ _ h => h) (Or.inl ⟨by rfl, ?_⟩) ?_ ?_
  rotate_left
  · intro w'
    go_simp
    with_reducible rfl
  rotate_left
  · simp only [Act.put, List.setIfInBounds_toArray, List.set_cons_zero, List.set_cons_succ, i64_w, i32_w]
    rfl
  refine pure_ (i := 7) (N := some 148) (v := ?_) (a' := ?_) #[false, true, true, true, false, false, false, true, false, false, false, false, false, false] rfl rfl (any_of HT_.out (by kernel_rfl)) (fun _ _ _ h => h) (Or.inl ⟨by rfl, ?_⟩) ?_ ?_
  rotate_left
  · intro w'
    go_simp
    with_reducible rfl
  rotate_left
  · simp only [Act.put, List.setIfInBounds_toArray, List.set_cons_zero, List.set_cons_succ, i64_w, i32_w]
    rfl
  refine take_ (i := 0) (N := some 141) (v := .agg #[.int .i64 n, .slice A (tk ts).length c]) (a' := ?_) #[true, true, true, true, false, false, false, true, false, false, false, false, false, false] rfl rfl (take_of HT_.out (by kernel_rfl)) (fun _ _ _ h => h) (Or.inl ⟨by rfl, ?_⟩) hHeld ?_ ?_
  · rintro w' ⟨s1, s2, s3⟩
    obtain ⟨q0, q1⟩ := cz2 s1
    go_simp
  rotate_left
  · simp only [Act.put, List.setIfInBounds_toArray, List.set_cons_zero, List.set_cons_succ, i64_w, i32_w]
    rfl
  refine take_ (i := 4) (N := some 145) (v := .int .i64 a) (a' := ?_) #[true, true, true, true, true, false, false, true, false, false, false, false, false, false] rfl rfl (take_of HT_.out (by kernel_rfl)) (fun _ _ _ h => h) (Or.inl ⟨by rfl, ?_⟩) hHeld ?_ ?_
  · rintro w' ⟨s1, s2, s3⟩
    obtain ⟨y0, y1, y2⟩ := cz3 s2
    go_simp
  rotate_left
  · simp only [Act.put, List.setIfInBounds_toArray, List.set_cons_zero, List.set_cons_succ, i64_w, i32_w]
    rfl
  refine take_ (i := 6) (N := some 147) (v := .agg #[.int .i64 n, .slice A (tk ts).length c]) (a' := ?_) #[true, true, true, true, true, false, true, true, false, false, false, false, false, false] rfl rfl (take_of HT_.out (by kernel_rfl)) (fun _ _ _ h => h) (Or.inl ⟨by rfl, ?_⟩) hHeld ?_ ?_
  · rintro w' ⟨s1, s2, s3⟩
    obtain ⟨q0, q1⟩ := cz2 s1
    go_simp
  rotate_left
  · simp only [Act.put, List.setIfInBounds_toArray, List.set_cons_zero, List.set_cons_succ, i64_w, i32_w]
    rfl
  refine take_ (i := 8) (N := some 149) (v := .int .i64 a) (a' := ?_) #[true, true, true, true, true, false, true, true, true, false, false, false, false, false] rfl rfl (take_of HT_.out (by kernel_rfl)) (fun _ _ _ h => h) (Or.inl ⟨by rfl, ?_⟩) hHeld ?_ ?_
  · rintro w' ⟨s1, s2, s3⟩
    obtain ⟨y0, y1, y2⟩ := cz3 s2
    go_simp
  rotate_left
  · simp only [Act.put, List.setIfInBounds_toArray, List.set_cons_zero, List.set_cons_succ, i64_w, i32_w]
    rfl
  refine one_ (i := 5) (N := some 146) #[true, true, true, true, true, true, true, true, true, false, false, false, false, false] rfl rfl (one_of HT_.out (by kernel_rfl)) (by decide) (fun K hK => ?_)
  refine goes_ Try.func34 (by kernel_rfl) rfl #[.pointer (some ⟨p, 0, none⟩), .int .i64 a] (by rfl) rfl rfl (by (try simp only [List.map_toArray, List.map_cons, List.map_nil]); first | done | rfl) ?_
  refine (fs_is HP.out.fs a (isOf ts a) rfl).mono ?_
  rintro x0 wn ⟨rfl, hf, hg⟩
  have hs : wn.heap[h5]? = some (.cells #[.int .i64 n, .slice A (tk ts).length c] 59 (0, 0)) ∧ wn.heap[h7]? = some (.cells #[.int .i64 kd, .int .i64 a, .int .i64 b] 77 (0, 0)) ∧ wn.heap[h8]? = some (.cells #[.int .i64 0, .slice none 0 0] 59 (0, 0)) := ⟨blk_own hHeld.1 hg (by simp), blk_own hHeld.2.1 hg (by simp), blk_own hHeld.2.2 hg (by simp)⟩
  replace HP := Aside0.mk (HP.out.same hg)
  clear hf hg
  refine ⟨_, rfl, ?_⟩
  refine hK.out _ _ hs (fun hHeld => ?_)
  clear hK K
  refine norm_ (a' := ?_) ?_ ?_
  rotate_left
  · show Act.put _ (some 146) _ = _
    simp only [Act.put, List.setIfInBounds_toArray, List.set_cons_zero, List.set_cons_succ, i64_w, i32_w]
    rfl
  refine one_ (i := 9) (N := some 150) #[true, true, true, true, true, true, true, true, true, true, false, false, false, false] rfl rfl (one_of HT_.out (by kernel_rfl)) (by decide) (fun K hK => ?_)
  refine goes_ Try.func61 (by kernel_rfl) rfl #[.agg #[.int .i64 n, .slice A (tk ts).length c], .int .i64 a] (by rfl) rfl rfl (by (try simp only [List.map_toArray, List.map_cons, List.map_nil]); first | done | rfl) ?_
  refine (lookasideref05_Is.calls 200000 n A c (tk ts) a (isOf ts a) _ (Kd.V_reads' HP.out.v).2.2 (Kd.V_reads' HP.out.v).2.1 HT.out).mono ?_
  rintro x0 wn ⟨rfl, hb⟩
  have hg := below_grown hb
  have hs : wn.heap[h5]? = some (.cells #[.int .i64 n, .slice A (tk ts).length c] 59 (0, 0)) ∧ wn.heap[h7]? = some (.cells #[.int .i64 kd, .int .i64 a, .int .i64 b] 77 (0, 0)) ∧ wn.heap[h8]? = some (.cells #[.int .i64 0, .slice none 0 0] 59 (0, 0)) := ⟨blk_own hHeld.1 hg (by simp), blk_own hHeld.2.1 hg (by simp), blk_own hHeld.2.2 hg (by simp)⟩
  replace HP := Aside0.mk (HP.out.same hg)
  clear hb hg
  refine ⟨_, rfl, ?_⟩
  refine hK.out _ _ hs (fun hHeld => ?_)
  clear hK K
  refine norm_ (a' := ?_) ?_ ?_
  rotate_left
  · show Act.put _ (some 150) _ = _
    simp only [Act.put, List.setIfInBounds_toArray, List.set_cons_zero, List.set_cons_succ, i64_w, i32_w]
    rfl
  refine pure_ (i := 10) (N := some 151) (v := .bool true) (a' := ?_) #[true, true, true, true, true, true, true, true, true, true, true, false, false, false] rfl rfl (any_of HT_.out (by kernel_rfl)) (fun _ _ _ h => h) (Or.inl ⟨by rfl, ?_⟩) ?_ ?_
  · intro w'
    go_simp
  rotate_left
  · simp only [Act.put, List.setIfInBounds_toArray, List.set_cons_zero, List.set_cons_succ, i64_w, i32_w]
    rfl
  refine last_ (i := 11) (N := none) #[true, true, true, true, true, true, true, true, true, true, true, true, false, false] rfl rfl (one_of HT_.out (by kernel_rfl)) (by decide) (fun K hK => ?_)
  rw [if_pos (by rfl)]
  refine wp_store_row 59 (.tmp 8) (.tmp 141) rfl h8 #[.int .i64 n, .slice A (tk ts).length c] rfl rfl 59 #[.int .i64 0, .slice none 0 0] hHeld.2.2 (by kernel_rfl) rfl (by kernel_rfl) ?_
  have hb2 := setRow_heap wn h8 _ #[.int .i64 n, .slice A (tk ts).length c] _ _ hHeld.2.2
  have hgr := grown_row wn h8 #[.int .i64 n, .slice A (tk ts).length c]
  generalize World.setRow wn h8 #[.int .i64 n, .slice A (tk ts).length c] = we at hb2 hgr ⊢
  have HBE := Aside0.mk hb2
  have HGE := Aside0.mk hgr
  clear hb2 hgr
  refine hK.out _ _ ?_
  clear hK K
  refine pure_ (i := 12) (N := some 9) (v := ?_) (a' := ?_) #[true, true, true, true, true, true, true, true, true, true, true, true, true, false] rfl rfl (any_of HT_.out (by kernel_rfl)) (fun _ _ _ h => h) (Or.inl ⟨by rfl, ?_⟩) ?_ ?_
  rotate_left
  · intro w'
    go_simp
    with_reducible rfl
  rotate_left
  · simp only [Act.put, List.setIfInBounds_toArray, List.set_cons_zero, List.set_cons_succ, i64_w, i32_w]
    rfl
  refine pure_ (i := 13) (N := some 10) (v := ?_) (a' := ?_) #[true, true, true, true, true, true, true, true, true, true, true, true, true, true] rfl rfl (any_of HT_.out (by kernel_rfl)) (fun _ _ _ h => h) (Or.inl ⟨by rfl, ?_⟩) ?_ ?_
  rotate_left
  · intro w'
    go_simp
    with_reducible rfl
  rotate_left
  · simp only [Act.put, List.setIfInBounds_toArray, List.set_cons_zero, List.set_cons_succ, i64_w, i32_w]
    rfl
  refine done_ (done_of HT_.out (by kernel_rfl)) ?_
  replace HP := Aside0.mk (PF.put (g := h8) HP.out (.inr (.inr (.inr rfl))) (by rw [← HN0.out]; have := HK.out; omega) HGE.out)
  obtain ⟨q0, q1⟩ := cz2 HBE.out
  go_wp2
  exact bodyPost_ret (v := .tuple #[.agg #[.int .i64 n, .slice A (tk ts).length c], .slice tA tl.length tc, .bool true]) (by simp [results, Try.f41, go_sem, q0, q1]) rfl ⟨_, _, _, _, _, _, rfl, HP.out.drop (fun k hk => .inl hk), HN.out, by omega, HLOW.out⟩
end
end Go.Proofs.Ytlndljgoliepdaa.QFramesPlays
