/- A deed of frames that takes: done to frames, and to the document's; at whatever numbers. -/
import Derived.Test.YtlndljgoliepdaaFrD
namespace Go.Proofs.Ytlndljgoliepdaa.QFramesPlays
open Go.RowKit Go.Proofs.YtlndljgoliepdaaW.PrintWords Go.Proofs.YtlndljgoliepdaaW.PrintLast Go.Proofs.YtlndljgoliepdaaW.PrintMore
set_option linter.unusedSimpArgs false
set_option linter.unusedVariables false
section
set_option maxHeartbeats 4000000
set_option maxRecDepth 100000
theorem box3 (W : World) (a b c : Array Value) (ta tb tc : TypeId) : (((W.alloc (.cells a ta)).alloc (.cells b tb)).alloc (.cells c tc)).heap[W.heap.size]? = some (.cells a ta (0, 0)) ∧ (((W.alloc (.cells a ta)).alloc (.cells b tb)).alloc (.cells c tc)).heap[W.heap.size + 1]? = some (.cells b tb (0, 0)) ∧ (((W.alloc (.cells a ta)).alloc (.cells b tb)).alloc (.cells c tc)).heap[W.heap.size + 1 + 1]? = some (.cells c tc (0, 0)) ∧ W.grownBy (((W.alloc (.cells a ta)).alloc (.cells b tb)).alloc (.cells c tc)) none := by
  have g1 := World.grownBy_alloc W (.cells a ta) none
  have g2 := World.grownBy_alloc (W.alloc (.cells a ta)) (.cells b tb) none
  have g3 := World.grownBy_alloc ((W.alloc (.cells a ta)).alloc (.cells b tb)) (.cells c tc) none
  have h1 := heap_alloc_new W (.cells a ta)
  have h2 := heap_alloc_new (W.alloc (.cells a ta)) (.cells b tb)
  have h3 := heap_alloc_new ((W.alloc (.cells a ta)).alloc (.cells b tb)) (.cells c tc)
  rw [World.size_alloc] at h2
  rw [World.size_alloc, World.size_alloc] at h3
  exact ⟨blk_own (blk_grown h1 g2 (by simp)) g3 (by simp), blk_own h2 g3 (by simp), h3, grown_two (grown_two g1 g2) g3⟩
theorem cz2 {W : World} {g : Nat} {t : TypeId} {a0 a1 : Value} (h : W.heap[g]? = some (.cells #[a0, a1] t (0, 0))) : W.cell? ⟨g, 0, none⟩ = some a0 ∧ W.cell? ⟨g, 1, none⟩ = some a1 := ⟨(blk_cell h 0).trans rfl, (blk_cell h 1).trans rfl⟩
theorem cz3 {W : World} {g : Nat} {t : TypeId} {a0 a1 a2 : Value} (h : W.heap[g]? = some (.cells #[a0, a1, a2] t (0, 0))) : W.cell? ⟨g, 0, none⟩ = some a0 ∧ W.cell? ⟨g, 1, none⟩ = some a1 ∧ W.cell? ⟨g, 2, none⟩ = some a2 := ⟨(blk_cell h 0).trans rfl, (blk_cell h 1).trans rfl, (blk_cell h 2).trans rfl⟩
theorem grown_row (W : World) (g : Nat) (cs : Array Value) : W.grownBy (W.setRow g cs) (some g) := by
  refine ⟨rfl, rfl, rfl, ?_, fun k hk hn => ?_⟩
  · simp [World.setRow]
  · exact setRow_other W g k cs (fun e => hn (by rw [e]))
theorem PF.box {w0 W0 W W4 W5 p r o0 X Y ts L A c tA tc tl} {g : Nat} (h : PF w0 W0 p r o0 X ts L A c tA tc tl W) (hgr : W.grownBy W4 none) (hge : W.heap.size ≤ g) (hlt : g < W4.heap.size) (hY : ∀ k, Y k → X k ∨ k = g) (hYg : Y g) (hw : W0.heap.size ≤ g) (hput : W4.grownBy W5 (some g)) : PF w0 W0 p r o0 Y ts L A c tA tc tl W5 := PF.put (PF.al h hgr (fun k hk => (hY k hk).imp id (fun e => by subst e; exact ⟨hge, hlt⟩))) hYg hw hput
theorem y12 {X : Nat → Prop} {h5 h7 h8 h12 : Nat} : ∀ k, (X k ∨ k = h5 ∨ k = h7 ∨ k = h8 ∨ k = h12) → (X k ∨ k = h5 ∨ k = h7 ∨ k = h8) ∨ k = h12 := by
  rintro k (h | h | h | h | h)
  · exact .inl (.inl h)
  · exact .inl (.inr (.inl h))
  · exact .inl (.inr (.inr (.inl h)))
  · exact .inl (.inr (.inr (.inr h)))
  · exact .inr h
theorem took_yes {B w0 W0 p r ts n each e W' x} (h : Took B w0 W0 p r ts n each e W') (hF : First ts n each x) : e = .returned (.tuple #[.int .i64 (x : Nat), .int .i64 0]) ∧ Fs B w0 p r (setN ts x true n) W' ∧ FrK W0 p r W' := by
  obtain ⟨hk, ⟨_, _, hno⟩ | ⟨y, he, hf, hy⟩⟩ := h
  · obtain ⟨j, rfl, h1, h2, _⟩ := hF
    exact absurd h2 (hno j h1)
  · obtain rfl := first_uniq hF hy
    exact ⟨he, hf, hk⟩
theorem no_first {ts : List Bool} {n each : Nat} (h : ¬ ∃ x, First ts n each x) : ∀ j, j * each + n ≤ ts.length → ¬ FreeIn ts (j * each) n := fun j hj hf => by
  obtain ⟨m, hm, hl⟩ := least (fun j => j * each + n ≤ ts.length ∧ FreeIn ts (j * each) n) j ⟨hj, hf⟩
  exact h ⟨m * each, m, rfl, hm.1, hm.2, fun j' hj' hf' => hl j' hj' ⟨by have := Nat.mul_le_mul_right each (Nat.le_of_lt hj'); have := hm.1; omega, hf'⟩⟩
theorem runOf_or (a : Int) : runOf a = 0 ∨ ∃ R : Nat, runOf a = R ∧ 1 ≤ R ∧ R ≤ 512 := by
  unfold runOf
  by_cases h0 : a = 0
  · rw [if_pos h0]; exact .inr ⟨1, rfl, by omega, by omega⟩
  · rw [if_neg h0]
    by_cases h1 : a = 1
    · rw [if_pos h1]; exact .inr ⟨8, rfl, by omega, by omega⟩
    · rw [if_neg h1]
      by_cases h2 : a = 2
      · rw [if_pos h2]; exact .inr ⟨64, rfl, by omega, by omega⟩
      · rw [if_neg h2]
        by_cases h3 : a = 3
        · rw [if_pos h3]; exact .inr ⟨512, rfl, by omega, by omega⟩
        · rw [if_neg h3]; exact .inl rfl
theorem take_any {ts : List Bool} (hl : ts.length ≤ 65536) (a : Int) : ∃ L i g, lookasideref05_Take.f 400000 (ts.length : Int) (tk ts) a = some ((ts.length : Int), L, i, g) := by
  rcases runOf_or a with h | ⟨R, h, h1, h2⟩
  · exact ⟨_, _, _, refTake_0 _ _ a h⟩
  · by_cases hF : ∃ x, First ts R R x
    · obtain ⟨x, hF⟩ := hF
      exact ⟨_, _, _, refTake_n h (by omega) (take_first hl h1 h1 (by omega) hF)⟩
    · exact ⟨_, _, _, refTake_n h (by omega) (take_none hl R (by omega) h1 (by omega) (fun j hj => by simpa using no_first hF j (by omega)))⟩
theorem fs_ManyA {B w0 p r ts W} (h : Fs B w0 p r ts W) (a : Int) (n : Nat) (ha : a = n) (hn : 1 ≤ n) : Calls Try.prog 39 #[.pointer (some ⟨p, 0, none⟩), .int .i64 a] W (Took B w0 W p r ts n 1) := by
  subst ha
  exact fs_Many h n hn
theorem doF_0z {w0 Wc : World} {p r : Nat} {o : Option Nat} {X : Nat → Prop} {ts : List Bool} {A : Option Addr} {c : Nat} {tA : Option Addr} {tc : Nat} {tl : List (Nat × Nat)} {W : World} {n : Nat} (h : PF w0 Wc p r o X ts (tk ts) A c tA tc tl W) (hn : ts.length = n) (hlow : Low tl) (hm : tl.length ≤ 1000) (a b : Int) (ha : (Lit.int .i64 a).wf = true) (hb : (Lit.int .i64 b).wf = true) (hR : runOf a = 0) :
    Calls Try.prog 41 #[.pointer (some ⟨p, 0, none⟩), .agg #[.int .i64 n, .slice A (tk ts).length c], .slice tA tl.length tc, .agg #[.int .i64 0, .int .i64 a, .int .i64 b]] W (DidF w0 W p r n tl.length X (tv tA tc tl).ownBlock) := by
  have HT := Aside0.mk (show lookasideref05_Take.f 400000 (n : Int) (tk ts) a = some ((n : Int), tk ts, 0, 1) from by subst hn; exact refTake_0 _ _ a hR)
  have HR := Aside0.mk hR
  clear hR
  have hu := Try.underlying59
  have hu2 := Try.underlying77
  have hu3 := Try.underlying68
  have hu4 := Try.underlying70
  obtain ⟨i0, hi0, hz0, hz1, hz2⟩ := info_parts infoTaken
  have HI0 := Aside0.mk (And.intro hi0 (And.intro hz0 (And.intro hz1 hz2)))
  clear hi0 hz0 hz1 hz2
  have hb3 := box3 W #[.int .i64 n, .slice A (tk ts).length c] #[.int .i64 0, .int .i64 a, .int .i64 b] #[.int .i64 0, .slice none 0 0] 59 77 59
  have hlt := blk_lt hb3.2.2.1
  obtain ⟨N0, hN0⟩ : ∃ N0, N0 = W.heap.size := ⟨_, rfl⟩
  have HB5 := Aside0.mk hb3.1
  have HB7 := Aside0.mk hb3.2.1
  have HB8 := Aside0.mk hb3.2.2.1
  have HP := Aside0.mk (PF.al (Y := fun k => X k ∨ k = W.heap.size ∨ k = W.heap.size + 1 ∨ k = W.heap.size + 1 + 1) h.begin hb3.2.2.2 (fun k hk => hk.elim .inl (fun q => .inr ⟨by omega, by omega⟩)))
  have HK := Aside0.mk (show N0 ≤ W.heap.size ∧ W.heap.size < W.heap.size + 1 ∧ W.heap.size + 1 < W.heap.size + 1 + 1 from ⟨by omega, by omega, by omega⟩)
  have HN0 := Aside0.mk hN0
  have HN := Aside0.mk hn
  have HLT := Aside0.mk (show ts.length ≤ 65536 from h.fs.len)
  have HLOW := Aside0.mk hlow
  have HWA := Aside0.mk ha
  have HWB := Aside0.mk hb
  have hn2 : n ≤ 65536 := by rw [← hn]; exact h.fs.len
  clear h hn hlow ha hb hb3 hlt hN0
  obtain ⟨q0, q1⟩ := cz2 HB5.out
  obtain ⟨y0, y1, y2⟩ := cz3 HB7.out
  go_enter Try.func41, Try.ntmps41
  go_wp2_with fail
  generalize W.heap.size + 1 + 1 = h8 at HB8 HP HK ⊢
  generalize W.heap.size + 1 = h7 at HB7 HP HK ⊢
  generalize W.heap.size = h5 at HB5 HP HK ⊢
  refine (lookasideref05_Run.calls a 0 _ (by rw [ref_run, HR.out])).mono ?_
  rintro x0 wn ⟨rfl, hd⟩
  have hg := drawn_grown hd
  clear hd
  replace HB5 := Aside0.mk (blk_own HB5.out hg (by simp))
  replace HB7 := Aside0.mk (blk_own HB7.out hg (by simp))
  replace HB8 := Aside0.mk (blk_own HB8.out hg (by simp))
  replace HP := Aside0.mk (HP.out.same hg)
  clear hg
  clear q0 q1 y0 y1 y2
  obtain ⟨q0, q1⟩ := cz2 HB5.out
  obtain ⟨y0, y1, y2⟩ := cz3 HB7.out
  go_wp2_with fail
  refine (lookasideref05_Take.calls 400000 n _ A c (tk ts) a _ _ _ _ _ HP.out.v HT.out).mono ?_
  rintro x0 wn ⟨v1, rfl, hV, hb⟩
  obtain ⟨A2, c2, rfl⟩ := Kd.V_slice hV
  have hg := below_grown hb
  replace HB5 := Aside0.mk (blk_own HB5.out hg (by simp))
  replace HB7 := Aside0.mk (blk_own HB7.out hg (by simp))
  replace HB8 := Aside0.mk (blk_own HB8.out hg (by simp))
  replace HP := Aside0.mk (HP.out.ref hb hV)
  clear hg hb hV
  clear q0 q1 y0 y1 y2
  obtain ⟨q0, q1⟩ := cz2 HB5.out
  obtain ⟨y0, y1, y2⟩ := cz3 HB7.out
  go_wp2_with (first | ((with_reducible refine gate_dst (N := 12) rfl ?_); refine box_event ?hg (N := 12) ?hd (cs := #[.int .i64 0, .slice none 0 0]) (t := 59) ?hr ?_; (case hd => rfl); (case hg => rfl); (case hr => first | (go_simp; done) | (go_simp; rfl)); intro h12 hgb w4 hbox hb; have HC := Aside0.mk hbox; have GHC := Aside0.mk (below_grown hb); have LHC := Aside0.mk (Nat.le_of_eq hgb.symm); clear hgb hbox hb) | ((with_reducible refine gate_store (t := 59) (p := 12) rfl ?_); refine wpList_store_row rfl 59 (.tmp 12) (.tmp 35) rfl h12 #[.int .i64 n, .slice A2 (tk ts).length c2] rfl rfl 59 _ HC.out (by kernel_rfl) rfl (by kernel_rfl) ?_; have SHC := Aside0.mk (setRow_heap _ h12 _ #[.int .i64 n, .slice A2 (tk ts).length c2] _ _ HC.out); have THC := Aside0.mk (grown_row w4 h12 #[.int .i64 n, .slice A2 (tk ts).length c2]); have HK2 := Aside0.mk (show N0 ≤ h12 ∧ h5 ≠ h12 ∧ h7 ≠ h12 ∧ h8 ≠ h12 from ⟨by have := blk_lt HB5.out; have := LHC.out; have := HK.out; omega, by have := blk_lt HB5.out; have := LHC.out; omega, by have := blk_lt HB7.out; have := LHC.out; omega, by have := blk_lt HB8.out; have := LHC.out; omega⟩); have HPn := Aside0.mk (HP.out.box (Y := fun k => X k ∨ k = h5 ∨ k = h7 ∨ k = h8 ∨ k = h12) GHC.out LHC.out (blk_lt HC.out) y12 (.inr (.inr (.inr (.inr rfl)))) (by rw [← HN0.out]; exact HK2.out.1) THC.out); clear HP; have HP := HPn; clear HPn; replace HB5 := Aside0.mk (blk_own (blk_own HB5.out GHC.out (by simp)) THC.out (fun e => HK2.out.2.1 (Option.some.inj e))); replace HB7 := Aside0.mk (blk_own (blk_own HB7.out GHC.out (by simp)) THC.out (fun e => HK2.out.2.2.1 (Option.some.inj e))); replace HB8 := Aside0.mk (blk_own (blk_own HB8.out GHC.out (by simp)) THC.out (fun e => HK2.out.2.2.2 (Option.some.inj e))); have HB12 := Aside0.mk SHC.out; generalize World.setRow w4 h12 #[.int .i64 n, .slice A2 (tk ts).length c2] = w5 at HP HB5 HB7 HB8 HB12 ⊢; clear HC GHC LHC SHC THC; clear q0 q1 y0 y1 y2; obtain ⟨q0, q1⟩ := cz2 HB5.out; obtain ⟨y0, y1, y2⟩ := cz3 HB7.out))
  refine (fs_Take0 HP.out.fs a HR.out).mono ?_
  rintro x0 wf ⟨rfl, hf, hk⟩
  replace HB5 := Aside0.mk (blk_frk HB5.out hk ⟨(HP.out.xs h5 (.inr (.inl rfl))).1, (HP.out.xs h5 (.inr (.inl rfl))).2.1⟩)
  replace HB7 := Aside0.mk (blk_frk HB7.out hk ⟨(HP.out.xs h7 (.inr (.inr (.inl rfl)))).1, (HP.out.xs h7 (.inr (.inr (.inl rfl)))).2.1⟩)
  replace HB8 := Aside0.mk (blk_frk HB8.out hk ⟨(HP.out.xs h8 (.inr (.inr (.inr (.inl rfl))))).1, (HP.out.xs h8 (.inr (.inr (.inr (.inl rfl))))).2.1⟩)
  replace HB12 := Aside0.mk (blk_frk HB12.out hk ⟨(HP.out.xs h12 (.inr (.inr (.inr (.inr rfl))))).1, (HP.out.xs h12 (.inr (.inr (.inr (.inr rfl))))).2.1⟩)
  replace HP := Aside0.mk (HP.out.frk hf hk)
  clear hf hk
  clear q0 q1 y0 y1 y2
  obtain ⟨q0, q1⟩ := cz2 HB5.out
  obtain ⟨y0, y1, y2⟩ := cz3 HB7.out
  obtain ⟨z0, z1⟩ := cz2 HB12.out
  go_wp2_with (first | ((with_reducible refine gate_store (t := 59) (p := 8) rfl ?_); refine wpList_store_row rfl 59 (.tmp 8) (.tmp 76) rfl h8 #[.int .i64 n, .slice A2 (tk ts).length c2] rfl rfl 59 _ HB8.out (by kernel_rfl) rfl (by kernel_rfl) ?_; have SHB8 := Aside0.mk (setRow_heap _ h8 _ #[.int .i64 n, .slice A2 (tk ts).length c2] _ _ HB8.out); have THB8 := Aside0.mk (grown_row wf h8 #[.int .i64 n, .slice A2 (tk ts).length c2])))
  replace HP := Aside0.mk (PF.put (g := h8) HP.out (.inr (.inr (.inr (.inl rfl)))) (by rw [← HN0.out]; have := HK.out; omega) THB8.out)
  clear q0 q1 y0 y1 y2 z0 z1
  obtain ⟨q0, q1⟩ := cz2 SHB8.out
  exact bodyPost_ret (v := .tuple #[.agg #[.int .i64 n, .slice A2 (tk ts).length c2], .slice tA tl.length tc, .bool true]) (by simp [results, Try.f41, go_sem, q0, q1]) rfl ⟨_, _, _, _, _, _, rfl, HP.out.drop (fun k hk => .inl hk), HN.out, by omega, HLOW.out⟩
theorem doF_0n {w0 Wc : World} {p r : Nat} {o : Option Nat} {X : Nat → Prop} {ts : List Bool} {A : Option Addr} {c : Nat} {tA : Option Addr} {tc : Nat} {tl : List (Nat × Nat)} {W : World} {n : Nat} (h : PF w0 Wc p r o X ts (tk ts) A c tA tc tl W) (hn : ts.length = n) (hlow : Low tl) (hm : tl.length ≤ 1000) (a b : Int) (ha : (Lit.int .i64 a).wf = true) (hb : (Lit.int .i64 b).wf = true) (R : Nat) (hR : runOf a = R) (hR1 : 1 ≤ R) (hR2 : R ≤ 512) (hF : ¬ ∃ x, First ts R R x) :
    Calls Try.prog 41 #[.pointer (some ⟨p, 0, none⟩), .agg #[.int .i64 n, .slice A (tk ts).length c], .slice tA tl.length tc, .agg #[.int .i64 0, .int .i64 a, .int .i64 b]] W (DidF w0 W p r n tl.length X (tv tA tc tl).ownBlock) := by
  have HT := Aside0.mk (show lookasideref05_Take.f 400000 (n : Int) (tk ts) a = some ((n : Int), tk ts, 0, 6) from by subst hn; exact refTake_n hR (by omega) (take_none h.fs.len R (by omega) hR1 (by omega) (fun j hj => by simpa using no_first hF j (by omega))))
  have HR := Aside0.mk hR
  have HF := Aside0.mk hF
  clear hF
  clear hR
  have hu := Try.underlying59
  have hu2 := Try.underlying77
  have hu3 := Try.underlying68
  have hu4 := Try.underlying70
  obtain ⟨i0, hi0, hz0, hz1, hz2⟩ := info_parts infoTaken
  have HI0 := Aside0.mk (And.intro hi0 (And.intro hz0 (And.intro hz1 hz2)))
  clear hi0 hz0 hz1 hz2
  have hb3 := box3 W #[.int .i64 n, .slice A (tk ts).length c] #[.int .i64 0, .int .i64 a, .int .i64 b] #[.int .i64 0, .slice none 0 0] 59 77 59
  have hlt := blk_lt hb3.2.2.1
  obtain ⟨N0, hN0⟩ : ∃ N0, N0 = W.heap.size := ⟨_, rfl⟩
  have HB5 := Aside0.mk hb3.1
  have HB7 := Aside0.mk hb3.2.1
  have HB8 := Aside0.mk hb3.2.2.1
  have HP := Aside0.mk (PF.al (Y := fun k => X k ∨ k = W.heap.size ∨ k = W.heap.size + 1 ∨ k = W.heap.size + 1 + 1) h.begin hb3.2.2.2 (fun k hk => hk.elim .inl (fun q => .inr ⟨by omega, by omega⟩)))
  have HK := Aside0.mk (show N0 ≤ W.heap.size ∧ W.heap.size < W.heap.size + 1 ∧ W.heap.size + 1 < W.heap.size + 1 + 1 from ⟨by omega, by omega, by omega⟩)
  have HN0 := Aside0.mk hN0
  have HN := Aside0.mk hn
  have HLT := Aside0.mk (show ts.length ≤ 65536 from h.fs.len)
  have HLOW := Aside0.mk hlow
  have HWA := Aside0.mk ha
  have HWB := Aside0.mk hb
  have hn2 : n ≤ 65536 := by rw [← hn]; exact h.fs.len
  clear h hn hlow ha hb hb3 hlt hN0
  obtain ⟨q0, q1⟩ := cz2 HB5.out
  obtain ⟨y0, y1, y2⟩ := cz3 HB7.out
  go_enter Try.func41, Try.ntmps41
  go_wp2_with fail
  generalize W.heap.size + 1 + 1 = h8 at HB8 HP HK ⊢
  generalize W.heap.size + 1 = h7 at HB7 HP HK ⊢
  generalize W.heap.size = h5 at HB5 HP HK ⊢
  refine (lookasideref05_Run.calls a R _ (by rw [ref_run, HR.out])).mono ?_
  rintro x0 wn ⟨rfl, hd⟩
  have hg := drawn_grown hd
  clear hd
  replace HB5 := Aside0.mk (blk_own HB5.out hg (by simp))
  replace HB7 := Aside0.mk (blk_own HB7.out hg (by simp))
  replace HB8 := Aside0.mk (blk_own HB8.out hg (by simp))
  replace HP := Aside0.mk (HP.out.same hg)
  clear hg
  clear q0 q1 y0 y1 y2
  obtain ⟨q0, q1⟩ := cz2 HB5.out
  obtain ⟨y0, y1, y2⟩ := cz3 HB7.out
  go_wp2_with fail
  refine (lookasideref05_Take.calls 400000 n _ A c (tk ts) a _ _ _ _ _ HP.out.v HT.out).mono ?_
  rintro x0 wn ⟨v1, rfl, hV, hb⟩
  obtain ⟨A2, c2, rfl⟩ := Kd.V_slice hV
  have hg := below_grown hb
  replace HB5 := Aside0.mk (blk_own HB5.out hg (by simp))
  replace HB7 := Aside0.mk (blk_own HB7.out hg (by simp))
  replace HB8 := Aside0.mk (blk_own HB8.out hg (by simp))
  replace HP := Aside0.mk (HP.out.ref hb hV)
  clear hg hb hV
  clear q0 q1 y0 y1 y2
  obtain ⟨q0, q1⟩ := cz2 HB5.out
  obtain ⟨y0, y1, y2⟩ := cz3 HB7.out
  go_wp2_with (first | ((with_reducible refine gate_dst (N := 12) rfl ?_); refine box_event ?hg (N := 12) ?hd (cs := #[.int .i64 0, .slice none 0 0]) (t := 59) ?hr ?_; (case hd => rfl); (case hg => rfl); (case hr => first | (go_simp; done) | (go_simp; rfl)); intro h12 hgb w4 hbox hb; have HC := Aside0.mk hbox; have GHC := Aside0.mk (below_grown hb); have LHC := Aside0.mk (Nat.le_of_eq hgb.symm); clear hgb hbox hb) | ((with_reducible refine gate_store (t := 59) (p := 12) rfl ?_); refine wpList_store_row rfl 59 (.tmp 12) (.tmp 35) rfl h12 #[.int .i64 n, .slice A2 (tk ts).length c2] rfl rfl 59 _ HC.out (by kernel_rfl) rfl (by kernel_rfl) ?_; have SHC := Aside0.mk (setRow_heap _ h12 _ #[.int .i64 n, .slice A2 (tk ts).length c2] _ _ HC.out); have THC := Aside0.mk (grown_row w4 h12 #[.int .i64 n, .slice A2 (tk ts).length c2]); have HK2 := Aside0.mk (show N0 ≤ h12 ∧ h5 ≠ h12 ∧ h7 ≠ h12 ∧ h8 ≠ h12 from ⟨by have := blk_lt HB5.out; have := LHC.out; have := HK.out; omega, by have := blk_lt HB5.out; have := LHC.out; omega, by have := blk_lt HB7.out; have := LHC.out; omega, by have := blk_lt HB8.out; have := LHC.out; omega⟩); have HPn := Aside0.mk (HP.out.box (Y := fun k => X k ∨ k = h5 ∨ k = h7 ∨ k = h8 ∨ k = h12) GHC.out LHC.out (blk_lt HC.out) y12 (.inr (.inr (.inr (.inr rfl)))) (by rw [← HN0.out]; exact HK2.out.1) THC.out); clear HP; have HP := HPn; clear HPn; replace HB5 := Aside0.mk (blk_own (blk_own HB5.out GHC.out (by simp)) THC.out (fun e => HK2.out.2.1 (Option.some.inj e))); replace HB7 := Aside0.mk (blk_own (blk_own HB7.out GHC.out (by simp)) THC.out (fun e => HK2.out.2.2.1 (Option.some.inj e))); replace HB8 := Aside0.mk (blk_own (blk_own HB8.out GHC.out (by simp)) THC.out (fun e => HK2.out.2.2.2 (Option.some.inj e))); have HB12 := Aside0.mk SHC.out; generalize World.setRow w4 h12 #[.int .i64 n, .slice A2 (tk ts).length c2] = w5 at HP HB5 HB7 HB8 HB12 ⊢; clear HC GHC LHC SHC THC; clear q0 q1 y0 y1 y2; obtain ⟨q0, q1⟩ := cz2 HB5.out; obtain ⟨y0, y1, y2⟩ := cz3 HB7.out))
  refine (fs_Take HP.out.fs a R HR.out hR1 hR2).mono ?_
  rintro x0 wf hT
  obtain ⟨rfl, hf, hk⟩ := took_not hT (fun x hx => HF.out ⟨x, hx⟩)
  clear hT
  replace HB5 := Aside0.mk (blk_frk HB5.out hk ⟨(HP.out.xs h5 (.inr (.inl rfl))).1, (HP.out.xs h5 (.inr (.inl rfl))).2.1⟩)
  replace HB7 := Aside0.mk (blk_frk HB7.out hk ⟨(HP.out.xs h7 (.inr (.inr (.inl rfl)))).1, (HP.out.xs h7 (.inr (.inr (.inl rfl)))).2.1⟩)
  replace HB8 := Aside0.mk (blk_frk HB8.out hk ⟨(HP.out.xs h8 (.inr (.inr (.inr (.inl rfl))))).1, (HP.out.xs h8 (.inr (.inr (.inr (.inl rfl))))).2.1⟩)
  replace HB12 := Aside0.mk (blk_frk HB12.out hk ⟨(HP.out.xs h12 (.inr (.inr (.inr (.inr rfl))))).1, (HP.out.xs h12 (.inr (.inr (.inr (.inr rfl))))).2.1⟩)
  replace HP := Aside0.mk (HP.out.frk hf hk)
  clear hf hk
  clear q0 q1 y0 y1 y2
  obtain ⟨q0, q1⟩ := cz2 HB5.out
  obtain ⟨y0, y1, y2⟩ := cz3 HB7.out
  obtain ⟨z0, z1⟩ := cz2 HB12.out
  go_wp2_with (first | ((with_reducible refine gate_store (t := 59) (p := 8) rfl ?_); refine wpList_store_row rfl 59 (.tmp 8) (.tmp 76) rfl h8 #[.int .i64 n, .slice A2 (tk ts).length c2] rfl rfl 59 _ HB8.out (by kernel_rfl) rfl (by kernel_rfl) ?_; have SHB8 := Aside0.mk (setRow_heap _ h8 _ #[.int .i64 n, .slice A2 (tk ts).length c2] _ _ HB8.out); have THB8 := Aside0.mk (grown_row wf h8 #[.int .i64 n, .slice A2 (tk ts).length c2])))
  replace HP := Aside0.mk (PF.put (g := h8) HP.out (.inr (.inr (.inr (.inl rfl)))) (by rw [← HN0.out]; have := HK.out; omega) THB8.out)
  clear q0 q1 y0 y1 y2 z0 z1
  obtain ⟨q0, q1⟩ := cz2 SHB8.out
  exact bodyPost_ret (v := .tuple #[.agg #[.int .i64 n, .slice A2 (tk ts).length c2], .slice tA tl.length tc, .bool true]) (by simp [results, Try.f41, go_sem, q0, q1]) rfl ⟨_, _, _, _, _, _, rfl, HP.out.drop (fun k hk => .inl hk), HN.out, by omega, HLOW.out⟩
theorem doF_0y {w0 Wc : World} {p r : Nat} {o : Option Nat} {X : Nat → Prop} {ts : List Bool} {A : Option Addr} {c : Nat} {tA : Option Addr} {tc : Nat} {tl : List (Nat × Nat)} {W : World} {n : Nat} (h : PF w0 Wc p r o X ts (tk ts) A c tA tc tl W) (hn : ts.length = n) (hlow : Low tl) (hm : tl.length ≤ 1000) (a b : Int) (ha : (Lit.int .i64 a).wf = true) (hb : (Lit.int .i64 b).wf = true) (R x : Nat) (hR : runOf a = R) (hR1 : 1 ≤ R) (hR2 : R ≤ 512) (hF : First ts R R x) :
    Calls Try.prog 41 #[.pointer (some ⟨p, 0, none⟩), .agg #[.int .i64 n, .slice A (tk ts).length c], .slice tA tl.length tc, .agg #[.int .i64 0, .int .i64 a, .int .i64 b]] W (DidF w0 W p r n tl.length X (tv tA tc tl).ownBlock) := by
  have HT := Aside0.mk (show lookasideref05_Take.f 400000 (n : Int) (tk ts) a = some ((n : Int), tk (setN ts x true R), (x : Int), 0) from by subst hn; exact refTake_n hR (by omega) (take_first h.fs.len hR1 hR1 (by omega) hF))
  have HR := Aside0.mk hR
  have hxn : x + R ≤ n := by obtain ⟨j, _, h1, _⟩ := hF; omega
  have HF := Aside0.mk hF
  clear hF
  clear hR
  have hu := Try.underlying59
  have hu2 := Try.underlying77
  have hu3 := Try.underlying68
  have hu4 := Try.underlying70
  obtain ⟨i0, hi0, hz0, hz1, hz2⟩ := info_parts infoTaken
  have HI0 := Aside0.mk (And.intro hi0 (And.intro hz0 (And.intro hz1 hz2)))
  clear hi0 hz0 hz1 hz2
  have hb3 := box3 W #[.int .i64 n, .slice A (tk ts).length c] #[.int .i64 0, .int .i64 a, .int .i64 b] #[.int .i64 0, .slice none 0 0] 59 77 59
  have hlt := blk_lt hb3.2.2.1
  obtain ⟨N0, hN0⟩ : ∃ N0, N0 = W.heap.size := ⟨_, rfl⟩
  have HB5 := Aside0.mk hb3.1
  have HB7 := Aside0.mk hb3.2.1
  have HB8 := Aside0.mk hb3.2.2.1
  have HP := Aside0.mk (PF.al (Y := fun k => X k ∨ k = W.heap.size ∨ k = W.heap.size + 1 ∨ k = W.heap.size + 1 + 1) h.begin hb3.2.2.2 (fun k hk => hk.elim .inl (fun q => .inr ⟨by omega, by omega⟩)))
  have HK := Aside0.mk (show N0 ≤ W.heap.size ∧ W.heap.size < W.heap.size + 1 ∧ W.heap.size + 1 < W.heap.size + 1 + 1 from ⟨by omega, by omega, by omega⟩)
  have HN0 := Aside0.mk hN0
  have HN := Aside0.mk hn
  have HLT := Aside0.mk (show ts.length ≤ 65536 from h.fs.len)
  have HLOW := Aside0.mk hlow
  have HWA := Aside0.mk ha
  have HWB := Aside0.mk hb
  have hn2 : n ≤ 65536 := by rw [← hn]; exact h.fs.len
  clear h hn hlow ha hb hb3 hlt hN0
  obtain ⟨q0, q1⟩ := cz2 HB5.out
  obtain ⟨y0, y1, y2⟩ := cz3 HB7.out
  go_enter Try.func41, Try.ntmps41
  go_wp2_with fail
  generalize W.heap.size + 1 + 1 = h8 at HB8 HP HK ⊢
  generalize W.heap.size + 1 = h7 at HB7 HP HK ⊢
  generalize W.heap.size = h5 at HB5 HP HK ⊢
  refine (lookasideref05_Run.calls a R _ (by rw [ref_run, HR.out])).mono ?_
  rintro x0 wn ⟨rfl, hd⟩
  have hg := drawn_grown hd
  clear hd
  replace HB5 := Aside0.mk (blk_own HB5.out hg (by simp))
  replace HB7 := Aside0.mk (blk_own HB7.out hg (by simp))
  replace HB8 := Aside0.mk (blk_own HB8.out hg (by simp))
  replace HP := Aside0.mk (HP.out.same hg)
  clear hg
  clear q0 q1 y0 y1 y2
  obtain ⟨q0, q1⟩ := cz2 HB5.out
  obtain ⟨y0, y1, y2⟩ := cz3 HB7.out
  go_wp2_with fail
  refine (lookasideref05_Take.calls 400000 n _ A c (tk ts) a _ _ _ _ _ HP.out.v HT.out).mono ?_
  rintro x0 wn ⟨v1, rfl, hV, hb⟩
  obtain ⟨A2, c2, rfl⟩ := Kd.V_slice hV
  have hg := below_grown hb
  replace HB5 := Aside0.mk (blk_own HB5.out hg (by simp))
  replace HB7 := Aside0.mk (blk_own HB7.out hg (by simp))
  replace HB8 := Aside0.mk (blk_own HB8.out hg (by simp))
  replace HP := Aside0.mk (HP.out.ref hb hV)
  clear hg hb hV
  clear q0 q1 y0 y1 y2
  obtain ⟨q0, q1⟩ := cz2 HB5.out
  obtain ⟨y0, y1, y2⟩ := cz3 HB7.out
  go_wp2_with (first | ((with_reducible refine gate_dst (N := 12) rfl ?_); refine box_event ?hg (N := 12) ?hd (cs := #[.int .i64 0, .slice none 0 0]) (t := 59) ?hr ?_; (case hd => rfl); (case hg => rfl); (case hr => first | (go_simp; done) | (go_simp; rfl)); intro h12 hgb w4 hbox hb; have HC := Aside0.mk hbox; have GHC := Aside0.mk (below_grown hb); have LHC := Aside0.mk (Nat.le_of_eq hgb.symm); clear hgb hbox hb) | ((with_reducible refine gate_store (t := 59) (p := 12) rfl ?_); refine wpList_store_row rfl 59 (.tmp 12) (.tmp 35) rfl h12 #[.int .i64 n, .slice A2 (tk (setN ts x true R)).length c2] rfl rfl 59 _ HC.out (by kernel_rfl) rfl (by kernel_rfl) ?_; have SHC := Aside0.mk (setRow_heap _ h12 _ #[.int .i64 n, .slice A2 (tk (setN ts x true R)).length c2] _ _ HC.out); have THC := Aside0.mk (grown_row w4 h12 #[.int .i64 n, .slice A2 (tk (setN ts x true R)).length c2]); have HK2 := Aside0.mk (show N0 ≤ h12 ∧ h5 ≠ h12 ∧ h7 ≠ h12 ∧ h8 ≠ h12 from ⟨by have := blk_lt HB5.out; have := LHC.out; have := HK.out; omega, by have := blk_lt HB5.out; have := LHC.out; omega, by have := blk_lt HB7.out; have := LHC.out; omega, by have := blk_lt HB8.out; have := LHC.out; omega⟩); have HPn := Aside0.mk (HP.out.box (Y := fun k => X k ∨ k = h5 ∨ k = h7 ∨ k = h8 ∨ k = h12) GHC.out LHC.out (blk_lt HC.out) y12 (.inr (.inr (.inr (.inr rfl)))) (by rw [← HN0.out]; exact HK2.out.1) THC.out); clear HP; have HP := HPn; clear HPn; replace HB5 := Aside0.mk (blk_own (blk_own HB5.out GHC.out (by simp)) THC.out (fun e => HK2.out.2.1 (Option.some.inj e))); replace HB7 := Aside0.mk (blk_own (blk_own HB7.out GHC.out (by simp)) THC.out (fun e => HK2.out.2.2.1 (Option.some.inj e))); replace HB8 := Aside0.mk (blk_own (blk_own HB8.out GHC.out (by simp)) THC.out (fun e => HK2.out.2.2.2 (Option.some.inj e))); have HB12 := Aside0.mk SHC.out; generalize World.setRow w4 h12 #[.int .i64 n, .slice A2 (tk (setN ts x true R)).length c2] = w5 at HP HB5 HB7 HB8 HB12 ⊢; clear HC GHC LHC SHC THC; clear q0 q1 y0 y1 y2; obtain ⟨q0, q1⟩ := cz2 HB5.out; obtain ⟨y0, y1, y2⟩ := cz3 HB7.out))
  refine (fs_Take HP.out.fs a R HR.out hR1 hR2).mono ?_
  rintro x0 wf hT
  obtain ⟨rfl, hf, hk⟩ := took_yes hT HF.out
  clear hT
  replace HB5 := Aside0.mk (blk_frk HB5.out hk ⟨(HP.out.xs h5 (.inr (.inl rfl))).1, (HP.out.xs h5 (.inr (.inl rfl))).2.1⟩)
  replace HB7 := Aside0.mk (blk_frk HB7.out hk ⟨(HP.out.xs h7 (.inr (.inr (.inl rfl)))).1, (HP.out.xs h7 (.inr (.inr (.inl rfl)))).2.1⟩)
  replace HB8 := Aside0.mk (blk_frk HB8.out hk ⟨(HP.out.xs h8 (.inr (.inr (.inr (.inl rfl))))).1, (HP.out.xs h8 (.inr (.inr (.inr (.inl rfl))))).2.1⟩)
  replace HB12 := Aside0.mk (blk_frk HB12.out hk ⟨(HP.out.xs h12 (.inr (.inr (.inr (.inr rfl))))).1, (HP.out.xs h12 (.inr (.inr (.inr (.inr rfl))))).2.1⟩)
  replace HP := Aside0.mk (HP.out.frk hf hk)
  clear hf hk
  clear q0 q1 y0 y1 y2
  obtain ⟨q0, q1⟩ := cz2 HB5.out
  obtain ⟨y0, y1, y2⟩ := cz3 HB7.out
  obtain ⟨z0, z1⟩ := cz2 HB12.out
  go_wp2_with (first | (at_builtin; refine wpList_append_own_at _ rfl _ _ 68 rfl w0.heap.size 70 i0 (.agg #[.int .i64 0, .int .i64 0]) 2 16 Try.underlying68 HI0.out.1 HI0.out.2.1 HI0.out.2.2.1 HI0.out.2.2.2 rfl (by decide) _ _ _ rfl (HP.out.tr.own.alloc _) ⟨wf.heap.size, 0, none⟩ 1 1 [.int .i64 (x : Nat), .int .i64 R] rfl rfl (two_new _ _ _ _) (by simp [Value.oneCell']) (by unfold maxLen; omega) (by omega) (by have := HP.out.fs.below.size; simp; omega) ?_; intro v' w2 hown' hgrow _ hoo; obtain ⟨g', cap', rfl⟩ := ownsRow_succ hown'; have HPA := Aside0.mk (HP.out.same (World.grownBy_alloc wf (.cells #[.int .i64 (x : Nat), .int .i64 R] 70) none)); replace HB5 := Aside0.mk (blk_own (blk_own HB5.out (World.grownBy_alloc wf (.cells #[.int .i64 (x : Nat), .int .i64 R] 70) none) (by simp)) hgrow (HPA.out.xs h5 (.inr (.inl rfl))).2.2.1); replace HB7 := Aside0.mk (blk_own (blk_own HB7.out (World.grownBy_alloc wf (.cells #[.int .i64 (x : Nat), .int .i64 R] 70) none) (by simp)) hgrow (HPA.out.xs h7 (.inr (.inr (.inl rfl)))).2.2.1); replace HB8 := Aside0.mk (blk_own (blk_own HB8.out (World.grownBy_alloc wf (.cells #[.int .i64 (x : Nat), .int .i64 R] 70) none) (by simp)) hgrow (HPA.out.xs h8 (.inr (.inr (.inr (.inl rfl))))).2.2.1); replace HB12 := Aside0.mk (blk_own (blk_own HB12.out (World.grownBy_alloc wf (.cells #[.int .i64 (x : Nat), .int .i64 R] 70) none) (by simp)) hgrow (HPA.out.xs h12 (.inr (.inr (.inr (.inr rfl))))).2.2.1); replace HP := Aside0.mk (HPA.out.app (tA' := some ⟨g', 0, none⟩) (tc' := cap') (tl' := tl ++ [(x, R)]) ⟨by rw [vals_snoc]; simpa using hown'⟩ hgrow hoo); clear hown' hgrow hoo HPA; clear q0 q1 y0 y1 y2; obtain ⟨q0, q1⟩ := cz2 HB5.out; obtain ⟨y0, y1, y2⟩ := cz3 HB7.out; clear z0 z1; obtain ⟨z0, z1⟩ := cz2 HB12.out) | ((with_reducible refine gate_store (t := 59) (p := 8) rfl ?_); refine wpList_store_row rfl 59 (.tmp 8) (.tmp 76) rfl h8 #[.int .i64 n, .slice A2 (tk (setN ts x true R)).length c2] rfl rfl 59 _ HB8.out (by kernel_rfl) rfl (by kernel_rfl) ?_; have SHB8 := Aside0.mk (setRow_heap _ h8 _ #[.int .i64 n, .slice A2 (tk (setN ts x true R)).length c2] _ _ HB8.out); have THB8 := Aside0.mk (grown_row w2 h8 #[.int .i64 n, .slice A2 (tk (setN ts x true R)).length c2])))
  replace HP := Aside0.mk (PF.put (g := h8) HP.out (.inr (.inr (.inr (.inl rfl)))) (by rw [← HN0.out]; have := HK.out; omega) THB8.out)
  clear q0 q1 y0 y1 y2 z0 z1
  obtain ⟨q0, q1⟩ := cz2 SHB8.out
  exact bodyPost_ret (v := .tuple #[.agg #[.int .i64 n, .slice A2 (tk (setN ts x true R)).length c2], .slice (some ⟨g', 0, none⟩) (tl ++ [(x, R)]).length cap', .bool true]) (by simp [results, Try.f41, go_sem, q0, q1]) rfl ⟨_, _, _, _, _, _, rfl, HP.out.drop (fun k hk => .inl hk), (setN_len _ _ _ _).trans HN.out, by simp, HLOW.out.snoc (by omega) (by omega)⟩
end
end Go.Proofs.Ytlndljgoliepdaa.QFramesPlays
