/- An entry put into the first TSB of a world, by both. -/
import Derived.Test.YtjnffegjpkbjmaaGreatSk3
import Derived.Test.YtjnffegjpkbjmaaGreatTsRi
namespace Go.Proofs.YtjnffegjpkbjmaaGreat.Mem
open Go.Proofs.YtjnffegjpkbjmaaGreat.QFramesPlays (Fs Fr FrK Took fs_Many fs_new fs_list fs_free took_at setN cnt)
open Go.RowKit Go.Maps Go.Proofs.YtjnffegjpkbjmaaGreatW.PrintWords Go.Proofs.YtjnffegjpkbjmaaGreatW.PrintLast Go.Proofs.YtjnffegjpkbjmaaGreatW.PrintMore Go.Proofs.YtjnffegjpkbjmaaGreat.QTsbPlays Go.Proofs.YtjnffegjpkbjmaaGreat.Pure
set_option linter.unusedSimpArgs false
set_option linter.unusedVariables false
section
set_option maxHeartbeats 2000000
set_option maxRecDepth 100000
theorem good_calls (e : Ent) (he : EntW e) (s : Nat) (hs : s < 4) (W : World) :
    Calls Tryz.prog 30 #[.agg #[.int .i64 (s : Int), .int .i64 e.f1, .int .u64 e.f2, .int .u64 e.f3, .bool e.f4.f0, .bool e.f4.f1, .bool e.f4.f2, .bool e.f4.f3, .bool e.f4.f4, .bool e.f4.f5, .bool e.f5]] W fun x W' => x = .returned (.agg (geA (geE s e))) ∧ W.grownBy W' none := by
  obtain ⟨b1, b2⟩ := m_u64 he.v
  obtain ⟨b3, b4⟩ := m_u64 he.p
  have h := rGood (s : Int) e.f1 e.f2.toNat e.f3.toNat e.f4.f0 e.f4.f1 e.f4.f2 e.f4.f3 e.f4.f4 e.f4.f5 e.f5 (by simp [Lit.wf, IntKind.min, IntKind.max, IntKind.signed, IntKind.bits]; omega) he.c (by omega) (by omega) 500 (by decide)
  rw [Int.toNat_of_nonneg b1, Int.toNat_of_nonneg b3, goodS_in s hs] at h
  refine (lookasideref03_Good.calls 500 _ _ _ _ _ _ _ _ _ _ _ _ _ _ _ _ _ _ _ _ _ _ _ h).mono ?_
  rintro x W' ⟨rfl, hb⟩
  exact ⟨rfl, below_grown hb⟩
theorem cz15 {W : World} {g : Nat} {t : TypeId} {a0 a1 a2 a3 a4 a5 a6 a7 a8 a9 a10 a11 a12 a13 a14 : Value} (h : W.heap[g]? = some (.cells #[a0, a1, a2, a3, a4, a5, a6, a7, a8, a9, a10, a11, a12, a13, a14] t (0, 0))) : W.cell? ⟨g, 0, none⟩ = some a0 ∧ W.cell? ⟨g, 1, none⟩ = some a1 ∧ W.cell? ⟨g, 4, none⟩ = some a4 ∧ W.cell? ⟨g, 5, none⟩ = some a5 ∧ W.cell? ⟨g, 6, none⟩ = some a6 ∧ W.cell? ⟨g, 7, none⟩ = some a7 ∧ W.cell? ⟨g, 8, none⟩ = some a8 ∧ W.cell? ⟨g, 9, none⟩ = some a9 ∧ W.cell? ⟨g, 10, none⟩ = some a10 ∧ W.cell? ⟨g, 11, none⟩ = some a11 ∧ W.cell? ⟨g, 12, none⟩ = some a12 ∧ W.cell? ⟨g, 13, none⟩ = some a13 ∧ W.cell? ⟨g, 14, none⟩ = some a14 := ⟨(blk_cell h 0).trans rfl, (blk_cell h 1).trans rfl, (blk_cell h 4).trans rfl, (blk_cell h 5).trans rfl, (blk_cell h 6).trans rfl, (blk_cell h 7).trans rfl, (blk_cell h 8).trans rfl, (blk_cell h 9).trans rfl, (blk_cell h 10).trans rfl, (blk_cell h 11).trans rfl, (blk_cell h 12).trans rfl, (blk_cell h 13).trans rfl, (blk_cell h 14).trans rfl⟩
noncomputable def does10_T : Bool × List (List Nat × List Nat) := rtab .any (opsOf Tryz.f10 10)
theorem does10_tab : rtab .any (opsOf Tryz.f10 10) = does10_T := rfl
noncomputable def does16_T : Bool × List (List Nat × List Nat) := rtab .any (opsOf Tryz.f10 16)
theorem does16_tab : rtab .any (opsOf Tryz.f10 16) = does16_T := rfl
noncomputable def does17_T : Bool × List (List Nat × List Nat) := rtab .any (opsOf Tryz.f10 17)
theorem does17_tab : rtab .any (opsOf Tryz.f10 17) = does17_T := rfl
theorem set3 {cs : Array Value} (h : 5 ≤ cs.size) (a b c : Value) : 5 ≤ (((cs.setIfInBounds 0 a).setIfInBounds 1 b).setIfInBounds 2 c).size ∧ (((cs.setIfInBounds 0 a).setIfInBounds 1 b).setIfInBounds 2 c)[0]? = some a ∧ (((cs.setIfInBounds 0 a).setIfInBounds 1 b).setIfInBounds 2 c)[1]? = some b ∧ (((cs.setIfInBounds 0 a).setIfInBounds 1 b).setIfInBounds 2 c)[2]? = some c := by
  have h0 : 0 < cs.size := by omega
  have h1 : 1 < cs.size := by omega
  have h2 : 2 < cs.size := by omega
  refine ⟨by simpa using h, ?_, ?_, ?_⟩ <;> simp [Array.getElem?_setIfInBounds, h0, h1, h2]
theorem does3_calls {w0 W : World} {h pm mb pf rf lb sb pt n s N F cap cap5 : Nat} {g sz : Int} {v3 : Value} {lcs scs : Array Value} {A : Option Addr} {c : Nat} {l : List WS} {os : Nat → Option GE} {ts : List Bool} (tb : TB 0 N s sz)
    (hh : W.heap[h]? = some (.cells #[.pointer (some ⟨pm, 0, none⟩), .pointer (some ⟨pf, 0, none⟩), .slice (some ⟨lb, 0, none⟩) 1 cap, .int .i64 (F : Int), v3, .slice (some ⟨sb, 0, none⟩) 1 cap5] 35 (0, 0))) (hl : W.heap[lb]? = some (.cells lcs 44 (0, 0))) (hl0 : lcs[0]? = some (.pointer (some ⟨pt, 0, none⟩)))
    (hs : W.heap[sb]? = some (.cells scs 66 (0, 0))) (h5 : 5 ≤ scs.size) (s0 : scs[0]? = some (.int .i64 (s : Int))) (s1 : scs[1]? = some (.int .i64 (N : Int))) (s2 : scs[2]? = some (.slice A l.length c)) (hsb : w0.heap.size ≤ sb)
    (hR : Kd.R k141 141 W w0.heap.size (fun _ => True) (.slice A l.length c) l) (hll : l.length ≤ 800000) (hT : TK w0.heap.size w0 pm mb pt sz 0 N s g n os W) (hF : Fs w0.heap.size w0 pf rf ts W) (hn : n ≤ 800000) (e : Ent) (he : EntW e) :
    Calls Tryz.prog 10 #[.pointer (some ⟨h, 0, none⟩), .agg #[.int .i64 3, .int .i64 0, .int .i64 0, .int .i64 0, .int .i64 e.f0, .int .i64 e.f1, .int .u64 e.f2, .int .u64 e.f3, .bool e.f4.f0, .bool e.f4.f1, .bool e.f4.f2, .bool e.f4.f3, .bool e.f4.f4, .bool e.f4.f5, .bool e.f5]] W fun x W' => x = .returned (.bool true) ∧ ∃ scs' A' c' l', W'.heap[h]? = some (.cells #[.pointer (some ⟨pm, 0, none⟩), .pointer (some ⟨pf, 0, none⟩), .slice (some ⟨lb, 0, none⟩) 1 cap, .int .i64 (F : Int), v3, .slice (some ⟨sb, 0, none⟩) 1 cap5] 35 (0, 0)) ∧ W'.heap[lb]? = some (.cells lcs 44 (0, 0)) ∧ W'.heap[sb]? = some (.cells scs' 66 (0, 0)) ∧ 5 ≤ scs'.size ∧ scs'[0]? = some (.int .i64 (s : Int)) ∧ scs'[1]? = some (.int .i64 (N : Int)) ∧ scs'[2]? = some (.slice A' (List.length l') c') ∧ Kd.R k141 141 W' w0.heap.size (fun _ => True) (.slice A' (List.length l') c') l' ∧ List.length l' ≤ l.length + 3 ∧ TK w0.heap.size w0 pm mb pt sz 0 N s g (n + 3) (setO os (plcOf N (s : Int) (geE s e).v) (some (geE s e))) W' ∧ Fs w0.heap.size w0 pf rf ts W' := by
  have hu := Tryz.underlying43
  have hu2 := Tryz.underlying66
  have hu3 := Tryz.underlying35
  have hu4 := Tryz.underlying41
  have hu5 := Tryz.underlying64
  have HTB := Aside0.mk tb
  have HEW := Aside0.mk he
  have HSB := Aside0.mk hsb
  have HNN := Aside0.mk (And.intro hll hn)
  have HL0 := Aside0.mk hl0
  have HS5 := Aside0.mk h5
  have HS0 := Aside0.mk s0
  have HS1 := Aside0.mk s1
  have HS2 := Aside0.mk s2
  have hga := World.grownBy_alloc W (.cells #[.int .i64 3, .int .i64 0, .int .i64 0, .int .i64 0, .int .i64 e.f0, .int .i64 e.f1, .int .u64 e.f2, .int .u64 e.f3, .bool e.f4.f0, .bool e.f4.f1, .bool e.f4.f2, .bool e.f4.f3, .bool e.f4.f4, .bool e.f4.f5, .bool e.f5] 43) none
  have HD := Aside0.mk (heap_alloc_new W (.cells #[.int .i64 3, .int .i64 0, .int .i64 0, .int .i64 0, .int .i64 e.f0, .int .i64 e.f1, .int .u64 e.f2, .int .u64 e.f3, .bool e.f4.f0, .bool e.f4.f1, .bool e.f4.f2, .bool e.f4.f3, .bool e.f4.f4, .bool e.f4.f5, .bool e.f5] 43))
  have HB := Aside0.mk (blk_grown hh hga)
  have HL := Aside0.mk (blk_grown hl hga)
  have HS := Aside0.mk (blk_grown hs hga)
  have HR := Aside0.mk (Kd.R_grown hR hga (by simp))
  have HT := Aside0.mk (hT.same hga)
  have HF := Aside0.mk (hF.same hga)
  have HHW := Aside0.mk (show w0.heap.size ≤ W.heap.size from hT.below0)
  clear tb he hsb hll hn hl0 h5 s0 s1 s2 hga hh hl hs hR hT hF
  obtain ⟨d0, d1, d2, d3, d4, d5, d6, d7, d8, d9, d10, d11, d12⟩ := cz15 HD.out
  obtain ⟨q0, q1, q2, q3, q4, q5⟩ := cz6 HB.out
  go_enter Tryz.func10, Tryz.ntmps10
  go_upto_region 10 with fail
  clear d0 d1 d2 d3 d4 d5 d6 d7 d8 d9 d10 d11 d12 q0 q1 q2 q3 q4 q5
  obtain ⟨b3, hb3⟩ : ∃ z, z = W.heap.size := ⟨_, rfl⟩
  rw [← hb3] at HD HHW
  rw [← hb3]
  clear hb3
  generalize W.alloc (.cells #[.int .i64 3, .int .i64 0, .int .i64 0, .int .i64 0, .int .i64 e.f0, .int .i64 e.f1, .int .u64 e.f2, .int .u64 e.f3, .bool e.f4.f0, .bool e.f4.f1, .bool e.f4.f2, .bool e.f4.f3, .bool e.f4.f4, .bool e.f4.f5, .bool e.f5] 43) = w1 at HD HB HL HS HR HT HF ⊢
  have hg := grown_drew w1 none
  replace HL := Aside0.mk (blk_grown HL.out hg)
  replace HS := Aside0.mk (blk_grown HS.out hg)
  replace HR := Aside0.mk (Kd.R_grown HR.out hg (by simp))
  replace HT := Aside0.mk (HT.out.same hg)
  replace HF := Aside0.mk (HF.out.same hg)
  replace HB := Aside0.mk (blk_grown HB.out hg)
  replace HD := Aside0.mk (blk_grown HD.out hg)
  clear hg
  refine start_ (n := 9) (S := fun w' => w'.heap[b3]? = some (.cells #[.int .i64 3, .int .i64 0, .int .i64 0, .int .i64 0, .int .i64 e.f0, .int .i64 e.f1, .int .u64 e.f2, .int .u64 e.f3, .bool e.f4.f0, .bool e.f4.f1, .bool e.f4.f2, .bool e.f4.f3, .bool e.f4.f4, .bool e.f4.f5, .bool e.f5] 43 (0, 0)) ∧ w'.heap[h]? = some (.cells #[.pointer (some ⟨pm, 0, none⟩), .pointer (some ⟨pf, 0, none⟩), .slice (some ⟨lb, 0, none⟩) 1 cap, .int .i64 (F : Int), v3, .slice (some ⟨sb, 0, none⟩) 1 cap5] 35 (0, 0))) (ds := []) #[false, false, false, false, false, false, false, false, false] (by kernel_rfl) rfl rfl ⟨HD.out, HB.out⟩ (fun hHeld => ?_)
  refine with_tab does10_tab (fun HT_ => ?_)
  refine pure_ (i := 0) (N := some 73) (v := ?_) (a' := ?_) #[true, false, false, false, false, false, false, false, false] rfl rfl (any_of HT_.out (by kernel_rfl)) (fun _ _ _ h => h) (Or.inl ⟨by rfl, ?_⟩) ?_ ?_
  rotate_left
  · intro w'
    go_simp
    with_reducible rfl
  rotate_left
  · simp only [ap_]
    rfl
  refine pure_ (i := 2) (N := some 75) (v := ?_) (a' := ?_) #[true, false, true, false, false, false, false, false, false] rfl rfl (any_of HT_.out (by kernel_rfl)) (fun _ _ _ h => h) (Or.inl ⟨by rfl, ?_⟩) ?_ ?_
  rotate_left
  · intro w'
    go_simp
    with_reducible rfl
  rotate_left
  · simp only [ap_]
    rfl
  refine pure_ (i := 3) (N := some 76) (v := ?_) (a' := ?_) #[true, false, true, true, false, false, false, false, false] rfl rfl (any_of HT_.out (by kernel_rfl)) (fun _ _ _ h => h) (Or.inl ⟨by rfl, ?_⟩) ?_ ?_
  rotate_left
  · intro w'
    go_simp
    with_reducible rfl
  rotate_left
  · simp only [ap_]
    rfl
  refine pure_ (i := 4) (N := some 77) (v := ?_) (a' := ?_) #[true, false, true, true, true, false, false, false, false] rfl rfl (any_of HT_.out (by kernel_rfl)) (fun _ _ _ h => h) (Or.inl ⟨by rfl, ?_⟩) ?_ ?_
  rotate_left
  · intro w'
    go_simp
    with_reducible rfl
  rotate_left
  · simp only [ap_]
    rfl
  refine take_ (i := 1) (N := some 74) (v := .int .i64 0) (a' := ?_) #[true, true, true, true, true, false, false, false, false] rfl rfl (take_of HT_.out (by kernel_rfl)) (fun _ _ _ h => h) (Or.inl ⟨by rfl, ?_⟩) hHeld ?_ ?_
  · rintro w' ⟨s1, s2⟩
    obtain ⟨d0, d1, d2, d3, d4, d5, d6, d7, d8, d9, d10, d11, d12⟩ := cz15 s1
    go_simp
  rotate_left
  · simp only [ap_]
    rfl
  refine take_ (i := 5) (N := some 78) (v := .slice (some ⟨lb, 0, none⟩) 1 cap) (a' := ?_) #[true, true, true, true, true, true, false, false, false] rfl rfl (take_of HT_.out (by kernel_rfl)) (fun _ _ _ h => h) (Or.inl ⟨by rfl, ?_⟩) hHeld ?_ ?_
  · rintro w' ⟨s1, s2⟩
    obtain ⟨q0, q1, q2, q3, q4, q5⟩ := cz6 s2
    go_simp
  rotate_left
  · simp only [ap_]
    rfl
  refine pure_ (i := 6) (N := some 79) (v := ?_) (a' := ?_) #[true, true, true, true, true, true, true, false, false] rfl rfl (any_of HT_.out (by kernel_rfl)) (fun _ _ _ h => h) (Or.inl ⟨by rfl, ?_⟩) ?_ ?_
  rotate_left
  · intro w'
    go_simp
    with_reducible rfl
  rotate_left
  · simp only [ap_]
    rfl
  refine one_ (i := 7) (N := some 80) #[true, true, true, true, true, true, true, true, false] rfl rfl (one_of HT_.out (by kernel_rfl)) (by decide) (fun K hK => ?_)
  refine goes_ Tryz.func6 (by kernel_rfl) rfl #[.int .i64 0, .int .i64 1] (by rfl) rfl rfl (by (try simp only [List.map_toArray, List.map_cons, List.map_nil]); first | done | rfl) ?_
  refine (lookasideref08_Around.calls 0 1 0 _ (by decide +kernel)).mono ?_
  rintro x0 wn ⟨rfl, hd⟩
  have hg := drawn_grown hd
  replace HL := Aside0.mk (blk_grown HL.out hg)
  replace HS := Aside0.mk (blk_grown HS.out hg)
  replace HR := Aside0.mk (Kd.R_grown HR.out hg (by simp))
  replace HT := Aside0.mk (HT.out.same hg)
  replace HF := Aside0.mk (HF.out.same hg)
  replace HB := Aside0.mk (blk_grown HB.out hg)
  replace HD := Aside0.mk (blk_grown HD.out hg)
  have hs : wn.heap[b3]? = some (.cells #[.int .i64 3, .int .i64 0, .int .i64 0, .int .i64 0, .int .i64 e.f0, .int .i64 e.f1, .int .u64 e.f2, .int .u64 e.f3, .bool e.f4.f0, .bool e.f4.f1, .bool e.f4.f2, .bool e.f4.f3, .bool e.f4.f4, .bool e.f4.f5, .bool e.f5] 43 (0, 0)) ∧ wn.heap[h]? = some (.cells #[.pointer (some ⟨pm, 0, none⟩), .pointer (some ⟨pf, 0, none⟩), .slice (some ⟨lb, 0, none⟩) 1 cap, .int .i64 (F : Int), v3, .slice (some ⟨sb, 0, none⟩) 1 cap5] 35 (0, 0)) := ⟨HD.out, HB.out⟩
  clear hd hg
  refine ⟨_, rfl, ?_⟩
  refine hK.out _ _ hs (fun hHeld => ?_)
  clear hK K
  refine norm_ (a' := ?_) ?_ ?_
  rotate_left
  · show Act.put _ (some 80) _ = _
    simp only [ap_]
    rfl
  refine pure_ (i := 8) (N := some 10) (v := ?_) (a' := ?_) #[true, true, true, true, true, true, true, true, true] rfl rfl (any_of HT_.out (by kernel_rfl)) (fun _ _ _ h => h) (Or.inl ⟨by rfl, ?_⟩) ?_ ?_
  rotate_left
  · intro w'
    go_simp
    with_reducible rfl
  rotate_left
  · simp only [ap_]
    rfl
  refine done_ (done_of HT_.out (by kernel_rfl)) ?_
  clear hHeld
  obtain ⟨d0, d1, d2, d3, d4, d5, d6, d7, d8, d9, d10, d11, d12⟩ := cz15 HD.out
  obtain ⟨q0, q1, q2, q3, q4, q5⟩ := cz6 HB.out
  have x0 := (blk_cell HS.out 0).trans HS0.out
  have hga := World.grownBy_alloc wn (.cells (entA e) 41) none
  have HX := Aside0.mk (heap_alloc_new wn (.cells (entA e) 41))
  obtain ⟨z0, z1, z2, z3, z4, z5, z6, z7, z8, z9, z10⟩ := tte_Read.cz11 HX.out
  have zf := blk_frozen HX.out 0
  go_wp2_with fail
  clear z0 z1 z2 z3 z4 z5 z6 z7 z8 z9 z10 zf x0 q0 q1 q2 q3 q4 q5 d0 d1 d2 d3 d4 d5 d6 d7 d8 d9 d10 d11 d12 HX HD
  have HN12 := Aside0.mk (show w0.heap.size ≤ wn.heap.size from HT.out.below0)
  have hg := World.grownBy_alloc wn (.cells #[.int .i64 (s : Int), .int .i64 e.f1, .int .u64 e.f2, .int .u64 e.f3, .bool e.f4.f0, .bool e.f4.f1, .bool e.f4.f2, .bool e.f4.f3, .bool e.f4.f4, .bool e.f4.f5, .bool e.f5] 41) none
  have HX := Aside0.mk (heap_alloc_new wn (.cells #[.int .i64 (s : Int), .int .i64 e.f1, .int .u64 e.f2, .int .u64 e.f3, .bool e.f4.f0, .bool e.f4.f1, .bool e.f4.f2, .bool e.f4.f3, .bool e.f4.f4, .bool e.f4.f5, .bool e.f5] 41))
  replace HL := Aside0.mk (blk_grown HL.out hg)
  replace HS := Aside0.mk (blk_grown HS.out hg)
  replace HR := Aside0.mk (Kd.R_grown HR.out hg (by simp))
  replace HT := Aside0.mk (HT.out.same hg)
  replace HF := Aside0.mk (HF.out.same hg)
  replace HB := Aside0.mk (blk_grown HB.out hg)
  clear hg hga
  obtain ⟨b12, hb12⟩ : ∃ z, z = wn.heap.size := ⟨_, rfl⟩
  rw [← hb12] at HX HN12
  rw [← hb12]
  clear hb12
  refine (good_calls e HEW.out s HTB.out.hs _).mono ?_
  rintro x0 w3 ⟨rfl, hg⟩
  replace HL := Aside0.mk (blk_grown HL.out hg)
  replace HS := Aside0.mk (blk_grown HS.out hg)
  replace HR := Aside0.mk (Kd.R_grown HR.out hg (by simp))
  replace HT := Aside0.mk (HT.out.same hg)
  replace HF := Aside0.mk (HF.out.same hg)
  replace HB := Aside0.mk (blk_grown HB.out hg)
  replace HX := Aside0.mk (blk_grown HX.out hg)
  clear hg
  have HG1 := Aside0.mk (show (geE s e).ok ∧ (geE s e).s = s from ⟨geE_ok s e HTB.out.hs, rfl⟩)
  obtain ⟨g1, hg1⟩ : ∃ z, z = geE s e := ⟨_, rfl⟩
  rw [← hg1] at HG1 ⊢
  have HGE := Aside0.mk hg1
  clear hg1
  go_upto_region 16 with (first | ((with_reducible refine gate_store (t := 41) (p := 12) rfl ?_); refine wpList_store_row rfl 41 (.tmp 12) (.tmp 98) rfl b12 (geA g1) rfl rfl 41 _ HX.out (by kernel_rfl) rfl (by kernel_rfl) ?_; have SHX := Aside0.mk (setRow_heap _ b12 _ (geA g1) _ _ HX.out); have THX := Aside0.mk (grown_row w3 b12 (geA g1))))
  have hkb : ∀ k, some b12 = some k → ∃ cs, w3.heap[k]? = some (.cells cs 41 (0, 0)) := fun k e => by cases e; exact ⟨_, HX.out⟩
  replace HB := Aside0.mk (blk_keptW HB.out THX.out hkb (by decide))
  replace HL := Aside0.mk (blk_keptW HL.out THX.out hkb (by decide))
  replace HS := Aside0.mk (blk_keptW HS.out THX.out hkb (by decide))
  replace HR := Aside0.mk (Kd.R_mono (ok' := fun _ => True) (Kd.R_grown (Kd.R_types HR.out HX.out (by decide)) THX.out (fun k hk e => hk.2 (Option.some.inj e))) (fun _ _ => trivial))
  replace HT := Aside0.mk (HT.out.kept THX.out HX.out (by decide) (by decide) HN12.out)
  replace HF := Aside0.mk (HF.out.kept THX.out (fun e => by have e := Option.some.inj e; subst e; have := HF.out.row; rw [HX.out] at this; injection this with this; injection this with _ a; exact absurd a (by decide)) (fun e => by have e := Option.some.inj e; subst e; have := HF.out.bits; rw [HX.out] at this; injection this with this; injection this with _ a; exact absurd a (by decide)) (fun k e => by cases e; exact HN12.out))
  replace HX := Aside0.mk SHX.out
  generalize World.setRow w3 b12 (geA g1) = w4 at HB HL HS HR HT HF HX ⊢
  clear hkb THX SHX
  have hg := grown_drew w4 none
  replace HL := Aside0.mk (blk_grown HL.out hg)
  replace HS := Aside0.mk (blk_grown HS.out hg)
  replace HR := Aside0.mk (Kd.R_grown HR.out hg (by simp))
  replace HT := Aside0.mk (HT.out.same hg)
  replace HF := Aside0.mk (HF.out.same hg)
  replace HB := Aside0.mk (blk_grown HB.out hg)
  replace HX := Aside0.mk (blk_grown HX.out hg)
  clear hg
  refine start_ (n := 18) (S := fun w' => w'.heap[h]? = some (.cells #[.pointer (some ⟨pm, 0, none⟩), .pointer (some ⟨pf, 0, none⟩), .slice (some ⟨lb, 0, none⟩) 1 cap, .int .i64 (F : Int), v3, .slice (some ⟨sb, 0, none⟩) 1 cap5] 35 (0, 0)) ∧ w'.heap[sb]? = some (.cells scs 66 (0, 0)) ∧ w'.heap[b12]? = some (.cells (geA g1) 41 (0, 0))) (ds := [17]) #[false, false, false, false, false, false, false, false, false, false, false, false, false, false, false, false, false, false] (by kernel_rfl) rfl rfl ⟨HB.out, HS.out, HX.out⟩ (fun hHeld => ?_)
  refine with_tab does16_tab (fun HT_ => ?_)
  refine pure_ (i := 0) (N := some 99) (v := ?_) (a' := ?_) #[true, false, false, false, false, false, false, false, false, false, false, false, false, false, false, false, false, false] rfl rfl (any_of HT_.out (by kernel_rfl)) (fun _ _ _ h => h) (Or.inl ⟨by rfl, ?_⟩) ?_ ?_
  rotate_left
  · intro w'
    go_simp
    with_reducible rfl
  rotate_left
  · simp only [ap_]
    rfl
  refine pure_ (i := 1) (N := some 100) (v := ?_) (a' := ?_) #[true, true, false, false, false, false, false, false, false, false, false, false, false, false, false, false, false, false] rfl rfl (any_of HT_.out (by kernel_rfl)) (fun _ _ _ h => h) (Or.inl ⟨by rfl, ?_⟩) ?_ ?_
  rotate_left
  · intro w'
    go_simp
    with_reducible rfl
  rotate_left
  · simp only [ap_]
    rfl
  refine pure_ (i := 2) (N := some 101) (v := ?_) (a' := ?_) #[true, true, true, false, false, false, false, false, false, false, false, false, false, false, false, false, false, false] rfl rfl (any_of HT_.out (by kernel_rfl)) (fun _ _ _ h => h) (Or.inl ⟨by rfl, ?_⟩) ?_ ?_
  rotate_left
  · intro w'
    go_simp
    with_reducible rfl
  rotate_left
  · simp only [ap_]
    rfl
  refine pure_ (i := 4) (N := some 103) (v := ?_) (a' := ?_) #[true, true, true, false, true, false, false, false, false, false, false, false, false, false, false, false, false, false] rfl rfl (any_of HT_.out (by kernel_rfl)) (fun _ _ _ h => h) (Or.inl ⟨by rfl, ?_⟩) ?_ ?_
  rotate_left
  · intro w'
    go_simp
    with_reducible rfl
  rotate_left
  · simp only [ap_]
    rfl
  refine pure_ (i := 5) (N := some 104) (v := ?_) (a' := ?_) #[true, true, true, false, true, true, false, false, false, false, false, false, false, false, false, false, false, false] rfl rfl (any_of HT_.out (by kernel_rfl)) (fun _ _ _ h => h) (Or.inl ⟨by rfl, ?_⟩) ?_ ?_
  rotate_left
  · intro w'
    go_simp
    with_reducible rfl
  rotate_left
  · simp only [ap_]
    rfl
  refine pure_ (i := 6) (N := some 105) (v := ?_) (a' := ?_) #[true, true, true, false, true, true, true, false, false, false, false, false, false, false, false, false, false, false] rfl rfl (any_of HT_.out (by kernel_rfl)) (fun _ _ _ h => h) (Or.inl ⟨by rfl, ?_⟩) ?_ ?_
  rotate_left
  · intro w'
    go_simp
    with_reducible rfl
  rotate_left
  · simp only [ap_]
    rfl
  refine pure_ (i := 7) (N := some 106) (v := ?_) (a' := ?_) #[true, true, true, false, true, true, true, true, false, false, false, false, false, false, false, false, false, false] rfl rfl (any_of HT_.out (by kernel_rfl)) (fun _ _ _ h => h) (Or.inl ⟨by rfl, ?_⟩) ?_ ?_
  rotate_left
  · intro w'
    go_simp
    with_reducible rfl
  rotate_left
  · simp only [ap_]
    rfl
  refine pure_ (i := 9) (N := some 108) (v := ?_) (a' := ?_) #[true, true, true, false, true, true, true, true, false, true, false, false, false, false, false, false, false, false] rfl rfl (any_of HT_.out (by kernel_rfl)) (fun _ _ _ h => h) (Or.inl ⟨by rfl, ?_⟩) ?_ ?_
  rotate_left
  · intro w'
    go_simp
    with_reducible rfl
  rotate_left
  · simp only [ap_]
    rfl
  refine take_ (i := 3) (N := some 102) (v := .slice (some ⟨sb, 0, none⟩) 1 cap5) (a' := ?_) #[true, true, true, true, true, true, true, true, false, true, false, false, false, false, false, false, false, false] rfl rfl (take_of HT_.out (by kernel_rfl)) (fun _ _ _ h => h) (Or.inl ⟨by rfl, ?_⟩) hHeld ?_ ?_
  · rintro w' ⟨s1, s2, s3⟩
    obtain ⟨q0, q1, q2, q3, q4, q5⟩ := cz6 s1
    go_simp
  rotate_left
  · simp only [ap_]
    rfl
  refine take_ (i := 8) (N := some 107) (v := .slice (some ⟨sb, 0, none⟩) 1 cap5) (a' := ?_) #[true, true, true, true, true, true, true, true, true, true, false, false, false, false, false, false, false, false] rfl rfl (take_of HT_.out (by kernel_rfl)) (fun _ _ _ h => h) (Or.inl ⟨by rfl, ?_⟩) hHeld ?_ ?_
  · rintro w' ⟨s1, s2, s3⟩
    obtain ⟨q0, q1, q2, q3, q4, q5⟩ := cz6 s1
    go_simp
  rotate_left
  · simp only [ap_]
    rfl
  refine pure_ (i := 10) (N := some 109) (v := ?_) (a' := ?_) #[true, true, true, true, true, true, true, true, true, true, true, false, false, false, false, false, false, false] rfl rfl (any_of HT_.out (by kernel_rfl)) (fun _ _ _ h => h) (Or.inl ⟨by rfl, ?_⟩) ?_ ?_
  rotate_left
  · intro w'
    go_simp
    with_reducible rfl
  rotate_left
  · simp only [ap_]
    rfl
  refine pure_ (i := 11) (N := some 110) (v := ?_) (a' := ?_) #[true, true, true, true, true, true, true, true, true, true, true, true, false, false, false, false, false, false] rfl rfl (any_of HT_.out (by kernel_rfl)) (fun _ _ _ h => h) (Or.inl ⟨by rfl, ?_⟩) ?_ ?_
  rotate_left
  · intro w'
    go_simp
    with_reducible rfl
  rotate_left
  · simp only [ap_]
    rfl
  refine take_ (i := 12) (N := some 111) (v := .agg #[.int .i64 (s : Int), .int .i64 (N : Int), .slice A l.length c]) (a' := ?_) #[true, true, true, true, true, true, true, true, true, true, true, true, true, false, false, false, false, false] rfl rfl (take_of HT_.out (by kernel_rfl)) (fun _ _ _ h => h) (Or.inl ⟨by rfl, ?_⟩) hHeld ?_ ?_
  · rintro w' ⟨s1, s2, s3⟩
    have x0 := (blk_cell s2 0).trans HS0.out
    have x1 := (blk_cell s2 1).trans HS1.out
    have x2 := (blk_cell s2 2).trans HS2.out
    go_simp
  rotate_left
  · simp only [ap_]
    rfl
  refine take_ (i := 13) (N := some 112) (v := .agg (geA g1)) (a' := ?_) #[true, true, true, true, true, true, true, true, true, true, true, true, true, true, false, false, false, false] rfl rfl (take_of HT_.out (by kernel_rfl)) (fun _ _ _ h => h) (Or.inl ⟨by rfl, ?_⟩) hHeld ?_ ?_
  · rintro w' ⟨s1, s2, s3⟩
    obtain ⟨c0, c1, c2, c3, c4, c5, c6, c7, c8, c9, c10⟩ := tte_Read.cz11 s3
    go_simp
  rotate_left
  · simp only [ap_]
    rfl
  refine one_ (i := 14) (N := some 113) #[true, true, true, true, true, true, true, true, true, true, true, true, true, true, true, false, false, false] rfl rfl (one_of HT_.out (by kernel_rfl)) (by decide) (fun K hK => ?_)
  refine goes_ Tryz.func31 (by kernel_rfl) rfl #[.agg #[.int .i64 (s : Int), .int .i64 (N : Int), .slice A l.length c], .agg (geA g1)] (by rfl) rfl rfl (by (try simp only [List.map_toArray, List.map_cons, List.map_nil]); first | done | rfl) ?_
  refine (rinsert_calls HTB.out.hs HTB.out.h1 HTB.out.hN g1 HG1.out.1 HG1.out.2 (Kd.R_reads' HR.out).2.2 (Kd.R_reads' HR.out).2.1 (by have := HNN.out; omega)).mono ?_
  rintro x0 wn ⟨v2, rfl, hR2, hg⟩
  have HLL := Aside0.mk (insW_len l (plcOf N (s : Int) g1.v : Int) (g1.tag : Int) (g1.data : Int))
  generalize insW l (plcOf N (s : Int) g1.v : Int) (g1.tag : Int) (g1.data : Int) = l2 at hR2 HLL
  obtain ⟨A2, c2, rfl⟩ := Kd.R_slice hR2
  have HR2 := Aside0.mk (Kd.R_lower hR2 HT.out.below0)
  replace HL := Aside0.mk (blk_grown HL.out hg)
  replace HS := Aside0.mk (blk_grown HS.out hg)
  replace HR := Aside0.mk (Kd.R_grown HR.out hg (by simp))
  replace HT := Aside0.mk (HT.out.same hg)
  replace HF := Aside0.mk (HF.out.same hg)
  replace HB := Aside0.mk (blk_grown HB.out hg)
  replace HX := Aside0.mk (blk_grown HX.out hg)
  have hs : wn.heap[h]? = some (.cells #[.pointer (some ⟨pm, 0, none⟩), .pointer (some ⟨pf, 0, none⟩), .slice (some ⟨lb, 0, none⟩) 1 cap, .int .i64 (F : Int), v3, .slice (some ⟨sb, 0, none⟩) 1 cap5] 35 (0, 0)) ∧ wn.heap[sb]? = some (.cells scs 66 (0, 0)) ∧ wn.heap[b12]? = some (.cells (geA g1) 41 (0, 0)) := ⟨HB.out, HS.out, HX.out⟩
  clear hR2 hg
  refine ⟨_, rfl, ?_⟩
  refine hK.out _ _ hs (fun hHeld => ?_)
  clear hK K
  refine norm_ (a' := ?_) ?_ ?_
  rotate_left
  · show Act.put _ (some 113) _ = _
    simp only [ap_]
    rfl
  refine pure_ (i := 15) (N := some 114) (v := ?_) (a' := ?_) #[true, true, true, true, true, true, true, true, true, true, true, true, true, true, true, true, false, false] rfl rfl (any_of HT_.out (by kernel_rfl)) (fun _ _ _ h => h) (Or.inl ⟨by rfl, ?_⟩) ?_ ?_
  rotate_left
  · intro w'
    go_simp
    with_reducible rfl
  rotate_left
  · simp only [ap_]
    rfl
  refine pure_ (i := 16) (N := some 115) (v := ?_) (a' := ?_) #[true, true, true, true, true, true, true, true, true, true, true, true, true, true, true, true, true, false] rfl rfl (any_of HT_.out (by kernel_rfl)) (fun _ _ _ h => h) (Or.inl ⟨by rfl, ?_⟩) ?_ ?_
  rotate_left
  · intro w'
    go_simp
    with_reducible rfl
  rotate_left
  · simp only [ap_]
    rfl
  refine last_ (i := 17) (N := none) #[true, true, true, true, true, true, true, true, true, true, true, true, true, true, true, true, true, true] rfl rfl (one_of HT_.out (by kernel_rfl)) (by decide) (fun K hK => ?_)
  have x0 := (blk_cell HS.out 0).trans HS0.out
  have x1 := (blk_cell HS.out 1).trans HS1.out
  have x2 := (blk_cell HS.out 2).trans HS2.out
  have y0 := blk_frozen HS.out 0
  have y1 := blk_frozen HS.out 1
  have y2 := blk_frozen HS.out 2
  refine skip_ (w1 := (((wn.setCell ⟨sb, 0, none⟩ (.int .i64 (s : Int))).setCell ⟨sb, 1, none⟩ (.int .i64 (N : Int))).setCell ⟨sb, 2, none⟩ (.slice A2 l2.length c2))) (by rfl) rfl ?_ ?_
  · first | (go_simp; done) | (go_simp; rfl)
  refine hK.out _ _ ?_
  clear hK K
  refine done_ (done_of HT_.out (by kernel_rfl)) ?_
  have hgs : wn.grownBy (((wn.setCell ⟨sb, 0, none⟩ (.int .i64 (s : Int))).setCell ⟨sb, 1, none⟩ (.int .i64 (N : Int))).setCell ⟨sb, 2, none⟩ (.slice A2 l2.length c2)) (some sb) := grown_two (grown_two (QFramesPlays.grown_cell wn ⟨sb, 0, none⟩ (.int .i64 (s : Int))) (QFramesPlays.grown_cell _ ⟨sb, 1, none⟩ (.int .i64 (N : Int)))) (QFramesPlays.grown_cell _ ⟨sb, 2, none⟩ (.slice A2 l2.length c2))
  have hkb : ∀ k, some sb = some k → ∃ cs, wn.heap[k]? = some (.cells cs 66 (0, 0)) := fun k e => by cases e; exact ⟨_, HS.out⟩
  have hs3 : (((wn.setCell ⟨sb, 0, none⟩ (.int .i64 (s : Int))).setCell ⟨sb, 1, none⟩ (.int .i64 (N : Int))).setCell ⟨sb, 2, none⟩ (.slice A2 l2.length c2)).heap[sb]? = some (.cells (((scs.setIfInBounds 0 (.int .i64 (s : Int))).setIfInBounds 1 (.int .i64 (N : Int))).setIfInBounds 2 (.slice A2 l2.length c2)) 66 (0, 0)) := blk_put (blk_put (blk_put HS.out 0 (.int .i64 (s : Int)) rfl) 1 (.int .i64 (N : Int)) rfl) 2 (.slice A2 l2.length c2) rfl
  have HSN := Aside0.mk (set3 HS5.out (.int .i64 (s : Int)) (.int .i64 (N : Int)) (.slice A2 l2.length c2))
  generalize ((scs.setIfInBounds 0 (.int .i64 (s : Int))).setIfInBounds 1 (.int .i64 (N : Int))).setIfInBounds 2 (.slice A2 l2.length c2) = scs2 at hs3 HSN
  replace HB := Aside0.mk (blk_keptW HB.out hgs hkb (by decide))
  replace HL := Aside0.mk (blk_keptW HL.out hgs hkb (by decide))
  replace HX := Aside0.mk (blk_keptW HX.out hgs hkb (by decide))
  replace HR := Aside0.mk (Kd.R_mono (ok' := fun _ => True) (Kd.R_grown (Kd.R_types HR2.out HS.out (by decide)) hgs (fun k hk e => hk.2 (Option.some.inj e))) (fun _ _ => trivial))
  replace HT := Aside0.mk (HT.out.kept hgs HS.out (by decide) (by decide) HSB.out)
  replace HF := Aside0.mk (HF.out.kept hgs (fun e => by have e := Option.some.inj e; subst e; have := HF.out.row; rw [HS.out] at this; injection this with this; injection this with _ a; exact absurd a (by decide)) (fun e => by have e := Option.some.inj e; subst e; have := HF.out.bits; rw [HS.out] at this; injection this with this; injection this with _ a; exact absurd a (by decide)) (fun k e => by cases e; exact HSB.out))
  replace HS := Aside0.mk hs3
  clear hgs hkb hs3 HR2
  generalize (((wn.setCell ⟨sb, 0, none⟩ (.int .i64 (s : Int))).setCell ⟨sb, 1, none⟩ (.int .i64 (N : Int))).setCell ⟨sb, 2, none⟩ (.slice A2 l2.length c2)) = w5 at HB HL HS HR HT HF HX ⊢
  go_upto_region 17 with fail
  have hg := grown_drew w5 none
  replace HL := Aside0.mk (blk_grown HL.out hg)
  replace HS := Aside0.mk (blk_grown HS.out hg)
  replace HR := Aside0.mk (Kd.R_grown HR.out hg (by simp))
  replace HT := Aside0.mk (HT.out.same hg)
  replace HF := Aside0.mk (HF.out.same hg)
  replace HB := Aside0.mk (blk_grown HB.out hg)
  replace HX := Aside0.mk (blk_grown HX.out hg)
  clear hg
  refine start_ (n := 11) (S := fun w' => w'.heap[h]? = some (.cells #[.pointer (some ⟨pm, 0, none⟩), .pointer (some ⟨pf, 0, none⟩), .slice (some ⟨lb, 0, none⟩) 1 cap, .int .i64 (F : Int), v3, .slice (some ⟨sb, 0, none⟩) 1 cap5] 35 (0, 0)) ∧ w'.heap[lb]? = some (.cells lcs 44 (0, 0)) ∧ w'.heap[b12]? = some (.cells (geA g1) 41 (0, 0))) (ds := []) #[false, false, false, false, false, false, false, false, false, false, false] (by kernel_rfl) rfl rfl ⟨HB.out, HL.out, HX.out⟩ (fun hHeld => ?_)
  refine with_tab does17_tab (fun HT_ => ?_)
  refine pure_ (i := 0) (N := some 116) (v := ?_) (a' := ?_) #[true, false, false, false, false, false, false, false, false, false, false] rfl rfl (any_of HT_.out (by kernel_rfl)) (fun _ _ _ h => h) (Or.inl ⟨by rfl, ?_⟩) ?_ ?_
  rotate_left
  · intro w'
    go_simp
    with_reducible rfl
  rotate_left
  · simp only [ap_]
    rfl
  refine pure_ (i := 1) (N := some 117) (v := ?_) (a' := ?_) #[true, true, false, false, false, false, false, false, false, false, false] rfl rfl (any_of HT_.out (by kernel_rfl)) (fun _ _ _ h => h) (Or.inl ⟨by rfl, ?_⟩) ?_ ?_
  rotate_left
  · intro w'
    go_simp
    with_reducible rfl
  rotate_left
  · simp only [ap_]
    rfl
  refine pure_ (i := 2) (N := some 118) (v := ?_) (a' := ?_) #[true, true, true, false, false, false, false, false, false, false, false] rfl rfl (any_of HT_.out (by kernel_rfl)) (fun _ _ _ h => h) (Or.inl ⟨by rfl, ?_⟩) ?_ ?_
  rotate_left
  · intro w'
    go_simp
    with_reducible rfl
  rotate_left
  · simp only [ap_]
    rfl
  refine pure_ (i := 4) (N := some 120) (v := ?_) (a' := ?_) #[true, true, true, false, true, false, false, false, false, false, false] rfl rfl (any_of HT_.out (by kernel_rfl)) (fun _ _ _ h => h) (Or.inl ⟨by rfl, ?_⟩) ?_ ?_
  rotate_left
  · intro w'
    go_simp
    with_reducible rfl
  rotate_left
  · simp only [ap_]
    rfl
  refine take_ (i := 3) (N := some 119) (v := .slice (some ⟨lb, 0, none⟩) 1 cap) (a' := ?_) #[true, true, true, true, true, false, false, false, false, false, false] rfl rfl (take_of HT_.out (by kernel_rfl)) (fun _ _ _ h => h) (Or.inl ⟨by rfl, ?_⟩) hHeld ?_ ?_
  · rintro w' ⟨s1, s2, s3⟩
    obtain ⟨q0, q1, q2, q3, q4, q5⟩ := cz6 s1
    go_simp
  rotate_left
  · simp only [ap_]
    rfl
  refine pure_ (i := 5) (N := some 121) (v := ?_) (a' := ?_) #[true, true, true, true, true, true, false, false, false, false, false] rfl rfl (any_of HT_.out (by kernel_rfl)) (fun _ _ _ h => h) (Or.inl ⟨by rfl, ?_⟩) ?_ ?_
  rotate_left
  · intro w'
    go_simp
    with_reducible rfl
  rotate_left
  · simp only [ap_]
    rfl
  refine take_ (i := 6) (N := some 122) (v := .pointer (some ⟨pt, 0, none⟩)) (a' := ?_) #[true, true, true, true, true, true, true, false, false, false, false] rfl rfl (take_of HT_.out (by kernel_rfl)) (fun _ _ _ h => h) (Or.inl ⟨by rfl, ?_⟩) hHeld ?_ ?_
  · rintro w' ⟨s1, s2, s3⟩
    have x0 := (blk_cell s2 0).trans HL0.out
    go_simp
  rotate_left
  · simp only [ap_]
    rfl
  refine take_ (i := 7) (N := some 123) (v := .agg (geA g1)) (a' := ?_) #[true, true, true, true, true, true, true, true, false, false, false] rfl rfl (take_of HT_.out (by kernel_rfl)) (fun _ _ _ h => h) (Or.inl ⟨by rfl, ?_⟩) hHeld ?_ ?_
  · rintro w' ⟨s1, s2, s3⟩
    obtain ⟨c0, c1, c2, c3, c4, c5, c6, c7, c8, c9, c10⟩ := tte_Read.cz11 s3
    go_simp
  rotate_left
  · simp only [ap_]
    rfl
  refine one_ (i := 8) (N := some 124) #[true, true, true, true, true, true, true, true, true, false, false] rfl rfl (one_of HT_.out (by kernel_rfl)) (by decide) (fun K hK => ?_)
  refine goes_ Tryz.func32 (by kernel_rfl) rfl #[.pointer (some ⟨pt, 0, none⟩), .agg (geA g1)] (by rfl) rfl rfl (by (try simp only [List.map_toArray, List.map_cons, List.map_nil]); first | done | rfl) ?_
  refine (k_insert HTB.out HT.out g1 HG1.out.1 HG1.out.2 (by have := HNN.out; omega)).mono ?_
  rintro x0 wn ⟨rfl, hT2, hg⟩
  have hnb := HT.out.nb
  replace HL := Aside0.mk ((hg.block _ (blk_lt HL.out) (fun e => hnb _ _ _ HL.out (Option.some.inj e))).trans HL.out)
  replace HS := Aside0.mk ((hg.block _ (blk_lt HS.out) (fun e => hnb _ _ _ HS.out (Option.some.inj e))).trans HS.out)
  replace HX := Aside0.mk ((hg.block _ (blk_lt HX.out) (fun e => hnb _ _ _ HX.out (Option.some.inj e))).trans HX.out)
  replace HB := Aside0.mk ((hg.block _ (blk_lt HB.out) (fun e => hnb _ _ _ HB.out (Option.some.inj e))).trans HB.out)
  replace HR := Aside0.mk (Kd.R_mono (ok' := fun _ => True) (Kd.R_grown (Kd.R_bound HR.out) hg (fun k hk e => by obtain ⟨_, _, _, q, _, cs, hc⟩ := hk; exact hnb k cs q hc (Option.some.inj e))) (fun _ _ => trivial))
  obtain ⟨D0, hM0, _⟩ := HT.out.mem
  replace HF := Aside0.mk (Fs.over HF.out hM0 hg)
  replace HT := Aside0.mk hT2
  have hs : wn.heap[h]? = some (.cells #[.pointer (some ⟨pm, 0, none⟩), .pointer (some ⟨pf, 0, none⟩), .slice (some ⟨lb, 0, none⟩) 1 cap, .int .i64 (F : Int), v3, .slice (some ⟨sb, 0, none⟩) 1 cap5] 35 (0, 0)) ∧ wn.heap[lb]? = some (.cells lcs 44 (0, 0)) ∧ wn.heap[b12]? = some (.cells (geA g1) 41 (0, 0)) := ⟨HB.out, HL.out, HX.out⟩
  clear hT2 hg hnb hM0
  refine ⟨_, rfl, ?_⟩
  refine hK.out _ _ hs (fun hHeld => ?_)
  clear hK K
  refine norm_ (a' := ?_) ?_ ?_
  rotate_left
  · show Act.put _ (some 124) _ = _
    simp only [ap_]
    rfl
  refine pure_ (i := 9) (N := some 125) (v := ?_) (a' := ?_) #[true, true, true, true, true, true, true, true, true, true, false] rfl rfl (any_of HT_.out (by kernel_rfl)) (fun _ _ _ h => h) (Or.inl ⟨by rfl, ?_⟩) ?_ ?_
  rotate_left
  · intro w'
    go_simp
    with_reducible rfl
  rotate_left
  · simp only [ap_]
    rfl
  refine pure_ (i := 10) (N := some 4) (v := ?_) (a' := ?_) #[true, true, true, true, true, true, true, true, true, true, true] rfl rfl (any_of HT_.out (by kernel_rfl)) (fun _ _ _ h => h) (Or.inl ⟨by rfl, ?_⟩) ?_ ?_
  rotate_left
  · intro w'
    go_simp
    with_reducible rfl
  rotate_left
  · simp only [ap_]
    rfl
  refine done_ (done_of HT_.out (by kernel_rfl)) ?_
  clear hHeld
  go_wp2
  go_ret
  exact ⟨rfl, scs2, A2, c2, l2, HB.out, HL.out, HS.out, HSN.out.1, HSN.out.2.1, HSN.out.2.2.1, HSN.out.2.2.2, HR.out, by have := HLL.out; omega, by have := HT.out; rw [HGE.out] at this; exact this, HF.out⟩
end
end Go.Proofs.YtjnffegjpkbjmaaGreat.Mem
