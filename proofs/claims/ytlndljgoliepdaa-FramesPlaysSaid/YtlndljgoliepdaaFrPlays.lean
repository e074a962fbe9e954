/- FramesPlays: whatever is taken and given, the answers, and what is taken then, are the document's; at whatever numbers. -/
import Derived.Test.YtlndljgoliepdaaFrDo1
import Derived.Test.YtlndljgoliepdaaFrDo2
import Derived.Test.YtlndljgoliepdaaFrDo3
import Derived.Deep.Slices
import Derived.DataElems
import Derived.DataReads
import Derived.WalkKit
import Derived.ProofKit
import Derived.OpenShut
import Derived.ShutString
import Derived.ChangeOld
namespace Go.Proofs.Ytlndljgoliepdaa.QFramesPlays
open Go.ChangeShapes Go.WideShapes Go.ChangeAt Go.Deep Go.RowKit Go.Proofs.YtlndljgoliepdaaW.PrintWords Go.Proofs.YtlndljgoliepdaaW.PrintLast Go.Proofs.YtlndljgoliepdaaW.PrintMore
set_option linter.unusedSimpArgs false
set_option linter.unusedVariables false
section
set_option maxHeartbeats 4000000
set_option maxRecDepth 100000
set_option maxRecDepth 100000 in
theorem deed3_open {H : Type} {enc : TypeId × Value → H} {w : World} {base : Nat} {spare : Nat → Bool} {held : Bool} {n : Nat} {cs : List Value} {x : DataW H × List MemPlace} (h : DataW.trod enc Try.prog w base spare held n 77 cs = some x) :
    ∃ (kd a b : Int), cs = [.int .i64 kd, .int .i64 a, .int .i64 b] ∧ (Lit.int .i64 a).wf = true ∧ (Lit.int .i64 b).wf = true := by
  obtain ⟨xs, m, _, _, hl, hlen, hg⟩ := DataW.trod_struct Try.underlying77 h
  rw [show Try.prog.cellsOf 77 = 3 from by kernel_rfl] at hl
  match cs, hl with
  | [c0, c1, c2], _ =>
    have g0 := hg 0 _ rfl
    replace g0 : DataW.trod enc Try.prog w base spare held m 3 ((([c0, c1, c2] : List Value).drop 0).take (Try.prog.cellsOf 3)) = xs[0]? := g0
    obtain ⟨y0, hy0⟩ : ∃ y, xs[0]? = some y := ⟨_, List.getElem?_eq_getElem (by rw [hlen]; decide)⟩
    rw [hy0, show Try.prog.cellsOf 3 = 1 from by kernel_rfl] at g0
    replace g0 : DataW.trod enc Try.prog w base spare held m 3 [c0] = some y0 := g0
    have g1 := hg 1 _ rfl
    replace g1 : DataW.trod enc Try.prog w base spare held m 3 ((([c0, c1, c2] : List Value).drop 1).take (Try.prog.cellsOf 3)) = xs[1]? := g1
    obtain ⟨y1, hy1⟩ : ∃ y, xs[1]? = some y := ⟨_, List.getElem?_eq_getElem (by rw [hlen]; decide)⟩
    rw [hy1, show Try.prog.cellsOf 3 = 1 from by kernel_rfl] at g1
    replace g1 : DataW.trod enc Try.prog w base spare held m 3 [c1] = some y1 := g1
    have g2 := hg 2 _ rfl
    replace g2 : DataW.trod enc Try.prog w base spare held m 3 ((([c0, c1, c2] : List Value).drop 2).take (Try.prog.cellsOf 3)) = xs[2]? := g2
    obtain ⟨y2, hy2⟩ : ∃ y, xs[2]? = some y := ⟨_, List.getElem?_eq_getElem (by rw [hlen]; decide)⟩
    rw [hy2, show Try.prog.cellsOf 3 = 1 from by kernel_rfl] at g2
    replace g2 : DataW.trod enc Try.prog w base spare held m 3 [c2] = some y2 := g2
    obtain ⟨b0, e0, _, w0⟩ := DataW.trod_int Try.underlying3 g0
    simp only [List.cons.injEq, and_true] at e0
    obtain rfl := e0
    obtain ⟨b1, e1, _, w1⟩ := DataW.trod_int Try.underlying3 g1
    simp only [List.cons.injEq, and_true] at e1
    obtain rfl := e1
    obtain ⟨b2, e2, _, w2⟩ := DataW.trod_int Try.underlying3 g2
    simp only [List.cons.injEq, and_true] at e2
    obtain rfl := e2
    exact ⟨b0, b1, b2, rfl, w1, w2⟩
structure DeedF (w : World) (y : Addr) (kd a b : Int) : Prop where
  ha : (Lit.int .i64 a).wf = true
  hb : (Lit.int .i64 b).wf = true
  c0 : w.cell? (y) = some (.int .i64 kd)
  c1 : w.cell? ⟨(y).block, (y).off + 1, none⟩ = some (.int .i64 a)
  c2 : w.cell? ⟨(y).block, (y).off + 2, none⟩ = some (.int .i64 b)
theorem cell_grown {W W' : World} {a : Addr} {v : Value} (h : W.cell? a = some v) (hg : W.grownBy W' none) : W'.cell? a = some v := (World.cell?_of_block (w := W) (hg.block a.block (cell_lt h) (by simp))).trans h
theorem DeedF.grown {w w' : World} {y : Addr} {kd a b : Int} (h : DeedF w y kd a b) (hg : w.grownBy w' none) : DeedF w' y kd a b := ⟨h.ha, h.hb, cell_grown h.c0 hg, cell_grown h.c1 hg, cell_grown h.c2 hg⟩
def DeedsF (w : World) (a : Option Addr) (len : Nat) : Prop := (a = none ∧ len = 0) ∨ ∃ x, a = some x ∧ ∀ j, j < len → ∃ kd a b, DeedF w (x.add (j * 3)) kd a b
theorem DeedsF.at {w : World} {a : Option Addr} {len : Nat} (h : DeedsF w a len) (j : Nat) (hj : j < len) : ∃ x kd b c, a = some x ∧ DeedF w (x.add (j * 3)) kd b c := by
  rcases h with ⟨_, e⟩ | ⟨x, rfl, h⟩
  · omega
  · obtain ⟨kd, b, c, he⟩ := h j hj
    exact ⟨x, kd, b, c, rfl, he⟩
theorem deedsF_open {H : Type} {enc : TypeId × Value → H} {w : World} {base : Nat} {spare : Nat → Bool} {held : Bool} {n : Nat} {a : Option Addr} {len cap : Nat} {x : DataW H × List MemPlace} (h : DataW.trod enc Try.prog w base spare held n 73 [.slice a len cap] = some x) : DeedsF w a len ∧ len ≤ maxLen := by
  rcases open_slice Try.underlying73 h with ⟨hcs, _⟩ | ⟨y, l, c, m, n', D, Pl, hcs, _, hl, hm, hmm, _, hx⟩
  · obtain ⟨rfl, rfl, rfl⟩ : a = none ∧ len = 0 ∧ cap = 0 := by simpa using hcs
    exact ⟨.inl ⟨rfl, rfl⟩, Nat.zero_le _⟩
  · obtain ⟨rfl, rfl, rfl⟩ : a = some y ∧ len = l ∧ cap = c := by simpa using hcs
    refine ⟨.inr ⟨y, rfl, fun j hj => ?_⟩, Nat.le_trans hl hm⟩
    obtain ⟨cs', hc, ht⟩ := hx j (by rw [hmm]; split <;> omega)
    rw [show Try.prog.cellsOf 77 = 3 from by kernel_rfl] at hc
    obtain ⟨kd, a, b, he, h1, h2⟩ := deed3_open ht
    subst he
    obtain ⟨_, _, hg⟩ := World.cells?_some hc
    have g0 := hg 0 (by omega)
    rw [Addr.add_add] at g0
    have g1 := hg 1 (by omega)
    rw [Addr.add_add, add_field _ _ 1 (by omega)] at g1
    have g2 := hg 2 (by omega)
    rw [Addr.add_add, add_field _ _ 2 (by omega)] at g2
    exact ⟨kd, a, b, h1, h2, g0, g1, g2⟩
theorem doF_any {w0 Wc : World} {p r : Nat} {o : Option Nat} {X : Nat → Prop} {ts : List Bool} {A : Option Addr} {c : Nat} {tA : Option Addr} {tc : Nat} {tl : List (Nat × Nat)} {W : World} {n : Nat} (h : PF w0 Wc p r o X ts (tk ts) A c tA tc tl W) (hn : ts.length = n) (hlow : Low tl) (hm : tl.length ≤ 1000) (a b : Int) (ha : (Lit.int .i64 a).wf = true) (hb : (Lit.int .i64 b).wf = true) (kd : Int) :
    Calls Try.prog 41 #[.pointer (some ⟨p, 0, none⟩), .agg #[.int .i64 n, .slice A (tk ts).length c], .slice tA tl.length tc, .agg #[.int .i64 kd, .int .i64 a, .int .i64 b]] W (DidF w0 W p r n tl.length X (tv tA tc tl).ownBlock) := by
  by_cases k0 : kd = 0
  · subst k0
    rcases runOf_or a with h1 | ⟨R, hR, hR1, hR2⟩
    · exact doF_0z h hn hlow hm a b ha hb h1
    · by_cases hF : ∃ x, First ts R R x
      · obtain ⟨x, hF⟩ := hF
        exact doF_0y h hn hlow hm a b ha hb R x hR hR1 hR2 hF
      · exact doF_0n h hn hlow hm a b ha hb R hR hR1 hR2 hF
  by_cases k1 : kd = 1
  · subst k1
    by_cases h1 : a < 1
    · exact doF_1z h hn hlow hm a b ha hb h1
    · by_cases hF : ∃ x, First ts a.toNat 1 x
      · obtain ⟨x, hF⟩ := hF
        exact doF_1y h hn hlow hm a b ha hb a.toNat x (by omega) (by omega) hF
      · exact doF_1n h hn hlow hm a b ha hb a.toNat (by omega) (by omega) hF
  by_cases k2 : kd = 2
  · subst k2; exact doF_2 h hn hlow hm a b ha hb
  by_cases k3 : kd = 3
  · subst k3
    by_cases h0 : tl.length = 0
    · exact doF_30 h hn hlow hm a b ha hb h0
    · exact doF_31 h hn hlow hm a b ha hb (by omega)
  exact doF_n h hn hlow hm a b ha hb kd k0 k1 k2 k3
/-- A box of the law's is written. -/
theorem PF.puts {w0 W0 W W' p r o0 X ts L A c tA tc tl} (h : PF w0 W0 p r o0 X ts L A c tA tc tl W) {g : Nat} (hx : X g) (hg : W.grownBy W' (some g)) : PF w0 W' p r (tv tA tc tl).ownBlock X ts L A c tA tc tl W' := by
  have h0 : PF w0 w0 p r none X ts L A c tA tc tl W := ⟨h.fs, h.v, h.tr, h.xs, Kept.of_below h.fs.below _, fun k e => .inr (h.tr.own.lt k e).1⟩
  exact (h0.put hx (h.xs g hx).2.2.2.1 hg).begin
theorem PF.box_kept {w0 W0 W p r X ts L A c tA tc tl g o Y ts0 L0 A0 c0 tA0 tc0 tl0} (h : PF w0 W0 p r (tv tA0 tc0 tl0).ownBlock X ts L A c tA tc tl W) {Wo : World} {oo : Option Nat} (hold : PF w0 Wo p r oo Y ts0 L0 A0 c0 tA0 tc0 tl0 W0) (hx : Y g) (hb : W0.heap[g]? = some o) : W.heap[g]? = some o :=
  (h.kp.2 g (blk_lt hb) (fun q => q.elim (hold.xs g hx).1 (fun q => q.elim (hold.xs g hx).2.1 (hold.xs g hx).2.2.1))).trans hb
noncomputable def playsF11_T : Bool × List (List Nat × List Nat) := rtab .any (opsOf Try.f12 11)
theorem playsF11_tab : rtab .any (opsOf Try.f12 11) = playsF11_T := rfl
noncomputable def playsF14_T : Bool × List (List Nat × List Nat) := rtab .any (opsOf Try.f12 14)
theorem playsF14_tab : rtab .any (opsOf Try.f12 14) = playsF14_T := rfl
theorem playsF_walk (n0 : Int) (a : Option Addr) (len cap : Nat) (W : World) (hn0 : (Lit.int .i64 n0).wf = true) (hl : DeedsF W a len ∧ len ≤ maxLen) :
    Calls Try.prog 12 #[.int .i64 n0, .slice a len cap] W fun x W' => x = .returned (.bool true) ∧ Below W.heap.size W W' := by
  have hu := Try.underlying59
  have hu2 := Try.underlying77
  have hu3 := Try.underlying73
  have HDS := Aside0.mk hl.1
  have hlm : len ≤ 9223372036854775807 := hl.2
  have hw := i64_b hn0
  clear hl hn0
  by_cases h600 : n0 > 600
  · obtain ⟨N, hN⟩ : ∃ N : Nat, (N : Int) = n0 % 601 := ⟨(n0 % 601).toNat, by omega⟩
    have hn0 : 0 ≤ n0 := by omega
    have HNN := Aside0.mk (show mn (mx (n0 % 601) 0) 65536 = (N : Int) from by unfold mn mx; split <;> split <;> omega)
    have hNl : N ≤ 600 := by omega
    clear hN
    go_enter Try.func12, Try.ntmps12
    go_wp2_with fail
    refine (fs_new (Below.refl W.heap.size W) (Nat.le_refl _) _ N HNN.out).mono ?_
    rintro x0 w1 ⟨p, r, rfl, hM, hr, hg⟩
    have HM := Aside0.mk hM
    have HR := Aside0.mk hr
    clear hM hr hg
    go_wp2_with fail
    refine (lookasideref05_New.calls _ N [] _ (by unfold lookasideref05_New.f; rw [HNN.out])).mono ?_
    rintro x0 w2 ⟨v0, rfl, hR, hb⟩
    have hg := below_grown hb
    have hV := Kd.V_mono (ok' := fun k => k ≠ p ∧ k ≠ r ∧ some k ≠ (tv none 0 []).ownBlock ∧ ¬ False) (Kd.R_V (base' := 0) (Kd.R_bound hR)) (fun k hk => by have h1 := HM.out.lt; have h2 := HM.out.rp; have h3 := hk.2.1; exact ⟨by omega, by omega, by simp [tv, Value.ownBlock], id⟩)
    obtain ⟨A, c, rfl⟩ := Kd.V_slice hV
    have HP := Aside0.mk (show PF W w2 p r (tv none 0 []).ownBlock (fun _ => False) (List.replicate N false) (tk (List.replicate N false)) A c none 0 [] w2 from ⟨fs_same HM.out hg, by rw [tk_free]; exact hV, ⟨World.ownsRow_nil _ _ _ _⟩, fun k hk => hk.elim, Kept.refl _ _, fun k e => by simp [tv, Value.ownBlock] at e⟩)
    clear hR hb hg hV HM
    go_wp2_with (first | ((with_reducible refine gate_dst (N := 6) rfl ?_); refine box_event ?hg (N := 6) ?hd (cs := #[.int .i64 0, .slice none 0 0]) (t := 59) ?hr ?_; (case hd => rfl); (case hg => rfl); (case hr => first | (go_simp; done) | (go_simp; rfl)); intro h6 hgb w4 hbox hb; have HC := Aside0.mk hbox; have GHC := Aside0.mk (below_grown hb); have LHC := Aside0.mk (Nat.le_of_eq hgb.symm); clear hgb hbox hb) | ((with_reducible refine gate_store (t := 59) (p := 6) rfl ?_); refine wpList_store_row rfl 59 (.tmp 6) (.tmp 21) rfl h6 #[.int .i64 N, .slice A ([] : List Int).length c] rfl rfl 59 _ HC.out (by kernel_rfl) rfl (by kernel_rfl) ?_; have SHC := Aside0.mk (setRow_heap _ h6 _ #[.int .i64 N, .slice A ([] : List Int).length c] _ _ HC.out); have THC := Aside0.mk (grown_row w4 h6 #[.int .i64 N, .slice A ([] : List Int).length c]); have HPn := Aside0.mk ((PF.al (Y := fun k => k = h6) HP.out GHC.out (fun k hk => .inr ⟨by have := LHC.out; omega, by have := blk_lt HC.out; omega⟩)).puts rfl THC.out); clear HP; have HP := HPn; clear HPn; have HB6 := Aside0.mk (show (World.setRow w4 h6 #[.int .i64 N, .slice A ([] : List Int).length c]).heap[h6]? = some (.cells #[.int .i64 N, .slice A (tk (List.replicate N false)).length c] 59 (0, 0)) from by rw [tk_free]; exact SHC.out); generalize World.setRow w4 h6 #[.int .i64 N, .slice A ([] : List Int).length c] = w5 at HP HB6 ⊢; clear HC GHC LHC SHC THC))
    go_loopw [7, 8] (fun v7 v8 wr => ∃ (k : Nat) (ts : List Bool) (A : Option Addr) (c : Nat) (tA : Option Addr) (tc : Nat) (tl : List (Nat × Nat)), v8 = .int .i64 k ∧ v7 = .slice tA tl.length tc ∧ k ≤ len ∧ k ≤ 30 ∧ tl.length ≤ k ∧ Aside0 (ts.length = N) ∧ Aside0 (Low tl) ∧ Aside0 (wr.heap[h6]? = some (.cells #[.int .i64 N, .slice A (tk ts).length c] 59 (0, 0))) ∧ Aside0 (PF W wr p r (tv tA tc tl).ownBlock (fun k => k = h6) ts (tk ts) A c tA tc tl wr)) (fun _ v8 _ => 30 - (intOf v8).toNat)
    case atStart => exact ⟨0, _, A, c, none, 0, [], rfl, rfl, by omega, by omega, by simp, ⟨by simp⟩, ⟨fun x hx => by cases hx⟩, HB6, HP⟩
    case round =>
      clear HP HB6
      obtain ⟨k, ts, A, c, tA, tc, tl, rfl, rfl, hk, hk30, htl, HN, HLOW, HB6, HP⟩ := hrel
      by_cases h12 : k < len ∧ k < 30
      · have h1 := h12.1
        have h1' : (k : Int) < (len : Int) := by omega
        have h2' : (k : Int) < 30 := by omega
        have h0' : (0 : Int) ≤ (k : Int) := by omega
        have HTL := Aside0.mk (show tl.length ≤ 1000 by omega)
        obtain ⟨y, kd, da, db, rfl, hd⟩ := HDS.out.at k h1
        have HDW := Aside0.mk hd
        clear hd
        go_wp2_with fail
        have hg := grown_drew wr none
        replace HB6 := Aside0.mk (blk_own HB6.out hg (by simp))
        replace HP := Aside0.mk (HP.out.same hg).begin
        clear hg
        refine start_ (n := 16) (S := fun w' => w'.heap[h6]? = some (.cells #[.int .i64 N, .slice A (tk ts).length c] 59 (0, 0)) ∧ DeedF w' (y.add (k * 3)) kd da db) (ds := [13]) #[false, false, false, false, false, false, false, false, false, false, false, false, false, false, false, false] (by kernel_rfl) rfl rfl ⟨HB6.out, HDW.out.grown (below_grown HP.out.fs.below)⟩ (fun hHeld => ?_)
        refine with_tab playsF11_tab (fun HT_ => ?_)
        refine pure_ (i := 0) (N := some 33) (v := ?_) (a' := ?_) #[true, false, false, false, false, false, false, false, false, false, false, false, false, false, false, false] rfl rfl (any_of HT_.out (by kernel_rfl)) (fun _ _ _ h => h) (Or.inl ⟨by rfl, ?_⟩) ?_ ?_
        rotate_left
        · intro w'
          go_simp
          with_reducible rfl
        rotate_left
        · simp only [Act.put, List.setIfInBounds_toArray, List.set_cons_zero, List.set_cons_succ, i64_w, i32_w]
          rfl
        refine pure_ (i := 2) (N := some 35) (v := ?_) (a' := ?_) #[true, false, true, false, false, false, false, false, false, false, false, false, false, false, false, false] rfl rfl (any_of HT_.out (by kernel_rfl)) (fun _ _ _ h => h) (Or.inl ⟨by rfl, ?_⟩) ?_ ?_
        rotate_left
        · intro w'
          go_simp
          with_reducible rfl
        rotate_left
        · simp only [Act.put, List.setIfInBounds_toArray, List.set_cons_zero, List.set_cons_succ, i64_w, i32_w]
          rfl
        refine pure_ (i := 3) (N := some 36) (v := ?_) (a' := ?_) #[true, false, true, true, false, false, false, false, false, false, false, false, false, false, false, false] rfl rfl (any_of HT_.out (by kernel_rfl)) (fun _ _ _ h => h) (Or.inl ⟨by rfl, ?_⟩) ?_ ?_
        rotate_left
        · intro w'
          go_simp
          with_reducible rfl
        rotate_left
        · simp only [Act.put, List.setIfInBounds_toArray, List.set_cons_zero, List.set_cons_succ, i64_w, i32_w]
          rfl
        refine pure_ (i := 4) (N := some 37) (v := ?_) (a' := ?_) #[true, false, true, true, true, false, false, false, false, false, false, false, false, false, false, false] rfl rfl (any_of HT_.out (by kernel_rfl)) (fun _ _ _ h => h) (Or.inl ⟨by rfl, ?_⟩) ?_ ?_
        rotate_left
        · intro w'
          go_simp
          with_reducible rfl
        rotate_left
        · simp only [Act.put, List.setIfInBounds_toArray, List.set_cons_zero, List.set_cons_succ, i64_w, i32_w]
          rfl
        refine pure_ (i := 5) (N := some 38) (v := .pointer (some (y.add (k * 3)))) (a' := ?_) #[true, false, true, true, true, true, false, false, false, false, false, false, false, false, false, false] rfl rfl (any_of HT_.out (by kernel_rfl)) (fun _ _ _ h => h) (Or.inl ⟨by rfl, ?_⟩) ?_ ?_
        · intro w'
          go_simp
        rotate_left
        · simp only [Act.put, List.setIfInBounds_toArray, List.set_cons_zero, List.set_cons_succ, i64_w, i32_w]
          rfl
        refine take_ (i := 1) (N := some 34) (v := .agg #[.int .i64 N, .slice A (tk ts).length c]) (a' := ?_) #[true, true, true, true, true, true, false, false, false, false, false, false, false, false, false, false] rfl rfl (take_of HT_.out (by kernel_rfl)) (fun _ _ _ h => h) (Or.inl ⟨by rfl, ?_⟩) hHeld ?_ ?_
        · rintro w' ⟨s1, s2⟩
          obtain ⟨q0, q1⟩ := cz2 s1
          go_simp
        rotate_left
        · simp only [Act.put, List.setIfInBounds_toArray, List.set_cons_zero, List.set_cons_succ, i64_w, i32_w]
          rfl
        refine take_ (i := 6) (N := some 39) (v := .agg #[.int .i64 kd, .int .i64 da, .int .i64 db]) (a' := ?_) #[true, true, true, true, true, true, true, false, false, false, false, false, false, false, false, false] rfl rfl (take_of HT_.out (by kernel_rfl)) (fun _ _ _ h => h) (Or.inl ⟨by rfl, ?_⟩) hHeld ?_ ?_
        · rintro w' ⟨s1, s2⟩
          obtain ⟨_, _, y0, y1, y2⟩ := s2
          go_simp
        rotate_left
        · simp only [Act.put, List.setIfInBounds_toArray, List.set_cons_zero, List.set_cons_succ, i64_w, i32_w]
          rfl
        refine two_ (i := 7) (j := 12) (Ni := some 40) (Nj := some 9) #[true, true, true, true, true, true, true, true, false, false, false, false, false, false, false, false] #[true, true, true, true, true, true, true, false, false, false, false, false, true, false, false, false] rfl rfl rfl rfl (two_of HT_.out (by kernel_rfl)) (by decide) (by decide) (fun K hK => ?_) (fun K hK => ?_)
        · refine goes_ Try.func41 (by kernel_rfl) rfl #[.pointer (some ⟨p, 0, none⟩), .agg #[.int .i64 N, .slice A (tk ts).length c], .slice tA tl.length tc, .agg #[.int .i64 kd, .int .i64 da, .int .i64 db]] (by rfl) rfl rfl (by (try simp only [List.map_toArray, List.map_cons, List.map_nil]); first | done | rfl) ?_
          refine (doF_any HP.out HN.out HLOW.out HTL.out da db HDW.out.ha HDW.out.hb kd).mono ?_
          rintro x0 wn ⟨ts2, A2, c2, tA2, tc2, tl2, rfl, hP, hn2, hlen2, hlow2⟩
          have hs : wn.heap[h6]? = some (.cells #[.int .i64 N, .slice A (tk ts).length c] 59 (0, 0)) ∧ DeedF wn (y.add (k * 3)) kd da db := ⟨hP.box_kept HP.out (rfl) hHeld.1, HDW.out.grown (below_grown hP.fs.below)⟩
          replace HP := Aside0.mk hP
          have HN2 := Aside0.mk hn2
          have HLEN2 := Aside0.mk hlen2
          have HLOW2 := Aside0.mk hlow2
          clear hP hn2 hlen2 hlow2
          refine ⟨_, rfl, ?_⟩
          refine hK.out _ _ hs (fun hHeld => ?_)
          clear hK K
          refine norm_ (a' := ?_) ?_ ?_
          rotate_left
          · show Act.put _ (some 40) _ = _
            simp only [Act.put, List.setIfInBounds_toArray, List.set_cons_zero, List.set_cons_succ, i64_w, i32_w]
            rfl
          refine pure_ (i := 8) (N := some 32) (v := ?_) (a' := ?_) #[true, true, true, true, true, true, true, true, true, false, false, false, false, false, false, false] rfl rfl (any_of HT_.out (by kernel_rfl)) (fun _ _ _ h => h) (Or.inl ⟨by rfl, ?_⟩) ?_ ?_
          rotate_left
          · intro w'
            go_simp
            with_reducible rfl
          rotate_left
          · simp only [Act.put, List.setIfInBounds_toArray, List.set_cons_zero, List.set_cons_succ, i64_w, i32_w]
            rfl
          refine pure_ (i := 9) (N := some 41) (v := ?_) (a' := ?_) #[true, true, true, true, true, true, true, true, true, true, false, false, false, false, false, false] rfl rfl (any_of HT_.out (by kernel_rfl)) (fun _ _ _ h => h) (Or.inl ⟨by rfl, ?_⟩) ?_ ?_
          rotate_left
          · intro w'
            go_simp
            with_reducible rfl
          rotate_left
          · simp only [Act.put, List.setIfInBounds_toArray, List.set_cons_zero, List.set_cons_succ, i64_w, i32_w]
            rfl
          refine pure_ (i := 10) (N := some 42) (v := ?_) (a' := ?_) #[true, true, true, true, true, true, true, true, true, true, true, false, false, false, false, false] rfl rfl (any_of HT_.out (by kernel_rfl)) (fun _ _ _ h => h) (Or.inl ⟨by rfl, ?_⟩) ?_ ?_
          rotate_left
          · intro w'
            go_simp
            with_reducible rfl
          rotate_left
          · simp only [Act.put, List.setIfInBounds_toArray, List.set_cons_zero, List.set_cons_succ, i64_w, i32_w]
            rfl
          refine pure_ (i := 11) (N := some 43) (v := ?_) (a' := ?_) #[true, true, true, true, true, true, true, true, true, true, true, true, false, false, false, false] rfl rfl (any_of HT_.out (by kernel_rfl)) (fun _ _ _ h => h) (Or.inl ⟨by rfl, ?_⟩) ?_ ?_
          rotate_left
          · intro w'
            go_simp
            with_reducible rfl
          rotate_left
          · simp only [Act.put, List.setIfInBounds_toArray, List.set_cons_zero, List.set_cons_succ, i64_w, i32_w]
            rfl
          refine one_ (i := 12) (N := some 9) #[true, true, true, true, true, true, true, true, true, true, true, true, true, false, false, false] rfl rfl (one_of HT_.out (by kernel_rfl)) (by decide) (fun K hK => ?_)
          refine box_step ?hg (N := 9) ?hd (cs := #[.int .i64 0, .slice none 0 0]) (t := 59) ?hr ?_; (case hd => rfl); (case hg => rfl); (case hr => first | (go_simp; done) | (go_simp; rfl))
          intro h9 hg9 wn hbox hb
          have HB9 := Aside0.mk hbox
          have HN9 := Aside0.mk (show h6 ≠ h9 by have := blk_lt hHeld.1; omega)
          have hg := below_grown hb
          replace HP := Aside0.mk (PF.al (Y := fun k => k = h6 ∨ k = h9) HP.out hg (fun k hk => hk.elim .inl (fun e => .inr ⟨by omega, by have := blk_lt HB9.out; omega⟩)))
          have hs : wn.heap[h6]? = some (.cells #[.int .i64 N, .slice A (tk ts).length c] 59 (0, 0)) ∧ DeedF wn (y.add (k * 3)) kd da db := ⟨blk_own hHeld.1 hg (by simp), hHeld.2.grown hg⟩
          clear hg hg9 hbox hb
          refine hK.out _ _ hs (fun hHeld => ?_)
          clear hK K
          refine norm_ (a' := ?_) ?_ ?_
          rotate_left
          · show Act.put _ (some 9) _ = _
            simp only [Act.put, List.setIfInBounds_toArray, List.set_cons_zero, List.set_cons_succ, i64_w, i32_w]
            rfl
          refine last_ (i := 13) (N := none) #[true, true, true, true, true, true, true, true, true, true, true, true, true, true, false, false] rfl rfl (one_of HT_.out (by kernel_rfl)) (by decide) (fun K hK => ?_)
          rw [if_pos (by rfl)]
          refine wp_store_row 59 (.tmp 9) (.tmp 41) rfl h9 #[.int .i64 N, .slice A2 (tk ts2).length c2] rfl rfl 59 #[.int .i64 0, .slice none 0 0] HB9.out (by kernel_rfl) rfl (by kernel_rfl) ?_
          have hb2 := setRow_heap wn h9 _ #[.int .i64 N, .slice A2 (tk ts2).length c2] _ _ HB9.out
          have hgr := grown_row wn h9 #[.int .i64 N, .slice A2 (tk ts2).length c2]
          generalize World.setRow wn h9 #[.int .i64 N, .slice A2 (tk ts2).length c2] = ws at hb2 hgr ⊢
          replace HB6 := Aside0.mk (blk_own hHeld.1 hgr (fun e => HN9.out (Option.some.inj e)))
          replace HP := Aside0.mk (HP.out.puts (.inr rfl) hgr)
          replace HB9 := Aside0.mk hb2
          clear hb2 hgr
          refine hK.out _ _ ?_
          clear hK K
          refine pure_ (i := 14) (N := some 10) (v := ?_) (a' := ?_) #[true, true, true, true, true, true, true, true, true, true, true, true, true, true, true, false] rfl rfl (any_of HT_.out (by kernel_rfl)) (fun _ _ _ h => h) (Or.inl ⟨by rfl, ?_⟩) ?_ ?_
          rotate_left
          · intro w'
            go_simp
            with_reducible rfl
          rotate_left
          · simp only [Act.put, List.setIfInBounds_toArray, List.set_cons_zero, List.set_cons_succ, i64_w, i32_w]
            rfl
          refine pure_ (i := 15) (N := some 11) (v := ?_) (a' := ?_) #[true, true, true, true, true, true, true, true, true, true, true, true, true, true, true, true] rfl rfl (any_of HT_.out (by kernel_rfl)) (fun _ _ _ h => h) (Or.inl ⟨by rfl, ?_⟩) ?_ ?_
          rotate_left
          · intro w'
            go_simp
            with_reducible rfl
          rotate_left
          · simp only [Act.put, List.setIfInBounds_toArray, List.set_cons_zero, List.set_cons_succ, i64_w, i32_w]
            rfl
          refine done_ (done_of HT_.out (by kernel_rfl)) ?_
          go_wp2_with (first | ((with_reducible refine gate_dst (N := 44) rfl ?_); refine wpList_load_row rfl 59 (.tmp 9) rfl h9 rfl 59 #[.int .i64 N, .slice A2 (tk ts2).length c2] (0, 0) _ HB9.out hu rfl (by kernel_rfl) ?_) | ((with_reducible refine gate_store (t := 59) (p := 6) rfl ?_); refine wpList_store_row rfl 59 (.tmp 6) (.tmp 44) rfl h6 #[.int .i64 N, .slice A2 (tk ts2).length c2] rfl rfl 59 _ HB6.out (by kernel_rfl) rfl (by kernel_rfl) ?_; have SHB6 := Aside0.mk (setRow_heap _ h6 _ #[.int .i64 N, .slice A2 (tk ts2).length c2] _ _ HB6.out); have THB6 := Aside0.mk (grown_row ws h6 #[.int .i64 N, .slice A2 (tk ts2).length c2]); skip))
          replace HP := Aside0.mk ((HP.out.puts (.inl rfl) THB6.out).drop (Y := fun k => k = h6) (fun k hk => .inl hk))
          replace HB6 := Aside0.mk SHB6.out
          generalize World.setRow ws h6 #[.int .i64 N, .slice A2 (tk ts2).length c2] = wt at HP HB6 ⊢
          clear SHB6 THB6 HB9
          obtain ⟨Lg, hL1, _, hL2⟩ := longest_f ts2 HP.out.fs.len (cnt ts2)
          have HLG := Aside0.mk (And.intro hL1 (show lookasideref05_Longest.f 200000 (N : Int) (tk ts2) = some (Lg : Int) from by rw [← HN2.out]; exact longR_tk HP.out.fs.len Lg hL2))
          have HWR := Aside0.mk (show IntKind.i64.wrap ((N : Int) - ((tk ts2).length : Int)) = (N : Int) - ((tk ts2).length : Int) from IntWalk.i64_in _ (by have := tk_len ts2; have := HN2.out; omega))
          clear hL1 hL2
          have hg := grown_drew wt none
          replace HB6 := Aside0.mk (blk_own HB6.out hg (by simp))
          replace HP := Aside0.mk (HP.out.same hg)
          clear hg
          refine start_ (n := 35) (S := fun w' => w'.heap[h6]? = some (.cells #[.int .i64 N, .slice A2 (tk ts2).length c2] 59 (0, 0))) (ds := []) #[false, false, false, false, false, false, false, false, false, false, false, false, false, false, false, false, false, false, false, false, false, false, false, false, false, false, false, false, false, false, false, false, false, false, false] (by kernel_rfl) rfl rfl HB6.out (fun hHeld => ?_)
          refine with_tab playsF14_tab (fun HT_ => ?_)
          refine pure_ (i := 0) (N := some 46) (v := ?_) (a' := ?_) #[true, false, false, false, false, false, false, false, false, false, false, false, false, false, false, false, false, false, false, false, false, false, false, false, false, false, false, false, false, false, false, false, false, false, false] rfl rfl (any_of HT_.out (by kernel_rfl)) (fun _ _ _ h => h) (Or.inl ⟨by rfl, ?_⟩) ?_ ?_
          rotate_left
          · intro w'
            go_simp
            with_reducible rfl
          rotate_left
          · simp only [Act.put, List.setIfInBounds_toArray, List.set_cons_zero, List.set_cons_succ, i64_w, i32_w]
            rfl
          refine pure_ (i := 1) (N := some 47) (v := ?_) (a' := ?_) #[true, true, false, false, false, false, false, false, false, false, false, false, false, false, false, false, false, false, false, false, false, false, false, false, false, false, false, false, false, false, false, false, false, false, false] rfl rfl (any_of HT_.out (by kernel_rfl)) (fun _ _ _ h => h) (Or.inl ⟨by rfl, ?_⟩) ?_ ?_
          rotate_left
          · intro w'
            go_simp
            with_reducible rfl
          rotate_left
          · simp only [Act.put, List.setIfInBounds_toArray, List.set_cons_zero, List.set_cons_succ, i64_w, i32_w]
            rfl
          refine pure_ (i := 2) (N := some 48) (v := ?_) (a' := ?_) #[true, true, true, false, false, false, false, false, false, false, false, false, false, false, false, false, false, false, false, false, false, false, false, false, false, false, false, false, false, false, false, false, false, false, false] rfl rfl (any_of HT_.out (by kernel_rfl)) (fun _ _ _ h => h) (Or.inl ⟨by rfl, ?_⟩) ?_ ?_
          rotate_left
          · intro w'
            go_simp
            with_reducible rfl
          rotate_left
          · simp only [Act.put, List.setIfInBounds_toArray, List.set_cons_zero, List.set_cons_succ, i64_w, i32_w]
            rfl
          refine pure_ (i := 3) (N := some 49) (v := ?_) (a' := ?_) #[true, true, true, true, false, false, false, false, false, false, false, false, false, false, false, false, false, false, false, false, false, false, false, false, false, false, false, false, false, false, false, false, false, false, false] rfl rfl (any_of HT_.out (by kernel_rfl)) (fun _ _ _ h => h) (Or.inl ⟨by rfl, ?_⟩) ?_ ?_
          rotate_left
          · intro w'
            go_simp
            with_reducible rfl
          rotate_left
          · simp only [Act.put, List.setIfInBounds_toArray, List.set_cons_zero, List.set_cons_succ, i64_w, i32_w]
            rfl
          refine pure_ (i := 5) (N := some 51) (v := ?_) (a' := ?_) #[true, true, true, true, false, true, false, false, false, false, false, false, false, false, false, false, false, false, false, false, false, false, false, false, false, false, false, false, false, false, false, false, false, false, false] rfl rfl (any_of HT_.out (by kernel_rfl)) (fun _ _ _ h => h) (Or.inl ⟨by rfl, ?_⟩) ?_ ?_
          rotate_left
          · intro w'
            go_simp
            with_reducible rfl
          rotate_left
          · simp only [Act.put, List.setIfInBounds_toArray, List.set_cons_zero, List.set_cons_succ, i64_w, i32_w]
            rfl
          refine pure_ (i := 7) (N := some 53) (v := ?_) (a' := ?_) #[true, true, true, true, false, true, false, true, false, false, false, false, false, false, false, false, false, false, false, false, false, false, false, false, false, false, false, false, false, false, false, false, false, false, false] rfl rfl (any_of HT_.out (by kernel_rfl)) (fun _ _ _ h => h) (Or.inl ⟨by rfl, ?_⟩) ?_ ?_
          rotate_left
          · intro w'
            go_simp
            with_reducible rfl
          rotate_left
          · simp only [Act.put, List.setIfInBounds_toArray, List.set_cons_zero, List.set_cons_succ, i64_w, i32_w]
            rfl
          refine take_ (i := 6) (N := some 52) (v := .int .i64 N) (a' := ?_) #[true, true, true, true, false, true, true, true, false, false, false, false, false, false, false, false, false, false, false, false, false, false, false, false, false, false, false, false, false, false, false, false, false, false, false] rfl rfl (take_of HT_.out (by kernel_rfl)) (fun _ _ _ h => h) (Or.inl ⟨by rfl, ?_⟩) hHeld ?_ ?_
          · rintro w' s1
            obtain ⟨q0, q1⟩ := cz2 s1
            go_simp
          rotate_left
          · simp only [Act.put, List.setIfInBounds_toArray, List.set_cons_zero, List.set_cons_succ, i64_w, i32_w]
            rfl
          refine take_ (i := 8) (N := some 54) (v := .slice A2 (tk ts2).length c2) (a' := ?_) #[true, true, true, true, false, true, true, true, true, false, false, false, false, false, false, false, false, false, false, false, false, false, false, false, false, false, false, false, false, false, false, false, false, false, false] rfl rfl (take_of HT_.out (by kernel_rfl)) (fun _ _ _ h => h) (Or.inl ⟨by rfl, ?_⟩) hHeld ?_ ?_
          · rintro w' s1
            obtain ⟨q0, q1⟩ := cz2 s1
            go_simp
          rotate_left
          · simp only [Act.put, List.setIfInBounds_toArray, List.set_cons_zero, List.set_cons_succ, i64_w, i32_w]
            rfl
          refine pure_ (i := 9) (N := some 55) (v := ?_) (a' := ?_) #[true, true, true, true, false, true, true, true, true, true, false, false, false, false, false, false, false, false, false, false, false, false, false, false, false, false, false, false, false, false, false, false, false, false, false] rfl rfl (any_of HT_.out (by kernel_rfl)) (fun _ _ _ h => h) (Or.inl ⟨by rfl, ?_⟩) ?_ ?_
          rotate_left
          · intro w'
            go_simp
            with_reducible rfl
          rotate_left
          · simp only [Act.put, List.setIfInBounds_toArray, List.set_cons_zero, List.set_cons_succ, i64_w, i32_w]
            rfl
          refine pure_ (i := 10) (N := some 56) (v := .int .i64 ((N : Int) - ((tk ts2).length : Int))) (a' := ?_) #[true, true, true, true, false, true, true, true, true, true, true, false, false, false, false, false, false, false, false, false, false, false, false, false, false, false, false, false, false, false, false, false, false, false, false] rfl rfl (any_of HT_.out (by kernel_rfl)) (fun _ _ _ h => h) (Or.inl ⟨by rfl, ?_⟩) ?_ ?_
          · intro w'
            have hw := HWR.out
            go_simp
          rotate_left
          · simp only [Act.put, List.setIfInBounds_toArray, List.set_cons_zero, List.set_cons_succ, i64_w, i32_w]
            rfl
          refine one_ (i := 4) (N := some 50) #[true, true, true, true, true, true, true, true, true, true, true, false, false, false, false, false, false, false, false, false, false, false, false, false, false, false, false, false, false, false, false, false, false, false, false] rfl rfl (one_of HT_.out (by kernel_rfl)) (by decide) (fun K hK => ?_)
          refine goes_ Try.func32 (by kernel_rfl) rfl #[.pointer (some ⟨p, 0, none⟩)] (by rfl) rfl rfl (by (try simp only [List.map_toArray, List.map_cons, List.map_nil]); first | done | rfl) ?_
          refine (fs_free HP.out.fs ((N : Int) - ((tk ts2).length : Int)) (by rw [cnt_tk, HN2.out])).mono ?_
          rintro x0 wn ⟨rfl, hf, hg⟩
          have hs := blk_own hHeld hg (by simp)
          replace HP := Aside0.mk (HP.out.same hg)
          clear hf hg
          refine ⟨_, rfl, ?_⟩
          refine hK.out _ _ hs (fun hHeld => ?_)
          clear hK K
          refine norm_ (a' := ?_) ?_ ?_
          rotate_left
          · show Act.put _ (some 50) _ = _
            simp only [Act.put, List.setIfInBounds_toArray, List.set_cons_zero, List.set_cons_succ, i64_w, i32_w]
            rfl
          refine pure_ (i := 11) (N := some 57) (v := .bool false) (a' := ?_) #[true, true, true, true, true, true, true, true, true, true, true, true, false, false, false, false, false, false, false, false, false, false, false, false, false, false, false, false, false, false, false, false, false, false, false] rfl rfl (any_of HT_.out (by kernel_rfl)) (fun _ _ _ h => h) (Or.inl ⟨by rfl, ?_⟩) ?_ ?_
          · intro w'
            go_simp
          rotate_left
          · simp only [Act.put, List.setIfInBounds_toArray, List.set_cons_zero, List.set_cons_succ, i64_w, i32_w]
            rfl
          refine pure_ (i := 12) (N := some 58) (v := ?_) (a' := ?_) #[true, true, true, true, true, true, true, true, true, true, true, true, true, false, false, false, false, false, false, false, false, false, false, false, false, false, false, false, false, false, false, false, false, false, false] rfl rfl (any_of HT_.out (by kernel_rfl)) (fun _ _ _ h => h) (Or.inl ⟨by rfl, ?_⟩) ?_ ?_
          rotate_left
          · intro w'
            go_simp
            with_reducible rfl
          rotate_left
          · simp only [Act.put, List.setIfInBounds_toArray, List.set_cons_zero, List.set_cons_succ, i64_w, i32_w]
            rfl
          refine pure_ (i := 13) (N := some 59) (v := ?_) (a' := ?_) #[true, true, true, true, true, true, true, true, true, true, true, true, true, true, false, false, false, false, false, false, false, false, false, false, false, false, false, false, false, false, false, false, false, false, false] rfl rfl (any_of HT_.out (by kernel_rfl)) (fun _ _ _ h => h) (Or.inl ⟨by rfl, ?_⟩) ?_ ?_
          rotate_left
          · intro w'
            go_simp
            with_reducible rfl
          rotate_left
          · simp only [Act.put, List.setIfInBounds_toArray, List.set_cons_zero, List.set_cons_succ, i64_w, i32_w]
            rfl
          refine pure_ (i := 14) (N := some 60) (v := ?_) (a' := ?_) #[true, true, true, true, true, true, true, true, true, true, true, true, true, true, true, false, false, false, false, false, false, false, false, false, false, false, false, false, false, false, false, false, false, false, false] rfl rfl (any_of HT_.out (by kernel_rfl)) (fun _ _ _ h => h) (Or.inl ⟨by rfl, ?_⟩) ?_ ?_
          rotate_left
          · intro w'
            go_simp
            with_reducible rfl
          rotate_left
          · simp only [Act.put, List.setIfInBounds_toArray, List.set_cons_zero, List.set_cons_succ, i64_w, i32_w]
            rfl
          refine pure_ (i := 16) (N := some 62) (v := ?_) (a' := ?_) #[true, true, true, true, true, true, true, true, true, true, true, true, true, true, true, false, true, false, false, false, false, false, false, false, false, false, false, false, false, false, false, false, false, false, false] rfl rfl (any_of HT_.out (by kernel_rfl)) (fun _ _ _ h => h) (Or.inl ⟨by rfl, ?_⟩) ?_ ?_
          rotate_left
          · intro w'
            go_simp
            with_reducible rfl
          rotate_left
          · simp only [Act.put, List.setIfInBounds_toArray, List.set_cons_zero, List.set_cons_succ, i64_w, i32_w]
            rfl
          refine take_ (i := 17) (N := some 63) (v := .int .i64 N) (a' := ?_) #[true, true, true, true, true, true, true, true, true, true, true, true, true, true, true, false, true, true, false, false, false, false, false, false, false, false, false, false, false, false, false, false, false, false, false] rfl rfl (take_of HT_.out (by kernel_rfl)) (fun _ _ _ h => h) (Or.inl ⟨by rfl, ?_⟩) hHeld ?_ ?_
          · rintro w' s1
            obtain ⟨q0, q1⟩ := cz2 s1
            go_simp
          rotate_left
          · simp only [Act.put, List.setIfInBounds_toArray, List.set_cons_zero, List.set_cons_succ, i64_w, i32_w]
            rfl
          refine one_ (i := 15) (N := some 61) #[true, true, true, true, true, true, true, true, true, true, true, true, true, true, true, true, true, true, false, false, false, false, false, false, false, false, false, false, false, false, false, false, false, false, false] rfl rfl (one_of HT_.out (by kernel_rfl)) (by decide) (fun K hK => ?_)
          refine goes_ Try.func30 (by kernel_rfl) rfl #[.pointer (some ⟨p, 0, none⟩)] (by rfl) rfl rfl (by (try simp only [List.map_toArray, List.map_cons, List.map_nil]); first | done | rfl) ?_
          refine (fs_len HP.out.fs (N : Int) (by rw [HN2.out])).mono ?_
          rintro x0 wn ⟨rfl, hf, hg⟩
          have hs := blk_own hHeld hg (by simp)
          replace HP := Aside0.mk (HP.out.same hg)
          clear hf hg
          refine ⟨_, rfl, ?_⟩
          refine hK.out _ _ hs (fun hHeld => ?_)
          clear hK K
          refine norm_ (a' := ?_) ?_ ?_
          rotate_left
          · show Act.put _ (some 61) _ = _
            simp only [Act.put, List.setIfInBounds_toArray, List.set_cons_zero, List.set_cons_succ, i64_w, i32_w]
            rfl
          refine pure_ (i := 18) (N := some 64) (v := .bool false) (a' := ?_) #[true, true, true, true, true, true, true, true, true, true, true, true, true, true, true, true, true, true, true, false, false, false, false, false, false, false, false, false, false, false, false, false, false, false, false] rfl rfl (any_of HT_.out (by kernel_rfl)) (fun _ _ _ h => h) (Or.inl ⟨by rfl, ?_⟩) ?_ ?_
          · intro w'
            go_simp
          rotate_left
          · simp only [Act.put, List.setIfInBounds_toArray, List.set_cons_zero, List.set_cons_succ, i64_w, i32_w]
            rfl
          refine pure_ (i := 19) (N := some 65) (v := ?_) (a' := ?_) #[true, true, true, true, true, true, true, true, true, true, true, true, true, true, true, true, true, true, true, true, false, false, false, false, false, false, false, false, false, false, false, false, false, false, false] rfl rfl (any_of HT_.out (by kernel_rfl)) (fun _ _ _ h => h) (Or.inl ⟨by rfl, ?_⟩) ?_ ?_
          rotate_left
          · intro w'
            go_simp
            with_reducible rfl
          rotate_left
          · simp only [Act.put, List.setIfInBounds_toArray, List.set_cons_zero, List.set_cons_succ, i64_w, i32_w]
            rfl
          refine pure_ (i := 20) (N := some 66) (v := ?_) (a' := ?_) #[true, true, true, true, true, true, true, true, true, true, true, true, true, true, true, true, true, true, true, true, true, false, false, false, false, false, false, false, false, false, false, false, false, false, false] rfl rfl (any_of HT_.out (by kernel_rfl)) (fun _ _ _ h => h) (Or.inl ⟨by rfl, ?_⟩) ?_ ?_
          rotate_left
          · intro w'
            go_simp
            with_reducible rfl
          rotate_left
          · simp only [Act.put, List.setIfInBounds_toArray, List.set_cons_zero, List.set_cons_succ, i64_w, i32_w]
            rfl
          refine pure_ (i := 21) (N := some 67) (v := ?_) (a' := ?_) #[true, true, true, true, true, true, true, true, true, true, true, true, true, true, true, true, true, true, true, true, true, true, false, false, false, false, false, false, false, false, false, false, false, false, false] rfl rfl (any_of HT_.out (by kernel_rfl)) (fun _ _ _ h => h) (Or.inl ⟨by rfl, ?_⟩) ?_ ?_
          rotate_left
          · intro w'
            go_simp
            with_reducible rfl
          rotate_left
          · simp only [Act.put, List.setIfInBounds_toArray, List.set_cons_zero, List.set_cons_succ, i64_w, i32_w]
            rfl
          refine take_ (i := 23) (N := some 69) (v := .agg #[.int .i64 N, .slice A2 (tk ts2).length c2]) (a' := ?_) #[true, true, true, true, true, true, true, true, true, true, true, true, true, true, true, true, true, true, true, true, true, true, false, true, false, false, false, false, false, false, false, false, false, false, false] rfl rfl (take_of HT_.out (by kernel_rfl)) (fun _ _ _ h => h) (Or.inl ⟨by rfl, ?_⟩) hHeld ?_ ?_
          · rintro w' s1
            obtain ⟨q0, q1⟩ := cz2 s1
            go_simp
          rotate_left
          · simp only [Act.put, List.setIfInBounds_toArray, List.set_cons_zero, List.set_cons_succ, i64_w, i32_w]
            rfl
          refine one_ (i := 22) (N := some 68) #[true, true, true, true, true, true, true, true, true, true, true, true, true, true, true, true, true, true, true, true, true, true, true, true, false, false, false, false, false, false, false, false, false, false, false] rfl rfl (one_of HT_.out (by kernel_rfl)) (by decide) (fun K hK => ?_)
          refine goes_ Try.func33 (by kernel_rfl) rfl #[.pointer (some ⟨p, 0, none⟩)] (by rfl) rfl rfl (by (try simp only [List.map_toArray, List.map_cons, List.map_nil]); first | done | rfl) ?_
          refine (fs_longest HP.out.fs 70000 (Lg : Nat) HLG.out.1).mono ?_
          rintro x0 wn ⟨rfl, hf, hg⟩
          have hs := blk_own hHeld hg (by simp)
          replace HP := Aside0.mk (HP.out.same hg)
          clear hf hg
          refine ⟨_, rfl, ?_⟩
          refine hK.out _ _ hs (fun hHeld => ?_)
          clear hK K
          refine norm_ (a' := ?_) ?_ ?_
          rotate_left
          · show Act.put _ (some 68) _ = _
            simp only [Act.put, List.setIfInBounds_toArray, List.set_cons_zero, List.set_cons_succ, i64_w, i32_w]
            rfl
          refine one_ (i := 24) (N := some 70) #[true, true, true, true, true, true, true, true, true, true, true, true, true, true, true, true, true, true, true, true, true, true, true, true, true, false, false, false, false, false, false, false, false, false, false] rfl rfl (one_of HT_.out (by kernel_rfl)) (by decide) (fun K hK => ?_)
          refine goes_ Try.func42 (by kernel_rfl) rfl #[.agg #[.int .i64 N, .slice A2 (tk ts2).length c2]] (by rfl) rfl rfl (by (try simp only [List.map_toArray, List.map_cons, List.map_nil]); first | done | rfl) ?_
          refine (lookasideref05_Longest.calls 200000 N A2 c2 (tk ts2) (Lg : Nat) _ (Kd.V_reads' HP.out.v).2.2 (Kd.V_reads' HP.out.v).2.1 HLG.out.2).mono ?_
          rintro x0 wn ⟨rfl, hb⟩
          have hg := below_grown hb
          have hs := blk_own hHeld hg (by simp)
          replace HP := Aside0.mk (HP.out.same hg)
          clear hb hg
          refine ⟨_, rfl, ?_⟩
          refine hK.out _ _ hs (fun hHeld => ?_)
          clear hK K
          refine norm_ (a' := ?_) ?_ ?_
          rotate_left
          · show Act.put _ (some 70) _ = _
            simp only [Act.put, List.setIfInBounds_toArray, List.set_cons_zero, List.set_cons_succ, i64_w, i32_w]
            rfl
          refine pure_ (i := 25) (N := some 71) (v := .bool false) (a' := ?_) #[true, true, true, true, true, true, true, true, true, true, true, true, true, true, true, true, true, true, true, true, true, true, true, true, true, true, false, false, false, false, false, false, false, false, false] rfl rfl (any_of HT_.out (by kernel_rfl)) (fun _ _ _ h => h) (Or.inl ⟨by rfl, ?_⟩) ?_ ?_
          · intro w'
            go_simp
          rotate_left
          · simp only [Act.put, List.setIfInBounds_toArray, List.set_cons_zero, List.set_cons_succ, i64_w, i32_w]
            rfl
          refine pure_ (i := 26) (N := some 72) (v := ?_) (a' := ?_) #[true, true, true, true, true, true, true, true, true, true, true, true, true, true, true, true, true, true, true, true, true, true, true, true, true, true, true, false, false, false, false, false, false, false, false] rfl rfl (any_of HT_.out (by kernel_rfl)) (fun _ _ _ h => h) (Or.inl ⟨by rfl, ?_⟩) ?_ ?_
          rotate_left
          · intro w'
            go_simp
            with_reducible rfl
          rotate_left
          · simp only [Act.put, List.setIfInBounds_toArray, List.set_cons_zero, List.set_cons_succ, i64_w, i32_w]
            rfl
          refine pure_ (i := 27) (N := some 73) (v := ?_) (a' := ?_) #[true, true, true, true, true, true, true, true, true, true, true, true, true, true, true, true, true, true, true, true, true, true, true, true, true, true, true, true, false, false, false, false, false, false, false] rfl rfl (any_of HT_.out (by kernel_rfl)) (fun _ _ _ h => h) (Or.inl ⟨by rfl, ?_⟩) ?_ ?_
          rotate_left
          · intro w'
            go_simp
            with_reducible rfl
          rotate_left
          · simp only [Act.put, List.setIfInBounds_toArray, List.set_cons_zero, List.set_cons_succ, i64_w, i32_w]
            rfl
          refine pure_ (i := 28) (N := some 74) (v := ?_) (a' := ?_) #[true, true, true, true, true, true, true, true, true, true, true, true, true, true, true, true, true, true, true, true, true, true, true, true, true, true, true, true, true, false, false, false, false, false, false] rfl rfl (any_of HT_.out (by kernel_rfl)) (fun _ _ _ h => h) (Or.inl ⟨by rfl, ?_⟩) ?_ ?_
          rotate_left
          · intro w'
            go_simp
            with_reducible rfl
          rotate_left
          · simp only [Act.put, List.setIfInBounds_toArray, List.set_cons_zero, List.set_cons_succ, i64_w, i32_w]
            rfl
          refine pure_ (i := 30) (N := some 76) (v := ?_) (a' := ?_) #[true, true, true, true, true, true, true, true, true, true, true, true, true, true, true, true, true, true, true, true, true, true, true, true, true, true, true, true, true, false, true, false, false, false, false] rfl rfl (any_of HT_.out (by kernel_rfl)) (fun _ _ _ h => h) (Or.inl ⟨by rfl, ?_⟩) ?_ ?_
          rotate_left
          · intro w'
            go_simp
            with_reducible rfl
          rotate_left
          · simp only [Act.put, List.setIfInBounds_toArray, List.set_cons_zero, List.set_cons_succ, i64_w, i32_w]
            rfl
          refine take_ (i := 31) (N := some 77) (v := .slice A2 (tk ts2).length c2) (a' := ?_) #[true, true, true, true, true, true, true, true, true, true, true, true, true, true, true, true, true, true, true, true, true, true, true, true, true, true, true, true, true, false, true, true, false, false, false] rfl rfl (take_of HT_.out (by kernel_rfl)) (fun _ _ _ h => h) (Or.inl ⟨by rfl, ?_⟩) hHeld ?_ ?_
          · rintro w' s1
            obtain ⟨q0, q1⟩ := cz2 s1
            go_simp
          rotate_left
          · simp only [Act.put, List.setIfInBounds_toArray, List.set_cons_zero, List.set_cons_succ, i64_w, i32_w]
            rfl
          refine one_ (i := 29) (N := some 75) #[true, true, true, true, true, true, true, true, true, true, true, true, true, true, true, true, true, true, true, true, true, true, true, true, true, true, true, true, true, true, true, true, false, false, false] rfl rfl (one_of HT_.out (by kernel_rfl)) (by decide) (fun K hK => ?_)
          refine goes_ Try.func40 (by kernel_rfl) rfl #[.pointer (some ⟨p, 0, none⟩)] (by rfl) rfl rfl (by (try simp only [List.map_toArray, List.map_cons, List.map_nil]); first | done | rfl) ?_
          refine (fs_list HP.out.fs 70000 (tk ts2) (list_f ts2 HP.out.fs.len _)).mono ?_
          rintro x0 wn ⟨⟨v0, rfl, hR⟩, hf, hg⟩
          have hs := blk_own hHeld hg (by simp)
          replace HP := Aside0.mk (HP.out.same hg)
          obtain ⟨Al, cl, rfl, hcl, hCl⟩ := Kd.R_reads hR
          have HCL := Aside0.mk (And.intro hcl hCl)
          clear hf hg hR hcl hCl
          refine ⟨_, rfl, ?_⟩
          refine hK.out _ _ hs (fun hHeld => ?_)
          clear hK K
          refine norm_ (a' := ?_) ?_ ?_
          rotate_left
          · show Act.put _ (some 75) _ = _
            simp only [Act.put, List.setIfInBounds_toArray, List.set_cons_zero, List.set_cons_succ, i64_w, i32_w]
            rfl
          refine one_ (i := 32) (N := some 78) #[true, true, true, true, true, true, true, true, true, true, true, true, true, true, true, true, true, true, true, true, true, true, true, true, true, true, true, true, true, true, true, true, true, false, false] rfl rfl (one_of HT_.out (by kernel_rfl)) (by decide) (fun K hK => ?_)
          refine goes_ Try.func43 (by kernel_rfl) rfl #[.slice Al (tk ts2).length cl, .slice A2 (tk ts2).length c2] (by rfl) rfl rfl (by (try simp only [List.map_toArray, List.map_cons, List.map_nil]); first | done | rfl) ?_
          refine (lookasideref02_Same.calls 200000 Al cl (tk ts2) A2 c2 (tk ts2) true _ HCL.out.2 HCL.out.1 (Kd.V_reads' HP.out.v).2.2 (Kd.V_reads' HP.out.v).2.1 (same_tk HP.out.fs.len)).mono ?_
          rintro x0 wn ⟨rfl, hd⟩
          have hg := drawn_grown hd
          have hs := blk_own hHeld hg (by simp)
          replace HP := Aside0.mk (HP.out.same hg)
          clear hd hg HCL
          refine ⟨_, rfl, ?_⟩
          refine hK.out _ _ hs (fun hHeld => ?_)
          clear hK K
          refine norm_ (a' := ?_) ?_ ?_
          rotate_left
          · show Act.put _ (some 78) _ = _
            simp only [Act.put, List.setIfInBounds_toArray, List.set_cons_zero, List.set_cons_succ, i64_w, i32_w]
            rfl
          refine pure_ (i := 33) (N := some 79) (v := .bool false) (a' := ?_) #[true, true, true, true, true, true, true, true, true, true, true, true, true, true, true, true, true, true, true, true, true, true, true, true, true, true, true, true, true, true, true, true, true, true, false] rfl rfl (any_of HT_.out (by kernel_rfl)) (fun _ _ _ h => h) (Or.inl ⟨by rfl, ?_⟩) ?_ ?_
          · intro w'
            go_simp
          rotate_left
          · simp only [Act.put, List.setIfInBounds_toArray, List.set_cons_zero, List.set_cons_succ, i64_w, i32_w]
            rfl
          refine pure_ (i := 34) (N := some 80) (v := ?_) (a' := ?_) #[true, true, true, true, true, true, true, true, true, true, true, true, true, true, true, true, true, true, true, true, true, true, true, true, true, true, true, true, true, true, true, true, true, true, true] rfl rfl (any_of HT_.out (by kernel_rfl)) (fun _ _ _ h => h) (Or.inl ⟨by rfl, ?_⟩) ?_ ?_
          rotate_left
          · intro w'
            go_simp
            with_reducible rfl
          rotate_left
          · simp only [Act.put, List.setIfInBounds_toArray, List.set_cons_zero, List.set_cons_succ, i64_w, i32_w]
            rfl
          refine done_ (done_of HT_.out (by kernel_rfl)) ?_
          replace HB6 := Aside0.mk hHeld
          go_wp2
          go_roundw
          case rel => exact ⟨k + 1, ts2, A2, c2, tA2, tc2, tl2, by go_num, rfl, by omega, by omega, by have := HLEN2.out; omega, HN2, HLOW2, HB6, ⟨HP.out.begin⟩⟩
          case measure => simp [intOf]; omega
        · refine box_step ?hg (N := 9) ?hd (cs := #[.int .i64 0, .slice none 0 0]) (t := 59) ?hr ?_; (case hd => rfl); (case hg => rfl); (case hr => first | (go_simp; done) | (go_simp; rfl))
          intro h9 hg9 wn hbox hb
          have HB9 := Aside0.mk hbox
          have HN9 := Aside0.mk (show h6 ≠ h9 by have := blk_lt hHeld.1; omega)
          have hg := below_grown hb
          replace HP := Aside0.mk (PF.al (Y := fun k => k = h6 ∨ k = h9) HP.out hg (fun k hk => hk.elim .inl (fun e => .inr ⟨by omega, by have := blk_lt HB9.out; omega⟩)))
          have hs : wn.heap[h6]? = some (.cells #[.int .i64 N, .slice A (tk ts).length c] 59 (0, 0)) ∧ DeedF wn (y.add (k * 3)) kd da db := ⟨blk_own hHeld.1 hg (by simp), hHeld.2.grown hg⟩
          clear hg hg9 hbox hb
          refine hK.out _ _ hs (fun hHeld => ?_)
          clear hK K
          refine norm_ (a' := ?_) ?_ ?_
          rotate_left
          · show Act.put _ (some 9) _ = _
            simp only [Act.put, List.setIfInBounds_toArray, List.set_cons_zero, List.set_cons_succ, i64_w, i32_w]
            rfl
          refine one_ (i := 7) (N := some 40) #[true, true, true, true, true, true, true, true, false, false, false, false, true, false, false, false] rfl rfl (one_of HT_.out (by kernel_rfl)) (by decide) (fun K hK => ?_)
          refine goes_ Try.func41 (by kernel_rfl) rfl #[.pointer (some ⟨p, 0, none⟩), .agg #[.int .i64 N, .slice A (tk ts).length c], .slice tA tl.length tc, .agg #[.int .i64 kd, .int .i64 da, .int .i64 db]] (by rfl) rfl rfl (by (try simp only [List.map_toArray, List.map_cons, List.map_nil]); first | done | rfl) ?_
          refine (doF_any HP.out HN.out HLOW.out HTL.out da db HDW.out.ha HDW.out.hb kd).mono ?_
          rintro x0 wn ⟨ts2, A2, c2, tA2, tc2, tl2, rfl, hP, hn2, hlen2, hlow2⟩
          replace HB9 := Aside0.mk (hP.box_kept HP.out (.inr rfl) HB9.out)
          have hs : wn.heap[h6]? = some (.cells #[.int .i64 N, .slice A (tk ts).length c] 59 (0, 0)) ∧ DeedF wn (y.add (k * 3)) kd da db := ⟨hP.box_kept HP.out (.inl rfl) hHeld.1, HDW.out.grown (below_grown hP.fs.below)⟩
          replace HP := Aside0.mk hP
          have HN2 := Aside0.mk hn2
          have HLEN2 := Aside0.mk hlen2
          have HLOW2 := Aside0.mk hlow2
          clear hP hn2 hlen2 hlow2
          refine ⟨_, rfl, ?_⟩
          refine hK.out _ _ hs (fun hHeld => ?_)
          clear hK K
          refine norm_ (a' := ?_) ?_ ?_
          rotate_left
          · show Act.put _ (some 40) _ = _
            simp only [Act.put, List.setIfInBounds_toArray, List.set_cons_zero, List.set_cons_succ, i64_w, i32_w]
            rfl
          refine pure_ (i := 8) (N := some 32) (v := ?_) (a' := ?_) #[true, true, true, true, true, true, true, true, true, false, false, false, true, false, false, false] rfl rfl (any_of HT_.out (by kernel_rfl)) (fun _ _ _ h => h) (Or.inl ⟨by rfl, ?_⟩) ?_ ?_
          rotate_left
          · intro w'
            go_simp
            with_reducible rfl
          rotate_left
          · simp only [Act.put, List.setIfInBounds_toArray, List.set_cons_zero, List.set_cons_succ, i64_w, i32_w]
            rfl
          refine pure_ (i := 9) (N := some 41) (v := ?_) (a' := ?_) #[true, true, true, true, true, true, true, true, true, true, false, false, true, false, false, false] rfl rfl (any_of HT_.out (by kernel_rfl)) (fun _ _ _ h => h) (Or.inl ⟨by rfl, ?_⟩) ?_ ?_
          rotate_left
          · intro w'
            go_simp
            with_reducible rfl
          rotate_left
          · simp only [Act.put, List.setIfInBounds_toArray, List.set_cons_zero, List.set_cons_succ, i64_w, i32_w]
            rfl
          refine pure_ (i := 10) (N := some 42) (v := ?_) (a' := ?_) #[true, true, true, true, true, true, true, true, true, true, true, false, true, false, false, false] rfl rfl (any_of HT_.out (by kernel_rfl)) (fun _ _ _ h => h) (Or.inl ⟨by rfl, ?_⟩) ?_ ?_
          rotate_left
          · intro w'
            go_simp
            with_reducible rfl
          rotate_left
          · simp only [Act.put, List.setIfInBounds_toArray, List.set_cons_zero, List.set_cons_succ, i64_w, i32_w]
            rfl
          refine pure_ (i := 11) (N := some 43) (v := ?_) (a' := ?_) #[true, true, true, true, true, true, true, true, true, true, true, true, true, false, false, false] rfl rfl (any_of HT_.out (by kernel_rfl)) (fun _ _ _ h => h) (Or.inl ⟨by rfl, ?_⟩) ?_ ?_
          rotate_left
          · intro w'
            go_simp
            with_reducible rfl
          rotate_left
          · simp only [Act.put, List.setIfInBounds_toArray, List.set_cons_zero, List.set_cons_succ, i64_w, i32_w]
            rfl
          refine last_ (i := 13) (N := none) #[true, true, true, true, true, true, true, true, true, true, true, true, true, true, false, false] rfl rfl (one_of HT_.out (by kernel_rfl)) (by decide) (fun K hK => ?_)
          rw [if_pos (by rfl)]
          refine wp_store_row 59 (.tmp 9) (.tmp 41) rfl h9 #[.int .i64 N, .slice A2 (tk ts2).length c2] rfl rfl 59 #[.int .i64 0, .slice none 0 0] HB9.out (by kernel_rfl) rfl (by kernel_rfl) ?_
          have hb2 := setRow_heap wn h9 _ #[.int .i64 N, .slice A2 (tk ts2).length c2] _ _ HB9.out
          have hgr := grown_row wn h9 #[.int .i64 N, .slice A2 (tk ts2).length c2]
          generalize World.setRow wn h9 #[.int .i64 N, .slice A2 (tk ts2).length c2] = ws at hb2 hgr ⊢
          replace HB6 := Aside0.mk (blk_own hHeld.1 hgr (fun e => HN9.out (Option.some.inj e)))
          replace HP := Aside0.mk (HP.out.puts (.inr rfl) hgr)
          replace HB9 := Aside0.mk hb2
          clear hb2 hgr
          refine hK.out _ _ ?_
          clear hK K
          refine pure_ (i := 14) (N := some 10) (v := ?_) (a' := ?_) #[true, true, true, true, true, true, true, true, true, true, true, true, true, true, true, false] rfl rfl (any_of HT_.out (by kernel_rfl)) (fun _ _ _ h => h) (Or.inl ⟨by rfl, ?_⟩) ?_ ?_
          rotate_left
          · intro w'
            go_simp
            with_reducible rfl
          rotate_left
          · simp only [Act.put, List.setIfInBounds_toArray, List.set_cons_zero, List.set_cons_succ, i64_w, i32_w]
            rfl
          refine pure_ (i := 15) (N := some 11) (v := ?_) (a' := ?_) #[true, true, true, true, true, true, true, true, true, true, true, true, true, true, true, true] rfl rfl (any_of HT_.out (by kernel_rfl)) (fun _ _ _ h => h) (Or.inl ⟨by rfl, ?_⟩) ?_ ?_
          rotate_left
          · intro w'
            go_simp
            with_reducible rfl
          rotate_left
          · simp only [Act.put, List.setIfInBounds_toArray, List.set_cons_zero, List.set_cons_succ, i64_w, i32_w]
            rfl
          refine done_ (done_of HT_.out (by kernel_rfl)) ?_
          go_wp2_with (first | ((with_reducible refine gate_dst (N := 44) rfl ?_); refine wpList_load_row rfl 59 (.tmp 9) rfl h9 rfl 59 #[.int .i64 N, .slice A2 (tk ts2).length c2] (0, 0) _ HB9.out hu rfl (by kernel_rfl) ?_) | ((with_reducible refine gate_store (t := 59) (p := 6) rfl ?_); refine wpList_store_row rfl 59 (.tmp 6) (.tmp 44) rfl h6 #[.int .i64 N, .slice A2 (tk ts2).length c2] rfl rfl 59 _ HB6.out (by kernel_rfl) rfl (by kernel_rfl) ?_; have SHB6 := Aside0.mk (setRow_heap _ h6 _ #[.int .i64 N, .slice A2 (tk ts2).length c2] _ _ HB6.out); have THB6 := Aside0.mk (grown_row ws h6 #[.int .i64 N, .slice A2 (tk ts2).length c2]); skip))
          replace HP := Aside0.mk ((HP.out.puts (.inl rfl) THB6.out).drop (Y := fun k => k = h6) (fun k hk => .inl hk))
          replace HB6 := Aside0.mk SHB6.out
          generalize World.setRow ws h6 #[.int .i64 N, .slice A2 (tk ts2).length c2] = wt at HP HB6 ⊢
          clear SHB6 THB6 HB9
          obtain ⟨Lg, hL1, _, hL2⟩ := longest_f ts2 HP.out.fs.len (cnt ts2)
          have HLG := Aside0.mk (And.intro hL1 (show lookasideref05_Longest.f 200000 (N : Int) (tk ts2) = some (Lg : Int) from by rw [← HN2.out]; exact longR_tk HP.out.fs.len Lg hL2))
          have HWR := Aside0.mk (show IntKind.i64.wrap ((N : Int) - ((tk ts2).length : Int)) = (N : Int) - ((tk ts2).length : Int) from IntWalk.i64_in _ (by have := tk_len ts2; have := HN2.out; omega))
          clear hL1 hL2
          have hg := grown_drew wt none
          replace HB6 := Aside0.mk (blk_own HB6.out hg (by simp))
          replace HP := Aside0.mk (HP.out.same hg)
          clear hg
          refine start_ (n := 35) (S := fun w' => w'.heap[h6]? = some (.cells #[.int .i64 N, .slice A2 (tk ts2).length c2] 59 (0, 0))) (ds := []) #[false, false, false, false, false, false, false, false, false, false, false, false, false, false, false, false, false, false, false, false, false, false, false, false, false, false, false, false, false, false, false, false, false, false, false] (by kernel_rfl) rfl rfl HB6.out (fun hHeld => ?_)
          refine with_tab playsF14_tab (fun HT_ => ?_)
          refine pure_ (i := 0) (N := some 46) (v := ?_) (a' := ?_) #[true, false, false, false, false, false, false, false, false, false, false, false, false, false, false, false, false, false, false, false, false, false, false, false, false, false, false, false, false, false, false, false, false, false, false] rfl rfl (any_of HT_.out (by kernel_rfl)) (fun _ _ _ h => h) (Or.inl ⟨by rfl, ?_⟩) ?_ ?_
          rotate_left
          · intro w'
            go_simp
            with_reducible rfl
          rotate_left
          · simp only [Act.put, List.setIfInBounds_toArray, List.set_cons_zero, List.set_cons_succ, i64_w, i32_w]
            rfl
          refine pure_ (i := 1) (N := some 47) (v := ?_) (a' := ?_) #[true, true, false, false, false, false, false, false, false, false, false, false, false, false, false, false, false, false, false, false, false, false, false, false, false, false, false, false, false, false, false, false, false, false, false] rfl rfl (any_of HT_.out (by kernel_rfl)) (fun _ _ _ h => h) (Or.inl ⟨by rfl, ?_⟩) ?_ ?_
          rotate_left
          · intro w'
            go_simp
            with_reducible rfl
          rotate_left
          · simp only [Act.put, List.setIfInBounds_toArray, List.set_cons_zero, List.set_cons_succ, i64_w, i32_w]
            rfl
          refine pure_ (i := 2) (N := some 48) (v := ?_) (a' := ?_) #[true, true, true, false, false, false, false, false, false, false, false, false, false, false, false, false, false, false, false, false, false, false, false, false, false, false, false, false, false, false, false, false, false, false, false] rfl rfl (any_of HT_.out (by kernel_rfl)) (fun _ _ _ h => h) (Or.inl ⟨by rfl, ?_⟩) ?_ ?_
          rotate_left
          · intro w'
            go_simp
            with_reducible rfl
          rotate_left
          · simp only [Act.put, List.setIfInBounds_toArray, List.set_cons_zero, List.set_cons_succ, i64_w, i32_w]
            rfl
          refine pure_ (i := 3) (N := some 49) (v := ?_) (a' := ?_) #[true, true, true, true, false, false, false, false, false, false, false, false, false, false, false, false, false, false, false, false, false, false, false, false, false, false, false, false, false, false, false, false, false, false, false] rfl rfl (any_of HT_.out (by kernel_rfl)) (fun _ _ _ h => h) (Or.inl ⟨by rfl, ?_⟩) ?_ ?_
          rotate_left
          · intro w'
            go_simp
            with_reducible rfl
          rotate_left
          · simp only [Act.put, List.setIfInBounds_toArray, List.set_cons_zero, List.set_cons_succ, i64_w, i32_w]
            rfl
          refine pure_ (i := 5) (N := some 51) (v := ?_) (a' := ?_) #[true, true, true, true, false, true, false, false, false, false, false, false, false, false, false, false, false, false, false, false, false, false, false, false, false, false, false, false, false, false, false, false, false, false, false] rfl rfl (any_of HT_.out (by kernel_rfl)) (fun _ _ _ h => h) (Or.inl ⟨by rfl, ?_⟩) ?_ ?_
          rotate_left
          · intro w'
            go_simp
            with_reducible rfl
          rotate_left
          · simp only [Act.put, List.setIfInBounds_toArray, List.set_cons_zero, List.set_cons_succ, i64_w, i32_w]
            rfl
          refine pure_ (i := 7) (N := some 53) (v := ?_) (a' := ?_) #[true, true, true, true, false, true, false, true, false, false, false, false, false, false, false, false, false, false, false, false, false, false, false, false, false, false, false, false, false, false, false, false, false, false, false] rfl rfl (any_of HT_.out (by kernel_rfl)) (fun _ _ _ h => h) (Or.inl ⟨by rfl, ?_⟩) ?_ ?_
          rotate_left
          · intro w'
            go_simp
            with_reducible rfl
          rotate_left
          · simp only [Act.put, List.setIfInBounds_toArray, List.set_cons_zero, List.set_cons_succ, i64_w, i32_w]
            rfl
          refine take_ (i := 6) (N := some 52) (v := .int .i64 N) (a' := ?_) #[true, true, true, true, false, true, true, true, false, false, false, false, false, false, false, false, false, false, false, false, false, false, false, false, false, false, false, false, false, false, false, false, false, false, false] rfl rfl (take_of HT_.out (by kernel_rfl)) (fun _ _ _ h => h) (Or.inl ⟨by rfl, ?_⟩) hHeld ?_ ?_
          · rintro w' s1
            obtain ⟨q0, q1⟩ := cz2 s1
            go_simp
          rotate_left
          · simp only [Act.put, List.setIfInBounds_toArray, List.set_cons_zero, List.set_cons_succ, i64_w, i32_w]
            rfl
          refine take_ (i := 8) (N := some 54) (v := .slice A2 (tk ts2).length c2) (a' := ?_) #[true, true, true, true, false, true, true, true, true, false, false, false, false, false, false, false, false, false, false, false, false, false, false, false, false, false, false, false, false, false, false, false, false, false, false] rfl rfl (take_of HT_.out (by kernel_rfl)) (fun _ _ _ h => h) (Or.inl ⟨by rfl, ?_⟩) hHeld ?_ ?_
          · rintro w' s1
            obtain ⟨q0, q1⟩ := cz2 s1
            go_simp
          rotate_left
          · simp only [Act.put, List.setIfInBounds_toArray, List.set_cons_zero, List.set_cons_succ, i64_w, i32_w]
            rfl
          refine pure_ (i := 9) (N := some 55) (v := ?_) (a' := ?_) #[true, true, true, true, false, true, true, true, true, true, false, false, false, false, false, false, false, false, false, false, false, false, false, false, false, false, false, false, false, false, false, false, false, false, false] rfl rfl (any_of HT_.out (by kernel_rfl)) (fun _ _ _ h => h) (Or.inl ⟨by rfl, ?_⟩) ?_ ?_
          rotate_left
          · intro w'
            go_simp
            with_reducible rfl
          rotate_left
          · simp only [Act.put, List.setIfInBounds_toArray, List.set_cons_zero, List.set_cons_succ, i64_w, i32_w]
            rfl
          refine pure_ (i := 10) (N := some 56) (v := .int .i64 ((N : Int) - ((tk ts2).length : Int))) (a' := ?_) #[true, true, true, true, false, true, true, true, true, true, true, false, false, false, false, false, false, false, false, false, false, false, false, false, false, false, false, false, false, false, false, false, false, false, false] rfl rfl (any_of HT_.out (by kernel_rfl)) (fun _ _ _ h => h) (Or.inl ⟨by rfl, ?_⟩) ?_ ?_
          · intro w'
            have hw := HWR.out
            go_simp
          rotate_left
          · simp only [Act.put, List.setIfInBounds_toArray, List.set_cons_zero, List.set_cons_succ, i64_w, i32_w]
            rfl
          refine one_ (i := 4) (N := some 50) #[true, true, true, true, true, true, true, true, true, true, true, false, false, false, false, false, false, false, false, false, false, false, false, false, false, false, false, false, false, false, false, false, false, false, false] rfl rfl (one_of HT_.out (by kernel_rfl)) (by decide) (fun K hK => ?_)
          refine goes_ Try.func32 (by kernel_rfl) rfl #[.pointer (some ⟨p, 0, none⟩)] (by rfl) rfl rfl (by (try simp only [List.map_toArray, List.map_cons, List.map_nil]); first | done | rfl) ?_
          refine (fs_free HP.out.fs ((N : Int) - ((tk ts2).length : Int)) (by rw [cnt_tk, HN2.out])).mono ?_
          rintro x0 wn ⟨rfl, hf, hg⟩
          have hs := blk_own hHeld hg (by simp)
          replace HP := Aside0.mk (HP.out.same hg)
          clear hf hg
          refine ⟨_, rfl, ?_⟩
          refine hK.out _ _ hs (fun hHeld => ?_)
          clear hK K
          refine norm_ (a' := ?_) ?_ ?_
          rotate_left
          · show Act.put _ (some 50) _ = _
            simp only [Act.put, List.setIfInBounds_toArray, List.set_cons_zero, List.set_cons_succ, i64_w, i32_w]
            rfl
          refine pure_ (i := 11) (N := some 57) (v := .bool false) (a' := ?_) #[true, true, true, true, true, true, true, true, true, true, true, true, false, false, false, false, false, false, false, false, false, false, false, false, false, false, false, false, false, false, false, false, false, false, false] rfl rfl (any_of HT_.out (by kernel_rfl)) (fun _ _ _ h => h) (Or.inl ⟨by rfl, ?_⟩) ?_ ?_
          · intro w'
            go_simp
          rotate_left
          · simp only [Act.put, List.setIfInBounds_toArray, List.set_cons_zero, List.set_cons_succ, i64_w, i32_w]
            rfl
          refine pure_ (i := 12) (N := some 58) (v := ?_) (a' := ?_) #[true, true, true, true, true, true, true, true, true, true, true, true, true, false, false, false, false, false, false, false, false, false, false, false, false, false, false, false, false, false, false, false, false, false, false] rfl rfl (any_of HT_.out (by kernel_rfl)) (fun _ _ _ h => h) (Or.inl ⟨by rfl, ?_⟩) ?_ ?_
          rotate_left
          · intro w'
            go_simp
            with_reducible rfl
          rotate_left
          · simp only [Act.put, List.setIfInBounds_toArray, List.set_cons_zero, List.set_cons_succ, i64_w, i32_w]
            rfl
          refine pure_ (i := 13) (N := some 59) (v := ?_) (a' := ?_) #[true, true, true, true, true, true, true, true, true, true, true, true, true, true, false, false, false, false, false, false, false, false, false, false, false, false, false, false, false, false, false, false, false, false, false] rfl rfl (any_of HT_.out (by kernel_rfl)) (fun _ _ _ h => h) (Or.inl ⟨by rfl, ?_⟩) ?_ ?_
          rotate_left
          · intro w'
            go_simp
            with_reducible rfl
          rotate_left
          · simp only [Act.put, List.setIfInBounds_toArray, List.set_cons_zero, List.set_cons_succ, i64_w, i32_w]
            rfl
          refine pure_ (i := 14) (N := some 60) (v := ?_) (a' := ?_) #[true, true, true, true, true, true, true, true, true, true, true, true, true, true, true, false, false, false, false, false, false, false, false, false, false, false, false, false, false, false, false, false, false, false, false] rfl rfl (any_of HT_.out (by kernel_rfl)) (fun _ _ _ h => h) (Or.inl ⟨by rfl, ?_⟩) ?_ ?_
          rotate_left
          · intro w'
            go_simp
            with_reducible rfl
          rotate_left
          · simp only [Act.put, List.setIfInBounds_toArray, List.set_cons_zero, List.set_cons_succ, i64_w, i32_w]
            rfl
          refine pure_ (i := 16) (N := some 62) (v := ?_) (a' := ?_) #[true, true, true, true, true, true, true, true, true, true, true, true, true, true, true, false, true, false, false, false, false, false, false, false, false, false, false, false, false, false, false, false, false, false, false] rfl rfl (any_of HT_.out (by kernel_rfl)) (fun _ _ _ h => h) (Or.inl ⟨by rfl, ?_⟩) ?_ ?_
          rotate_left
          · intro w'
            go_simp
            with_reducible rfl
          rotate_left
          · simp only [Act.put, List.setIfInBounds_toArray, List.set_cons_zero, List.set_cons_succ, i64_w, i32_w]
            rfl
          refine take_ (i := 17) (N := some 63) (v := .int .i64 N) (a' := ?_) #[true, true, true, true, true, true, true, true, true, true, true, true, true, true, true, false, true, true, false, false, false, false, false, false, false, false, false, false, false, false, false, false, false, false, false] rfl rfl (take_of HT_.out (by kernel_rfl)) (fun _ _ _ h => h) (Or.inl ⟨by rfl, ?_⟩) hHeld ?_ ?_
          · rintro w' s1
            obtain ⟨q0, q1⟩ := cz2 s1
            go_simp
          rotate_left
          · simp only [Act.put, List.setIfInBounds_toArray, List.set_cons_zero, List.set_cons_succ, i64_w, i32_w]
            rfl
          refine one_ (i := 15) (N := some 61) #[true, true, true, true, true, true, true, true, true, true, true, true, true, true, true, true, true, true, false, false, false, false, false, false, false, false, false, false, false, false, false, false, false, false, false] rfl rfl (one_of HT_.out (by kernel_rfl)) (by decide) (fun K hK => ?_)
          refine goes_ Try.func30 (by kernel_rfl) rfl #[.pointer (some ⟨p, 0, none⟩)] (by rfl) rfl rfl (by (try simp only [List.map_toArray, List.map_cons, List.map_nil]); first | done | rfl) ?_
          refine (fs_len HP.out.fs (N : Int) (by rw [HN2.out])).mono ?_
          rintro x0 wn ⟨rfl, hf, hg⟩
          have hs := blk_own hHeld hg (by simp)
          replace HP := Aside0.mk (HP.out.same hg)
          clear hf hg
          refine ⟨_, rfl, ?_⟩
          refine hK.out _ _ hs (fun hHeld => ?_)
          clear hK K
          refine norm_ (a' := ?_) ?_ ?_
          rotate_left
          · show Act.put _ (some 61) _ = _
            simp only [Act.put, List.setIfInBounds_toArray, List.set_cons_zero, List.set_cons_succ, i64_w, i32_w]
            rfl
          refine pure_ (i := 18) (N := some 64) (v := .bool false) (a' := ?_) #[true, true, true, true, true, true, true, true, true, true, true, true, true, true, true, true, true, true, true, false, false, false, false, false, false, false, false, false, false, false, false, false, false, false, false] rfl rfl (any_of HT_.out (by kernel_rfl)) (fun _ _ _ h => h) (Or.inl ⟨by rfl, ?_⟩) ?_ ?_
          · intro w'
            go_simp
          rotate_left
          · simp only [Act.put, List.setIfInBounds_toArray, List.set_cons_zero, List.set_cons_succ, i64_w, i32_w]
            rfl
          refine pure_ (i := 19) (N := some 65) (v := ?_) (a' := ?_) #[true, true, true, true, true, true, true, true, true, true, true, true, true, true, true, true, true, true, true, true, false, false, false, false, false, false, false, false, false, false, false, false, false, false, false] rfl rfl (any_of HT_.out (by kernel_rfl)) (fun _ _ _ h => h) (Or.inl ⟨by rfl, ?_⟩) ?_ ?_
          rotate_left
          · intro w'
            go_simp
            with_reducible rfl
          rotate_left
          · simp only [Act.put, List.setIfInBounds_toArray, List.set_cons_zero, List.set_cons_succ, i64_w, i32_w]
            rfl
          refine pure_ (i := 20) (N := some 66) (v := ?_) (a' := ?_) #[true, true, true, true, true, true, true, true, true, true, true, true, true, true, true, true, true, true, true, true, true, false, false, false, false, false, false, false, false, false, false, false, false, false, false] rfl rfl (any_of HT_.out (by kernel_rfl)) (fun _ _ _ h => h) (Or.inl ⟨by rfl, ?_⟩) ?_ ?_
          rotate_left
          · intro w'
            go_simp
            with_reducible rfl
          rotate_left
          · simp only [Act.put, List.setIfInBounds_toArray, List.set_cons_zero, List.set_cons_succ, i64_w, i32_w]
            rfl
          refine pure_ (i := 21) (N := some 67) (v := ?_) (a' := ?_) #[true, true, true, true, true, true, true, true, true, true, true, true, true, true, true, true, true, true, true, true, true, true, false, false, false, false, false, false, false, false, false, false, false, false, false] rfl rfl (any_of HT_.out (by kernel_rfl)) (fun _ _ _ h => h) (Or.inl ⟨by rfl, ?_⟩) ?_ ?_
          rotate_left
          · intro w'
            go_simp
            with_reducible rfl
          rotate_left
          · simp only [Act.put, List.setIfInBounds_toArray, List.set_cons_zero, List.set_cons_succ, i64_w, i32_w]
            rfl
          refine take_ (i := 23) (N := some 69) (v := .agg #[.int .i64 N, .slice A2 (tk ts2).length c2]) (a' := ?_) #[true, true, true, true, true, true, true, true, true, true, true, true, true, true, true, true, true, true, true, true, true, true, false, true, false, false, false, false, false, false, false, false, false, false, false] rfl rfl (take_of HT_.out (by kernel_rfl)) (fun _ _ _ h => h) (Or.inl ⟨by rfl, ?_⟩) hHeld ?_ ?_
          · rintro w' s1
            obtain ⟨q0, q1⟩ := cz2 s1
            go_simp
          rotate_left
          · simp only [Act.put, List.setIfInBounds_toArray, List.set_cons_zero, List.set_cons_succ, i64_w, i32_w]
            rfl
          refine one_ (i := 22) (N := some 68) #[true, true, true, true, true, true, true, true, true, true, true, true, true, true, true, true, true, true, true, true, true, true, true, true, false, false, false, false, false, false, false, false, false, false, false] rfl rfl (one_of HT_.out (by kernel_rfl)) (by decide) (fun K hK => ?_)
          refine goes_ Try.func33 (by kernel_rfl) rfl #[.pointer (some ⟨p, 0, none⟩)] (by rfl) rfl rfl (by (try simp only [List.map_toArray, List.map_cons, List.map_nil]); first | done | rfl) ?_
          refine (fs_longest HP.out.fs 70000 (Lg : Nat) HLG.out.1).mono ?_
          rintro x0 wn ⟨rfl, hf, hg⟩
          have hs := blk_own hHeld hg (by simp)
          replace HP := Aside0.mk (HP.out.same hg)
          clear hf hg
          refine ⟨_, rfl, ?_⟩
          refine hK.out _ _ hs (fun hHeld => ?_)
          clear hK K
          refine norm_ (a' := ?_) ?_ ?_
          rotate_left
          · show Act.put _ (some 68) _ = _
            simp only [Act.put, List.setIfInBounds_toArray, List.set_cons_zero, List.set_cons_succ, i64_w, i32_w]
            rfl
          refine one_ (i := 24) (N := some 70) #[true, true, true, true, true, true, true, true, true, true, true, true, true, true, true, true, true, true, true, true, true, true, true, true, true, false, false, false, false, false, false, false, false, false, false] rfl rfl (one_of HT_.out (by kernel_rfl)) (by decide) (fun K hK => ?_)
          refine goes_ Try.func42 (by kernel_rfl) rfl #[.agg #[.int .i64 N, .slice A2 (tk ts2).length c2]] (by rfl) rfl rfl (by (try simp only [List.map_toArray, List.map_cons, List.map_nil]); first | done | rfl) ?_
          refine (lookasideref05_Longest.calls 200000 N A2 c2 (tk ts2) (Lg : Nat) _ (Kd.V_reads' HP.out.v).2.2 (Kd.V_reads' HP.out.v).2.1 HLG.out.2).mono ?_
          rintro x0 wn ⟨rfl, hb⟩
          have hg := below_grown hb
          have hs := blk_own hHeld hg (by simp)
          replace HP := Aside0.mk (HP.out.same hg)
          clear hb hg
          refine ⟨_, rfl, ?_⟩
          refine hK.out _ _ hs (fun hHeld => ?_)
          clear hK K
          refine norm_ (a' := ?_) ?_ ?_
          rotate_left
          · show Act.put _ (some 70) _ = _
            simp only [Act.put, List.setIfInBounds_toArray, List.set_cons_zero, List.set_cons_succ, i64_w, i32_w]
            rfl
          refine pure_ (i := 25) (N := some 71) (v := .bool false) (a' := ?_) #[true, true, true, true, true, true, true, true, true, true, true, true, true, true, true, true, true, true, true, true, true, true, true, true, true, true, false, false, false, false, false, false, false, false, false] rfl rfl (any_of HT_.out (by kernel_rfl)) (fun _ _ _ h => h) (Or.inl ⟨by rfl, ?_⟩) ?_ ?_
          · intro w'
            go_simp
          rotate_left
          · simp only [Act.put, List.setIfInBounds_toArray, List.set_cons_zero, List.set_cons_succ, i64_w, i32_w]
            rfl
          refine pure_ (i := 26) (N := some 72) (v := ?_) (a' := ?_) #[true, true, true, true, true, true, true, true, true, true, true, true, true, true, true, true, true, true, true, true, true, true, true, true, true, true, true, false, false, false, false, false, false, false, false] rfl rfl (any_of HT_.out (by kernel_rfl)) (fun _ _ _ h => h) (Or.inl ⟨by rfl, ?_⟩) ?_ ?_
          rotate_left
          · intro w'
            go_simp
            with_reducible rfl
          rotate_left
          · simp only [Act.put, List.setIfInBounds_toArray, List.set_cons_zero, List.set_cons_succ, i64_w, i32_w]
            rfl
          refine pure_ (i := 27) (N := some 73) (v := ?_) (a' := ?_) #[true, true, true, true, true, true, true, true, true, true, true, true, true, true, true, true, true, true, true, true, true, true, true, true, true, true, true, true, false, false, false, false, false, false, false] rfl rfl (any_of HT_.out (by kernel_rfl)) (fun _ _ _ h => h) (Or.inl ⟨by rfl, ?_⟩) ?_ ?_
          rotate_left
          · intro w'
            go_simp
            with_reducible rfl
          rotate_left
          · simp only [Act.put, List.setIfInBounds_toArray, List.set_cons_zero, List.set_cons_succ, i64_w, i32_w]
            rfl
          refine pure_ (i := 28) (N := some 74) (v := ?_) (a' := ?_) #[true, true, true, true, true, true, true, true, true, true, true, true, true, true, true, true, true, true, true, true, true, true, true, true, true, true, true, true, true, false, false, false, false, false, false] rfl rfl (any_of HT_.out (by kernel_rfl)) (fun _ _ _ h => h) (Or.inl ⟨by rfl, ?_⟩) ?_ ?_
          rotate_left
          · intro w'
            go_simp
            with_reducible rfl
          rotate_left
          · simp only [Act.put, List.setIfInBounds_toArray, List.set_cons_zero, List.set_cons_succ, i64_w, i32_w]
            rfl
          refine pure_ (i := 30) (N := some 76) (v := ?_) (a' := ?_) #[true, true, true, true, true, true, true, true, true, true, true, true, true, true, true, true, true, true, true, true, true, true, true, true, true, true, true, true, true, false, true, false, false, false, false] rfl rfl (any_of HT_.out (by kernel_rfl)) (fun _ _ _ h => h) (Or.inl ⟨by rfl, ?_⟩) ?_ ?_
          rotate_left
          · intro w'
            go_simp
            with_reducible rfl
          rotate_left
          · simp only [Act.put, List.setIfInBounds_toArray, List.set_cons_zero, List.set_cons_succ, i64_w, i32_w]
            rfl
          refine take_ (i := 31) (N := some 77) (v := .slice A2 (tk ts2).length c2) (a' := ?_) #[true, true, true, true, true, true, true, true, true, true, true, true, true, true, true, true, true, true, true, true, true, true, true, true, true, true, true, true, true, false, true, true, false, false, false] rfl rfl (take_of HT_.out (by kernel_rfl)) (fun _ _ _ h => h) (Or.inl ⟨by rfl, ?_⟩) hHeld ?_ ?_
          · rintro w' s1
            obtain ⟨q0, q1⟩ := cz2 s1
            go_simp
          rotate_left
          · simp only [Act.put, List.setIfInBounds_toArray, List.set_cons_zero, List.set_cons_succ, i64_w, i32_w]
            rfl
          refine one_ (i := 29) (N := some 75) #[true, true, true, true, true, true, true, true, true, true, true, true, true, true, true, true, true, true, true, true, true, true, true, true, true, true, true, true, true, true, true, true, false, false, false] rfl rfl (one_of HT_.out (by kernel_rfl)) (by decide) (fun K hK => ?_)
          refine goes_ Try.func40 (by kernel_rfl) rfl #[.pointer (some ⟨p, 0, none⟩)] (by rfl) rfl rfl (by (try simp only [List.map_toArray, List.map_cons, List.map_nil]); first | done | rfl) ?_
          refine (fs_list HP.out.fs 70000 (tk ts2) (list_f ts2 HP.out.fs.len _)).mono ?_
          rintro x0 wn ⟨⟨v0, rfl, hR⟩, hf, hg⟩
          have hs := blk_own hHeld hg (by simp)
          replace HP := Aside0.mk (HP.out.same hg)
          obtain ⟨Al, cl, rfl, hcl, hCl⟩ := Kd.R_reads hR
          have HCL := Aside0.mk (And.intro hcl hCl)
          clear hf hg hR hcl hCl
          refine ⟨_, rfl, ?_⟩
          refine hK.out _ _ hs (fun hHeld => ?_)
          clear hK K
          refine norm_ (a' := ?_) ?_ ?_
          rotate_left
          · show Act.put _ (some 75) _ = _
            simp only [Act.put, List.setIfInBounds_toArray, List.set_cons_zero, List.set_cons_succ, i64_w, i32_w]
            rfl
          refine one_ (i := 32) (N := some 78) #[true, true, true, true, true, true, true, true, true, true, true, true, true, true, true, true, true, true, true, true, true, true, true, true, true, true, true, true, true, true, true, true, true, false, false] rfl rfl (one_of HT_.out (by kernel_rfl)) (by decide) (fun K hK => ?_)
          refine goes_ Try.func43 (by kernel_rfl) rfl #[.slice Al (tk ts2).length cl, .slice A2 (tk ts2).length c2] (by rfl) rfl rfl (by (try simp only [List.map_toArray, List.map_cons, List.map_nil]); first | done | rfl) ?_
          refine (lookasideref02_Same.calls 200000 Al cl (tk ts2) A2 c2 (tk ts2) true _ HCL.out.2 HCL.out.1 (Kd.V_reads' HP.out.v).2.2 (Kd.V_reads' HP.out.v).2.1 (same_tk HP.out.fs.len)).mono ?_
          rintro x0 wn ⟨rfl, hd⟩
          have hg := drawn_grown hd
          have hs := blk_own hHeld hg (by simp)
          replace HP := Aside0.mk (HP.out.same hg)
          clear hd hg HCL
          refine ⟨_, rfl, ?_⟩
          refine hK.out _ _ hs (fun hHeld => ?_)
          clear hK K
          refine norm_ (a' := ?_) ?_ ?_
          rotate_left
          · show Act.put _ (some 78) _ = _
            simp only [Act.put, List.setIfInBounds_toArray, List.set_cons_zero, List.set_cons_succ, i64_w, i32_w]
            rfl
          refine pure_ (i := 33) (N := some 79) (v := .bool false) (a' := ?_) #[true, true, true, true, true, true, true, true, true, true, true, true, true, true, true, true, true, true, true, true, true, true, true, true, true, true, true, true, true, true, true, true, true, true, false] rfl rfl (any_of HT_.out (by kernel_rfl)) (fun _ _ _ h => h) (Or.inl ⟨by rfl, ?_⟩) ?_ ?_
          · intro w'
            go_simp
          rotate_left
          · simp only [Act.put, List.setIfInBounds_toArray, List.set_cons_zero, List.set_cons_succ, i64_w, i32_w]
            rfl
          refine pure_ (i := 34) (N := some 80) (v := ?_) (a' := ?_) #[true, true, true, true, true, true, true, true, true, true, true, true, true, true, true, true, true, true, true, true, true, true, true, true, true, true, true, true, true, true, true, true, true, true, true] rfl rfl (any_of HT_.out (by kernel_rfl)) (fun _ _ _ h => h) (Or.inl ⟨by rfl, ?_⟩) ?_ ?_
          rotate_left
          · intro w'
            go_simp
            with_reducible rfl
          rotate_left
          · simp only [Act.put, List.setIfInBounds_toArray, List.set_cons_zero, List.set_cons_succ, i64_w, i32_w]
            rfl
          refine done_ (done_of HT_.out (by kernel_rfl)) ?_
          replace HB6 := Aside0.mk hHeld
          go_wp2
          go_roundw
          case rel => exact ⟨k + 1, ts2, A2, c2, tA2, tc2, tl2, by go_num, rfl, by omega, by omega, by have := HLEN2.out; omega, HN2, HLOW2, HB6, ⟨HP.out.begin⟩⟩
          case measure => simp [intOf]; omega
      · have hex : (k = 30 ∧ (30 : Int) < (len : Int)) ∨ k = len := by omega
        rcases hex with ⟨rfl, h1q⟩ | rfl
        all_goals
          go_wp2_with fail
          refine (lives_calls _).mono ?_
          rintro x0 wl ⟨rfl, hg⟩
          have HE := Aside0.mk (fs_same HP.out.fs hg).below
          clear hg
          go_wp2
          go_ret
          exact ⟨rfl, HE.out⟩
  · obtain ⟨N, hN⟩ : ∃ N : Nat, (N : Int) = if n0 < 0 then 0 else n0 := ⟨(if n0 < 0 then 0 else n0).toNat, by split <;> omega⟩
    have HNN := Aside0.mk (show mn (mx n0 0) 65536 = (N : Int) from by rw [hN]; unfold mn mx; (repeat' split) <;> omega)
    have hNl : N ≤ 600 := by split at hN <;> omega
    clear hN
    go_enter Try.func12, Try.ntmps12
    go_wp2_with fail
    refine (fs_new (Below.refl W.heap.size W) (Nat.le_refl _) _ N HNN.out).mono ?_
    rintro x0 w1 ⟨p, r, rfl, hM, hr, hg⟩
    have HM := Aside0.mk hM
    have HR := Aside0.mk hr
    clear hM hr hg
    go_wp2_with fail
    refine (lookasideref05_New.calls _ N [] _ (by unfold lookasideref05_New.f; rw [HNN.out])).mono ?_
    rintro x0 w2 ⟨v0, rfl, hR, hb⟩
    have hg := below_grown hb
    have hV := Kd.V_mono (ok' := fun k => k ≠ p ∧ k ≠ r ∧ some k ≠ (tv none 0 []).ownBlock ∧ ¬ False) (Kd.R_V (base' := 0) (Kd.R_bound hR)) (fun k hk => by have h1 := HM.out.lt; have h2 := HM.out.rp; have h3 := hk.2.1; exact ⟨by omega, by omega, by simp [tv, Value.ownBlock], id⟩)
    obtain ⟨A, c, rfl⟩ := Kd.V_slice hV
    have HP := Aside0.mk (show PF W w2 p r (tv none 0 []).ownBlock (fun _ => False) (List.replicate N false) (tk (List.replicate N false)) A c none 0 [] w2 from ⟨fs_same HM.out hg, by rw [tk_free]; exact hV, ⟨World.ownsRow_nil _ _ _ _⟩, fun k hk => hk.elim, Kept.refl _ _, fun k e => by simp [tv, Value.ownBlock] at e⟩)
    clear hR hb hg hV HM
    go_wp2_with (first | ((with_reducible refine gate_dst (N := 6) rfl ?_); refine box_event ?hg (N := 6) ?hd (cs := #[.int .i64 0, .slice none 0 0]) (t := 59) ?hr ?_; (case hd => rfl); (case hg => rfl); (case hr => first | (go_simp; done) | (go_simp; rfl)); intro h6 hgb w4 hbox hb; have HC := Aside0.mk hbox; have GHC := Aside0.mk (below_grown hb); have LHC := Aside0.mk (Nat.le_of_eq hgb.symm); clear hgb hbox hb) | ((with_reducible refine gate_store (t := 59) (p := 6) rfl ?_); refine wpList_store_row rfl 59 (.tmp 6) (.tmp 21) rfl h6 #[.int .i64 N, .slice A ([] : List Int).length c] rfl rfl 59 _ HC.out (by kernel_rfl) rfl (by kernel_rfl) ?_; have SHC := Aside0.mk (setRow_heap _ h6 _ #[.int .i64 N, .slice A ([] : List Int).length c] _ _ HC.out); have THC := Aside0.mk (grown_row w4 h6 #[.int .i64 N, .slice A ([] : List Int).length c]); have HPn := Aside0.mk ((PF.al (Y := fun k => k = h6) HP.out GHC.out (fun k hk => .inr ⟨by have := LHC.out; omega, by have := blk_lt HC.out; omega⟩)).puts rfl THC.out); clear HP; have HP := HPn; clear HPn; have HB6 := Aside0.mk (show (World.setRow w4 h6 #[.int .i64 N, .slice A ([] : List Int).length c]).heap[h6]? = some (.cells #[.int .i64 N, .slice A (tk (List.replicate N false)).length c] 59 (0, 0)) from by rw [tk_free]; exact SHC.out); generalize World.setRow w4 h6 #[.int .i64 N, .slice A ([] : List Int).length c] = w5 at HP HB6 ⊢; clear HC GHC LHC SHC THC))
    go_loopw [7, 8] (fun v7 v8 wr => ∃ (k : Nat) (ts : List Bool) (A : Option Addr) (c : Nat) (tA : Option Addr) (tc : Nat) (tl : List (Nat × Nat)), v8 = .int .i64 k ∧ v7 = .slice tA tl.length tc ∧ k ≤ len ∧ k ≤ 30 ∧ tl.length ≤ k ∧ Aside0 (ts.length = N) ∧ Aside0 (Low tl) ∧ Aside0 (wr.heap[h6]? = some (.cells #[.int .i64 N, .slice A (tk ts).length c] 59 (0, 0))) ∧ Aside0 (PF W wr p r (tv tA tc tl).ownBlock (fun k => k = h6) ts (tk ts) A c tA tc tl wr)) (fun _ v8 _ => 30 - (intOf v8).toNat)
    case atStart => exact ⟨0, _, A, c, none, 0, [], rfl, rfl, by omega, by omega, by simp, ⟨by simp⟩, ⟨fun x hx => by cases hx⟩, HB6, HP⟩
    case round =>
      clear HP HB6
      obtain ⟨k, ts, A, c, tA, tc, tl, rfl, rfl, hk, hk30, htl, HN, HLOW, HB6, HP⟩ := hrel
      by_cases h12 : k < len ∧ k < 30
      · have h1 := h12.1
        have h1' : (k : Int) < (len : Int) := by omega
        have h2' : (k : Int) < 30 := by omega
        have h0' : (0 : Int) ≤ (k : Int) := by omega
        have HTL := Aside0.mk (show tl.length ≤ 1000 by omega)
        obtain ⟨y, kd, da, db, rfl, hd⟩ := HDS.out.at k h1
        have HDW := Aside0.mk hd
        clear hd
        go_wp2_with fail
        have hg := grown_drew wr none
        replace HB6 := Aside0.mk (blk_own HB6.out hg (by simp))
        replace HP := Aside0.mk (HP.out.same hg).begin
        clear hg
        refine start_ (n := 16) (S := fun w' => w'.heap[h6]? = some (.cells #[.int .i64 N, .slice A (tk ts).length c] 59 (0, 0)) ∧ DeedF w' (y.add (k * 3)) kd da db) (ds := [13]) #[false, false, false, false, false, false, false, false, false, false, false, false, false, false, false, false] (by kernel_rfl) rfl rfl ⟨HB6.out, HDW.out.grown (below_grown HP.out.fs.below)⟩ (fun hHeld => ?_)
        refine with_tab playsF11_tab (fun HT_ => ?_)
        refine pure_ (i := 0) (N := some 33) (v := ?_) (a' := ?_) #[true, false, false, false, false, false, false, false, false, false, false, false, false, false, false, false] rfl rfl (any_of HT_.out (by kernel_rfl)) (fun _ _ _ h => h) (Or.inl ⟨by rfl, ?_⟩) ?_ ?_
        rotate_left
        · intro w'
          go_simp
          with_reducible rfl
        rotate_left
        · simp only [Act.put, List.setIfInBounds_toArray, List.set_cons_zero, List.set_cons_succ, i64_w, i32_w]
          rfl
        refine pure_ (i := 2) (N := some 35) (v := ?_) (a' := ?_) #[true, false, true, false, false, false, false, false, false, false, false, false, false, false, false, false] rfl rfl (any_of HT_.out (by kernel_rfl)) (fun _ _ _ h => h) (Or.inl ⟨by rfl, ?_⟩) ?_ ?_
        rotate_left
        · intro w'
          go_simp
          with_reducible rfl
        rotate_left
        · simp only [Act.put, List.setIfInBounds_toArray, List.set_cons_zero, List.set_cons_succ, i64_w, i32_w]
          rfl
        refine pure_ (i := 3) (N := some 36) (v := ?_) (a' := ?_) #[true, false, true, true, false, false, false, false, false, false, false, false, false, false, false, false] rfl rfl (any_of HT_.out (by kernel_rfl)) (fun _ _ _ h => h) (Or.inl ⟨by rfl, ?_⟩) ?_ ?_
        rotate_left
        · intro w'
          go_simp
          with_reducible rfl
        rotate_left
        · simp only [Act.put, List.setIfInBounds_toArray, List.set_cons_zero, List.set_cons_succ, i64_w, i32_w]
          rfl
        refine pure_ (i := 4) (N := some 37) (v := ?_) (a' := ?_) #[true, false, true, true, true, false, false, false, false, false, false, false, false, false, false, false] rfl rfl (any_of HT_.out (by kernel_rfl)) (fun _ _ _ h => h) (Or.inl ⟨by rfl, ?_⟩) ?_ ?_
        rotate_left
        · intro w'
          go_simp
          with_reducible rfl
        rotate_left
        · simp only [Act.put, List.setIfInBounds_toArray, List.set_cons_zero, List.set_cons_succ, i64_w, i32_w]
          rfl
        refine pure_ (i := 5) (N := some 38) (v := .pointer (some (y.add (k * 3)))) (a' := ?_) #[true, false, true, true, true, true, false, false, false, false, false, false, false, false, false, false] rfl rfl (any_of HT_.out (by kernel_rfl)) (fun _ _ _ h => h) (Or.inl ⟨by rfl, ?_⟩) ?_ ?_
        · intro w'
          go_simp
        rotate_left
        · simp only [Act.put, List.setIfInBounds_toArray, List.set_cons_zero, List.set_cons_succ, i64_w, i32_w]
          rfl
        refine take_ (i := 1) (N := some 34) (v := .agg #[.int .i64 N, .slice A (tk ts).length c]) (a' := ?_) #[true, true, true, true, true, true, false, false, false, false, false, false, false, false, false, false] rfl rfl (take_of HT_.out (by kernel_rfl)) (fun _ _ _ h => h) (Or.inl ⟨by rfl, ?_⟩) hHeld ?_ ?_
        · rintro w' ⟨s1, s2⟩
          obtain ⟨q0, q1⟩ := cz2 s1
          go_simp
        rotate_left
        · simp only [Act.put, List.setIfInBounds_toArray, List.set_cons_zero, List.set_cons_succ, i64_w, i32_w]
          rfl
        refine take_ (i := 6) (N := some 39) (v := .agg #[.int .i64 kd, .int .i64 da, .int .i64 db]) (a' := ?_) #[true, true, true, true, true, true, true, false, false, false, false, false, false, false, false, false] rfl rfl (take_of HT_.out (by kernel_rfl)) (fun _ _ _ h => h) (Or.inl ⟨by rfl, ?_⟩) hHeld ?_ ?_
        · rintro w' ⟨s1, s2⟩
          obtain ⟨_, _, y0, y1, y2⟩ := s2
          go_simp
        rotate_left
        · simp only [Act.put, List.setIfInBounds_toArray, List.set_cons_zero, List.set_cons_succ, i64_w, i32_w]
          rfl
        refine two_ (i := 7) (j := 12) (Ni := some 40) (Nj := some 9) #[true, true, true, true, true, true, true, true, false, false, false, false, false, false, false, false] #[true, true, true, true, true, true, true, false, false, false, false, false, true, false, false, false] rfl rfl rfl rfl (two_of HT_.out (by kernel_rfl)) (by decide) (by decide) (fun K hK => ?_) (fun K hK => ?_)
        · refine goes_ Try.func41 (by kernel_rfl) rfl #[.pointer (some ⟨p, 0, none⟩), .agg #[.int .i64 N, .slice A (tk ts).length c], .slice tA tl.length tc, .agg #[.int .i64 kd, .int .i64 da, .int .i64 db]] (by rfl) rfl rfl (by (try simp only [List.map_toArray, List.map_cons, List.map_nil]); first | done | rfl) ?_
          refine (doF_any HP.out HN.out HLOW.out HTL.out da db HDW.out.ha HDW.out.hb kd).mono ?_
          rintro x0 wn ⟨ts2, A2, c2, tA2, tc2, tl2, rfl, hP, hn2, hlen2, hlow2⟩
          have hs : wn.heap[h6]? = some (.cells #[.int .i64 N, .slice A (tk ts).length c] 59 (0, 0)) ∧ DeedF wn (y.add (k * 3)) kd da db := ⟨hP.box_kept HP.out (rfl) hHeld.1, HDW.out.grown (below_grown hP.fs.below)⟩
          replace HP := Aside0.mk hP
          have HN2 := Aside0.mk hn2
          have HLEN2 := Aside0.mk hlen2
          have HLOW2 := Aside0.mk hlow2
          clear hP hn2 hlen2 hlow2
          refine ⟨_, rfl, ?_⟩
          refine hK.out _ _ hs (fun hHeld => ?_)
          clear hK K
          refine norm_ (a' := ?_) ?_ ?_
          rotate_left
          · show Act.put _ (some 40) _ = _
            simp only [Act.put, List.setIfInBounds_toArray, List.set_cons_zero, List.set_cons_succ, i64_w, i32_w]
            rfl
          refine pure_ (i := 8) (N := some 32) (v := ?_) (a' := ?_) #[true, true, true, true, true, true, true, true, true, false, false, false, false, false, false, false] rfl rfl (any_of HT_.out (by kernel_rfl)) (fun _ _ _ h => h) (Or.inl ⟨by rfl, ?_⟩) ?_ ?_
          rotate_left
          · intro w'
            go_simp
            with_reducible rfl
          rotate_left
          · simp only [Act.put, List.setIfInBounds_toArray, List.set_cons_zero, List.set_cons_succ, i64_w, i32_w]
            rfl
          refine pure_ (i := 9) (N := some 41) (v := ?_) (a' := ?_) #[true, true, true, true, true, true, true, true, true, true, false, false, false, false, false, false] rfl rfl (any_of HT_.out (by kernel_rfl)) (fun _ _ _ h => h) (Or.inl ⟨by rfl, ?_⟩) ?_ ?_
          rotate_left
          · intro w'
            go_simp
            with_reducible rfl
          rotate_left
          · simp only [Act.put, List.setIfInBounds_toArray, List.set_cons_zero, List.set_cons_succ, i64_w, i32_w]
            rfl
          refine pure_ (i := 10) (N := some 42) (v := ?_) (a' := ?_) #[true, true, true, true, true, true, true, true, true, true, true, false, false, false, false, false] rfl rfl (any_of HT_.out (by kernel_rfl)) (fun _ _ _ h => h) (Or.inl ⟨by rfl, ?_⟩) ?_ ?_
          rotate_left
          · intro w'
            go_simp
            with_reducible rfl
          rotate_left
          · simp only [Act.put, List.setIfInBounds_toArray, List.set_cons_zero, List.set_cons_succ, i64_w, i32_w]
            rfl
          refine pure_ (i := 11) (N := some 43) (v := ?_) (a' := ?_) #[true, true, true, true, true, true, true, true, true, true, true, true, false, false, false, false] rfl rfl (any_of HT_.out (by kernel_rfl)) (fun _ _ _ h => h) (Or.inl ⟨by rfl, ?_⟩) ?_ ?_
          rotate_left
          · intro w'
            go_simp
            with_reducible rfl
          rotate_left
          · simp only [Act.put, List.setIfInBounds_toArray, List.set_cons_zero, List.set_cons_succ, i64_w, i32_w]
            rfl
          refine one_ (i := 12) (N := some 9) #[true, true, true, true, true, true, true, true, true, true, true, true, true, false, false, false] rfl rfl (one_of HT_.out (by kernel_rfl)) (by decide) (fun K hK => ?_)
          refine box_step ?hg (N := 9) ?hd (cs := #[.int .i64 0, .slice none 0 0]) (t := 59) ?hr ?_; (case hd => rfl); (case hg => rfl); (case hr => first | (go_simp; done) | (go_simp; rfl))
          intro h9 hg9 wn hbox hb
          have HB9 := Aside0.mk hbox
          have HN9 := Aside0.mk (show h6 ≠ h9 by have := blk_lt hHeld.1; omega)
          have hg := below_grown hb
          replace HP := Aside0.mk (PF.al (Y := fun k => k = h6 ∨ k = h9) HP.out hg (fun k hk => hk.elim .inl (fun e => .inr ⟨by omega, by have := blk_lt HB9.out; omega⟩)))
          have hs : wn.heap[h6]? = some (.cells #[.int .i64 N, .slice A (tk ts).length c] 59 (0, 0)) ∧ DeedF wn (y.add (k * 3)) kd da db := ⟨blk_own hHeld.1 hg (by simp), hHeld.2.grown hg⟩
          clear hg hg9 hbox hb
          refine hK.out _ _ hs (fun hHeld => ?_)
          clear hK K
          refine norm_ (a' := ?_) ?_ ?_
          rotate_left
          · show Act.put _ (some 9) _ = _
            simp only [Act.put, List.setIfInBounds_toArray, List.set_cons_zero, List.set_cons_succ, i64_w, i32_w]
            rfl
          refine last_ (i := 13) (N := none) #[true, true, true, true, true, true, true, true, true, true, true, true, true, true, false, false] rfl rfl (one_of HT_.out (by kernel_rfl)) (by decide) (fun K hK => ?_)
          rw [if_pos (by rfl)]
          refine wp_store_row 59 (.tmp 9) (.tmp 41) rfl h9 #[.int .i64 N, .slice A2 (tk ts2).length c2] rfl rfl 59 #[.int .i64 0, .slice none 0 0] HB9.out (by kernel_rfl) rfl (by kernel_rfl) ?_
          have hb2 := setRow_heap wn h9 _ #[.int .i64 N, .slice A2 (tk ts2).length c2] _ _ HB9.out
          have hgr := grown_row wn h9 #[.int .i64 N, .slice A2 (tk ts2).length c2]
          generalize World.setRow wn h9 #[.int .i64 N, .slice A2 (tk ts2).length c2] = ws at hb2 hgr ⊢
          replace HB6 := Aside0.mk (blk_own hHeld.1 hgr (fun e => HN9.out (Option.some.inj e)))
          replace HP := Aside0.mk (HP.out.puts (.inr rfl) hgr)
          replace HB9 := Aside0.mk hb2
          clear hb2 hgr
          refine hK.out _ _ ?_
          clear hK K
          refine pure_ (i := 14) (N := some 10) (v := ?_) (a' := ?_) #[true, true, true, true, true, true, true, true, true, true, true, true, true, true, true, false] rfl rfl (any_of HT_.out (by kernel_rfl)) (fun _ _ _ h => h) (Or.inl ⟨by rfl, ?_⟩) ?_ ?_
          rotate_left
          · intro w'
            go_simp
            with_reducible rfl
          rotate_left
          · simp only [Act.put, List.setIfInBounds_toArray, List.set_cons_zero, List.set_cons_succ, i64_w, i32_w]
            rfl
          refine pure_ (i := 15) (N := some 11) (v := ?_) (a' := ?_) #[true, true, true, true, true, true, true, true, true, true, true, true, true, true, true, true] rfl rfl (any_of HT_.out (by kernel_rfl)) (fun _ _ _ h => h) (Or.inl ⟨by rfl, ?_⟩) ?_ ?_
          rotate_left
          · intro w'
            go_simp
            with_reducible rfl
          rotate_left
          · simp only [Act.put, List.setIfInBounds_toArray, List.set_cons_zero, List.set_cons_succ, i64_w, i32_w]
            rfl
          refine done_ (done_of HT_.out (by kernel_rfl)) ?_
          go_wp2_with (first | ((with_reducible refine gate_dst (N := 44) rfl ?_); refine wpList_load_row rfl 59 (.tmp 9) rfl h9 rfl 59 #[.int .i64 N, .slice A2 (tk ts2).length c2] (0, 0) _ HB9.out hu rfl (by kernel_rfl) ?_) | ((with_reducible refine gate_store (t := 59) (p := 6) rfl ?_); refine wpList_store_row rfl 59 (.tmp 6) (.tmp 44) rfl h6 #[.int .i64 N, .slice A2 (tk ts2).length c2] rfl rfl 59 _ HB6.out (by kernel_rfl) rfl (by kernel_rfl) ?_; have SHB6 := Aside0.mk (setRow_heap _ h6 _ #[.int .i64 N, .slice A2 (tk ts2).length c2] _ _ HB6.out); have THB6 := Aside0.mk (grown_row ws h6 #[.int .i64 N, .slice A2 (tk ts2).length c2]); skip))
          replace HP := Aside0.mk ((HP.out.puts (.inl rfl) THB6.out).drop (Y := fun k => k = h6) (fun k hk => .inl hk))
          replace HB6 := Aside0.mk SHB6.out
          generalize World.setRow ws h6 #[.int .i64 N, .slice A2 (tk ts2).length c2] = wt at HP HB6 ⊢
          clear SHB6 THB6 HB9
          obtain ⟨Lg, hL1, _, hL2⟩ := longest_f ts2 HP.out.fs.len (cnt ts2)
          have HLG := Aside0.mk (And.intro hL1 (show lookasideref05_Longest.f 200000 (N : Int) (tk ts2) = some (Lg : Int) from by rw [← HN2.out]; exact longR_tk HP.out.fs.len Lg hL2))
          have HWR := Aside0.mk (show IntKind.i64.wrap ((N : Int) - ((tk ts2).length : Int)) = (N : Int) - ((tk ts2).length : Int) from IntWalk.i64_in _ (by have := tk_len ts2; have := HN2.out; omega))
          clear hL1 hL2
          have hg := grown_drew wt none
          replace HB6 := Aside0.mk (blk_own HB6.out hg (by simp))
          replace HP := Aside0.mk (HP.out.same hg)
          clear hg
          refine start_ (n := 35) (S := fun w' => w'.heap[h6]? = some (.cells #[.int .i64 N, .slice A2 (tk ts2).length c2] 59 (0, 0))) (ds := []) #[false, false, false, false, false, false, false, false, false, false, false, false, false, false, false, false, false, false, false, false, false, false, false, false, false, false, false, false, false, false, false, false, false, false, false] (by kernel_rfl) rfl rfl HB6.out (fun hHeld => ?_)
          refine with_tab playsF14_tab (fun HT_ => ?_)
          refine pure_ (i := 0) (N := some 46) (v := ?_) (a' := ?_) #[true, false, false, false, false, false, false, false, false, false, false, false, false, false, false, false, false, false, false, false, false, false, false, false, false, false, false, false, false, false, false, false, false, false, false] rfl rfl (any_of HT_.out (by kernel_rfl)) (fun _ _ _ h => h) (Or.inl ⟨by rfl, ?_⟩) ?_ ?_
          rotate_left
          · intro w'
            go_simp
            with_reducible rfl
          rotate_left
          · simp only [Act.put, List.setIfInBounds_toArray, List.set_cons_zero, List.set_cons_succ, i64_w, i32_w]
            rfl
          refine pure_ (i := 1) (N := some 47) (v := ?_) (a' := ?_) #[true, true, false, false, false, false, false, false, false, false, false, false, false, false, false, false, false, false, false, false, false, false, false, false, false, false, false, false, false, false, false, false, false, false, false] rfl rfl (any_of HT_.out (by kernel_rfl)) (fun _ _ _ h => h) (Or.inl ⟨by rfl, ?_⟩) ?_ ?_
          rotate_left
          · intro w'
            go_simp
            with_reducible rfl
          rotate_left
          · simp only [Act.put, List.setIfInBounds_toArray, List.set_cons_zero, List.set_cons_succ, i64_w, i32_w]
            rfl
          refine pure_ (i := 2) (N := some 48) (v := ?_) (a' := ?_) #[true, true, true, false, false, false, false, false, false, false, false, false, false, false, false, false, false, false, false, false, false, false, false, false, false, false, false, false, false, false, false, false, false, false, false] rfl rfl (any_of HT_.out (by kernel_rfl)) (fun _ _ _ h => h) (Or.inl ⟨by rfl, ?_⟩) ?_ ?_
          rotate_left
          · intro w'
            go_simp
            with_reducible rfl
          rotate_left
          · simp only [Act.put, List.setIfInBounds_toArray, List.set_cons_zero, List.set_cons_succ, i64_w, i32_w]
            rfl
          refine pure_ (i := 3) (N := some 49) (v := ?_) (a' := ?_) #[true, true, true, true, false, false, false, false, false, false, false, false, false, false, false, false, false, false, false, false, false, false, false, false, false, false, false, false, false, false, false, false, false, false, false] rfl rfl (any_of HT_.out (by kernel_rfl)) (fun _ _ _ h => h) (Or.inl ⟨by rfl, ?_⟩) ?_ ?_
          rotate_left
          · intro w'
            go_simp
            with_reducible rfl
          rotate_left
          · simp only [Act.put, List.setIfInBounds_toArray, List.set_cons_zero, List.set_cons_succ, i64_w, i32_w]
            rfl
          refine pure_ (i := 5) (N := some 51) (v := ?_) (a' := ?_) #[true, true, true, true, false, true, false, false, false, false, false, false, false, false, false, false, false, false, false, false, false, false, false, false, false, false, false, false, false, false, false, false, false, false, false] rfl rfl (any_of HT_.out (by kernel_rfl)) (fun _ _ _ h => h) (Or.inl ⟨by rfl, ?_⟩) ?_ ?_
          rotate_left
          · intro w'
            go_simp
            with_reducible rfl
          rotate_left
          · simp only [Act.put, List.setIfInBounds_toArray, List.set_cons_zero, List.set_cons_succ, i64_w, i32_w]
            rfl
          refine pure_ (i := 7) (N := some 53) (v := ?_) (a' := ?_) #[true, true, true, true, false, true, false, true, false, false, false, false, false, false, false, false, false, false, false, false, false, false, false, false, false, false, false, false, false, false, false, false, false, false, false] rfl rfl (any_of HT_.out (by kernel_rfl)) (fun _ _ _ h => h) (Or.inl ⟨by rfl, ?_⟩) ?_ ?_
          rotate_left
          · intro w'
            go_simp
            with_reducible rfl
          rotate_left
          · simp only [Act.put, List.setIfInBounds_toArray, List.set_cons_zero, List.set_cons_succ, i64_w, i32_w]
            rfl
          refine take_ (i := 6) (N := some 52) (v := .int .i64 N) (a' := ?_) #[true, true, true, true, false, true, true, true, false, false, false, false, false, false, false, false, false, false, false, false, false, false, false, false, false, false, false, false, false, false, false, false, false, false, false] rfl rfl (take_of HT_.out (by kernel_rfl)) (fun _ _ _ h => h) (Or.inl ⟨by rfl, ?_⟩) hHeld ?_ ?_
          · rintro w' s1
            obtain ⟨q0, q1⟩ := cz2 s1
            go_simp
          rotate_left
          · simp only [Act.put, List.setIfInBounds_toArray, List.set_cons_zero, List.set_cons_succ, i64_w, i32_w]
            rfl
          refine take_ (i := 8) (N := some 54) (v := .slice A2 (tk ts2).length c2) (a' := ?_) #[true, true, true, true, false, true, true, true, true, false, false, false, false, false, false, false, false, false, false, false, false, false, false, false, false, false, false, false, false, false, false, false, false, false, false] rfl rfl (take_of HT_.out (by kernel_rfl)) (fun _ _ _ h => h) (Or.inl ⟨by rfl, ?_⟩) hHeld ?_ ?_
          · rintro w' s1
            obtain ⟨q0, q1⟩ := cz2 s1
            go_simp
          rotate_left
          · simp only [Act.put, List.setIfInBounds_toArray, List.set_cons_zero, List.set_cons_succ, i64_w, i32_w]
            rfl
          refine pure_ (i := 9) (N := some 55) (v := ?_) (a' := ?_) #[true, true, true, true, false, true, true, true, true, true, false, false, false, false, false, false, false, false, false, false, false, false, false, false, false, false, false, false, false, false, false, false, false, false, false] rfl rfl (any_of HT_.out (by kernel_rfl)) (fun _ _ _ h => h) (Or.inl ⟨by rfl, ?_⟩) ?_ ?_
          rotate_left
          · intro w'
            go_simp
            with_reducible rfl
          rotate_left
          · simp only [Act.put, List.setIfInBounds_toArray, List.set_cons_zero, List.set_cons_succ, i64_w, i32_w]
            rfl
          refine pure_ (i := 10) (N := some 56) (v := .int .i64 ((N : Int) - ((tk ts2).length : Int))) (a' := ?_) #[true, true, true, true, false, true, true, true, true, true, true, false, false, false, false, false, false, false, false, false, false, false, false, false, false, false, false, false, false, false, false, false, false, false, false] rfl rfl (any_of HT_.out (by kernel_rfl)) (fun _ _ _ h => h) (Or.inl ⟨by rfl, ?_⟩) ?_ ?_
          · intro w'
            have hw := HWR.out
            go_simp
          rotate_left
          · simp only [Act.put, List.setIfInBounds_toArray, List.set_cons_zero, List.set_cons_succ, i64_w, i32_w]
            rfl
          refine one_ (i := 4) (N := some 50) #[true, true, true, true, true, true, true, true, true, true, true, false, false, false, false, false, false, false, false, false, false, false, false, false, false, false, false, false, false, false, false, false, false, false, false] rfl rfl (one_of HT_.out (by kernel_rfl)) (by decide) (fun K hK => ?_)
          refine goes_ Try.func32 (by kernel_rfl) rfl #[.pointer (some ⟨p, 0, none⟩)] (by rfl) rfl rfl (by (try simp only [List.map_toArray, List.map_cons, List.map_nil]); first | done | rfl) ?_
          refine (fs_free HP.out.fs ((N : Int) - ((tk ts2).length : Int)) (by rw [cnt_tk, HN2.out])).mono ?_
          rintro x0 wn ⟨rfl, hf, hg⟩
          have hs := blk_own hHeld hg (by simp)
          replace HP := Aside0.mk (HP.out.same hg)
          clear hf hg
          refine ⟨_, rfl, ?_⟩
          refine hK.out _ _ hs (fun hHeld => ?_)
          clear hK K
          refine norm_ (a' := ?_) ?_ ?_
          rotate_left
          · show Act.put _ (some 50) _ = _
            simp only [Act.put, List.setIfInBounds_toArray, List.set_cons_zero, List.set_cons_succ, i64_w, i32_w]
            rfl
          refine pure_ (i := 11) (N := some 57) (v := .bool false) (a' := ?_) #[true, true, true, true, true, true, true, true, true, true, true, true, false, false, false, false, false, false, false, false, false, false, false, false, false, false, false, false, false, false, false, false, false, false, false] rfl rfl (any_of HT_.out (by kernel_rfl)) (fun _ _ _ h => h) (Or.inl ⟨by rfl, ?_⟩) ?_ ?_
          · intro w'
            go_simp
          rotate_left
          · simp only [Act.put, List.setIfInBounds_toArray, List.set_cons_zero, List.set_cons_succ, i64_w, i32_w]
            rfl
          refine pure_ (i := 12) (N := some 58) (v := ?_) (a' := ?_) #[true, true, true, true, true, true, true, true, true, true, true, true, true, false, false, false, false, false, false, false, false, false, false, false, false, false, false, false, false, false, false, false, false, false, false] rfl rfl (any_of HT_.out (by kernel_rfl)) (fun _ _ _ h => h) (Or.inl ⟨by rfl, ?_⟩) ?_ ?_
          rotate_left
          · intro w'
            go_simp
            with_reducible rfl
          rotate_left
          · simp only [Act.put, List.setIfInBounds_toArray, List.set_cons_zero, List.set_cons_succ, i64_w, i32_w]
            rfl
          refine pure_ (i := 13) (N := some 59) (v := ?_) (a' := ?_) #[true, true, true, true, true, true, true, true, true, true, true, true, true, true, false, false, false, false, false, false, false, false, false, false, false, false, false, false, false, false, false, false, false, false, false] rfl rfl (any_of HT_.out (by kernel_rfl)) (fun _ _ _ h => h) (Or.inl ⟨by rfl, ?_⟩) ?_ ?_
          rotate_left
          · intro w'
            go_simp
            with_reducible rfl
          rotate_left
          · simp only [Act.put, List.setIfInBounds_toArray, List.set_cons_zero, List.set_cons_succ, i64_w, i32_w]
            rfl
          refine pure_ (i := 14) (N := some 60) (v := ?_) (a' := ?_) #[true, true, true, true, true, true, true, true, true, true, true, true, true, true, true, false, false, false, false, false, false, false, false, false, false, false, false, false, false, false, false, false, false, false, false] rfl rfl (any_of HT_.out (by kernel_rfl)) (fun _ _ _ h => h) (Or.inl ⟨by rfl, ?_⟩) ?_ ?_
          rotate_left
          · intro w'
            go_simp
            with_reducible rfl
          rotate_left
          · simp only [Act.put, List.setIfInBounds_toArray, List.set_cons_zero, List.set_cons_succ, i64_w, i32_w]
            rfl
          refine pure_ (i := 16) (N := some 62) (v := ?_) (a' := ?_) #[true, true, true, true, true, true, true, true, true, true, true, true, true, true, true, false, true, false, false, false, false, false, false, false, false, false, false, false, false, false, false, false, false, false, false] rfl rfl (any_of HT_.out (by kernel_rfl)) (fun _ _ _ h => h) (Or.inl ⟨by rfl, ?_⟩) ?_ ?_
          rotate_left
          · intro w'
            go_simp
            with_reducible rfl
          rotate_left
          · simp only [Act.put, List.setIfInBounds_toArray, List.set_cons_zero, List.set_cons_succ, i64_w, i32_w]
            rfl
          refine take_ (i := 17) (N := some 63) (v := .int .i64 N) (a' := ?_) #[true, true, true, true, true, true, true, true, true, true, true, true, true, true, true, false, true, true, false, false, false, false, false, false, false, false, false, false, false, false, false, false, false, false, false] rfl rfl (take_of HT_.out (by kernel_rfl)) (fun _ _ _ h => h) (Or.inl ⟨by rfl, ?_⟩) hHeld ?_ ?_
          · rintro w' s1
            obtain ⟨q0, q1⟩ := cz2 s1
            go_simp
          rotate_left
          · simp only [Act.put, List.setIfInBounds_toArray, List.set_cons_zero, List.set_cons_succ, i64_w, i32_w]
            rfl
          refine one_ (i := 15) (N := some 61) #[true, true, true, true, true, true, true, true, true, true, true, true, true, true, true, true, true, true, false, false, false, false, false, false, false, false, false, false, false, false, false, false, false, false, false] rfl rfl (one_of HT_.out (by kernel_rfl)) (by decide) (fun K hK => ?_)
          refine goes_ Try.func30 (by kernel_rfl) rfl #[.pointer (some ⟨p, 0, none⟩)] (by rfl) rfl rfl (by (try simp only [List.map_toArray, List.map_cons, List.map_nil]); first | done | rfl) ?_
          refine (fs_len HP.out.fs (N : Int) (by rw [HN2.out])).mono ?_
          rintro x0 wn ⟨rfl, hf, hg⟩
          have hs := blk_own hHeld hg (by simp)
          replace HP := Aside0.mk (HP.out.same hg)
          clear hf hg
          refine ⟨_, rfl, ?_⟩
          refine hK.out _ _ hs (fun hHeld => ?_)
          clear hK K
          refine norm_ (a' := ?_) ?_ ?_
          rotate_left
          · show Act.put _ (some 61) _ = _
            simp only [Act.put, List.setIfInBounds_toArray, List.set_cons_zero, List.set_cons_succ, i64_w, i32_w]
            rfl
          refine pure_ (i := 18) (N := some 64) (v := .bool false) (a' := ?_) #[true, true, true, true, true, true, true, true, true, true, true, true, true, true, true, true, true, true, true, false, false, false, false, false, false, false, false, false, false, false, false, false, false, false, false] rfl rfl (any_of HT_.out (by kernel_rfl)) (fun _ _ _ h => h) (Or.inl ⟨by rfl, ?_⟩) ?_ ?_
          · intro w'
            go_simp
          rotate_left
          · simp only [Act.put, List.setIfInBounds_toArray, List.set_cons_zero, List.set_cons_succ, i64_w, i32_w]
            rfl
          refine pure_ (i := 19) (N := some 65) (v := ?_) (a' := ?_) #[true, true, true, true, true, true, true, true, true, true, true, true, true, true, true, true, true, true, true, true, false, false, false, false, false, false, false, false, false, false, false, false, false, false, false] rfl rfl (any_of HT_.out (by kernel_rfl)) (fun _ _ _ h => h) (Or.inl ⟨by rfl, ?_⟩) ?_ ?_
          rotate_left
          · intro w'
            go_simp
            with_reducible rfl
          rotate_left
          · simp only [Act.put, List.setIfInBounds_toArray, List.set_cons_zero, List.set_cons_succ, i64_w, i32_w]
            rfl
          refine pure_ (i := 20) (N := some 66) (v := ?_) (a' := ?_) #[true, true, true, true, true, true, true, true, true, true, true, true, true, true, true, true, true, true, true, true, true, false, false, false, false, false, false, false, false, false, false, false, false, false, false] rfl rfl (any_of HT_.out (by kernel_rfl)) (fun _ _ _ h => h) (Or.inl ⟨by rfl, ?_⟩) ?_ ?_
          rotate_left
          · intro w'
            go_simp
            with_reducible rfl
          rotate_left
          · simp only [Act.put, List.setIfInBounds_toArray, List.set_cons_zero, List.set_cons_succ, i64_w, i32_w]
            rfl
          refine pure_ (i := 21) (N := some 67) (v := ?_) (a' := ?_) #[true, true, true, true, true, true, true, true, true, true, true, true, true, true, true, true, true, true, true, true, true, true, false, false, false, false, false, false, false, false, false, false, false, false, false] rfl rfl (any_of HT_.out (by kernel_rfl)) (fun _ _ _ h => h) (Or.inl ⟨by rfl, ?_⟩) ?_ ?_
          rotate_left
          · intro w'
            go_simp
            with_reducible rfl
          rotate_left
          · simp only [Act.put, List.setIfInBounds_toArray, List.set_cons_zero, List.set_cons_succ, i64_w, i32_w]
            rfl
          refine take_ (i := 23) (N := some 69) (v := .agg #[.int .i64 N, .slice A2 (tk ts2).length c2]) (a' := ?_) #[true, true, true, true, true, true, true, true, true, true, true, true, true, true, true, true, true, true, true, true, true, true, false, true, false, false, false, false, false, false, false, false, false, false, false] rfl rfl (take_of HT_.out (by kernel_rfl)) (fun _ _ _ h => h) (Or.inl ⟨by rfl, ?_⟩) hHeld ?_ ?_
          · rintro w' s1
            obtain ⟨q0, q1⟩ := cz2 s1
            go_simp
          rotate_left
          · simp only [Act.put, List.setIfInBounds_toArray, List.set_cons_zero, List.set_cons_succ, i64_w, i32_w]
            rfl
          refine one_ (i := 22) (N := some 68) #[true, true, true, true, true, true, true, true, true, true, true, true, true, true, true, true, true, true, true, true, true, true, true, true, false, false, false, false, false, false, false, false, false, false, false] rfl rfl (one_of HT_.out (by kernel_rfl)) (by decide) (fun K hK => ?_)
          refine goes_ Try.func33 (by kernel_rfl) rfl #[.pointer (some ⟨p, 0, none⟩)] (by rfl) rfl rfl (by (try simp only [List.map_toArray, List.map_cons, List.map_nil]); first | done | rfl) ?_
          refine (fs_longest HP.out.fs 70000 (Lg : Nat) HLG.out.1).mono ?_
          rintro x0 wn ⟨rfl, hf, hg⟩
          have hs := blk_own hHeld hg (by simp)
          replace HP := Aside0.mk (HP.out.same hg)
          clear hf hg
          refine ⟨_, rfl, ?_⟩
          refine hK.out _ _ hs (fun hHeld => ?_)
          clear hK K
          refine norm_ (a' := ?_) ?_ ?_
          rotate_left
          · show Act.put _ (some 68) _ = _
            simp only [Act.put, List.setIfInBounds_toArray, List.set_cons_zero, List.set_cons_succ, i64_w, i32_w]
            rfl
          refine one_ (i := 24) (N := some 70) #[true, true, true, true, true, true, true, true, true, true, true, true, true, true, true, true, true, true, true, true, true, true, true, true, true, false, false, false, false, false, false, false, false, false, false] rfl rfl (one_of HT_.out (by kernel_rfl)) (by decide) (fun K hK => ?_)
          refine goes_ Try.func42 (by kernel_rfl) rfl #[.agg #[.int .i64 N, .slice A2 (tk ts2).length c2]] (by rfl) rfl rfl (by (try simp only [List.map_toArray, List.map_cons, List.map_nil]); first | done | rfl) ?_
          refine (lookasideref05_Longest.calls 200000 N A2 c2 (tk ts2) (Lg : Nat) _ (Kd.V_reads' HP.out.v).2.2 (Kd.V_reads' HP.out.v).2.1 HLG.out.2).mono ?_
          rintro x0 wn ⟨rfl, hb⟩
          have hg := below_grown hb
          have hs := blk_own hHeld hg (by simp)
          replace HP := Aside0.mk (HP.out.same hg)
          clear hb hg
          refine ⟨_, rfl, ?_⟩
          refine hK.out _ _ hs (fun hHeld => ?_)
          clear hK K
          refine norm_ (a' := ?_) ?_ ?_
          rotate_left
          · show Act.put _ (some 70) _ = _
            simp only [Act.put, List.setIfInBounds_toArray, List.set_cons_zero, List.set_cons_succ, i64_w, i32_w]
            rfl
          refine pure_ (i := 25) (N := some 71) (v := .bool false) (a' := ?_) #[true, true, true, true, true, true, true, true, true, true, true, true, true, true, true, true, true, true, true, true, true, true, true, true, true, true, false, false, false, false, false, false, false, false, false] rfl rfl (any_of HT_.out (by kernel_rfl)) (fun _ _ _ h => h) (Or.inl ⟨by rfl, ?_⟩) ?_ ?_
          · intro w'
            go_simp
          rotate_left
          · simp only [Act.put, List.setIfInBounds_toArray, List.set_cons_zero, List.set_cons_succ, i64_w, i32_w]
            rfl
          refine pure_ (i := 26) (N := some 72) (v := ?_) (a' := ?_) #[true, true, true, true, true, true, true, true, true, true, true, true, true, true, true, true, true, true, true, true, true, true, true, true, true, true, true, false, false, false, false, false, false, false, false] rfl rfl (any_of HT_.out (by kernel_rfl)) (fun _ _ _ h => h) (Or.inl ⟨by rfl, ?_⟩) ?_ ?_
          rotate_left
          · intro w'
            go_simp
            with_reducible rfl
          rotate_left
          · simp only [Act.put, List.setIfInBounds_toArray, List.set_cons_zero, List.set_cons_succ, i64_w, i32_w]
            rfl
          refine pure_ (i := 27) (N := some 73) (v := ?_) (a' := ?_) #[true, true, true, true, true, true, true, true, true, true, true, true, true, true, true, true, true, true, true, true, true, true, true, true, true, true, true, true, false, false, false, false, false, false, false] rfl rfl (any_of HT_.out (by kernel_rfl)) (fun _ _ _ h => h) (Or.inl ⟨by rfl, ?_⟩) ?_ ?_
          rotate_left
          · intro w'
            go_simp
            with_reducible rfl
          rotate_left
          · simp only [Act.put, List.setIfInBounds_toArray, List.set_cons_zero, List.set_cons_succ, i64_w, i32_w]
            rfl
          refine pure_ (i := 28) (N := some 74) (v := ?_) (a' := ?_) #[true, true, true, true, true, true, true, true, true, true, true, true, true, true, true, true, true, true, true, true, true, true, true, true, true, true, true, true, true, false, false, false, false, false, false] rfl rfl (any_of HT_.out (by kernel_rfl)) (fun _ _ _ h => h) (Or.inl ⟨by rfl, ?_⟩) ?_ ?_
          rotate_left
          · intro w'
            go_simp
            with_reducible rfl
          rotate_left
          · simp only [Act.put, List.setIfInBounds_toArray, List.set_cons_zero, List.set_cons_succ, i64_w, i32_w]
            rfl
          refine pure_ (i := 30) (N := some 76) (v := ?_) (a' := ?_) #[true, true, true, true, true, true, true, true, true, true, true, true, true, true, true, true, true, true, true, true, true, true, true, true, true, true, true, true, true, false, true, false, false, false, false] rfl rfl (any_of HT_.out (by kernel_rfl)) (fun _ _ _ h => h) (Or.inl ⟨by rfl, ?_⟩) ?_ ?_
          rotate_left
          · intro w'
            go_simp
            with_reducible rfl
          rotate_left
          · simp only [Act.put, List.setIfInBounds_toArray, List.set_cons_zero, List.set_cons_succ, i64_w, i32_w]
            rfl
          refine take_ (i := 31) (N := some 77) (v := .slice A2 (tk ts2).length c2) (a' := ?_) #[true, true, true, true, true, true, true, true, true, true, true, true, true, true, true, true, true, true, true, true, true, true, true, true, true, true, true, true, true, false, true, true, false, false, false] rfl rfl (take_of HT_.out (by kernel_rfl)) (fun _ _ _ h => h) (Or.inl ⟨by rfl, ?_⟩) hHeld ?_ ?_
          · rintro w' s1
            obtain ⟨q0, q1⟩ := cz2 s1
            go_simp
          rotate_left
          · simp only [Act.put, List.setIfInBounds_toArray, List.set_cons_zero, List.set_cons_succ, i64_w, i32_w]
            rfl
          refine one_ (i := 29) (N := some 75) #[true, true, true, true, true, true, true, true, true, true, true, true, true, true, true, true, true, true, true, true, true, true, true, true, true, true, true, true, true, true, true, true, false, false, false] rfl rfl (one_of HT_.out (by kernel_rfl)) (by decide) (fun K hK => ?_)
          refine goes_ Try.func40 (by kernel_rfl) rfl #[.pointer (some ⟨p, 0, none⟩)] (by rfl) rfl rfl (by (try simp only [List.map_toArray, List.map_cons, List.map_nil]); first | done | rfl) ?_
          refine (fs_list HP.out.fs 70000 (tk ts2) (list_f ts2 HP.out.fs.len _)).mono ?_
          rintro x0 wn ⟨⟨v0, rfl, hR⟩, hf, hg⟩
          have hs := blk_own hHeld hg (by simp)
          replace HP := Aside0.mk (HP.out.same hg)
          obtain ⟨Al, cl, rfl, hcl, hCl⟩ := Kd.R_reads hR
          have HCL := Aside0.mk (And.intro hcl hCl)
          clear hf hg hR hcl hCl
          refine ⟨_, rfl, ?_⟩
          refine hK.out _ _ hs (fun hHeld => ?_)
          clear hK K
          refine norm_ (a' := ?_) ?_ ?_
          rotate_left
          · show Act.put _ (some 75) _ = _
            simp only [Act.put, List.setIfInBounds_toArray, List.set_cons_zero, List.set_cons_succ, i64_w, i32_w]
            rfl
          refine one_ (i := 32) (N := some 78) #[true, true, true, true, true, true, true, true, true, true, true, true, true, true, true, true, true, true, true, true, true, true, true, true, true, true, true, true, true, true, true, true, true, false, false] rfl rfl (one_of HT_.out (by kernel_rfl)) (by decide) (fun K hK => ?_)
          refine goes_ Try.func43 (by kernel_rfl) rfl #[.slice Al (tk ts2).length cl, .slice A2 (tk ts2).length c2] (by rfl) rfl rfl (by (try simp only [List.map_toArray, List.map_cons, List.map_nil]); first | done | rfl) ?_
          refine (lookasideref02_Same.calls 200000 Al cl (tk ts2) A2 c2 (tk ts2) true _ HCL.out.2 HCL.out.1 (Kd.V_reads' HP.out.v).2.2 (Kd.V_reads' HP.out.v).2.1 (same_tk HP.out.fs.len)).mono ?_
          rintro x0 wn ⟨rfl, hd⟩
          have hg := drawn_grown hd
          have hs := blk_own hHeld hg (by simp)
          replace HP := Aside0.mk (HP.out.same hg)
          clear hd hg HCL
          refine ⟨_, rfl, ?_⟩
          refine hK.out _ _ hs (fun hHeld => ?_)
          clear hK K
          refine norm_ (a' := ?_) ?_ ?_
          rotate_left
          · show Act.put _ (some 78) _ = _
            simp only [Act.put, List.setIfInBounds_toArray, List.set_cons_zero, List.set_cons_succ, i64_w, i32_w]
            rfl
          refine pure_ (i := 33) (N := some 79) (v := .bool false) (a' := ?_) #[true, true, true, true, true, true, true, true, true, true, true, true, true, true, true, true, true, true, true, true, true, true, true, true, true, true, true, true, true, true, true, true, true, true, false] rfl rfl (any_of HT_.out (by kernel_rfl)) (fun _ _ _ h => h) (Or.inl ⟨by rfl, ?_⟩) ?_ ?_
          · intro w'
            go_simp
          rotate_left
          · simp only [Act.put, List.setIfInBounds_toArray, List.set_cons_zero, List.set_cons_succ, i64_w, i32_w]
            rfl
          refine pure_ (i := 34) (N := some 80) (v := ?_) (a' := ?_) #[true, true, true, true, true, true, true, true, true, true, true, true, true, true, true, true, true, true, true, true, true, true, true, true, true, true, true, true, true, true, true, true, true, true, true] rfl rfl (any_of HT_.out (by kernel_rfl)) (fun _ _ _ h => h) (Or.inl ⟨by rfl, ?_⟩) ?_ ?_
          rotate_left
          · intro w'
            go_simp
            with_reducible rfl
          rotate_left
          · simp only [Act.put, List.setIfInBounds_toArray, List.set_cons_zero, List.set_cons_succ, i64_w, i32_w]
            rfl
          refine done_ (done_of HT_.out (by kernel_rfl)) ?_
          replace HB6 := Aside0.mk hHeld
          go_wp2
          go_roundw
          case rel => exact ⟨k + 1, ts2, A2, c2, tA2, tc2, tl2, by go_num, rfl, by omega, by omega, by have := HLEN2.out; omega, HN2, HLOW2, HB6, ⟨HP.out.begin⟩⟩
          case measure => simp [intOf]; omega
        · refine box_step ?hg (N := 9) ?hd (cs := #[.int .i64 0, .slice none 0 0]) (t := 59) ?hr ?_; (case hd => rfl); (case hg => rfl); (case hr => first | (go_simp; done) | (go_simp; rfl))
          intro h9 hg9 wn hbox hb
          have HB9 := Aside0.mk hbox
          have HN9 := Aside0.mk (show h6 ≠ h9 by have := blk_lt hHeld.1; omega)
          have hg := below_grown hb
          replace HP := Aside0.mk (PF.al (Y := fun k => k = h6 ∨ k = h9) HP.out hg (fun k hk => hk.elim .inl (fun e => .inr ⟨by omega, by have := blk_lt HB9.out; omega⟩)))
          have hs : wn.heap[h6]? = some (.cells #[.int .i64 N, .slice A (tk ts).length c] 59 (0, 0)) ∧ DeedF wn (y.add (k * 3)) kd da db := ⟨blk_own hHeld.1 hg (by simp), hHeld.2.grown hg⟩
          clear hg hg9 hbox hb
          refine hK.out _ _ hs (fun hHeld => ?_)
          clear hK K
          refine norm_ (a' := ?_) ?_ ?_
          rotate_left
          · show Act.put _ (some 9) _ = _
            simp only [Act.put, List.setIfInBounds_toArray, List.set_cons_zero, List.set_cons_succ, i64_w, i32_w]
            rfl
          refine one_ (i := 7) (N := some 40) #[true, true, true, true, true, true, true, true, false, false, false, false, true, false, false, false] rfl rfl (one_of HT_.out (by kernel_rfl)) (by decide) (fun K hK => ?_)
          refine goes_ Try.func41 (by kernel_rfl) rfl #[.pointer (some ⟨p, 0, none⟩), .agg #[.int .i64 N, .slice A (tk ts).length c], .slice tA tl.length tc, .agg #[.int .i64 kd, .int .i64 da, .int .i64 db]] (by rfl) rfl rfl (by (try simp only [List.map_toArray, List.map_cons, List.map_nil]); first | done | rfl) ?_
          refine (doF_any HP.out HN.out HLOW.out HTL.out da db HDW.out.ha HDW.out.hb kd).mono ?_
          rintro x0 wn ⟨ts2, A2, c2, tA2, tc2, tl2, rfl, hP, hn2, hlen2, hlow2⟩
          replace HB9 := Aside0.mk (hP.box_kept HP.out (.inr rfl) HB9.out)
          have hs : wn.heap[h6]? = some (.cells #[.int .i64 N, .slice A (tk ts).length c] 59 (0, 0)) ∧ DeedF wn (y.add (k * 3)) kd da db := ⟨hP.box_kept HP.out (.inl rfl) hHeld.1, HDW.out.grown (below_grown hP.fs.below)⟩
          replace HP := Aside0.mk hP
          have HN2 := Aside0.mk hn2
          have HLEN2 := Aside0.mk hlen2
          have HLOW2 := Aside0.mk hlow2
          clear hP hn2 hlen2 hlow2
          refine ⟨_, rfl, ?_⟩
          refine hK.out _ _ hs (fun hHeld => ?_)
          clear hK K
          refine norm_ (a' := ?_) ?_ ?_
          rotate_left
          · show Act.put _ (some 40) _ = _
            simp only [Act.put, List.setIfInBounds_toArray, List.set_cons_zero, List.set_cons_succ, i64_w, i32_w]
            rfl
          refine pure_ (i := 8) (N := some 32) (v := ?_) (a' := ?_) #[true, true, true, true, true, true, true, true, true, false, false, false, true, false, false, false] rfl rfl (any_of HT_.out (by kernel_rfl)) (fun _ _ _ h => h) (Or.inl ⟨by rfl, ?_⟩) ?_ ?_
          rotate_left
          · intro w'
            go_simp
            with_reducible rfl
          rotate_left
          · simp only [Act.put, List.setIfInBounds_toArray, List.set_cons_zero, List.set_cons_succ, i64_w, i32_w]
            rfl
          refine pure_ (i := 9) (N := some 41) (v := ?_) (a' := ?_) #[true, true, true, true, true, true, true, true, true, true, false, false, true, false, false, false] rfl rfl (any_of HT_.out (by kernel_rfl)) (fun _ _ _ h => h) (Or.inl ⟨by rfl, ?_⟩) ?_ ?_
          rotate_left
          · intro w'
            go_simp
            with_reducible rfl
          rotate_left
          · simp only [Act.put, List.setIfInBounds_toArray, List.set_cons_zero, List.set_cons_succ, i64_w, i32_w]
            rfl
          refine pure_ (i := 10) (N := some 42) (v := ?_) (a' := ?_) #[true, true, true, true, true, true, true, true, true, true, true, false, true, false, false, false] rfl rfl (any_of HT_.out (by kernel_rfl)) (fun _ _ _ h => h) (Or.inl ⟨by rfl, ?_⟩) ?_ ?_
          rotate_left
          · intro w'
            go_simp
            with_reducible rfl
          rotate_left
          · simp only [Act.put, List.setIfInBounds_toArray, List.set_cons_zero, List.set_cons_succ, i64_w, i32_w]
            rfl
          refine pure_ (i := 11) (N := some 43) (v := ?_) (a' := ?_) #[true, true, true, true, true, true, true, true, true, true, true, true, true, false, false, false] rfl rfl (any_of HT_.out (by kernel_rfl)) (fun _ _ _ h => h) (Or.inl ⟨by rfl, ?_⟩) ?_ ?_
          rotate_left
          · intro w'
            go_simp
            with_reducible rfl
          rotate_left
          · simp only [Act.put, List.setIfInBounds_toArray, List.set_cons_zero, List.set_cons_succ, i64_w, i32_w]
            rfl
          refine last_ (i := 13) (N := none) #[true, true, true, true, true, true, true, true, true, true, true, true, true, true, false, false] rfl rfl (one_of HT_.out (by kernel_rfl)) (by decide) (fun K hK => ?_)
          rw [if_pos (by rfl)]
          refine wp_store_row 59 (.tmp 9) (.tmp 41) rfl h9 #[.int .i64 N, .slice A2 (tk ts2).length c2] rfl rfl 59 #[.int .i64 0, .slice none 0 0] HB9.out (by kernel_rfl) rfl (by kernel_rfl) ?_
          have hb2 := setRow_heap wn h9 _ #[.int .i64 N, .slice A2 (tk ts2).length c2] _ _ HB9.out
          have hgr := grown_row wn h9 #[.int .i64 N, .slice A2 (tk ts2).length c2]
          generalize World.setRow wn h9 #[.int .i64 N, .slice A2 (tk ts2).length c2] = ws at hb2 hgr ⊢
          replace HB6 := Aside0.mk (blk_own hHeld.1 hgr (fun e => HN9.out (Option.some.inj e)))
          replace HP := Aside0.mk (HP.out.puts (.inr rfl) hgr)
          replace HB9 := Aside0.mk hb2
          clear hb2 hgr
          refine hK.out _ _ ?_
          clear hK K
          refine pure_ (i := 14) (N := some 10) (v := ?_) (a' := ?_) #[true, true, true, true, true, true, true, true, true, true, true, true, true, true, true, false] rfl rfl (any_of HT_.out (by kernel_rfl)) (fun _ _ _ h => h) (Or.inl ⟨by rfl, ?_⟩) ?_ ?_
          rotate_left
          · intro w'
            go_simp
            with_reducible rfl
          rotate_left
          · simp only [Act.put, List.setIfInBounds_toArray, List.set_cons_zero, List.set_cons_succ, i64_w, i32_w]
            rfl
          refine pure_ (i := 15) (N := some 11) (v := ?_) (a' := ?_) #[true, true, true, true, true, true, true, true, true, true, true, true, true, true, true, true] rfl rfl (any_of HT_.out (by kernel_rfl)) (fun _ _ _ h => h) (Or.inl ⟨by rfl, ?_⟩) ?_ ?_
          rotate_left
          · intro w'
            go_simp
            with_reducible rfl
          rotate_left
          · simp only [Act.put, List.setIfInBounds_toArray, List.set_cons_zero, List.set_cons_succ, i64_w, i32_w]
            rfl
          refine done_ (done_of HT_.out (by kernel_rfl)) ?_
          go_wp2_with (first | ((with_reducible refine gate_dst (N := 44) rfl ?_); refine wpList_load_row rfl 59 (.tmp 9) rfl h9 rfl 59 #[.int .i64 N, .slice A2 (tk ts2).length c2] (0, 0) _ HB9.out hu rfl (by kernel_rfl) ?_) | ((with_reducible refine gate_store (t := 59) (p := 6) rfl ?_); refine wpList_store_row rfl 59 (.tmp 6) (.tmp 44) rfl h6 #[.int .i64 N, .slice A2 (tk ts2).length c2] rfl rfl 59 _ HB6.out (by kernel_rfl) rfl (by kernel_rfl) ?_; have SHB6 := Aside0.mk (setRow_heap _ h6 _ #[.int .i64 N, .slice A2 (tk ts2).length c2] _ _ HB6.out); have THB6 := Aside0.mk (grown_row ws h6 #[.int .i64 N, .slice A2 (tk ts2).length c2]); skip))
          replace HP := Aside0.mk ((HP.out.puts (.inl rfl) THB6.out).drop (Y := fun k => k = h6) (fun k hk => .inl hk))
          replace HB6 := Aside0.mk SHB6.out
          generalize World.setRow ws h6 #[.int .i64 N, .slice A2 (tk ts2).length c2] = wt at HP HB6 ⊢
          clear SHB6 THB6 HB9
          obtain ⟨Lg, hL1, _, hL2⟩ := longest_f ts2 HP.out.fs.len (cnt ts2)
          have HLG := Aside0.mk (And.intro hL1 (show lookasideref05_Longest.f 200000 (N : Int) (tk ts2) = some (Lg : Int) from by rw [← HN2.out]; exact longR_tk HP.out.fs.len Lg hL2))
          have HWR := Aside0.mk (show IntKind.i64.wrap ((N : Int) - ((tk ts2).length : Int)) = (N : Int) - ((tk ts2).length : Int) from IntWalk.i64_in _ (by have := tk_len ts2; have := HN2.out; omega))
          clear hL1 hL2
          have hg := grown_drew wt none
          replace HB6 := Aside0.mk (blk_own HB6.out hg (by simp))
          replace HP := Aside0.mk (HP.out.same hg)
          clear hg
          refine start_ (n := 35) (S := fun w' => w'.heap[h6]? = some (.cells #[.int .i64 N, .slice A2 (tk ts2).length c2] 59 (0, 0))) (ds := []) #[false, false, false, false, false, false, false, false, false, false, false, false, false, false, false, false, false, false, false, false, false, false, false, false, false, false, false, false, false, false, false, false, false, false, false] (by kernel_rfl) rfl rfl HB6.out (fun hHeld => ?_)
          refine with_tab playsF14_tab (fun HT_ => ?_)
          refine pure_ (i := 0) (N := some 46) (v := ?_) (a' := ?_) #[true, false, false, false, false, false, false, false, false, false, false, false, false, false, false, false, false, false, false, false, false, false, false, false, false, false, false, false, false, false, false, false, false, false, false] rfl rfl (any_of HT_.out (by kernel_rfl)) (fun _ _ _ h => h) (Or.inl ⟨by rfl, ?_⟩) ?_ ?_
          rotate_left
          · intro w'
            go_simp
            with_reducible rfl
          rotate_left
          · simp only [Act.put, List.setIfInBounds_toArray, List.set_cons_zero, List.set_cons_succ, i64_w, i32_w]
            rfl
          refine pure_ (i := 1) (N := some 47) (v := ?_) (a' := ?_) #[true, true, false, false, false, false, false, false, false, false, false, false, false, false, false, false, false, false, false, false, false, false, false, false, false, false, false, false, false, false, false, false, false, false, false] rfl rfl (any_of HT_.out (by kernel_rfl)) (fun _ _ _ h => h) (Or.inl ⟨by rfl, ?_⟩) ?_ ?_
          rotate_left
          · intro w'
            go_simp
            with_reducible rfl
          rotate_left
          · simp only [Act.put, List.setIfInBounds_toArray, List.set_cons_zero, List.set_cons_succ, i64_w, i32_w]
            rfl
          refine pure_ (i := 2) (N := some 48) (v := ?_) (a' := ?_) #[true, true, true, false, false, false, false, false, false, false, false, false, false, false, false, false, false, false, false, false, false, false, false, false, false, false, false, false, false, false, false, false, false, false, false] rfl rfl (any_of HT_.out (by kernel_rfl)) (fun _ _ _ h => h) (Or.inl ⟨by rfl, ?_⟩) ?_ ?_
          rotate_left
          · intro w'
            go_simp
            with_reducible rfl
          rotate_left
          · simp only [Act.put, List.setIfInBounds_toArray, List.set_cons_zero, List.set_cons_succ, i64_w, i32_w]
            rfl
          refine pure_ (i := 3) (N := some 49) (v := ?_) (a' := ?_) #[true, true, true, true, false, false, false, false, false, false, false, false, false, false, false, false, false, false, false, false, false, false, false, false, false, false, false, false, false, false, false, false, false, false, false] rfl rfl (any_of HT_.out (by kernel_rfl)) (fun _ _ _ h => h) (Or.inl ⟨by rfl, ?_⟩) ?_ ?_
          rotate_left
          · intro w'
            go_simp
            with_reducible rfl
          rotate_left
          · simp only [Act.put, List.setIfInBounds_toArray, List.set_cons_zero, List.set_cons_succ, i64_w, i32_w]
            rfl
          refine pure_ (i := 5) (N := some 51) (v := ?_) (a' := ?_) #[true, true, true, true, false, true, false, false, false, false, false, false, false, false, false, false, false, false, false, false, false, false, false, false, false, false, false, false, false, false, false, false, false, false, false] rfl rfl (any_of HT_.out (by kernel_rfl)) (fun _ _ _ h => h) (Or.inl ⟨by rfl, ?_⟩) ?_ ?_
          rotate_left
          · intro w'
            go_simp
            with_reducible rfl
          rotate_left
          · simp only [Act.put, List.setIfInBounds_toArray, List.set_cons_zero, List.set_cons_succ, i64_w, i32_w]
            rfl
          refine pure_ (i := 7) (N := some 53) (v := ?_) (a' := ?_) #[true, true, true, true, false, true, false, true, false, false, false, false, false, false, false, false, false, false, false, false, false, false, false, false, false, false, false, false, false, false, false, false, false, false, false] rfl rfl (any_of HT_.out (by kernel_rfl)) (fun _ _ _ h => h) (Or.inl ⟨by rfl, ?_⟩) ?_ ?_
          rotate_left
          · intro w'
            go_simp
            with_reducible rfl
          rotate_left
          · simp only [Act.put, List.setIfInBounds_toArray, List.set_cons_zero, List.set_cons_succ, i64_w, i32_w]
            rfl
          refine take_ (i := 6) (N := some 52) (v := .int .i64 N) (a' := ?_) #[true, true, true, true, false, true, true, true, false, false, false, false, false, false, false, false, false, false, false, false, false, false, false, false, false, false, false, false, false, false, false, false, false, false, false] rfl rfl (take_of HT_.out (by kernel_rfl)) (fun _ _ _ h => h) (Or.inl ⟨by rfl, ?_⟩) hHeld ?_ ?_
          · rintro w' s1
            obtain ⟨q0, q1⟩ := cz2 s1
            go_simp
          rotate_left
          · simp only [Act.put, List.setIfInBounds_toArray, List.set_cons_zero, List.set_cons_succ, i64_w, i32_w]
            rfl
          refine take_ (i := 8) (N := some 54) (v := .slice A2 (tk ts2).length c2) (a' := ?_) #[true, true, true, true, false, true, true, true, true, false, false, false, false, false, false, false, false, false, false, false, false, false, false, false, false, false, false, false, false, false, false, false, false, false, false] rfl rfl (take_of HT_.out (by kernel_rfl)) (fun _ _ _ h => h) (Or.inl ⟨by rfl, ?_⟩) hHeld ?_ ?_
          · rintro w' s1
            obtain ⟨q0, q1⟩ := cz2 s1
            go_simp
          rotate_left
          · simp only [Act.put, List.setIfInBounds_toArray, List.set_cons_zero, List.set_cons_succ, i64_w, i32_w]
            rfl
          refine pure_ (i := 9) (N := some 55) (v := ?_) (a' := ?_) #[true, true, true, true, false, true, true, true, true, true, false, false, false, false, false, false, false, false, false, false, false, false, false, false, false, false, false, false, false, false, false, false, false, false, false] rfl rfl (any_of HT_.out (by kernel_rfl)) (fun _ _ _ h => h) (Or.inl ⟨by rfl, ?_⟩) ?_ ?_
          rotate_left
          · intro w'
            go_simp
            with_reducible rfl
          rotate_left
          · simp only [Act.put, List.setIfInBounds_toArray, List.set_cons_zero, List.set_cons_succ, i64_w, i32_w]
            rfl
          refine pure_ (i := 10) (N := some 56) (v := .int .i64 ((N : Int) - ((tk ts2).length : Int))) (a' := ?_) #[true, true, true, true, false, true, true, true, true, true, true, false, false, false, false, false, false, false, false, false, false, false, false, false, false, false, false, false, false, false, false, false, false, false, false] rfl rfl (any_of HT_.out (by kernel_rfl)) (fun _ _ _ h => h) (Or.inl ⟨by rfl, ?_⟩) ?_ ?_
          · intro w'
            have hw := HWR.out
            go_simp
          rotate_left
          · simp only [Act.put, List.setIfInBounds_toArray, List.set_cons_zero, List.set_cons_succ, i64_w, i32_w]
            rfl
          refine one_ (i := 4) (N := some 50) #[true, true, true, true, true, true, true, true, true, true, true, false, false, false, false, false, false, false, false, false, false, false, false, false, false, false, false, false, false, false, false, false, false, false, false] rfl rfl (one_of HT_.out (by kernel_rfl)) (by decide) (fun K hK => ?_)
          refine goes_ Try.func32 (by kernel_rfl) rfl #[.pointer (some ⟨p, 0, none⟩)] (by rfl) rfl rfl (by (try simp only [List.map_toArray, List.map_cons, List.map_nil]); first | done | rfl) ?_
          refine (fs_free HP.out.fs ((N : Int) - ((tk ts2).length : Int)) (by rw [cnt_tk, HN2.out])).mono ?_
          rintro x0 wn ⟨rfl, hf, hg⟩
          have hs := blk_own hHeld hg (by simp)
          replace HP := Aside0.mk (HP.out.same hg)
          clear hf hg
          refine ⟨_, rfl, ?_⟩
          refine hK.out _ _ hs (fun hHeld => ?_)
          clear hK K
          refine norm_ (a' := ?_) ?_ ?_
          rotate_left
          · show Act.put _ (some 50) _ = _
            simp only [Act.put, List.setIfInBounds_toArray, List.set_cons_zero, List.set_cons_succ, i64_w, i32_w]
            rfl
          refine pure_ (i := 11) (N := some 57) (v := .bool false) (a' := ?_) #[true, true, true, true, true, true, true, true, true, true, true, true, false, false, false, false, false, false, false, false, false, false, false, false, false, false, false, false, false, false, false, false, false, false, false] rfl rfl (any_of HT_.out (by kernel_rfl)) (fun _ _ _ h => h) (Or.inl ⟨by rfl, ?_⟩) ?_ ?_
          · intro w'
            go_simp
          rotate_left
          · simp only [Act.put, List.setIfInBounds_toArray, List.set_cons_zero, List.set_cons_succ, i64_w, i32_w]
            rfl
          refine pure_ (i := 12) (N := some 58) (v := ?_) (a' := ?_) #[true, true, true, true, true, true, true, true, true, true, true, true, true, false, false, false, false, false, false, false, false, false, false, false, false, false, false, false, false, false, false, false, false, false, false] rfl rfl (any_of HT_.out (by kernel_rfl)) (fun _ _ _ h => h) (Or.inl ⟨by rfl, ?_⟩) ?_ ?_
          rotate_left
          · intro w'
            go_simp
            with_reducible rfl
          rotate_left
          · simp only [Act.put, List.setIfInBounds_toArray, List.set_cons_zero, List.set_cons_succ, i64_w, i32_w]
            rfl
          refine pure_ (i := 13) (N := some 59) (v := ?_) (a' := ?_) #[true, true, true, true, true, true, true, true, true, true, true, true, true, true, false, false, false, false, false, false, false, false, false, false, false, false, false, false, false, false, false, false, false, false, false] rfl rfl (any_of HT_.out (by kernel_rfl)) (fun _ _ _ h => h) (Or.inl ⟨by rfl, ?_⟩) ?_ ?_
          rotate_left
          · intro w'
            go_simp
            with_reducible rfl
          rotate_left
          · simp only [Act.put, List.setIfInBounds_toArray, List.set_cons_zero, List.set_cons_succ, i64_w, i32_w]
            rfl
          refine pure_ (i := 14) (N := some 60) (v := ?_) (a' := ?_) #[true, true, true, true, true, true, true, true, true, true, true, true, true, true, true, false, false, false, false, false, false, false, false, false, false, false, false, false, false, false, false, false, false, false, false] rfl rfl (any_of HT_.out (by kernel_rfl)) (fun _ _ _ h => h) (Or.inl ⟨by rfl, ?_⟩) ?_ ?_
          rotate_left
          · intro w'
            go_simp
            with_reducible rfl
          rotate_left
          · simp only [Act.put, List.setIfInBounds_toArray, List.set_cons_zero, List.set_cons_succ, i64_w, i32_w]
            rfl
          refine pure_ (i := 16) (N := some 62) (v := ?_) (a' := ?_) #[true, true, true, true, true, true, true, true, true, true, true, true, true, true, true, false, true, false, false, false, false, false, false, false, false, false, false, false, false, false, false, false, false, false, false] rfl rfl (any_of HT_.out (by kernel_rfl)) (fun _ _ _ h => h) (Or.inl ⟨by rfl, ?_⟩) ?_ ?_
          rotate_left
          · intro w'
            go_simp
            with_reducible rfl
          rotate_left
          · simp only [Act.put, List.setIfInBounds_toArray, List.set_cons_zero, List.set_cons_succ, i64_w, i32_w]
            rfl
          refine take_ (i := 17) (N := some 63) (v := .int .i64 N) (a' := ?_) #[true, true, true, true, true, true, true, true, true, true, true, true, true, true, true, false, true, true, false, false, false, false, false, false, false, false, false, false, false, false, false, false, false, false, false] rfl rfl (take_of HT_.out (by kernel_rfl)) (fun _ _ _ h => h) (Or.inl ⟨by rfl, ?_⟩) hHeld ?_ ?_
          · rintro w' s1
            obtain ⟨q0, q1⟩ := cz2 s1
            go_simp
          rotate_left
          · simp only [Act.put, List.setIfInBounds_toArray, List.set_cons_zero, List.set_cons_succ, i64_w, i32_w]
            rfl
          refine one_ (i := 15) (N := some 61) #[true, true, true, true, true, true, true, true, true, true, true, true, true, true, true, true, true, true, false, false, false, false, false, false, false, false, false, false, false, false, false, false, false, false, false] rfl rfl (one_of HT_.out (by kernel_rfl)) (by decide) (fun K hK => ?_)
          refine goes_ Try.func30 (by kernel_rfl) rfl #[.pointer (some ⟨p, 0, none⟩)] (by rfl) rfl rfl (by (try simp only [List.map_toArray, List.map_cons, List.map_nil]); first | done | rfl) ?_
          refine (fs_len HP.out.fs (N : Int) (by rw [HN2.out])).mono ?_
          rintro x0 wn ⟨rfl, hf, hg⟩
          have hs := blk_own hHeld hg (by simp)
          replace HP := Aside0.mk (HP.out.same hg)
          clear hf hg
          refine ⟨_, rfl, ?_⟩
          refine hK.out _ _ hs (fun hHeld => ?_)
          clear hK K
          refine norm_ (a' := ?_) ?_ ?_
          rotate_left
          · show Act.put _ (some 61) _ = _
            simp only [Act.put, List.setIfInBounds_toArray, List.set_cons_zero, List.set_cons_succ, i64_w, i32_w]
            rfl
          refine pure_ (i := 18) (N := some 64) (v := .bool false) (a' := ?_) #[true, true, true, true, true, true, true, true, true, true, true, true, true, true, true, true, true, true, true, false, false, false, false, false, false, false, false, false, false, false, false, false, false, false, false] rfl rfl (any_of HT_.out (by kernel_rfl)) (fun _ _ _ h => h) (Or.inl ⟨by rfl, ?_⟩) ?_ ?_
          · intro w'
            go_simp
          rotate_left
          · simp only [Act.put, List.setIfInBounds_toArray, List.set_cons_zero, List.set_cons_succ, i64_w, i32_w]
            rfl
          refine pure_ (i := 19) (N := some 65) (v := ?_) (a' := ?_) #[true, true, true, true, true, true, true, true, true, true, true, true, true, true, true, true, true, true, true, true, false, false, false, false, false, false, false, false, false, false, false, false, false, false, false] rfl rfl (any_of HT_.out (by kernel_rfl)) (fun _ _ _ h => h) (Or.inl ⟨by rfl, ?_⟩) ?_ ?_
          rotate_left
          · intro w'
            go_simp
            with_reducible rfl
          rotate_left
          · simp only [Act.put, List.setIfInBounds_toArray, List.set_cons_zero, List.set_cons_succ, i64_w, i32_w]
            rfl
          refine pure_ (i := 20) (N := some 66) (v := ?_) (a' := ?_) #[true, true, true, true, true, true, true, true, true, true, true, true, true, true, true, true, true, true, true, true, true, false, false, false, false, false, false, false, false, false, false, false, false, false, false] rfl rfl (any_of HT_.out (by kernel_rfl)) (fun _ _ _ h => h) (Or.inl ⟨by rfl, ?_⟩) ?_ ?_
          rotate_left
          · intro w'
            go_simp
            with_reducible rfl
          rotate_left
          · simp only [Act.put, List.setIfInBounds_toArray, List.set_cons_zero, List.set_cons_succ, i64_w, i32_w]
            rfl
          refine pure_ (i := 21) (N := some 67) (v := ?_) (a' := ?_) #[true, true, true, true, true, true, true, true, true, true, true, true, true, true, true, true, true, true, true, true, true, true, false, false, false, false, false, false, false, false, false, false, false, false, false] rfl rfl (any_of HT_.out (by kernel_rfl)) (fun _ _ _ h => h) (Or.inl ⟨by rfl, ?_⟩) ?_ ?_
          rotate_left
          · intro w'
            go_simp
            with_reducible rfl
          rotate_left
          · simp only [Act.put, List.setIfInBounds_toArray, List.set_cons_zero, List.set_cons_succ, i64_w, i32_w]
            rfl
          refine take_ (i := 23) (N := some 69) (v := .agg #[.int .i64 N, .slice A2 (tk ts2).length c2]) (a' := ?_) #[true, true, true, true, true, true, true, true, true, true, true, true, true, true, true, true, true, true, true, true, true, true, false, true, false, false, false, false, false, false, false, false, false, false, false] rfl rfl (take_of HT_.out (by kernel_rfl)) (fun _ _ _ h => h) (Or.inl ⟨by rfl, ?_⟩) hHeld ?_ ?_
          · rintro w' s1
            obtain ⟨q0, q1⟩ := cz2 s1
            go_simp
          rotate_left
          · simp only [Act.put, List.setIfInBounds_toArray, List.set_cons_zero, List.set_cons_succ, i64_w, i32_w]
            rfl
          refine one_ (i := 22) (N := some 68) #[true, true, true, true, true, true, true, true, true, true, true, true, true, true, true, true, true, true, true, true, true, true, true, true, false, false, false, false, false, false, false, false, false, false, false] rfl rfl (one_of HT_.out (by kernel_rfl)) (by decide) (fun K hK => ?_)
          refine goes_ Try.func33 (by kernel_rfl) rfl #[.pointer (some ⟨p, 0, none⟩)] (by rfl) rfl rfl (by (try simp only [List.map_toArray, List.map_cons, List.map_nil]); first | done | rfl) ?_
          refine (fs_longest HP.out.fs 70000 (Lg : Nat) HLG.out.1).mono ?_
          rintro x0 wn ⟨rfl, hf, hg⟩
          have hs := blk_own hHeld hg (by simp)
          replace HP := Aside0.mk (HP.out.same hg)
          clear hf hg
          refine ⟨_, rfl, ?_⟩
          refine hK.out _ _ hs (fun hHeld => ?_)
          clear hK K
          refine norm_ (a' := ?_) ?_ ?_
          rotate_left
          · show Act.put _ (some 68) _ = _
            simp only [Act.put, List.setIfInBounds_toArray, List.set_cons_zero, List.set_cons_succ, i64_w, i32_w]
            rfl
          refine one_ (i := 24) (N := some 70) #[true, true, true, true, true, true, true, true, true, true, true, true, true, true, true, true, true, true, true, true, true, true, true, true, true, false, false, false, false, false, false, false, false, false, false] rfl rfl (one_of HT_.out (by kernel_rfl)) (by decide) (fun K hK => ?_)
          refine goes_ Try.func42 (by kernel_rfl) rfl #[.agg #[.int .i64 N, .slice A2 (tk ts2).length c2]] (by rfl) rfl rfl (by (try simp only [List.map_toArray, List.map_cons, List.map_nil]); first | done | rfl) ?_
          refine (lookasideref05_Longest.calls 200000 N A2 c2 (tk ts2) (Lg : Nat) _ (Kd.V_reads' HP.out.v).2.2 (Kd.V_reads' HP.out.v).2.1 HLG.out.2).mono ?_
          rintro x0 wn ⟨rfl, hb⟩
          have hg := below_grown hb
          have hs := blk_own hHeld hg (by simp)
          replace HP := Aside0.mk (HP.out.same hg)
          clear hb hg
          refine ⟨_, rfl, ?_⟩
          refine hK.out _ _ hs (fun hHeld => ?_)
          clear hK K
          refine norm_ (a' := ?_) ?_ ?_
          rotate_left
          · show Act.put _ (some 70) _ = _
            simp only [Act.put, List.setIfInBounds_toArray, List.set_cons_zero, List.set_cons_succ, i64_w, i32_w]
            rfl
          refine pure_ (i := 25) (N := some 71) (v := .bool false) (a' := ?_) #[true, true, true, true, true, true, true, true, true, true, true, true, true, true, true, true, true, true, true, true, true, true, true, true, true, true, false, false, false, false, false, false, false, false, false] rfl rfl (any_of HT_.out (by kernel_rfl)) (fun _ _ _ h => h) (Or.inl ⟨by rfl, ?_⟩) ?_ ?_
          · intro w'
            go_simp
          rotate_left
          · simp only [Act.put, List.setIfInBounds_toArray, List.set_cons_zero, List.set_cons_succ, i64_w, i32_w]
            rfl
          refine pure_ (i := 26) (N := some 72) (v := ?_) (a' := ?_) #[true, true, true, true, true, true, true, true, true, true, true, true, true, true, true, true, true, true, true, true, true, true, true, true, true, true, true, false, false, false, false, false, false, false, false] rfl rfl (any_of HT_.out (by kernel_rfl)) (fun _ _ _ h => h) (Or.inl ⟨by rfl, ?_⟩) ?_ ?_
          rotate_left
          · intro w'
            go_simp
            with_reducible rfl
          rotate_left
          · simp only [Act.put, List.setIfInBounds_toArray, List.set_cons_zero, List.set_cons_succ, i64_w, i32_w]
            rfl
          refine pure_ (i := 27) (N := some 73) (v := ?_) (a' := ?_) #[true, true, true, true, true, true, true, true, true, true, true, true, true, true, true, true, true, true, true, true, true, true, true, true, true, true, true, true, false, false, false, false, false, false, false] rfl rfl (any_of HT_.out (by kernel_rfl)) (fun _ _ _ h => h) (Or.inl ⟨by rfl, ?_⟩) ?_ ?_
          rotate_left
          · intro w'
            go_simp
            with_reducible rfl
          rotate_left
          · simp only [Act.put, List.setIfInBounds_toArray, List.set_cons_zero, List.set_cons_succ, i64_w, i32_w]
            rfl
          refine pure_ (i := 28) (N := some 74) (v := ?_) (a' := ?_) #[true, true, true, true, true, true, true, true, true, true, true, true, true, true, true, true, true, true, true, true, true, true, true, true, true, true, true, true, true, false, false, false, false, false, false] rfl rfl (any_of HT_.out (by kernel_rfl)) (fun _ _ _ h => h) (Or.inl ⟨by rfl, ?_⟩) ?_ ?_
          rotate_left
          · intro w'
            go_simp
            with_reducible rfl
          rotate_left
          · simp only [Act.put, List.setIfInBounds_toArray, List.set_cons_zero, List.set_cons_succ, i64_w, i32_w]
            rfl
          refine pure_ (i := 30) (N := some 76) (v := ?_) (a' := ?_) #[true, true, true, true, true, true, true, true, true, true, true, true, true, true, true, true, true, true, true, true, true, true, true, true, true, true, true, true, true, false, true, false, false, false, false] rfl rfl (any_of HT_.out (by kernel_rfl)) (fun _ _ _ h => h) (Or.inl ⟨by rfl, ?_⟩) ?_ ?_
          rotate_left
          · intro w'
            go_simp
            with_reducible rfl
          rotate_left
          · simp only [Act.put, List.setIfInBounds_toArray, List.set_cons_zero, List.set_cons_succ, i64_w, i32_w]
            rfl
          refine take_ (i := 31) (N := some 77) (v := .slice A2 (tk ts2).length c2) (a' := ?_) #[true, true, true, true, true, true, true, true, true, true, true, true, true, true, true, true, true, true, true, true, true, true, true, true, true, true, true, true, true, false, true, true, false, false, false] rfl rfl (take_of HT_.out (by kernel_rfl)) (fun _ _ _ h => h) (Or.inl ⟨by rfl, ?_⟩) hHeld ?_ ?_
          · rintro w' s1
            obtain ⟨q0, q1⟩ := cz2 s1
            go_simp
          rotate_left
          · simp only [Act.put, List.setIfInBounds_toArray, List.set_cons_zero, List.set_cons_succ, i64_w, i32_w]
            rfl
          refine one_ (i := 29) (N := some 75) #[true, true, true, true, true, true, true, true, true, true, true, true, true, true, true, true, true, true, true, true, true, true, true, true, true, true, true, true, true, true, true, true, false, false, false] rfl rfl (one_of HT_.out (by kernel_rfl)) (by decide) (fun K hK => ?_)
          refine goes_ Try.func40 (by kernel_rfl) rfl #[.pointer (some ⟨p, 0, none⟩)] (by rfl) rfl rfl (by (try simp only [List.map_toArray, List.map_cons, List.map_nil]); first | done | rfl) ?_
          refine (fs_list HP.out.fs 70000 (tk ts2) (list_f ts2 HP.out.fs.len _)).mono ?_
          rintro x0 wn ⟨⟨v0, rfl, hR⟩, hf, hg⟩
          have hs := blk_own hHeld hg (by simp)
          replace HP := Aside0.mk (HP.out.same hg)
          obtain ⟨Al, cl, rfl, hcl, hCl⟩ := Kd.R_reads hR
          have HCL := Aside0.mk (And.intro hcl hCl)
          clear hf hg hR hcl hCl
          refine ⟨_, rfl, ?_⟩
          refine hK.out _ _ hs (fun hHeld => ?_)
          clear hK K
          refine norm_ (a' := ?_) ?_ ?_
          rotate_left
          · show Act.put _ (some 75) _ = _
            simp only [Act.put, List.setIfInBounds_toArray, List.set_cons_zero, List.set_cons_succ, i64_w, i32_w]
            rfl
          refine one_ (i := 32) (N := some 78) #[true, true, true, true, true, true, true, true, true, true, true, true, true, true, true, true, true, true, true, true, true, true, true, true, true, true, true, true, true, true, true, true, true, false, false] rfl rfl (one_of HT_.out (by kernel_rfl)) (by decide) (fun K hK => ?_)
          refine goes_ Try.func43 (by kernel_rfl) rfl #[.slice Al (tk ts2).length cl, .slice A2 (tk ts2).length c2] (by rfl) rfl rfl (by (try simp only [List.map_toArray, List.map_cons, List.map_nil]); first | done | rfl) ?_
          refine (lookasideref02_Same.calls 200000 Al cl (tk ts2) A2 c2 (tk ts2) true _ HCL.out.2 HCL.out.1 (Kd.V_reads' HP.out.v).2.2 (Kd.V_reads' HP.out.v).2.1 (same_tk HP.out.fs.len)).mono ?_
          rintro x0 wn ⟨rfl, hd⟩
          have hg := drawn_grown hd
          have hs := blk_own hHeld hg (by simp)
          replace HP := Aside0.mk (HP.out.same hg)
          clear hd hg HCL
          refine ⟨_, rfl, ?_⟩
          refine hK.out _ _ hs (fun hHeld => ?_)
          clear hK K
          refine norm_ (a' := ?_) ?_ ?_
          rotate_left
          · show Act.put _ (some 78) _ = _
            simp only [Act.put, List.setIfInBounds_toArray, List.set_cons_zero, List.set_cons_succ, i64_w, i32_w]
            rfl
          refine pure_ (i := 33) (N := some 79) (v := .bool false) (a' := ?_) #[true, true, true, true, true, true, true, true, true, true, true, true, true, true, true, true, true, true, true, true, true, true, true, true, true, true, true, true, true, true, true, true, true, true, false] rfl rfl (any_of HT_.out (by kernel_rfl)) (fun _ _ _ h => h) (Or.inl ⟨by rfl, ?_⟩) ?_ ?_
          · intro w'
            go_simp
          rotate_left
          · simp only [Act.put, List.setIfInBounds_toArray, List.set_cons_zero, List.set_cons_succ, i64_w, i32_w]
            rfl
          refine pure_ (i := 34) (N := some 80) (v := ?_) (a' := ?_) #[true, true, true, true, true, true, true, true, true, true, true, true, true, true, true, true, true, true, true, true, true, true, true, true, true, true, true, true, true, true, true, true, true, true, true] rfl rfl (any_of HT_.out (by kernel_rfl)) (fun _ _ _ h => h) (Or.inl ⟨by rfl, ?_⟩) ?_ ?_
          rotate_left
          · intro w'
            go_simp
            with_reducible rfl
          rotate_left
          · simp only [Act.put, List.setIfInBounds_toArray, List.set_cons_zero, List.set_cons_succ, i64_w, i32_w]
            rfl
          refine done_ (done_of HT_.out (by kernel_rfl)) ?_
          replace HB6 := Aside0.mk hHeld
          go_wp2
          go_roundw
          case rel => exact ⟨k + 1, ts2, A2, c2, tA2, tc2, tl2, by go_num, rfl, by omega, by omega, by have := HLEN2.out; omega, HN2, HLOW2, HB6, ⟨HP.out.begin⟩⟩
          case measure => simp [intOf]; omega
      · have hex : (k = 30 ∧ (30 : Int) < (len : Int)) ∨ k = len := by omega
        rcases hex with ⟨rfl, h1q⟩ | rfl
        all_goals
          go_wp2_with fail
          refine (lives_calls _).mono ?_
          rintro x0 wl ⟨rfl, hg⟩
          have HE := Aside0.mk (fs_same HP.out.fs hg).below
          clear hg
          go_wp2
          go_ret
          exact ⟨rfl, HE.out⟩
end
end Go.Proofs.Ytlndljgoliepdaa.QFramesPlays
