/- A Change of a TSB to a grade that is not less. -/
import Derived.Test.YtjnffegjpkbjmaaGreatSk0
import Derived.Defers
/- merged: YtjnffegjpkbjmaaGreatSk1 -/
namespace Go.Proofs.YtjnffegjpkbjmaaGreat.Mem
open Go.Proofs.YtjnffegjpkbjmaaGreat.QFramesPlays (Fs Fr FrK Took fs_Many fs_new fs_list fs_free took_at setN cnt First FreeIn AllIn setN_len)
open Go.RowKit Go.Maps Go.Proofs.YtjnffegjpkbjmaaGreatW.PrintWords Go.Proofs.YtjnffegjpkbjmaaGreatW.PrintLast Go.Proofs.YtjnffegjpkbjmaaGreatW.PrintMore Go.Proofs.YtjnffegjpkbjmaaGreat.QTsbPlays Go.Proofs.YtjnffegjpkbjmaaGreat.Pure
set_option linter.unusedSimpArgs false
set_option linter.unusedVariables false
section
set_option maxHeartbeats 2000000
set_option maxRecDepth 100000
/-- Only a frames' row and their bits, then a memory's map, are turned. -/
def FM (W : World) (pf rf mb : Nat) (W' : World) : Prop := ∃ W1, FrK W pf rf W1 ∧ W1.grownBy W' (some mb)
theorem tgrade_calls {W : World} {pt p base N s : Nat} {grade : Int} (kt : W.heap[pt]? = some (.cells (TCs p base N s grade) 119 (0, 0))) : Calls Tryz.prog 44 #[.pointer (some ⟨pt, 0, none⟩)] W fun e W' => e = .returned (.int .i64 grade) ∧ W' = W := by
  have c := (blk_cell kt 4).trans rfl
  clear kt
  go_enter Tryz.func44, Tryz.ntmps44
  go_wp2
  go_ret
  exact ⟨rfl, rfl⟩
theorem tbase_calls {W : World} {pt p base N s : Nat} {grade : Int} (kt : W.heap[pt]? = some (.cells (TCs p base N s grade) 119 (0, 0))) : Calls Tryz.prog 42 #[.pointer (some ⟨pt, 0, none⟩)] W fun e W' => e = .returned (.int .u64 (base : Int)) ∧ W' = W := by
  have c := (blk_cell kt 1).trans rfl
  clear kt
  go_enter Tryz.func42, Tryz.ntmps42
  go_wp2
  go_ret
  exact ⟨rfl, rfl⟩
theorem swmakeK_calls {B : Nat} {w0 W : World} {pm mb n : Nat} {sz : Int} {D : DataW Unit} {pf rf : Nat} {ts : List Bool} {a : Nat} (hM : Mem B w0 pm mb sz n D W) (hF : Fs B w0 pf rf ts W) (s g : Nat) (hs : s < 4) (hg : g < 4) (hfa : First ts (frsW s g) 1 a) (ha : a ≤ 100000) (hsz : ((a * 8192 : Nat) : Int) + (16 * plcs s g : Int) ≤ sz) (hz : sz ≤ 2199023255552) (hn : n ≤ 400000) :
    Calls Tryz.prog 27 #[.pointer (some ⟨pm, 0, none⟩), .pointer (some ⟨pf, 0, none⟩), .int .i64 (s : Int), .int .i64 (g : Int)] W fun e W' => ∃ pt, e = .returned (.tuple #[.pointer (some ⟨pt, 0, none⟩), .int .i64 0]) ∧ Mem B w0 pm mb sz (n + 2 * plcs s g) (clearD D ((a * 8192 : Nat) : Int) (List.range (plcs s g))) W' ∧ Fs B w0 pf rf (setN ts a true (frsW s g)) W' ∧ W'.heap[pt]? = some (.cells (TCs pm ((a * 8192 : Nat) : Int) (plcs s g) s g) 119 (0, 0)) ∧ W.heap.size ≤ pt ∧ FM W pf rf mb W' := by
  have HM := Aside0.mk hM
  have HF := Aside0.mk hF
  have hin := frs_in s g hs hg
  have hpl := plcs_le s g hs hg
  have HPF := Aside0.mk (Pure.pFrames (s : Int) (g : Int))
  have HPL := Aside0.mk (pPlaces s g hs hg)
  have HFA := Aside0.mk hfa
  have hfr1 : 1 ≤ frsW s g := hin.1
  generalize frsW s g = fr at hin HPF HFA hfr1 ⊢
  obtain ⟨bs, hbs⟩ : ∃ bs : Nat, bs = a * 8192 := ⟨_, rfl⟩
  rw [← hbs] at hsz ⊢
  have HNN := Aside0.mk (show 1 ≤ plcs s g ∧ plcs s g ≤ 70000 ∧ (bs : Int) + 16 * (plcs s g : Int) ≤ sz ∧ sz ≤ 2199023255552 ∧ n ≤ 500000 from ⟨hpl.1, by omega, by omega, hz, by omega⟩)
  have HBS := Aside0.mk (show (0 : Int) ≤ (bs : Int) ∧ (bs : Int) % 16 = 0 from ⟨by omega, by omega⟩)
  have hfz : ((fr : Int) == 0) = false := by simpa using (show ¬ fr = 0 by omega)
  have hw1 : wrap64 ((a : Int) * 8192) = (bs : Int) := by unfold wrap64; omega
  have hw2 : IntKind.i64.wrap ((a : Int) * 8192) = (bs : Int) := by rw [IntWalk.i64_in _ (by omega)]; omega
  have hw3 : IntKind.u64.wrap (bs : Int) = (bs : Int) := by rw [IntKind.wrap_u64]; omega
  clear hM hF hin hpl hs hg hsz hz hn hbs ha hfa
  go_enter Tryz.func27, Tryz.ntmps27
  go_wp2_with fail
  refine (swap_Frames.calls _ _ _ _ HPF.out).mono ?_
  rintro x0 w1 ⟨rfl, hd⟩
  have hg := drawn_grown hd
  replace HM := Aside0.mk (HM.out.same hg)
  replace HF := Aside0.mk (HF.out.same hg)
  have HK := Aside0.mk (QFramesPlays.FrK.of_grown (p := pf) (r := rf) hg)
  have HSZ := Aside0.mk hg.size
  clear hd hg
  go_wp2_with fail
  refine (fs_Many HF.out fr hfr1).mono ?_
  rintro x0 w2 hT
  obtain ⟨rfl, hF2, hK⟩ := took_at hT HFA.out
  replace HM := Aside0.mk (HM.out.frk HF.out hK)
  replace HSZ := Aside0.mk (Nat.le_trans HSZ.out hK.size)
  replace HK := Aside0.mk (HK.out.trans hK)
  replace HF := Aside0.mk hF2
  clear hT hF2 hK hfz
  go_wp2_with fail
  refine (swap_bytes.calls _ _ swBytes).mono ?_
  rintro x0 w3 ⟨rfl, hd⟩
  have hg := drawn_grown hd
  replace HM := Aside0.mk (HM.out.same hg)
  replace HF := Aside0.mk (HF.out.same hg)
  replace HK := Aside0.mk (HK.out.trans (QFramesPlays.FrK.of_grown hg))
  replace HSZ := Aside0.mk (Nat.le_trans HSZ.out hg.size)
  clear hd hg
  go_wp2_with fail
  refine (tnew_calls (base := (bs : Int)) HM.out HPL.out HNN.out.1 HNN.out.2.1 HBS.out.1 HBS.out.2 HNN.out.2.2.1 HNN.out.2.2.2.1 HNN.out.2.2.2.2).mono ?_
  rintro x0 w4 ⟨pt, rfl, hM, hr, hpt, hg⟩
  have HF2 := Aside0.mk (Fs.over HF.out HM.out hg)
  go_wp2_with fail
  exact bodyPost_ret (v := .tuple #[.pointer (some ⟨pt, 0, none⟩), .int .i64 0]) (by simp [results, Tryz.f27]) rfl ⟨pt, rfl, hM, HF2.out, hr, Nat.le_trans HSZ.out hpt, w3, HK.out, hg⟩
theorem blk_frk {B g' pf rf : Nat} {w0 W W1 : World} {ts : List Bool} {cs : Array Value} {t : TypeId} (hb : W.heap[g']? = some (.cells cs t (0, 0))) (h1 : t ≠ 89) (h2 : t ≠ 4) (hF : Fs B w0 pf rf ts W) (hk : FrK W pf rf W1) : W1.heap[g']? = some (.cells cs t (0, 0)) := by
  have e1 : g' ≠ pf := by rintro rfl; have := hF.row; rw [hb] at this; injection this with this; injection this with _ a; exact h1 a
  have e2 : g' ≠ rf := by rintro rfl; have := hF.bits; rw [hb] at this; injection this with this; injection this with _ a; exact h2 a
  exact (hk.block g' (blk_lt hb) e1 e2).trans hb
/-- What Drop leaves. -/
def Dropped (B : Nat) (w0 W : World) (pm mb : Nat) (sz : Int) (pf rf : Nat) (ts : List Bool) (D : DataW Unit) (a fr : Nat) (W' : World) : Prop := ∃ D', Mem B w0 pm mb sz (Maps.size D') D' W' ∧ Good D' ∧ Maps.size D' ≤ Maps.size D ∧ (∀ t, 0 ≤ t → byteAt D' t = if ((a * 8192 : Nat) : Int) ≤ t ∧ t - ((a * 8192 : Nat) : Int) < ((fr * 8192 : Nat) : Int) then 0 else byteAt D t) ∧ Fs B w0 pf rf (setN ts a false fr) W' ∧ FM W pf rf mb W'
theorem swdrop_both {B : Nat} {w0 W : World} {pm mb n pt : Nat} {sz : Int} {D : DataW Unit} {pf rf : Nat} {ts : List Bool} {a N : Nat} (hM : Mem B w0 pm mb sz n D W) (hF : Fs B w0 pf rf ts W) (s g : Nat) (hs : s < 4) (hg : g < 4) (kt : W.heap[pt]? = some (.cells (TCs pm ((a * 8192 : Nat) : Int) N s g) 119 (0, 0))) (hl : a + frsW s g ≤ ts.length) (hA : AllIn ts a (frsW s g)) (ha : a ≤ 100000) (hsz : (((a + frsW s g) * 8192 : Nat) : Int) ≤ sz) (hz : sz ≤ 2199023255552) (hG : Good D) (hn : Maps.size D < 900000) :
    (Calls Tryz.prog 19 #[.pointer (some ⟨pm, 0, none⟩), .pointer (some ⟨pf, 0, none⟩), .pointer (some ⟨pt, 0, none⟩), .int .i64 (s : Int)] W fun e W' => e = .returned (.int .i64 0) ∧ Dropped B w0 W pm mb sz pf rf ts D a (frsW s g) W') ∧ CallsD Tryz.prog 19 #[.pointer (some ⟨pm, 0, none⟩), .pointer (some ⟨pf, 0, none⟩), .pointer (some ⟨pt, 0, none⟩), .int .i64 (s : Int)] .returning W fun e u W' => u = .returning ∧ (e = .returned (.int .i64 0) ∧ Dropped B w0 W pm mb sz pf rf ts D a (frsW s g) W') := by
  have HM := Aside0.mk hM
  have HF := Aside0.mk hF
  have HT := Aside0.mk kt
  have hin := frs_in s g hs hg
  have HPF := Aside0.mk (Pure.pFrames (s : Int) (g : Int))
  generalize frsW s g = fr at hin HPF hl hA hsz ⊢
  have HA := Aside0.mk (And.intro hl hA)
  have HGD := Aside0.mk (And.intro hG (And.intro hn hz))
  have hfr1 : 1 ≤ fr := hin.1
  have hfr8 : fr ≤ 8 := hin.2.1
  unfold Dropped
  obtain ⟨bs, hbs⟩ : ∃ bs : Nat, bs = a * 8192 := ⟨_, rfl⟩
  obtain ⟨bf, hbf⟩ : ∃ bf : Nat, bf = fr * 8192 := ⟨_, rfl⟩
  rw [← hbs, ← hbf]
  rw [← hbs] at HT
  have HMY := Aside0.mk (show (Lit.int .u64 (bs : Int)).wf = true ∧ (Lit.int .u64 (bf : Int)).wf = true ∧ mayOf sz (bs : Int) (bf : Int) 1 = 0 from ⟨WalkArith.wf_u64 (by omega), WalkArith.wf_u64 (by omega), by
    unfold mayOf
    rw [if_neg (by omega), if_neg (by omega)]⟩)
  have HFR1 := Aside0.mk hfr1
  have hw1 : wrap64 ((fr : Int) * 8192) = (bf : Int) := by unfold wrap64; omega
  have hw2 : IntKind.i64.wrap ((fr : Int) * 8192) = (bf : Int) := by rw [IntWalk.i64_in _ (by omega)]; omega
  have hw3 : IntKind.u64.wrap (bf : Int) = (bf : Int) := by rw [IntKind.wrap_u64]; omega
  have hw4 : IntKind.i64.wrap (bs : Int) = (bs : Int) := IntWalk.i64_in _ (by omega)
  have hw5 : wrap64 (bs : Int) = (bs : Int) := by unfold wrap64; omega
  have hw6 : Int.tdiv (bs : Int) 8192 = (a : Int) := by rw [show (8192 : Int) = ((8192 : Nat) : Int) from rfl, ← Int.ofNat_tdiv]; omega
  have hw7 : IntKind.i64.wrap (a : Int) = (a : Int) := IntWalk.i64_in _ (by omega)
  have hw8 : wrap64 (a : Int) = (a : Int) := by unfold wrap64; omega
  clear hM hF hin hs hg hsz hz hn hbs hbf ha hG hl hA kt hfr1 hfr8
  constructor
  go_enter Tryz.func19, Tryz.ntmps19
  rotate_left
  go_enter_d Tryz.func19, Tryz.ntmps19
  all_goals
    go_wp2_with fail
    refine (tgrade_calls HT.out).mono ?_
    rintro x0 w1 ⟨rfl, rfl⟩
    go_wp2_with fail
    refine (swap_Frames.calls _ _ _ _ HPF.out).mono ?_
    rintro x0 w1 ⟨rfl, hd⟩
    have hg := drawn_grown hd
    replace HM := Aside0.mk (HM.out.same hg)
    replace HF := Aside0.mk (HF.out.same hg)
    replace HT := Aside0.mk (blk_grown HT.out hg)
    have HK := Aside0.mk (QFramesPlays.FrK.of_grown (p := pf) (r := rf) hg)
    clear hd hg
    go_wp2_with fail
    refine (tbase_calls HT.out).mono ?_
    rintro x0 w1 ⟨rfl, rfl⟩
    go_wp2_with fail
    refine (swap_bytes.calls _ _ swBytes).mono ?_
    rintro x0 w2 ⟨rfl, hd⟩
    have hg := drawn_grown hd
    replace HM := Aside0.mk (HM.out.same hg)
    replace HF := Aside0.mk (HF.out.same hg)
    replace HT := Aside0.mk (blk_grown HT.out hg)
    replace HK := Aside0.mk (HK.out.trans (QFramesPlays.FrK.of_grown hg))
    clear hd hg
    go_wp2_with fail
    refine (fs_giveAll HF.out a fr HFR1.out HA.out.1 HA.out.2).mono ?_
    rintro x0 w3 ⟨rfl, hF2, hK⟩
    replace HM := Aside0.mk (HM.out.frk HF.out hK)
    replace HT := Aside0.mk (blk_frk HT.out (by decide) (by decide) HF.out hK)
    replace HK := Aside0.mk (HK.out.trans hK)
    replace HF := Aside0.mk hF2
    clear hF2 hK
    go_wp2_with fail
    refine (tbase_calls HT.out).mono ?_
    rintro x0 w1 ⟨rfl, rfl⟩
    go_wp2_with fail
    refine (swap_bytes.calls _ _ swBytes).mono ?_
    rintro x0 w4 ⟨rfl, hd⟩
    have hg := drawn_grown hd
    replace HM := Aside0.mk (HM.out.same hg)
    replace HF := Aside0.mk (HF.out.same hg)
    replace HK := Aside0.mk (HK.out.trans (QFramesPlays.FrK.of_grown hg))
    clear hd hg HT
    go_wp2_with fail
    refine (clear_calls HM.out HGD.out.2.2 (bs : Int) (bf : Int) HMY.out.1 HMY.out.2.1 HMY.out.2.2 HGD.out.1 HGD.out.2.1).mono ?_
    rintro x0 w5 ⟨rfl, D', hM2, hG2, hs2, hb2, hg⟩
    have HF2 := Aside0.mk (Fs.over HF.out HM.out hg)
    go_wp2_with fail
    exact bodyPost_ret (v := .int .i64 0) (by simp [results, Tryz.f19]) rfl ⟨rfl, D', hM2, hG2, hs2, hb2, HF2.out, w4, HK.out, hg⟩
end
end Go.Proofs.YtjnffegjpkbjmaaGreat.Mem
namespace Go.Proofs.YtjnffegjpkbjmaaGreat.Mem
open Go.Proofs.YtjnffegjpkbjmaaGreat.QFramesPlays (Fs Fr FrK Took fs_Many fs_new fs_list fs_free took_at setN cnt First FreeIn AllIn setN_len)
open Go.RowKit Go.Maps Go.Proofs.YtjnffegjpkbjmaaGreatW.PrintWords Go.Proofs.YtjnffegjpkbjmaaGreatW.PrintLast Go.Proofs.YtjnffegjpkbjmaaGreatW.PrintMore Go.Proofs.YtjnffegjpkbjmaaGreat.QTsbPlays Go.Proofs.YtjnffegjpkbjmaaGreat.Pure
set_option linter.unusedSimpArgs false
set_option linter.unusedVariables false
section
set_option maxHeartbeats 2000000
set_option maxRecDepth 100000
theorem Mem.size_le {B : Nat} {w0 W : World} {p mb n : Nat} {sz : Int} {D : DataW Unit} (h : Mem B w0 p mb sz n D W) : Maps.size D ≤ n := by
  obtain ⟨es, clock, hb, F, hs, hD⟩ := h.own
  rw [hD]
  show List.length _ ≤ n
  rw [length_read]
  exact hs
/-! ### Frames, their bits and a memory's map are turned -/
structure FX (W : World) (pf rf mb : Nat) (W' : World) : Prop where
  os : W'.os = W.os
  tape : W'.tape = W.tape
  output : W'.output = W.output
  size : W.heap.size ≤ W'.heap.size
  block : ∀ k, k < W.heap.size → k ≠ pf → k ≠ rf → k ≠ mb → W'.heap[k]? = W.heap[k]?
theorem FM.fx {W W' : World} {pf rf mb : Nat} (h : FM W pf rf mb W') : FX W pf rf mb W' := by
  obtain ⟨W1, h1, h2⟩ := h
  exact ⟨h2.os.trans h1.os, h2.tape.trans h1.tape, h2.output.trans h1.output, Nat.le_trans h1.size h2.size, fun k hk a b c => (h2.block k (Nat.lt_of_lt_of_le hk h1.size) (fun e => c (Option.some.inj e))).trans (h1.block k hk a b)⟩
theorem FX.fm {W W' : World} {pf rf mb : Nat} (h : FX W pf rf mb W') (hp : pf < W.heap.size) (hr : rf < W.heap.size) : FM W pf rf mb W' := by
  have hp2 : pf < W'.heap.size := Nat.lt_of_lt_of_le hp h.size
  have hr2 : rf < W'.heap.size := Nat.lt_of_lt_of_le hr h.size
  refine ⟨{ W with heap := (W.heap.set pf (W'.heap[pf]'hp2) hp).set rf (W'.heap[rf]'hr2) (by simpa using hr) }, ⟨rfl, rfl, rfl, by simp, fun k hk a b => ?_⟩, ⟨h.os, h.tape, h.output, by simpa using h.size, fun k hk c => ?_⟩⟩
  · show ((W.heap.set pf _ hp).set rf _ (by simpa using hr))[k]? = _
    rw [Array.getElem?_set, if_neg (Ne.symm b), Array.getElem?_set, if_neg (Ne.symm a)]
  · show _ = ((W.heap.set pf _ hp).set rf _ (by simpa using hr))[k]?
    have hk' : k < W.heap.size := by simpa using hk
    rw [Array.getElem?_set]
    by_cases e : rf = k
    · subst e
      rw [if_pos rfl]
      simp [hr2]
    · rw [if_neg e, Array.getElem?_set]
      by_cases e2 : pf = k
      · subst e2
        rw [if_pos rfl]
        simp [hp2]
      · rw [if_neg e2]
        exact h.block k hk' (Ne.symm e2) (Ne.symm e) (fun z => c (by rw [z]))
theorem FM.two {W W1 W2 : World} {pf rf mb : Nat} (h : FM W pf rf mb W1) (k : FM W1 pf rf mb W2) (hp : pf < W.heap.size) (hr : rf < W.heap.size) : FM W pf rf mb W2 := by
  have a := h.fx
  have b := k.fx
  exact FX.fm ⟨b.os.trans a.os, b.tape.trans a.tape, b.output.trans a.output, Nat.le_trans a.size b.size, fun i hi x y z => (b.block i (Nat.lt_of_lt_of_le hi a.size) x y z).trans (a.block i hi x y z)⟩ hp hr
theorem FM.of_map {W W' : World} {pf rf mb : Nat} (h : W.grownBy W' (some mb)) : FM W pf rf mb W' := ⟨W, QFramesPlays.FrK.of_grown (grown_refl W none), h⟩
theorem blk_fm {B g' pf rf pm mb n : Nat} {sz : Int} {D : DataW Unit} {w0 W W1 : World} {ts : List Bool} {cs : Array Value} {t : TypeId} (hb : W.heap[g']? = some (.cells cs t (0, 0))) (h1 : t ≠ 89) (h2 : t ≠ 4) (hM : Mem B w0 pm mb sz n D W) (hF : Fs B w0 pf rf ts W) (hk : FM W pf rf mb W1) : W1.heap[g']? = some (.cells cs t (0, 0)) := by
  have e1 : g' ≠ pf := by rintro rfl; have := hF.row; rw [hb] at this; injection this with this; injection this with _ a; exact h1 a
  have e2 : g' ≠ rf := by rintro rfl; have := hF.bits; rw [hb] at this; injection this with this; injection this with _ a; exact h2 a
  exact (hk.fx.block g' (blk_lt hb) e1 e2 (hM.nb _ _ _ hb)).trans hb
/-! ### Into, in one memory -/
section
variable {Bo : Nat} {w0o W : World} {qo mo ptt pto : Nat} {szo : Int} {baseo NO s no : Nat} {gradeo : Int} {oso : Nat → Option GE}
theorem o_intoK (bo : TB baseo NO s szo) (ho : TK Bo w0o qo mo pto szo baseo NO s gradeo (no) (oso) W) (xs : List GE) (hx : ∀ g ∈ xs, g.ok ∧ g.s = s) (hle : xs.length ≤ 5000) (hL : Calls Tryz.prog 11 #[.pointer (some ⟨ptt, 0, none⟩)] W fun e W' => ∃ v, e = .returned v ∧ Kd.R k41 41 W' W.heap.size (fun _ => True) v (xs.map geS) ∧ W.grownBy W' none) (hn : no ≤ 500000) :
    Calls Tryz.prog 38 #[.pointer (some ⟨ptt, 0, none⟩), .pointer (some ⟨pto, 0, none⟩)] W fun e W' => e = .returned (.int .i64 (xs.length : Int)) ∧ TK Bo w0o qo mo pto szo baseo NO s gradeo (no + 3 * xs.length) (insL NO s xs oso) W' ∧ W.grownBy W' (some mo) := by
  have hu := Tryz.underlying41
  have HBO := Aside0.mk bo
  have HO := Aside0.mk ho
  have HG := Aside0.mk (grown_refl W (some mo))
  have HXF := Aside0.mk hx
  have HNL := Aside0.mk hn
  have HLC := Aside0.mk hL
  clear ho bo hx hL hn
  go_enter Tryz.func38, Tryz.ntmps38
  go_wp2_with fail
  refine HLC.out.mono ?_
  rintro x0 w1 ⟨v, rfl, hR, hg⟩
  obtain ⟨A1, c1, rfl⟩ := Kd.R_slice hR
  rw [List.length_map] at hR ⊢
  have HL := Aside0.mk hR
  replace HO := Aside0.mk (HO.out.same hg)
  replace HG := Aside0.mk (grown_two HG.out (hg.but _))
  clear hR hg HLC
  go_wp2_with fail
  go_loopw [5, 11] (fun v5 v11 wr => ∃ (i : Nat), v5 = .int .i64 i ∧ v11 = .int .i64 i ∧ i ≤ xs.length ∧ Aside0 (TK Bo w0o qo mo pto szo baseo NO s gradeo (no + 3 * i) (insL NO s (xs.take i) oso) wr) ∧ Aside0 (Kd.R k41 41 wr W.heap.size (fun _ => True) (.slice A1 xs.length c1) (xs.map geS)) ∧ Aside0 (W.grownBy wr (some mo))) (fun _ v11 _ => xs.length - (intOf v11).toNat)
  case atStart => exact ⟨0, rfl, rfl, by omega, ⟨by simpa [insL] using HO.out⟩, HL, HG⟩
  case round =>
    clear HO HL HG
    obtain ⟨i, rfl, rfl, hi, HO, HL, HG⟩ := hrel
    by_cases hix : i < xs.length
    · have hi1 : (i : Int) < (xs.length : Int) := by omega
      have hi0 : (0 : Int) ≤ (i : Int) := by omega
      obtain ⟨ad, hA, hgi⟩ := own_ge HL.out (fun g hg => (HXF.out g hg).1) i hix
      have HKI := Aside0.mk (HXF.out _ (List.getElem_mem hix))
      first | subst hA | cases hA
      generalize hg2 : xs[i] = gi at hgi HKI
      have HXI := Aside0.mk hg2
      clear hg2
      obtain ⟨c0, c1, c2, c3, c4, c5, c6, c7, c8, c9, c10⟩ := hgi
      have hga := World.grownBy_alloc wr (.cells (geA gi) 41) none
      have HB := Aside0.mk (heap_alloc_new wr (.cells (geA gi) 41))
      replace HO := Aside0.mk (HO.out.same hga)
      replace HL := Aside0.mk (Kd.R_grown HL.out hga (by simp))
      replace HG := Aside0.mk (grown_two HG.out (hga.but _))
      clear hga
      obtain ⟨z0, z1, z2, z3, z4, z5, z6, z7, z8, z9, z10⟩ := tte_Read.cz11 HB.out
      go_wp2_with fail
      refine (k_insert HBO.out HO.out gi HKI.out.1 HKI.out.2 (by have := HNL.out; omega)).mono ?_
      rintro x0 w3 ⟨rfl, hM, hg⟩
      replace HL := Aside0.mk (Kd.R_mono (ok' := fun _ => True) (Kd.R_grown (Kd.R_bound HL.out) hg (fun k hk e => by obtain ⟨_, _, _, q, _, cs, hc⟩ := hk; exact HO.out.nb k cs q hc (Option.some.inj e))) (fun _ _ => trivial))
      replace HG := Aside0.mk (grown_two HG.out hg)
      have hi2 : insL NO s (xs.take (i + 1)) oso = setO (insL NO s (xs.take i) oso) (plcOf NO (s : Int) gi.v) (some gi) := by
        rw [List.take_succ_eq_append_getElem hix, insL_snoc, HXI.out]
      rw [← hi2, show no + 3 * i + 3 = no + 3 * (i + 1) by omega] at hM
      replace HO := Aside0.mk hM
      clear hM hg hi2 HB c0 c1 c2 c3 c4 c5 c6 c7 c8 c9 c10 z0 z1 z2 z3 z4 z5 z6 z7 z8 z9 z10
      go_wp2_with fail
      go_roundw
      case rel => exact ⟨i + 1, by go_num, by go_num, by omega, HO, HL, HG⟩
      case measure => simp [intOf]; omega
    · obtain rfl : i = xs.length := by omega
      go_wp2
      go_ret
      have := HO.out
      rw [List.take_length] at this
      exact ⟨rfl, this, HG.out⟩
end
/-- What Drop leaves of words. -/
theorem dropped_words {D E : DataW Unit} (hD : Good D) (hE : Good E) {a fr : Nat} (h : ∀ t, 0 ≤ t → byteAt E t = if ((a * 8192 : Nat) : Int) ≤ t ∧ t - ((a * 8192 : Nat) : Int) < ((fr * 8192 : Nat) : Int) then 0 else byteAt D t) {k : Int} (hk : 0 ≤ k) : rd E k = if (a : Int) * 1024 ≤ k ∧ k < (a + fr : Int) * 1024 then 0 else rd D k := by
  by_cases c : (a : Int) * 1024 ≤ k ∧ k < (a + fr : Int) * 1024
  · rw [if_pos c]
    exact rd_zero hE fun j h0 h1 => by rw [h _ (by omega), if_pos (by omega)]
  · rw [if_neg c]
    exact rd_bytes hE.wf hD.wf fun j h0 h1 => by rw [h _ (by omega), if_neg (by omega)]
theorem HoldsT.eqv {D E : DataW Unit} {base N s : Nat} {ws : Nat → Wd} (h : HoldsT D base N s ws) (hE : Good E) (hr : ∀ k, (base : Int) / 8 ≤ k → rd E k = rd D k) : HoldsT E base N s ws :=
  ⟨⟨hE.clean.1.isMap, fun i hi => by rw [hr _ (by omega), h.holds.tag i hi], fun i hi => by rw [hr _ (by omega), h.holds.data i hi], h.holds.lt, h.holds.size⟩, hE, fun k hk => by rw [hr k (by omega), h.top k hk]⟩
/-- What a Change leaves: the new TSB; the old one's bytes 0, its frames free. -/
def Changed (B : Nat) (w0 W : World) (pm mb pf rf : Nat) (sz : Int) (F fa fb s N : Nat) (g : Int) (os : Nat → Option GE) (pt : Nat) (W' : World) : Prop := ∃ D n, n ≤ 100000 ∧ Mem B w0 pm mb sz n D W' ∧ HoldsT D (fa * 8192) N s (WO os) ∧ (∀ k, 0 ≤ k → k < (fa : Int) * 1024 → rd D k = 0) ∧ W'.heap[pt]? = some (.cells (TCs pm ((fa * 8192 : Nat) : Int) N s g) 119 (0, 0)) ∧ OKO N s os ∧ Fs B w0 pf rf (setN (setN (setN (List.replicate F false) 0 true fa) fa true fb) 0 false fa) W' ∧ FM W pf rf mb W'
theorem change_calls {B : Nat} {w0 W : World} {pm mb n pt F N N2 fa fb : Nat} {pf rf : Nat} {s ga gb : Nat} {os : Nat → Option GE} (hs : s < 4) (hga : ga < 4) (hgb : gb < 4) (hab : ga ≤ gb) (hN : plcs s ga = N) (hN2 : plcs s gb = N2) (hfa : frsW s ga = fa) (hfb : frsW s gb = fb) (hF0 : fa + fb ≤ F) (hF1 : F ≤ 100) (hT : TK B w0 pm mb pt ((F * 8192 : Nat) : Int) 0 N s (ga : Int) n os W) (hF : Fs B w0 pf rf (setN (List.replicate F false) 0 true fa) W) (hn : n ≤ 50000) :
    Calls Tryz.prog 12 #[.pointer (some ⟨pm, 0, none⟩), .pointer (some ⟨pf, 0, none⟩), .pointer (some ⟨pt, 0, none⟩), .int .i64 (s : Int), .int .i64 (gb : Int)] W fun e W' => ∃ pt2, e = .returned (.tuple #[.pointer (some ⟨pt2, 0, none⟩), .int .i64 ((listO N os).length : Int), .int .i64 0]) ∧ Changed B w0 W pm mb pf rf ((F * 8192 : Nat) : Int) F fa fb s N2 (gb : Int) (insL N2 s (listO N os) (fun _ => none)) pt2 W' := by
  have hia := frs_in s ga hs hga
  have hib := frs_in s gb hs hgb
  have hpa := plcs_le s ga hs hga
  have hpb := plcs_le s gb hs hgb
  have hma := plcs_mod s ga hs hga
  have hmb := plcs_mod s gb hs hgb
  rw [hN] at hia hpa hma
  rw [hN2] at hib hpb hmb
  rw [hfa] at hia
  rw [hfb] at hib
  have HTA := Aside0.mk (show TB 0 N s ((F * 8192 : Nat) : Int) from ⟨hs, hpa.1, hpa.2, by decide, by omega, by omega, hma⟩)
  have HTB := Aside0.mk (show TB (fa * 8192) N2 s ((F * 8192 : Nat) : Int) from ⟨hs, hpb.1, hpb.2, by omega, by omega, by omega, hmb⟩)
  have HT := Aside0.mk hT
  have HF := Aside0.mk hF
  obtain ⟨hq1, hq2, _, _⟩ := frames2 (F := F) hia.1 hib.1 hF0
  have HQ2 := Aside0.mk hq2
  have HNN := Aside0.mk (show n ≤ 50000 ∧ N ≤ 4096 ∧ N2 ≤ 4096 ∧ 16 * N ≤ fa * 8192 ∧ fa + fb ≤ F ∧ F ≤ 100 from ⟨hn, hpa.2, hpb.2, hia.2.2.1, hF0, hF1⟩)
  have HLE := Aside0.mk (list_le N os)
  have hmk := fun {W1 : World} {D : DataW Unit} (hM : Mem B w0 pm mb ((F * 8192 : Nat) : Int) n D W1) (hF : Fs B w0 pf rf (setN (List.replicate F false) 0 true fa) W1) => swmakeK_calls (a := fa) hM hF s gb hs hgb (by rw [hfb]; exact hq1) (by omega) (by rw [hN2]; omega) (by omega) (by omega)
  rw [hN2, hfb] at hmk
  have HMK := Aside0.mk @hmk
  have hdr := fun {W1 : World} {m : Nat} {D : DataW Unit} (hM : Mem B w0 pm mb ((F * 8192 : Nat) : Int) m D W1) (hF : Fs B w0 pf rf (setN (setN (List.replicate F false) 0 true fa) fa true fb) W1) (kt : W1.heap[pt]? = some (.cells (TCs pm ((0 * 8192 : Nat) : Int) N s ga) 119 (0, 0))) (hG : Good D) (hs2 : Maps.size D < 900000) => (swdrop_both (a := 0) hM hF s ga hs hga kt (by rw [setN_len, setN_len, hfa]; simp; omega) (by rw [hfa]; exact hq2) (by omega) (by rw [hfa]; omega) (by omega) hG hs2).2
  rw [hfa] at hdr
  have HDR := Aside0.mk @hdr
  clear hmk hdr hq1 hq2 hia hib hpa hpb hma hmb hs hga hgb hab hN hN2 hfa hfb hF0 hF1 hT hF hn
  obtain ⟨D, hM, hD⟩ := HT.out.mem
  have HM := Aside0.mk hM
  have HD := Aside0.mk hD
  clear hM hD
  go_enter_defers Tryz.func12, Tryz.ntmps12
  go_wp2_with fail
  refine (HMK.out HM.out HF.out).mono ?_
  rintro x0 w1 ⟨pt2, rfl, hM1, hF1, hr2, hpt2, hk⟩
  have HR1 := Aside0.mk (blk_fm HT.out.row (by decide) (by decide) HM.out HF.out hk)
  have hS := (clear_holds HTB.out (List.range N2) D HD.out.good.clean.1.isMap (fun x hx => List.mem_range.1 hx)).1
  have HH1 := Aside0.mk (HD.out.holds.out HTA.out hS (by have := HNN.out; omega))
  have HT2 := Aside0.mk (show TK B w0 pm mb pt2 ((F * 8192 : Nat) : Int) (fa * 8192) N2 s (gb : Int) (n + 2 * N2) (fun _ => none) w1 from ⟨⟨_, hM1, clearedT HTB.out HD.out.good (fun k hk => HD.out.top k (by have := HNN.out; omega))⟩, hr2, oko_none _ _⟩)
  have HK := Aside0.mk hk
  have HM1 := Aside0.mk hM1
  have HF1 := Aside0.mk hF1
  have HPL := Aside0.mk (show pf < W.heap.size ∧ rf < W.heap.size from ⟨HF.out.lt, Nat.lt_trans HF.out.rp HF.out.lt⟩)
  clear hM1 hF1 hr2 hpt2 hk hS HM HMK HF
  go_wp2_with fail
  refine (o_intoK HTB.out HT2.out (listO N os) (fun g hg => mem_okO HT.out.ok hg) (by have := HLE.out; have := HNN.out; omega) (o_list HTA.out ⟨⟨_, HM1.out, HH1.out⟩, HR1.out, HT.out.ok⟩) (by have := HNN.out; omega)).mono ?_
  rintro x0 w2 ⟨rfl, hT2, hg⟩
  have HR2 := Aside0.mk ((hg.block _ (blk_lt HR1.out) (fun e => HM1.out.nb _ _ _ HR1.out (Option.some.inj e))).trans HR1.out)
  have HF2 := Aside0.mk (Fs.over HF1.out HM1.out hg)
  replace HK := Aside0.mk (HK.out.two (FM.of_map hg) HPL.out.1 HPL.out.2)
  obtain ⟨D2, hM2, hD2⟩ := hT2.mem
  have HM2 := Aside0.mk hM2
  have HD2 := Aside0.mk hD2
  have HR3 := Aside0.mk hT2.row
  have HO2 := Aside0.mk hT2.ok
  have HSZ := Aside0.mk (show Maps.size D2 ≤ 100000 by have h1 := hM2.size_le; have := HNN.out; have := HLE.out; omega)
  clear hT2 hg hM2 hD2 HT2 HH1 HF1 HR1 HM1 HD HT
  go_wp2
  refine leaves_cons (f := 19) (args := #[.pointer (some ⟨pm, 0, none⟩), .pointer (some ⟨pf, 0, none⟩), .pointer (some ⟨pt, 0, none⟩), .int .i64 (s : Int)]) (by simp) (by simp [go_sem]) ?_
  refine (HDR.out HM2.out HF2.out HR2.out HD2.out.good (by have := HSZ.out; omega)).mono ?_
  rintro e u w3 ⟨rfl, rfl, D3, hM3, hG3, hs3, hb3, hF3, hk3⟩
  have hw := fun (k : Int) (hk : 0 ≤ k) => dropped_words HD2.out.good hG3 (a := 0) hb3 hk
  refine ⟨.tuple #[.pointer (some ⟨pt2, 0, none⟩), .int .i64 ((listO N os).length : Int), .int .i64 0], by simp [results, Tryz.f12], pt2, rfl, D3, Maps.size D3, by have := HSZ.out; omega, hM3, HD2.out.eqv hG3 (fun k hk => ?_), fun k h0 h1 => ?_, blk_fm HR3.out (by decide) (by decide) HM2.out HF2.out hk3, HO2.out, hF3, HK.out.two hk3 HPL.out.1 HPL.out.2⟩
  · rw [hw k (by omega), if_neg (by omega)]
  · rw [hw k h0, if_pos (by omega)]
end
end Go.Proofs.YtjnffegjpkbjmaaGreat.Mem
