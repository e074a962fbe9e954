/- MemoryApart: two memories do not hang together; at whatever numbers. -/
import Derived.Test.YtlndljgoliepdaaMemG
import Derived.Test.YtlndljgoliepdaaMemF
import Derived.Test.YtlndljgoliepdaaMemF2
import Derived.Test.YtlndljgoliepdaaMemF7
import Derived.Deep.Slices
import Derived.DataElems
import Derived.DataReads
import Derived.WalkKit
import Derived.ProofKit
import Derived.OpenShut
import Derived.ShutString
import Derived.ChangeOld
namespace Go.Proofs.Ytlndljgoliepdaa.Mem
open Go.ChangeShapes Go.WideShapes Go.ChangeAt Go.Deep Go.RowKit Go.Maps Go.Proofs.YtlndljgoliepdaaW.PrintWords Go.Proofs.YtlndljgoliepdaaW.PrintLast Go.Proofs.YtlndljgoliepdaaW.PrintMore Go.Proofs.Ytlndljgoliepdaa.QMemoryApart
set_option linter.unusedSimpArgs false
set_option linter.unusedVariables false
section
set_option maxHeartbeats 2000000
set_option maxRecDepth 100000
set_option maxRecDepth 100000 in
theorem deed4_open {H : Type} {enc : TypeId × Value → H} {w : World} {base : Nat} {spare : Nat → Bool} {held : Bool} {n : Nat} {cs : List Value} {x : DataW H × List MemPlace} (h : DataW.trod enc Try.prog w base spare held n 52 cs = some x) :
    ∃ (kd at_ a b : Int), cs = [.int .i64 kd, .int .u64 at_, .int .u64 a, .int .u64 b] ∧ (Lit.int .u64 at_).wf = true ∧ (Lit.int .u64 a).wf = true ∧ (Lit.int .u64 b).wf = true := by
  obtain ⟨xs, m, _, _, hl, hlen, hg⟩ := DataW.trod_struct Try.underlying52 h
  rw [show Try.prog.cellsOf 52 = 4 from by kernel_rfl] at hl
  match cs, hl with
  | [c0, c1, c2, c3], _ =>
    have g0 := hg 0 _ rfl
    replace g0 : DataW.trod enc Try.prog w base spare held m 3 ((([c0, c1, c2, c3] : List Value).drop 0).take (Try.prog.cellsOf 3)) = xs[0]? := g0
    obtain ⟨y0, hy0⟩ : ∃ y, xs[0]? = some y := ⟨_, List.getElem?_eq_getElem (by rw [hlen]; decide)⟩
    rw [hy0, show Try.prog.cellsOf 3 = 1 from by kernel_rfl] at g0
    replace g0 : DataW.trod enc Try.prog w base spare held m 3 [c0] = some y0 := g0
    have g1 := hg 1 _ rfl
    replace g1 : DataW.trod enc Try.prog w base spare held m 22 ((([c0, c1, c2, c3] : List Value).drop 1).take (Try.prog.cellsOf 22)) = xs[1]? := g1
    obtain ⟨y1, hy1⟩ : ∃ y, xs[1]? = some y := ⟨_, List.getElem?_eq_getElem (by rw [hlen]; decide)⟩
    rw [hy1, show Try.prog.cellsOf 22 = 1 from by kernel_rfl] at g1
    replace g1 : DataW.trod enc Try.prog w base spare held m 22 [c1] = some y1 := g1
    have g2 := hg 2 _ rfl
    replace g2 : DataW.trod enc Try.prog w base spare held m 22 ((([c0, c1, c2, c3] : List Value).drop 2).take (Try.prog.cellsOf 22)) = xs[2]? := g2
    obtain ⟨y2, hy2⟩ : ∃ y, xs[2]? = some y := ⟨_, List.getElem?_eq_getElem (by rw [hlen]; decide)⟩
    rw [hy2, show Try.prog.cellsOf 22 = 1 from by kernel_rfl] at g2
    replace g2 : DataW.trod enc Try.prog w base spare held m 22 [c2] = some y2 := g2
    have g3 := hg 3 _ rfl
    replace g3 : DataW.trod enc Try.prog w base spare held m 22 ((([c0, c1, c2, c3] : List Value).drop 3).take (Try.prog.cellsOf 22)) = xs[3]? := g3
    obtain ⟨y3, hy3⟩ : ∃ y, xs[3]? = some y := ⟨_, List.getElem?_eq_getElem (by rw [hlen]; decide)⟩
    rw [hy3, show Try.prog.cellsOf 22 = 1 from by kernel_rfl] at g3
    replace g3 : DataW.trod enc Try.prog w base spare held m 22 [c3] = some y3 := g3
    obtain ⟨b0, e0, _, w0⟩ := DataW.trod_int Try.underlying3 g0
    simp only [List.cons.injEq, and_true] at e0
    obtain rfl := e0
    obtain ⟨b1, e1, _, w1⟩ := DataW.trod_int Try.underlying22 g1
    simp only [List.cons.injEq, and_true] at e1
    obtain rfl := e1
    obtain ⟨b2, e2, _, w2⟩ := DataW.trod_int Try.underlying22 g2
    simp only [List.cons.injEq, and_true] at e2
    obtain rfl := e2
    obtain ⟨b3, e3, _, w3⟩ := DataW.trod_int Try.underlying22 g3
    simp only [List.cons.injEq, and_true] at e3
    obtain rfl := e3
    exact ⟨b0, b1, b2, b3, rfl, w1, w2, w3⟩
structure DeedM (w : World) (y : Addr) (kd at_ a b : Int) : Prop where
  ha : (Lit.int .u64 at_).wf = true
  hb : (Lit.int .u64 a).wf = true
  hc : (Lit.int .u64 b).wf = true
  c0 : w.cell? (y) = some (.int .i64 kd)
  c1 : w.cell? ⟨(y).block, (y).off + 1, none⟩ = some (.int .u64 at_)
  c2 : w.cell? ⟨(y).block, (y).off + 2, none⟩ = some (.int .u64 a)
  c3 : w.cell? ⟨(y).block, (y).off + 3, none⟩ = some (.int .u64 b)
theorem cell_lt {w : World} {a : Addr} {v : Value} (h : w.cell? a = some v) : a.block < w.heap.size := by
  unfold World.cell? at h
  split at h
  · rename_i hb
    exact blk_lt hb
  · cases h
theorem cell_grown {W W' : World} {a : Addr} {v : Value} (h : W.cell? a = some v) (hg : W.grownBy W' none) : W'.cell? a = some v := (World.cell?_of_block (w := W) (hg.block a.block (cell_lt h) (by simp))).trans h
theorem DeedM.grown {w w' : World} {y : Addr} {kd at_ a b : Int} (h : DeedM w y kd at_ a b) (hg : w.grownBy w' none) : DeedM w' y kd at_ a b := ⟨h.ha, h.hb, h.hc, cell_grown h.c0 hg, cell_grown h.c1 hg, cell_grown h.c2 hg, cell_grown h.c3 hg⟩
def DeedsM (w : World) (a : Option Addr) (len : Nat) : Prop := (a = none ∧ len = 0) ∨ ∃ x, a = some x ∧ ∀ j, j < len → ∃ kd at_ a b, DeedM w (x.add (j * 4)) kd at_ a b
theorem DeedsM.at {w : World} {a : Option Addr} {len : Nat} (h : DeedsM w a len) (j : Nat) (hj : j < len) : ∃ x kd at_ b c, a = some x ∧ DeedM w (x.add (j * 4)) kd at_ b c := by
  rcases h with ⟨_, e⟩ | ⟨x, rfl, h⟩
  · omega
  · obtain ⟨kd, at_, b, c, he⟩ := h j hj
    exact ⟨x, kd, at_, b, c, rfl, he⟩
theorem deedsM_open {H : Type} {enc : TypeId × Value → H} {w : World} {base : Nat} {spare : Nat → Bool} {held : Bool} {n : Nat} {a : Option Addr} {len cap : Nat} {x : DataW H × List MemPlace} (h : DataW.trod enc Try.prog w base spare held n 48 [.slice a len cap] = some x) : DeedsM w a len ∧ len ≤ maxLen := by
  rcases open_slice Try.underlying48 h with ⟨hcs, _⟩ | ⟨y, l, c, m, n', D, Pl, hcs, _, hl, hm, hmm, _, hx⟩
  · obtain ⟨rfl, rfl, rfl⟩ : a = none ∧ len = 0 ∧ cap = 0 := by simpa using hcs
    exact ⟨.inl ⟨rfl, rfl⟩, Nat.zero_le _⟩
  · obtain ⟨rfl, rfl, rfl⟩ : a = some y ∧ len = l ∧ cap = c := by simpa using hcs
    refine ⟨.inr ⟨y, rfl, fun j hj => ?_⟩, Nat.le_trans hl hm⟩
    obtain ⟨cs', hc, ht⟩ := hx j (by rw [hmm]; split <;> omega)
    rw [show Try.prog.cellsOf 52 = 4 from by kernel_rfl] at hc
    obtain ⟨kd, at_, a, b, he, h1, h2, h3⟩ := deed4_open ht
    subst he
    obtain ⟨_, _, hg⟩ := World.cells?_some hc
    have g0 := hg 0 (by omega)
    rw [Addr.add_add] at g0
    have g1 := hg 1 (by omega)
    rw [Addr.add_add, add_field _ _ 1 (by omega)] at g1
    have g2 := hg 2 (by omega)
    rw [Addr.add_add, add_field _ _ 2 (by omega)] at g2
    have g3 := hg 3 (by omega)
    rw [Addr.add_add, add_field _ _ 3 (by omega)] at g3
    exact ⟨kd, at_, a, b, h1, h2, h3, g0, g1, g2, g3⟩
theorem did_any {B w0 p mb n D W} (h : Mem B w0 p mb 1000 n D W) (hG : Good D) (hI : ∀ t, 1000 ≤ t → byteAt D t = 0) {l : List Bt} (hR : RefL 1000 (byteAt D) l) (hl : l.length ≤ 100000000) (A : Option Addr) (c : Nat) (hv : Kd.V k106 106 W 0 (fun k => k ≠ mb) (.slice A l.length c) l) (at_ a b : Int) (hat : (Lit.int .u64 at_).wf = true) (ha : (Lit.int .u64 a).wf = true) (hb : (Lit.int .u64 b).wf = true) (kd : Int) :
    Calls Try.prog 26 #[.pointer (some ⟨p, 0, none⟩), .agg #[.int .u64 1000, .slice A l.length c], .agg #[.int .i64 kd, .int .u64 at_, .int .u64 a, .int .u64 b]] W (DidM B w0 p mb l.length W) := by
  by_cases k0 : kd = 0
  · subst k0; exact did_0 h hG hI hR hl A c hv at_ a b hat ha hb
  by_cases k1 : kd = 1
  · subst k1; exact did_1 h hG hI hR hl A c hv at_ a b hat ha hb
  by_cases k2 : kd = 2
  · subst k2
    by_cases hf : mayOf 1000 at_ 16 16 = 0
    · exact did_2a h hG hI hR hl A c hv at_ a b hat ha hb hf
    · exact did_2b h hG hI hR hl A c hv at_ a b hat ha hb hf
  by_cases k6 : kd = 6
  · subst k6; exact did_6 h hG hI hR hl A c hv at_ a b hat ha hb
  by_cases k7 : kd = 7
  · subst k7
    by_cases hf : mayOf 1000 at_ b 1 = 0
    · by_cases hf2 : mayOf 1000 a b 1 = 0
      · exact did_7a h hG hI hR hl A c hv at_ a b hat ha hb hf hf2
      · exact did_7b h hG hI hR hl A c hv at_ a b hat ha hb hf hf2
    · exact did_7c h hG hI hR hl A c hv at_ a b hat ha hb hf
  exact did_n h hG hI hR hl A c hv at_ a b hat ha hb kd k0 k1 k2 k6 k7
theorem cell_in {W : World} {a : Addr} {v : Value} {cs : Array Value} {t : TypeId} (h : W.heap[a.block]? = some (.cells cs t (0, 0))) (hc : W.cell? a = some v) : cs[a.off]? = some v := by
  unfold World.cell? at hc
  rw [h] at hc
  simp only at hc
  split at hc
  · cases hc
  · exact hc
/-- A list of bytes is not the box that leads to it: the box's second cell is no number. -/
theorem V_apart {W : World} {mb z : Nat} {l : List Bt} {A : Option Addr} {c : Nat} (hv : Kd.V k106 106 W 0 (fun k => k ≠ mb) (.slice A l.length c) l) {x : Int} {a1 : Option Addr} {n1 c1 : Nat} {t : TypeId} (hz : W.heap[z]? = some (.cells #[.int .u64 x, .slice a1 n1 c1] t (0, 0))) : Kd.V k106 106 W 0 (fun k => k ≠ mb ∧ k ≠ z) (.slice A l.length c) l := by
  obtain ⟨_, hl, hF⟩ := Kd.V_at hv
  have hC := Kd.F_now hF
  refine Kd.V_mk hl (fun W' hW => ⟨hC.1, hC.2.1, fun hn => ?_⟩)
  obtain ⟨ad, e, hc⟩ := hC.2.2 hn
  have hne := Kd.F_in hF e hn (by decide)
  have hnz : ad.block ≠ z := by
    intro ez
    obtain ⟨ad', e', g0, g1⟩ := at_T106 hC 0 (by omega) (by omega)
    rw [e] at e'
    obtain rfl := Option.some.inj e'
    have g0' := cell_in (a := ad) (by rw [ez]; exact hz) g0
    have g1' := cell_in (a := ⟨ad.block, ad.off + 1, none⟩) (by show W.heap[ad.block]? = _; rw [ez]; exact hz) g1
    revert g0' g1'
    show (#[Value.int .u64 x, .slice a1 n1 c1] : Array Value)[ad.off]? = _ → (#[Value.int .u64 x, .slice a1 n1 c1] : Array Value)[ad.off + 1]? = _ → False
    generalize ad.off = q
    intro g0 g1
    match q with
    | 0 => simp at g1
    | 1 => simp at g0
    | q + 2 => simp at g0
  refine ⟨ad, e, fun j p hj => ?_⟩
  obtain ⟨c0, hs, hk, h0⟩ := hc j p hj
  obtain rfl := k106_open hk
  refine ⟨_, hs, k106_mk W' p, fun i u hu => ?_⟩
  rw [← h0 i u hu]
  have hb : (ad.add (j * (k106).sz + i)).block = ad.block := by unfold Addr.add; split <;> rfl
  have hlt : ad.block < W.heap.size := by rw [← hb]; exact cell_lt (h0 i u hu)
  exact World.cell?_of_block (w := W) (by rw [hb]; exact hW ad.block ⟨hne, hnz⟩ hlt)
theorem byte_empty (t : Int) : byteAt (.map []) t = 0 := by
  unfold byteAt
  rw [show rd (.map []) (t / 8) = 0 from rfl, Int.zero_ediv]
  rfl
theorem refL_empty : RefL 1000 (byteAt (.map [])) [] := ⟨List.Pairwise.nil, by simp, fun a _ _ => (byte_empty a).symm⟩
theorem Mem.put {B w0 p mb n D W W' h} (hM : Mem B w0 p mb 1000 n D W) (hg : W.grownBy W' (some h)) (hn : mb ≠ h ∧ p ≠ h ∧ B ≤ h) : Mem B w0 p mb 1000 n D W' := hM.kept hg (fun e => hn.1 (Option.some.inj e)) (fun e => hn.2.1 (Option.some.inj e)) (fun k e => by cases e; exact hn.2.2)
noncomputable def apart9_T : Bool × List (List Nat × List Nat) := rtab .any (opsOf Try.f7 9)
theorem apart9_tab : rtab .any (opsOf Try.f7 9) = apart9_T := rfl
theorem DeedM.mb {W W' : World} {y : Addr} {kd at_ a b : Int} {mb n : Nat} {D : DataW Unit} (h : DeedM W y kd at_ a b) (ho : W.ownsMap Try.prog 22 (plainElem Try.prog 22) mb n D) (hg : W.grownBy W' (some mb)) : DeedM W' y kd at_ a b := by
  obtain ⟨es, clock, hb, _⟩ := ho
  have hc : ∀ {q : Addr} {v : Value}, W.cell? q = some v → W'.cell? q = some v := fun {q v} hq => (World.cell?_of_block (w := W) (hg.block q.block (cell_lt hq) (fun e => by
    have e := Option.some.inj e
    unfold World.cell? at hq
    rw [e, hb] at hq
    cases hq))).trans hq
  exact ⟨h.ha, h.hb, h.hc, hc h.c0, hc h.c1, hc h.c2, hc h.c3⟩
theorem apart_walk (a : Option Addr) (len cap : Nat) (pl : Int) (W : World) (hl : DeedsM W a len ∧ len ≤ maxLen) (hpl : (Lit.int .u64 pl).wf = true) :
    Calls Try.prog 7 #[.slice a len cap, .int .u64 pl] W fun x W' => x = .returned (.bool true) ∧ Below W.heap.size W W' := by
  have hu := Try.underlying43
  have hu2 := Try.underlying52
  have hu3 := Try.underlying48
  have HDS := Aside0.mk hl.1
  have hlm : len ≤ 9223372036854775807 := hl.2
  have hp0 := (u64_b hpl).1
  have HPL := Aside0.mk hpl
  have HWP := Aside0.mk (show (Lit.int .u64 (pl % 100 * 8)).wf = true from WalkArith.wf_u64 (by omega))
  have HMY := Aside0.mk (show mayOf 1000 (pl % 100 * 8) 8 8 = 0 by unfold mayOf; rw [if_neg (by omega), if_neg (by omega)])
  clear hl hpl
  go_enter Try.func7, Try.ntmps7
  go_wp2_with fail
  refine (new_calls (Below.refl W.heap.size W) (Nat.le_refl _) 1000 (by decide) (by decide)).mono ?_
  rintro x0 w1 ⟨p, mb, rfl, hM, hg, -, -⟩
  have HM := Aside0.mk hM
  clear hM hg
  go_wp2_with fail
  refine (new_calls HM.out.below HM.out.hB 1000 (by decide) (by decide)).mono ?_
  rintro x0 w2 ⟨p2, mb2, rfl, hM, hg, hmb, hp⟩
  have HNE := Aside0.mk (show mb2 ≠ mb ∧ p2 ≠ mb from ⟨by have := HM.out.own.lt; omega, by have := HM.out.own.lt; omega⟩)
  replace HM := Aside0.mk (HM.out.same hg).tight
  have HM2 := Aside0.mk hM
  clear hM hg hmb hp
  go_wp2_with fail
  refine (refNew_calls 1000 _ (by decide) (by decide)).mono ?_
  rintro x0 w3 ⟨rfl, hg⟩
  replace HM := Aside0.mk (HM.out.same hg)
  replace HM2 := Aside0.mk (HM2.out.same hg)
  clear hg
  go_wp2_with (first | ((with_reducible refine gate_dst (N := 7) rfl ?_); refine box_event ?hg (N := 7) ?hd (cs := #[.int .u64 0, .slice none 0 0]) (t := 43) ?hr ?_; (case hd => rfl); (case hg => rfl); (case hr => first | (go_simp; done) | (go_simp; rfl)); intro h7 hgb w4 hbox hb; have HB := Aside0.mk hbox; have GHB := Aside0.mk (below_grown hb); have LHB := Aside0.mk (Nat.le_of_eq hgb.symm); clear hgb hbox hb) | ((with_reducible refine gate_store (t := 43) (p := 7) rfl ?_); refine wpList_store_row rfl 43 (.tmp 7) (.tmp 21) rfl h7 #[.int .u64 1000, .slice none 0 0] rfl rfl 43 _ HB.out (by kernel_rfl) rfl (by kernel_rfl) ?_; have SHB := Aside0.mk (setRow_heap _ h7 _ #[.int .u64 1000, .slice none 0 0] _ _ HB.out); have THB := Aside0.mk (grown_row w4 h7 #[.int .u64 1000, .slice none 0 0])) | go_in)
  have HN7 := Aside0.mk (show (mb ≠ h7 ∧ p ≠ h7 ∧ W.heap.size ≤ h7) ∧ (mb2 ≠ h7 ∧ p2 ≠ h7 ∧ W.heap.size ≤ h7) from ⟨⟨by have := HM.out.own.lt; have := LHB.out; omega, by have := HM.out.lt; have := LHB.out; omega, by have := HM.out.hB; have := LHB.out; omega⟩, ⟨by have := HM2.out.own.lt; have := LHB.out; omega, by have := HM2.out.lt; have := LHB.out; omega, by have := HM2.out.hB; have := LHB.out; omega⟩⟩)
  have HT := Aside0.mk (grown_row w4 h7 #[.int .u64 1000, .slice none 0 0])
  replace HM := Aside0.mk ((HM.out.same GHB.out).put HT.out HN7.out.1)
  replace HM2 := Aside0.mk ((HM2.out.same GHB.out).put HT.out HN7.out.2)
  have HB7 := Aside0.mk SHB.out
  generalize World.setRow w4 h7 #[.int .u64 1000, .slice none 0 0] = w5 at HM HM2 HB7 ⊢
  clear SHB THB HT HB LHB GHB
  go_loopw [8] (fun v8 wr => ∃ (k : Nat) (l : List Bt) (A : Option Addr) (c : Nat) (D : DataW Unit), v8 = .int .i64 k ∧ k ≤ len ∧ k ≤ 20 ∧ Aside0 (l.length + 16 ≤ 16 * 2 ^ k) ∧ Aside0 (wr.heap[h7]? = some (.cells #[.int .u64 1000, .slice A l.length c] 43 (0, 0))) ∧ Aside0 (Mem W.heap.size W p mb 1000 (Maps.size D) D wr) ∧ Aside0 (Mem W.heap.size W p2 mb2 1000 0 (.map []) wr) ∧ Aside0 (Good D) ∧ Aside0 (∀ t, 1000 ≤ t → byteAt D t = 0) ∧ Aside0 (RefL 1000 (byteAt D) l) ∧ Aside0 (Kd.V k106 106 wr 0 (fun k => k ≠ mb) (.slice A l.length c) l)) (fun v8 _ => 20 - (intOf v8).toNat)
  case atStart => exact ⟨0, [], none, 0, .map [], rfl, by omega, by omega, ⟨by simp⟩, HB7, HM, HM2, ⟨good_empty⟩, ⟨fun t _ => byte_empty t⟩, ⟨refL_empty⟩, ⟨Kd.V_nil _ _ _ _ _⟩⟩
  case round =>
    clear HM HM2 HB7
    obtain ⟨k, l, A, c, D, rfl, hk, hk20, HLK, HB7, HM, HM2, HGD, HI, HR, HV⟩ := hrel
    by_cases h12 : k < len ∧ k < 20
    · have h1 := h12.1
      have h1' : (k : Int) < (len : Int) := by omega
      have h2' : (k : Int) < 20 := by omega
      have h0' : (0 : Int) ≤ (k : Int) := by omega
      have HL1 := Aside0.mk (show l.length ≤ 100000000 by have := HLK.out; have := Nat.pow_le_pow_right (show 0 < 2 by decide) hk20; omega)
      obtain ⟨y, kd, at_, da, db, rfl, hd⟩ := HDS.out.at k h1
      have HWF := Aside0.mk (And.intro hd.ha (And.intro hd.hb hd.hc))
      have hd1 := hd.grown (below_grown HM.out.below)
      clear hd
      go_wp2_with fail
      have hg := grown_drew wr none
      replace HB7 := Aside0.mk (blk_grown HB7.out hg)
      replace HM := Aside0.mk (HM.out.same hg)
      replace HM2 := Aside0.mk (HM2.out.same hg)
      replace HV := Aside0.mk (Kd.V_grown HV.out hg (by simp))
      have HDM := Aside0.mk (hd1.grown hg)
      clear hg hd1
      refine start_ (n := 13) (S := fun w' => w'.heap[h7]? = some (.cells #[.int .u64 1000, .slice A l.length c] 43 (0, 0)) ∧ DeedM w' (y.add (k * 4)) kd at_ da db) (ds := [11]) #[false, false, false, false, false, false, false, false, false, false, false, false, false] (by kernel_rfl) rfl rfl ⟨HB7.out, HDM.out⟩ (fun hHeld => ?_)
      refine with_tab apart9_tab (fun HT_ => ?_)
      refine pure_ (i := 0) (N := some 33) (v := ?_) (a' := ?_) #[true, false, false, false, false, false, false, false, false, false, false, false, false] rfl rfl (any_of HT_.out (by kernel_rfl)) (fun _ _ _ h => h) (Or.inl ⟨by rfl, ?_⟩) ?_ ?_
      rotate_left
      · intro w'
        go_simp
        with_reducible rfl
      rotate_left
      · simp only [Act.put, List.setIfInBounds_toArray, List.set_cons_zero, List.set_cons_succ, i64_w, i32_w]
        rfl
      refine pure_ (i := 2) (N := some 35) (v := ?_) (a' := ?_) #[true, false, true, false, false, false, false, false, false, false, false, false, false] rfl rfl (any_of HT_.out (by kernel_rfl)) (fun _ _ _ h => h) (Or.inl ⟨by rfl, ?_⟩) ?_ ?_
      rotate_left
      · intro w'
        go_simp
        with_reducible rfl
      rotate_left
      · simp only [Act.put, List.setIfInBounds_toArray, List.set_cons_zero, List.set_cons_succ, i64_w, i32_w]
        rfl
      refine pure_ (i := 3) (N := some 36) (v := ?_) (a' := ?_) #[true, false, true, true, false, false, false, false, false, false, false, false, false] rfl rfl (any_of HT_.out (by kernel_rfl)) (fun _ _ _ h => h) (Or.inl ⟨by rfl, ?_⟩) ?_ ?_
      rotate_left
      · intro w'
        go_simp
        with_reducible rfl
      rotate_left
      · simp only [Act.put, List.setIfInBounds_toArray, List.set_cons_zero, List.set_cons_succ, i64_w, i32_w]
        rfl
      refine pure_ (i := 4) (N := some 37) (v := .pointer (some (y.add (k * 4)))) (a' := ?_) #[true, false, true, true, true, false, false, false, false, false, false, false, false] rfl rfl (any_of HT_.out (by kernel_rfl)) (fun _ _ _ h => h) (Or.inl ⟨by rfl, ?_⟩) ?_ ?_
      · intro w'
        go_simp
      rotate_left
      · simp only [Act.put, List.setIfInBounds_toArray, List.set_cons_zero, List.set_cons_succ, i64_w, i32_w]
        rfl
      refine take_ (i := 1) (N := some 34) (v := .agg #[.int .u64 1000, .slice A l.length c]) (a' := ?_) #[true, true, true, true, true, false, false, false, false, false, false, false, false] rfl rfl (take_of HT_.out (by kernel_rfl)) (fun _ _ _ h => h) (Or.inl ⟨by rfl, ?_⟩) hHeld ?_ ?_
      · rintro w' ⟨s1, s2⟩
        obtain ⟨q0, q1⟩ := cz2 s1
        go_simp
      rotate_left
      · simp only [Act.put, List.setIfInBounds_toArray, List.set_cons_zero, List.set_cons_succ, i64_w, i32_w]
        rfl
      refine take_ (i := 5) (N := some 38) (v := .agg #[.int .i64 kd, .int .u64 at_, .int .u64 da, .int .u64 db]) (a' := ?_) #[true, true, true, true, true, true, false, false, false, false, false, false, false] rfl rfl (take_of HT_.out (by kernel_rfl)) (fun _ _ _ h => h) (Or.inl ⟨by rfl, ?_⟩) hHeld ?_ ?_
      · rintro w' ⟨s1, s2⟩
        obtain ⟨_, _, _, y0, y1, y2, y3⟩ := s2
        go_simp
      rotate_left
      · simp only [Act.put, List.setIfInBounds_toArray, List.set_cons_zero, List.set_cons_succ, i64_w, i32_w]
        rfl
      refine two_ (i := 6) (j := 10) (Ni := some 39) (Nj := some 9) #[true, true, true, true, true, true, true, false, false, false, false, false, false] #[true, true, true, true, true, true, false, false, false, false, true, false, false] rfl rfl rfl rfl (two_of HT_.out (by kernel_rfl)) (by decide) (by decide) (fun K hK => ?_) (fun K hK => ?_)
      · refine goes_ Try.func26 (by kernel_rfl) rfl #[.pointer (some ⟨p, 0, none⟩), .agg #[.int .u64 1000, .slice A l.length c], .agg #[.int .i64 kd, .int .u64 at_, .int .u64 da, .int .u64 db]] (by rfl) rfl rfl (by (try simp only [List.map_toArray, List.map_cons, List.map_nil]); first | done | rfl) ?_
        refine (did_any HM.out HGD.out HI.out HR.out HL1.out A c HV.out at_ da db HWF.out.1 HWF.out.2.1 HWF.out.2.2 kd).mono ?_
        rintro x0 wn ⟨v2, l2, D2, rfl, hM, hG2, hI2, hR2, hl2, hV2, hg⟩
        obtain ⟨A2, c2, rfl⟩ := Kd.V_slice hV2
        have hs : wn.heap[h7]? = some (.cells #[.int .u64 1000, .slice A l.length c] 43 (0, 0)) ∧ DeedM wn (y.add (k * 4)) kd at_ da db := ⟨(hg.block h7 (blk_lt hHeld.1) (fun e => HM.out.nb _ _ _ hHeld.1 (Option.some.inj e))).trans hHeld.1, hHeld.2.mb HM.out.own hg⟩
        replace HM2 := Aside0.mk (HM2.out.put hg ⟨HNE.out.1, HNE.out.2, HM.out.hm⟩)
        replace HM := Aside0.mk hM
        have HG2 := Aside0.mk hG2
        have HI2 := Aside0.mk hI2
        have HR2 := Aside0.mk hR2
        have HL2 := Aside0.mk hl2
        replace HV := Aside0.mk hV2
        clear hM hG2 hI2 hR2 hl2 hV2 hg
        refine ⟨_, rfl, ?_⟩
        refine hK.out _ _ hs (fun hHeld => ?_)
        clear hK K
        refine norm_ (a' := ?_) ?_ ?_
        rotate_left
        · show Act.put _ (some 39) _ = _
          simp only [Act.put, List.setIfInBounds_toArray, List.set_cons_zero, List.set_cons_succ, i64_w, i32_w]
          rfl
        refine pure_ (i := 7) (N := some 32) (v := ?_) (a' := ?_) #[true, true, true, true, true, true, true, true, false, false, false, false, false] rfl rfl (any_of HT_.out (by kernel_rfl)) (fun _ _ _ h => h) (Or.inl ⟨by rfl, ?_⟩) ?_ ?_
        rotate_left
        · intro w'
          go_simp
          with_reducible rfl
        rotate_left
        · simp only [Act.put, List.setIfInBounds_toArray, List.set_cons_zero, List.set_cons_succ, i64_w, i32_w]
          rfl
        refine pure_ (i := 8) (N := some 40) (v := ?_) (a' := ?_) #[true, true, true, true, true, true, true, true, true, false, false, false, false] rfl rfl (any_of HT_.out (by kernel_rfl)) (fun _ _ _ h => h) (Or.inl ⟨by rfl, ?_⟩) ?_ ?_
        rotate_left
        · intro w'
          go_simp
          with_reducible rfl
        rotate_left
        · simp only [Act.put, List.setIfInBounds_toArray, List.set_cons_zero, List.set_cons_succ, i64_w, i32_w]
          rfl
        refine pure_ (i := 9) (N := some 41) (v := ?_) (a' := ?_) #[true, true, true, true, true, true, true, true, true, true, false, false, false] rfl rfl (any_of HT_.out (by kernel_rfl)) (fun _ _ _ h => h) (Or.inl ⟨by rfl, ?_⟩) ?_ ?_
        rotate_left
        · intro w'
          go_simp
          with_reducible rfl
        rotate_left
        · simp only [Act.put, List.setIfInBounds_toArray, List.set_cons_zero, List.set_cons_succ, i64_w, i32_w]
          rfl
        refine one_ (i := 10) (N := some 9) #[true, true, true, true, true, true, true, true, true, true, true, false, false] rfl rfl (one_of HT_.out (by kernel_rfl)) (by decide) (fun K hK => ?_)
        refine box_step ?hg (N := 9) ?hd (cs := #[.int .u64 0, .slice none 0 0]) (t := 43) ?hr ?_; (case hd => rfl); (case hg => rfl); (case hr => first | (go_simp; done) | (go_simp; rfl))
        intro h9 hg9 wn hbox hb
        have HB9 := Aside0.mk hbox
        have HN9 := Aside0.mk (show (mb ≠ h9 ∧ p ≠ h9 ∧ W.heap.size ≤ h9) ∧ (mb2 ≠ h9 ∧ p2 ≠ h9 ∧ W.heap.size ≤ h9) ∧ h7 ≠ h9 from ⟨⟨by have := HM.out.own.lt; omega, by have := HM.out.lt; omega, by have := HM.out.hB; omega⟩, ⟨by have := HM2.out.own.lt; omega, by have := HM2.out.lt; omega, by have := HM2.out.hB; omega⟩, by have := blk_lt hHeld.1; omega⟩)
        have hg := below_grown hb
        replace HM := Aside0.mk (HM.out.same hg)
        replace HM2 := Aside0.mk (HM2.out.same hg)
        replace HV := Aside0.mk (Kd.V_grown HV.out hg (by simp))
        have hs : wn.heap[h7]? = some (.cells #[.int .u64 1000, .slice A l.length c] 43 (0, 0)) ∧ DeedM wn (y.add (k * 4)) kd at_ da db := ⟨blk_grown hHeld.1 hg, hHeld.2.grown hg⟩
        clear hg hg9 hbox hb
        refine hK.out _ _ hs (fun hHeld => ?_)
        clear hK K
        refine norm_ (a' := ?_) ?_ ?_
        rotate_left
        · show Act.put _ (some 9) _ = _
          simp only [Act.put, List.setIfInBounds_toArray, List.set_cons_zero, List.set_cons_succ, i64_w, i32_w]
          rfl
        refine last_ (i := 11) (N := none) #[true, true, true, true, true, true, true, true, true, true, true, true, false] rfl rfl (one_of HT_.out (by kernel_rfl)) (by decide) (fun K hK => ?_)
        rw [if_pos (by rfl)]
        refine wp_store_row 43 (.tmp 9) (.tmp 40) rfl h9 #[.int .u64 1000, .slice A2 l2.length c2] rfl rfl 43 #[.int .u64 0, .slice none 0 0] HB9.out (by kernel_rfl) rfl (by kernel_rfl) ?_
        have hb2 := setRow_heap wn h9 _ #[.int .u64 1000, .slice A2 l2.length c2] _ _ HB9.out
        have hgr := grown_row wn h9 #[.int .u64 1000, .slice A2 l2.length c2]
        generalize World.setRow wn h9 #[.int .u64 1000, .slice A2 l2.length c2] = ws at hb2 hgr ⊢
        replace HB7 := Aside0.mk ((hgr.block h7 (blk_lt hHeld.1) (fun e => HN9.out.2.2 (Option.some.inj e))).trans hHeld.1)
        replace HM := Aside0.mk (HM.out.put hgr HN9.out.1)
        replace HM2 := Aside0.mk (HM2.out.put hgr HN9.out.2.1)
        replace HV := Aside0.mk (Kd.V_mono (ok' := fun k => k ≠ mb) (Kd.V_grown (V_apart HV.out HB9.out) hgr (fun k hk e => hk.2 (Option.some.inj e))) (fun k hk => hk.1))
        replace HB9 := Aside0.mk hb2
        clear hb2 hgr
        refine hK.out _ _ ?_
        clear hK K
        refine pure_ (i := 12) (N := some 10) (v := ?_) (a' := ?_) #[true, true, true, true, true, true, true, true, true, true, true, true, true] rfl rfl (any_of HT_.out (by kernel_rfl)) (fun _ _ _ h => h) (Or.inl ⟨by rfl, ?_⟩) ?_ ?_
        rotate_left
        · intro w'
          go_simp
          with_reducible rfl
        rotate_left
        · simp only [Act.put, List.setIfInBounds_toArray, List.set_cons_zero, List.set_cons_succ, i64_w, i32_w]
          rfl
        refine done_ (done_of HT_.out (by kernel_rfl)) ?_
        go_wp2_with (first | ((with_reducible refine gate_dst (N := 42) rfl ?_); refine wpList_load_row rfl 43 (.tmp 9) rfl h9 rfl 43 #[.int .u64 1000, .slice A2 l2.length c2] (0, 0) _ HB9.out hu rfl (by kernel_rfl) ?_) | ((with_reducible refine gate_store (t := 43) (p := 7) rfl ?_); refine wpList_store_row rfl 43 (.tmp 7) (.tmp 42) rfl h7 #[.int .u64 1000, .slice A2 l2.length c2] rfl rfl 43 _ HB7.out (by kernel_rfl) rfl (by kernel_rfl) ?_; have SHB7 := Aside0.mk (setRow_heap _ h7 _ #[.int .u64 1000, .slice A2 l2.length c2] _ _ HB7.out); have THB7 := Aside0.mk (grown_row ws h7 #[.int .u64 1000, .slice A2 l2.length c2])) | go_in)
        have HT := Aside0.mk (grown_row ws h7 #[.int .u64 1000, .slice A2 l2.length c2])
        have HV3 := Aside0.mk (Kd.V_mono (ok' := fun k => k ≠ mb) (Kd.V_grown (V_apart HV.out HB7.out) HT.out (fun k hk e => hk.2 (Option.some.inj e))) (fun k hk => hk.1))
        have HM3 := Aside0.mk (HM.out.put HT.out HN7.out.1)
        have HM4 := Aside0.mk (HM2.out.put HT.out HN7.out.2)
        have HB3 := Aside0.mk SHB7.out
        generalize World.setRow ws h7 #[.int .u64 1000, .slice A2 l2.length c2] = wt at HV3 HM3 HM4 HB3 ⊢
        clear SHB7 THB7 HT
        go_wp2_with fail
        go_roundw
        case rel => exact ⟨k + 1, l2, A2, c2, D2, by go_num, by omega, by omega, ⟨by have := HLK.out; have := HL2.out; rw [Nat.pow_succ]; omega⟩, HB3, HM3, HM4, HG2, HI2, HR2, HV3⟩
        case measure => simp [intOf]; omega
      · refine box_step ?hg (N := 9) ?hd (cs := #[.int .u64 0, .slice none 0 0]) (t := 43) ?hr ?_; (case hd => rfl); (case hg => rfl); (case hr => first | (go_simp; done) | (go_simp; rfl))
        intro h9 hg9 wn hbox hb
        have HB9 := Aside0.mk hbox
        have HN9 := Aside0.mk (show (mb ≠ h9 ∧ p ≠ h9 ∧ W.heap.size ≤ h9) ∧ (mb2 ≠ h9 ∧ p2 ≠ h9 ∧ W.heap.size ≤ h9) ∧ h7 ≠ h9 from ⟨⟨by have := HM.out.own.lt; omega, by have := HM.out.lt; omega, by have := HM.out.hB; omega⟩, ⟨by have := HM2.out.own.lt; omega, by have := HM2.out.lt; omega, by have := HM2.out.hB; omega⟩, by have := blk_lt hHeld.1; omega⟩)
        have hg := below_grown hb
        replace HM := Aside0.mk (HM.out.same hg)
        replace HM2 := Aside0.mk (HM2.out.same hg)
        replace HV := Aside0.mk (Kd.V_grown HV.out hg (by simp))
        have hs : wn.heap[h7]? = some (.cells #[.int .u64 1000, .slice A l.length c] 43 (0, 0)) ∧ DeedM wn (y.add (k * 4)) kd at_ da db := ⟨blk_grown hHeld.1 hg, hHeld.2.grown hg⟩
        clear hg hg9 hbox hb
        refine hK.out _ _ hs (fun hHeld => ?_)
        clear hK K
        refine norm_ (a' := ?_) ?_ ?_
        rotate_left
        · show Act.put _ (some 9) _ = _
          simp only [Act.put, List.setIfInBounds_toArray, List.set_cons_zero, List.set_cons_succ, i64_w, i32_w]
          rfl
        refine one_ (i := 6) (N := some 39) #[true, true, true, true, true, true, true, false, false, false, true, false, false] rfl rfl (one_of HT_.out (by kernel_rfl)) (by decide) (fun K hK => ?_)
        refine goes_ Try.func26 (by kernel_rfl) rfl #[.pointer (some ⟨p, 0, none⟩), .agg #[.int .u64 1000, .slice A l.length c], .agg #[.int .i64 kd, .int .u64 at_, .int .u64 da, .int .u64 db]] (by rfl) rfl rfl (by (try simp only [List.map_toArray, List.map_cons, List.map_nil]); first | done | rfl) ?_
        refine (did_any HM.out HGD.out HI.out HR.out HL1.out A c HV.out at_ da db HWF.out.1 HWF.out.2.1 HWF.out.2.2 kd).mono ?_
        rintro x0 wn ⟨v2, l2, D2, rfl, hM, hG2, hI2, hR2, hl2, hV2, hg⟩
        obtain ⟨A2, c2, rfl⟩ := Kd.V_slice hV2
        have hs : wn.heap[h7]? = some (.cells #[.int .u64 1000, .slice A l.length c] 43 (0, 0)) ∧ DeedM wn (y.add (k * 4)) kd at_ da db := ⟨(hg.block h7 (blk_lt hHeld.1) (fun e => HM.out.nb _ _ _ hHeld.1 (Option.some.inj e))).trans hHeld.1, hHeld.2.mb HM.out.own hg⟩
        replace HB9 := Aside0.mk ((hg.block h9 (blk_lt HB9.out) (fun e => HM.out.nb _ _ _ HB9.out (Option.some.inj e))).trans HB9.out)
        replace HM2 := Aside0.mk (HM2.out.put hg ⟨HNE.out.1, HNE.out.2, HM.out.hm⟩)
        replace HM := Aside0.mk hM
        have HG2 := Aside0.mk hG2
        have HI2 := Aside0.mk hI2
        have HR2 := Aside0.mk hR2
        have HL2 := Aside0.mk hl2
        replace HV := Aside0.mk hV2
        clear hM hG2 hI2 hR2 hl2 hV2 hg
        refine ⟨_, rfl, ?_⟩
        refine hK.out _ _ hs (fun hHeld => ?_)
        clear hK K
        refine norm_ (a' := ?_) ?_ ?_
        rotate_left
        · show Act.put _ (some 39) _ = _
          simp only [Act.put, List.setIfInBounds_toArray, List.set_cons_zero, List.set_cons_succ, i64_w, i32_w]
          rfl
        refine pure_ (i := 7) (N := some 32) (v := ?_) (a' := ?_) #[true, true, true, true, true, true, true, true, false, false, true, false, false] rfl rfl (any_of HT_.out (by kernel_rfl)) (fun _ _ _ h => h) (Or.inl ⟨by rfl, ?_⟩) ?_ ?_
        rotate_left
        · intro w'
          go_simp
          with_reducible rfl
        rotate_left
        · simp only [Act.put, List.setIfInBounds_toArray, List.set_cons_zero, List.set_cons_succ, i64_w, i32_w]
          rfl
        refine pure_ (i := 8) (N := some 40) (v := ?_) (a' := ?_) #[true, true, true, true, true, true, true, true, true, false, true, false, false] rfl rfl (any_of HT_.out (by kernel_rfl)) (fun _ _ _ h => h) (Or.inl ⟨by rfl, ?_⟩) ?_ ?_
        rotate_left
        · intro w'
          go_simp
          with_reducible rfl
        rotate_left
        · simp only [Act.put, List.setIfInBounds_toArray, List.set_cons_zero, List.set_cons_succ, i64_w, i32_w]
          rfl
        refine pure_ (i := 9) (N := some 41) (v := ?_) (a' := ?_) #[true, true, true, true, true, true, true, true, true, true, true, false, false] rfl rfl (any_of HT_.out (by kernel_rfl)) (fun _ _ _ h => h) (Or.inl ⟨by rfl, ?_⟩) ?_ ?_
        rotate_left
        · intro w'
          go_simp
          with_reducible rfl
        rotate_left
        · simp only [Act.put, List.setIfInBounds_toArray, List.set_cons_zero, List.set_cons_succ, i64_w, i32_w]
          rfl
        refine last_ (i := 11) (N := none) #[true, true, true, true, true, true, true, true, true, true, true, true, false] rfl rfl (one_of HT_.out (by kernel_rfl)) (by decide) (fun K hK => ?_)
        rw [if_pos (by rfl)]
        refine wp_store_row 43 (.tmp 9) (.tmp 40) rfl h9 #[.int .u64 1000, .slice A2 l2.length c2] rfl rfl 43 #[.int .u64 0, .slice none 0 0] HB9.out (by kernel_rfl) rfl (by kernel_rfl) ?_
        have hb2 := setRow_heap wn h9 _ #[.int .u64 1000, .slice A2 l2.length c2] _ _ HB9.out
        have hgr := grown_row wn h9 #[.int .u64 1000, .slice A2 l2.length c2]
        generalize World.setRow wn h9 #[.int .u64 1000, .slice A2 l2.length c2] = ws at hb2 hgr ⊢
        replace HB7 := Aside0.mk ((hgr.block h7 (blk_lt hHeld.1) (fun e => HN9.out.2.2 (Option.some.inj e))).trans hHeld.1)
        replace HM := Aside0.mk (HM.out.put hgr HN9.out.1)
        replace HM2 := Aside0.mk (HM2.out.put hgr HN9.out.2.1)
        replace HV := Aside0.mk (Kd.V_mono (ok' := fun k => k ≠ mb) (Kd.V_grown (V_apart HV.out HB9.out) hgr (fun k hk e => hk.2 (Option.some.inj e))) (fun k hk => hk.1))
        replace HB9 := Aside0.mk hb2
        clear hb2 hgr
        refine hK.out _ _ ?_
        clear hK K
        refine pure_ (i := 12) (N := some 10) (v := ?_) (a' := ?_) #[true, true, true, true, true, true, true, true, true, true, true, true, true] rfl rfl (any_of HT_.out (by kernel_rfl)) (fun _ _ _ h => h) (Or.inl ⟨by rfl, ?_⟩) ?_ ?_
        rotate_left
        · intro w'
          go_simp
          with_reducible rfl
        rotate_left
        · simp only [Act.put, List.setIfInBounds_toArray, List.set_cons_zero, List.set_cons_succ, i64_w, i32_w]
          rfl
        refine done_ (done_of HT_.out (by kernel_rfl)) ?_
        go_wp2_with (first | ((with_reducible refine gate_dst (N := 42) rfl ?_); refine wpList_load_row rfl 43 (.tmp 9) rfl h9 rfl 43 #[.int .u64 1000, .slice A2 l2.length c2] (0, 0) _ HB9.out hu rfl (by kernel_rfl) ?_) | ((with_reducible refine gate_store (t := 43) (p := 7) rfl ?_); refine wpList_store_row rfl 43 (.tmp 7) (.tmp 42) rfl h7 #[.int .u64 1000, .slice A2 l2.length c2] rfl rfl 43 _ HB7.out (by kernel_rfl) rfl (by kernel_rfl) ?_; have SHB7 := Aside0.mk (setRow_heap _ h7 _ #[.int .u64 1000, .slice A2 l2.length c2] _ _ HB7.out); have THB7 := Aside0.mk (grown_row ws h7 #[.int .u64 1000, .slice A2 l2.length c2])) | go_in)
        have HT := Aside0.mk (grown_row ws h7 #[.int .u64 1000, .slice A2 l2.length c2])
        have HV3 := Aside0.mk (Kd.V_mono (ok' := fun k => k ≠ mb) (Kd.V_grown (V_apart HV.out HB7.out) HT.out (fun k hk e => hk.2 (Option.some.inj e))) (fun k hk => hk.1))
        have HM3 := Aside0.mk (HM.out.put HT.out HN7.out.1)
        have HM4 := Aside0.mk (HM2.out.put HT.out HN7.out.2)
        have HB3 := Aside0.mk SHB7.out
        generalize World.setRow ws h7 #[.int .u64 1000, .slice A2 l2.length c2] = wt at HV3 HM3 HM4 HB3 ⊢
        clear SHB7 THB7 HT
        go_wp2_with fail
        go_roundw
        case rel => exact ⟨k + 1, l2, A2, c2, D2, by go_num, by omega, by omega, ⟨by have := HLK.out; have := HL2.out; rw [Nat.pow_succ]; omega⟩, HB3, HM3, HM4, HG2, HI2, HR2, HV3⟩
        case measure => simp [intOf]; omega
    · have hex : (k = 20 ∧ (20 : Int) < (len : Int)) ∨ k = len := by omega
      rcases hex with ⟨rfl, h1q⟩ | rfl
      all_goals
        go_wp2_with fail
        refine (used_eq HM2.out 0 rfl).mono ?_
        rintro x0 wn ⟨rfl, hM, hg⟩
        replace HM := Aside0.mk (HM.out.same hg)
        clear hM hg HM2
        go_wp2_with fail
        refine (clear_calls HM.out (by decide) 0 1000 (by decide) (by decide) (by decide) HGD.out (by have := size_few HM.out HGD.out 125 (fun t ht => HI.out t (by omega)); omega)).mono ?_
        rintro x0 wn ⟨rfl, E, hM, hG, hS, hb, hg⟩
        have hz : ∀ t, 0 ≤ t → byteAt E t = 0 := fun t ht => by
          rw [hb t ht]
          by_cases h : t < 1000
          · rw [if_pos (by omega)]
          · rw [if_neg (by omega)]; exact HI.out t (by omega)
        have hs0 := size_few hM hG 0 (fun t ht => hz t (by omega))
        have HW := Aside0.mk (show rd E (pl % 100 * 8 / 8) = 0 from word_zero hG.wf (fun j hj => hz _ (by have := (u64_b HPL.out).1; omega)))
        have HS0 := Aside0.mk (show (Maps.size E : Int) = 0 by omega)
        have HE := Aside0.mk hM
        clear hM hG hS hb hg hz hs0 HM
        go_wp2_with fail
        refine (used_eq HE.out 0 HS0.out).mono ?_
        rintro x0 wn ⟨rfl, hM, hg⟩
        replace HE := Aside0.mk hM
        clear hM hg
        go_wp2_with fail
        refine (word_eq HE.out _ HWP.out HMY.out 0 HW.out).mono ?_
        rintro x0 wn ⟨rfl, hM, hg⟩
        replace HE := Aside0.mk hM
        clear hM hg
        go_wp2_with fail
        refine (lives_calls _).mono ?_
        rintro x0 wl ⟨rfl, hg⟩
        have HZ := Aside0.mk (HE.out.same hg).below
        clear hg
        go_wp2
        go_ret
        exact ⟨rfl, HZ.out⟩
end
end Go.Proofs.Ytlndljgoliepdaa.Mem
