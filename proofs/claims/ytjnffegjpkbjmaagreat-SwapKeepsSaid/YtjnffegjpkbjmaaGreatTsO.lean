/- A TSB by its entries: List, Locked, Drop. -/
import Derived.Test.YtjnffegjpkbjmaaGreatTsP2
import Derived.Test.YtjnffegjpkbjmaaGreatTsList
import Derived.Deep.Onto
/- merged: YtjnffegjpkbjmaaGreatTsQ -/
namespace Go.Proofs.YtjnffegjpkbjmaaGreat.Mem
open Go.RowKit Go.Maps Go.Proofs.YtjnffegjpkbjmaaGreatW.PrintWords Go.Proofs.YtjnffegjpkbjmaaGreatW.PrintLast Go.Proofs.YtjnffegjpkbjmaaGreatW.PrintMore Go.Proofs.YtjnffegjpkbjmaaGreat.QTsbPlays Go.Proofs.YtjnffegjpkbjmaaGreat.Pure
set_option linter.unusedSimpArgs false
set_option linter.unusedVariables false
section
set_option maxHeartbeats 1000000
set_option maxRecDepth 100000
def setO (os : Nat → Option GE) (i : Nat) (o : Option GE) : Nat → Option GE := fun j => if j = i then o else os j
theorem setO_at (os : Nat → Option GE) (i : Nat) (o : Option GE) : setO os i o i = o := if_pos rfl
theorem setO_ne {os : Nat → Option GE} {i j : Nat} {o : Option GE} (h : j ≠ i) : setO os i o j = os j := if_neg h
def wOf : Option GE → Wd
  | some g => (g.tag, g.data)
  | none => (BADW, 0)
def WO (os : Nat → Option GE) : Nat → Wd := fun i => wOf (os i)
theorem WO_set (os : Nat → Option GE) (i : Nat) (o : Option GE) : setW (WO os) i (wOf o) = WO (setO os i o) := by
  funext j
  unfold setW WO setO
  split <;> rfl
/-- Each place's entry is that place's. -/
def OKO (N s : Nat) (os : Nat → Option GE) : Prop := ∀ i, i < N → ∀ g, os i = some g → g.ok ∧ g.s = s ∧ plcOf N (s : Int) g.v = i
theorem OKO.is {N s : Nat} {os : Nat → Option GE} (h : OKO N s os) {i : Nat} (hi : i < N) : Is N s i (WO os i) (os i) := by
  cases ho : os i with
  | none => exact .lock (by unfold WO; rw [ho]; rfl)
  | some g =>
    obtain ⟨h1, h2, h3⟩ := h i hi g ho
    exact .ent g h1 h2 h3 (by unfold WO; rw [ho]; rfl)
theorem OKO.set {N s : Nat} {os : Nat → Option GE} (h : OKO N s os) {i : Nat} {o : Option GE} (ho : ∀ g, o = some g → g.ok ∧ g.s = s ∧ plcOf N (s : Int) g.v = i) : OKO N s (setO os i o) := by
  intro j hj g hg
  by_cases e : j = i
  · subst e; rw [setO_at] at hg; exact ho g hg
  · rw [setO_ne e] at hg; exact h j hj g hg
theorem oko_none (N s : Nat) : OKO N s (fun _ => none) := fun i _ g h => by cases h
/-- A TSB that has a memory's map for itself. -/
structure TQ (B : Nat) (w0 : World) (p mb pt : Nat) (sz : Int) (base N s : Nat) (grade : Int) (n : Nat) (os : Nat → Option GE) (W : World) : Prop where
  mem : ∃ D, Mem B w0 p mb sz n D W ∧ Holds D base N s (WO os)
  row : W.heap[pt]? = some (.cells (TCs p base N s grade) 119 (0, 0))
  ok : OKO N s os
section
variable {B : Nat} {w0 W W' : World} {p mb pt : Nat} {sz : Int} {base N s n : Nat} {grade : Int} {os : Nat → Option GE}
theorem TQ.same (h : TQ B w0 p mb pt sz base N s grade n os W) (hg : W.grownBy W' none) : TQ B w0 p mb pt sz base N s grade n os W' := by
  obtain ⟨D, hM, hD⟩ := h.mem
  exact ⟨⟨D, hM.same hg, hD⟩, blk_grown h.row hg, h.ok⟩
theorem TQ.nb (h : TQ B w0 p mb pt sz base N s grade n os W) (b : Nat) (cs : Array Value) (t : TypeId) (hb : W.heap[b]? = some (.cells cs t (0, 0))) : b ≠ mb := by
  obtain ⟨D, hM, hD⟩ := h.mem
  exact hM.nb b cs t hb
/-- Another block is written: one that is neither the memory's nor the TSB's row. -/
theorem TQ.kept {k : Nat} (h : TQ B w0 p mb pt sz base N s grade n os W) (hg : W.grownBy W' (some k)) {cs : Array Value} {t : TypeId} (hk : W.heap[k]? = some (.cells cs t (0, 0))) (h1 : t ≠ 119) (h2 : t ≠ 101) (h3 : B ≤ k) : TQ B w0 p mb pt sz base N s grade n os W' := by
  obtain ⟨D, hM, hD⟩ := h.mem
  have e1 : k ≠ mb := hM.nb k cs t hk
  have e2 : k ≠ p := by rintro rfl; have := hM.row; rw [hk] at this; injection this with this; injection this with _ a; exact h2 a
  have e3 : k ≠ pt := by rintro rfl; have := h.row; rw [hk] at this; injection this with this; injection this with _ a; exact h1 a
  exact ⟨⟨D, hM.kept hg (fun e => e1 (Option.some.inj e).symm) (fun e => e2 (Option.some.inj e).symm) (fun j e => by cases e; exact h3), hD⟩, (hg.block pt (blk_lt h.row) (fun e => e3 (Option.some.inj e).symm)).trans h.row, h.ok⟩
/-- A list's row is written, or a new one is made. -/
theorem TQ.keptR {o : Option Nat} (h : TQ B w0 p mb pt sz base N s grade n os W) (hg : W.grownBy W' o) {t : TypeId} (hk : ∀ k, o = some k → ∃ cs, W.heap[k]? = some (.cells cs t (0, 0))) (h1 : t ≠ 119) (h2 : t ≠ 101) (h3 : ∀ k, o = some k → B ≤ k) : TQ B w0 p mb pt sz base N s grade n os W' := by
  cases o with
  | none => exact h.same hg
  | some k =>
    obtain ⟨cs, hc⟩ := hk k rfl
    exact h.kept hg hc h1 h2 (h3 k rfl)
theorem TQ.lt (h : TQ B w0 p mb pt sz base N s grade n os W) : p < W.heap.size ∧ mb < W.heap.size ∧ pt < W.heap.size := by
  obtain ⟨D, hM, hD⟩ := h.mem
  exact ⟨hM.lt, hM.own.lt, blk_lt h.row⟩
theorem TQ.mono {n' : Nat} (h : TQ B w0 p mb pt sz base N s grade n os W) (hn : n ≤ n') : TQ B w0 p mb pt sz base N s grade n' os W := by
  obtain ⟨D, hM, hD⟩ := h.mem
  exact ⟨⟨D, hM.more hn, hD⟩, h.row, h.ok⟩
theorem TQ.now {n' : Nat} {os' : Nat → Option GE} {D : DataW Unit} (h : TQ B w0 p mb pt sz base N s grade n os W) (hn : Now B w0 p mb sz base N s D n' (WO os') W') (hg : W.grownBy W' (some mb)) (hok : OKO N s os') : TQ B w0 p mb pt sz base N s grade n' os' W' := by
  obtain ⟨D', hM, hD, _⟩ := hn
  exact ⟨⟨D', hM, hD⟩, (hg.block pt (blk_lt h.row) (fun e => h.nb _ _ _ h.row (Option.some.inj e))).trans h.row, hok⟩
theorem o_find (b : TB base N s sz) (h : TQ B w0 p mb pt sz base N s grade n os W) (va : Nat) (hva : va < 18446744073709551616) (ctx : Int) :
    Calls Tryz.prog 18 #[.pointer (some ⟨pt, 0, none⟩), .int .u64 va, .int .i64 ctx] W fun e W' => e = .returned (foundV (findO (os (plcOf N (s : Int) va)) va ctx)) ∧ W.grownBy W' none := by
  obtain ⟨D, hM, hD⟩ := h.mem
  exact q_find b hM hD h.row va hva ctx _ (h.ok.is (b.in va))
end
/-- An entry as the lists have it. -/
abbrev geS (g : GE) : Ent := ⟨g.s, g.c, g.v, g.p, ⟨g.w, g.pr, g.x, g.l, g.g, g.q⟩, true⟩
end
end Go.Proofs.YtjnffegjpkbjmaaGreat.Mem
/- merged: YtjnffegjpkbjmaaGreatTsLq -/
namespace Go.Proofs.YtjnffegjpkbjmaaGreat.Mem
open Go.RowKit Go.Maps Go.Proofs.YtjnffegjpkbjmaaGreatW.PrintWords Go.Proofs.YtjnffegjpkbjmaaGreatW.PrintLast Go.Proofs.YtjnffegjpkbjmaaGreatW.PrintMore Go.Proofs.YtjnffegjpkbjmaaGreat.QTsbPlays Go.Proofs.YtjnffegjpkbjmaaGreat.Pure
set_option linter.unusedSimpArgs false
set_option linter.unusedVariables false
section
set_option maxHeartbeats 1000000
set_option maxRecDepth 100000
def insL (N s : Nat) (xs : List GE) (os : Nat → Option GE) : Nat → Option GE := xs.foldl (fun os g => setO os (plcOf N (s : Int) g.v) (some g)) os
theorem insL_far (N s : Nat) (i : Nat) : ∀ (xs : List GE) (os : Nat → Option GE), (∀ g ∈ xs, plcOf N (s : Int) g.v ≠ i) → insL N s xs os i = os i
  | [], os, _ => rfl
  | g :: xs, os, h => by
    show insL N s xs (setO os (plcOf N (s : Int) g.v) (some g)) i = os i
    rw [insL_far N s i xs _ (fun z hz => h z (by simp [hz])), setO_ne (fun e => h g (by simp) e.symm)]
theorem geS_wf {g : GE} (h : g.ok) : EntW (geS g) := by
  have h1 := h.hs
  have h2 := h.hc
  have h3 := h.hv
  have h4 := h.hp
  exact ⟨by simp [geS, Lit.wf, IntKind.min, IntKind.max, IntKind.signed, IntKind.bits]; omega, by simp [geS, Lit.wf, IntKind.min, IntKind.max, IntKind.signed, IntKind.bits]; omega, wfN h3, wfN (by omega)⟩
/-- An element of a list. -/
theorem own_at {w : World} {base : Nat} {ok : Nat → Prop} {A : Option Addr} {n c : Nat} {xs : List GE} (h : Kd.R k41 41 w base ok (.slice A n c) (xs.map geS)) (hx : ∀ g ∈ xs, g.ok) (i : Nat) (hi : i < xs.length) : ∃ ad, A = some ad ∧ EntAt w (ad.add (i * 11)) (geS xs[i]) := by
  obtain ⟨hn, _, hC⟩ := Kd.R_reads' h
  obtain ⟨ad, e, c0, c1, c2, c3, c4, c5, c6, c7, c8, c9, c10⟩ := at_T41 hC (i : Int) (by omega) (by simp; omega)
  have hr : rd_T41 (xs.map geS) (i : Int) = geS xs[i] := by
    unfold rd_T41
    simp [List.getD, hi]
  rw [Int.toNat_natCast, hr] at c0 c1 c2 c3 c4 c5 c6 c7 c8 c9 c10
  exact ⟨ad, e, geS_wf (hx _ (List.getElem_mem hi)), c0, c1, c2, c3, c4, c5, c6, c7, c8, c9, c10⟩
/-- The cells of an entry that may be. -/
structure GEAt (w : World) (y : Addr) (g : GE) : Prop where
  c0 : w.cell? y = some (.int .i64 (g.s : Int))
  c1 : w.cell? ⟨y.block, y.off + 1, none⟩ = some (.int .i64 (g.c : Int))
  c2 : w.cell? ⟨y.block, y.off + 2, none⟩ = some (.int .u64 (g.v : Int))
  c3 : w.cell? ⟨y.block, y.off + 3, none⟩ = some (.int .u64 (g.p : Int))
  c4 : w.cell? ⟨y.block, y.off + 4, none⟩ = some (.bool g.w)
  c5 : w.cell? ⟨y.block, y.off + 5, none⟩ = some (.bool g.pr)
  c6 : w.cell? ⟨y.block, y.off + 6, none⟩ = some (.bool g.x)
  c7 : w.cell? ⟨y.block, y.off + 7, none⟩ = some (.bool g.l)
  c8 : w.cell? ⟨y.block, y.off + 8, none⟩ = some (.bool g.g)
  c9 : w.cell? ⟨y.block, y.off + 9, none⟩ = some (.bool g.q)
  c10 : w.cell? ⟨y.block, y.off + 10, none⟩ = some (.bool true)
theorem GEAt.grown {w w' : World} {y : Addr} {g : GE} (h : GEAt w y g) (hg : w.grownBy w' none) : GEAt w' y g := ⟨cell_grown h.c0 hg, cell_grown h.c1 hg, cell_grown h.c2 hg, cell_grown h.c3 hg, cell_grown h.c4 hg, cell_grown h.c5 hg, cell_grown h.c6 hg, cell_grown h.c7 hg, cell_grown h.c8 hg, cell_grown h.c9 hg, cell_grown h.c10 hg⟩
theorem own_ge {w : World} {base : Nat} {ok : Nat → Prop} {A : Option Addr} {n c : Nat} {xs : List GE} (h : Kd.R k41 41 w base ok (.slice A n c) (xs.map geS)) (hx : ∀ g ∈ xs, g.ok) (i : Nat) (hi : i < xs.length) : ∃ ad, A = some ad ∧ GEAt w (ad.add (i * 11)) xs[i] := by
  obtain ⟨ad, e, _, c0, c1, c2, c3, c4, c5, c6, c7, c8, c9, c10⟩ := own_at h hx i hi
  exact ⟨ad, e, c0, c1, c2, c3, c4, c5, c6, c7, c8, c9, c10⟩
/-- What Find answers, as an entry. -/
def foundE : Option GE → Ent
  | some g => geS g
  | none => ⟨0, 0, 0, 0, ⟨false, false, false, false, false, false⟩, false⟩
theorem foundV_E (o : Option GE) : foundV o = .tuple #[.agg (entA (foundE o)), .bool o.isSome] := by cases o <;> rfl
theorem o_findE {B : Nat} {w0 W : World} {p mb pt : Nat} {sz : Int} {base N s n : Nat} {grade : Int} {os : Nat → Option GE} (b : TB base N s sz) (h : TQ B w0 p mb pt sz base N s grade n os W) (va : Nat) (hva : va < 18446744073709551616) (ctx : Int) :
    Calls Tryz.prog 18 #[.pointer (some ⟨pt, 0, none⟩), .int .u64 va, .int .i64 ctx] W fun e W' => e = .returned (.tuple #[.agg (entA (foundE (findO (os (plcOf N (s : Int) va)) va ctx))), .bool (findO (os (plcOf N (s : Int) va)) va ctx).isSome]) ∧ W.grownBy W' none := by
  rw [← foundV_E]
  exact o_find b h va hva ctx
end
end Go.Proofs.YtjnffegjpkbjmaaGreat.Mem
/- merged: YtjnffegjpkbjmaaGreatTsLk -/
namespace Go.Proofs.YtjnffegjpkbjmaaGreat.Mem
open Go.RowKit Go.Maps Go.Shelf Go.Proofs.YtjnffegjpkbjmaaGreatW.PrintWords Go.Proofs.YtjnffegjpkbjmaaGreatW.PrintLast Go.Proofs.YtjnffegjpkbjmaaGreatW.PrintMore Go.Proofs.YtjnffegjpkbjmaaGreat.QTsbPlays Go.Proofs.YtjnffegjpkbjmaaGreat.Pure
attribute [local go_sem] Oper.semAt_some
set_option linter.unusedSimpArgs false
set_option linter.unusedVariables false
section
set_option maxHeartbeats 2000000
set_option maxRecDepth 100000
/-- What stands between two rounds of Locked. -/
structure LK (B : Nat) (w0 W0 : World) (p mb pt s1 s3 : Nat) (sz : Int) (n : Nat) (D : DataW Unit) (base N s : Nat) (grade : Int) (c : Nat) (W : World) : Prop where
  mem : Mem B w0 p mb sz n D W
  row : W.heap[pt]? = some (.cells (TCs p base N s grade) 119 (0, 0))
  box : W.heap[s1]? = some (.cells #[.pointer (some ⟨pt, 0, none⟩)] 44 (0, 0))
  out : W.heap[s3]? = some (.cells #[.int .i64 (c : Int)] 3 (0, 0))
  gr : W0.grownBy W none
theorem LK.kept {B w0 W0 p mb pt s1 s3 sz n D base N s grade c W W' row} (h : LK B w0 W0 p mb pt s1 s3 sz n D base N s grade c W) (hg : W.grownBy W' row) (hr : ∀ j, row = some j → mb < j ∧ p < j ∧ pt < j ∧ s1 < j ∧ s3 < j ∧ W0.heap.size ≤ j ∧ B ≤ j) : LK B w0 W0 p mb pt s1 s3 sz n D base N s grade c W' := by
  refine ⟨h.mem.kept hg (fun e => by have := (hr _ e.symm).1; omega) (fun e => by have := (hr _ e.symm).2.1; omega) (fun k e => (hr k e).2.2.2.2.2.2), (hg.block pt (blk_lt h.row) (fun e => by have := (hr _ e.symm).2.2.1; omega)).trans h.row, (hg.block s1 (blk_lt h.box) (fun e => by have := (hr _ e.symm).2.2.2.1; omega)).trans h.box, (hg.block s3 (blk_lt h.out) (fun e => by have := (hr _ e.symm).2.2.2.2.1; omega)).trans h.out, ?_⟩
  cases row with
  | none => exact grown_two h.gr hg
  | some j => exact grown_loc h.gr hg (hr j rfl).2.2.2.2.2.1
theorem LK.same {B w0 W0 p mb pt s1 s3 sz n D base N s grade c W W'} (h : LK B w0 W0 p mb pt s1 s3 sz n D base N s grade c W) (hg : W.grownBy W' none) : LK B w0 W0 p mb pt s1 s3 sz n D base N s grade c W' := h.kept hg (fun j e => by cases e)
/-- The count's box is written. -/
theorem LK.put {B w0 W0 p mb pt s1 s3 sz n D base N s grade c W} (h : LK B w0 W0 p mb pt s1 s3 sz n D base N s grade c W) (c' : Nat) (hB : B ≤ s3) (hW : W0.heap.size ≤ s3) : LK B w0 W0 p mb pt s1 s3 sz n D base N s grade c' (W.setCell ⟨s3, 0, none⟩ (.int .i64 (c' : Int))) ∧ W.grownBy (W.setCell ⟨s3, 0, none⟩ (.int .i64 (c' : Int))) (some s3) := by
  have hg := grown_cellq W ⟨s3, 0, none⟩ (.int .i64 (c' : Int))
  have hk : ∀ k, some s3 = some k → ∃ cs, W.heap[k]? = some (.cells cs 3 (0, 0)) := fun k e => by cases e; exact ⟨_, h.out⟩
  exact ⟨⟨h.mem.keptR hg hk (by decide) (fun k e => by obtain rfl : s3 = k := Option.some.inj e; exact hB), blk_keptR h.row hg hk (by decide), blk_keptR h.box hg hk (by decide), blk_put h.out 0 _ rfl, below_grownW h.gr hg (fun k e => by obtain rfl : s3 = k := Option.some.inj e; exact hW)⟩, hg⟩
end
end Go.Proofs.YtjnffegjpkbjmaaGreat.Mem
/- merged: YtjnffegjpkbjmaaGreatTsLR -/
namespace Go.Proofs.YtjnffegjpkbjmaaGreat.Mem
open Go.RowKit Go.Maps Go.Proofs.YtjnffegjpkbjmaaGreatW.PrintWords Go.Proofs.YtjnffegjpkbjmaaGreatW.PrintLast Go.Proofs.YtjnffegjpkbjmaaGreatW.PrintMore Go.Proofs.YtjnffegjpkbjmaaGreat.QTsbPlays Go.Proofs.YtjnffegjpkbjmaaGreat.Pure
set_option linter.unusedSimpArgs false
set_option linter.unusedVariables false
section
set_option maxHeartbeats 1000000
set_option maxRecDepth 100000
/-- An entry as the lists have it. -/
abbrev geR (g : GE) : Ent := ⟨g.s, g.c, g.v, g.p, ⟨g.w, g.pr, g.x, g.l, g.g, g.q⟩, true⟩
theorem flat_len : ∀ gs : List GE, (flatG gs).length = gs.length * 11
  | [] => rfl
  | g :: gs => by
    show ((geA g).toList ++ flatG gs).length = _
    rw [List.length_append, flat_len gs]
    simp only [List.length_cons]
    show 11 + _ = _
    omega
theorem flat_seg : ∀ (gs : List GE) (j : Nat) (g : GE), gs[j]? = some g → ((flatG gs).drop (j * 11)).take 11 = (geA g).toList
  | [], j, g, h => by simp at h
  | x :: gs, 0, g, h => by
    obtain rfl : x = g := by simpa using h
    show (((geA x).toList ++ flatG gs).drop (0 * 11)).take 11 = _
    rw [Nat.zero_mul, List.drop_zero]
    exact List.take_left' rfl
  | x :: gs, j + 1, g, h => by
    have h2 : gs[j]? = some g := by simpa using h
    show (((geA x).toList ++ flatG gs).drop ((j + 1) * 11)).take 11 = _
    have e : (j + 1) * 11 = (geA x).toList.length + j * 11 := by show _ = 11 + _; omega
    rw [e, ← List.drop_drop, List.drop_left']
    · exact flat_seg gs j g h2
    · rfl
theorem list_R {W : World} {base : Nat} {v : Value} {gs : List GE} (h : W.ownsRow base 41 11 v gs.length (flatG gs)) : Kd.R k41 41 W base (fun _ => True) v (gs.map geR) := by
  refine ⟨fun _ _ => trivial, flatG gs, ?_, ?_, fun j p hp => ?_⟩
  · rw [List.length_map]; exact h
  · rw [List.length_map]; exact flat_len gs
  · rw [List.getElem?_map, Option.map_eq_some_iff] at hp
    obtain ⟨g, hg, rfl⟩ := hp
    show k41.M W base _ (geR g) (((flatG gs).drop (j * 11)).take 11)
    rw [flat_seg gs j g hg]
    exact k41_mkM _ _ _ (geR g)
theorem q_list {B : Nat} {w0 W : World} {p mb : Nat} {sz : Int} {n : Nat} {D : DataW Unit} {pt base N s : Nat} {grade : Int} {ws : Nat → Wd} (b : TB base N s sz) (h : Mem B w0 p mb sz n D W) (hD : Holds D base N s ws) (kt : W.heap[pt]? = some (.cells (TCs p base N s grade) 119 (0, 0))) :
    Calls Tryz.prog 11 #[.pointer (some ⟨pt, 0, none⟩)] W fun e W' => ∃ v, e = .returned v ∧ Kd.R k41 41 W' W.heap.size (fun _ => True) v ((listW N s ws).map geR) ∧ W.grownBy W' none := by
  refine (list_calls b h hD kt).mono ?_
  rintro e W' ⟨v, rfl, ho, hg⟩
  exact ⟨v, rfl, list_R ho, hg⟩
end
end Go.Proofs.YtjnffegjpkbjmaaGreat.Mem
/- merged: YtjnffegjpkbjmaaGreatTsDc -/
namespace Go.Proofs.YtjnffegjpkbjmaaGreat.Mem
open Go.RowKit Go.Maps Go.Shelf Go.Proofs.YtjnffegjpkbjmaaGreatW.PrintWords Go.Proofs.YtjnffegjpkbjmaaGreatW.PrintLast Go.Proofs.YtjnffegjpkbjmaaGreatW.PrintMore Go.Proofs.YtjnffegjpkbjmaaGreat.QTsbPlays Go.Proofs.YtjnffegjpkbjmaaGreat.Pure
attribute [local go_sem] Oper.semAt_some
set_option linter.unusedSimpArgs false
set_option linter.unusedVariables false
section
set_option maxHeartbeats 2000000
set_option maxRecDepth 100000
/-- A place is dropped. -/
theorem Holds.drop {D base N s ws} (h : Holds D base N s ws) (hb : base % 16 = 0) {i : Nat} (hi : i < N) : Holds (st (st D (((base + 16 * i : Nat) : Int) / 8) 9223372036854775807) (((base + 16 * i : Nat) : Int) / 8 + 1) 0) base N s (setW ws i (BADW, 0)) := by
  have h1 := (h.setTag hb hi (t := BADW) (by decide)).setData hb hi (d := 0) (by decide) (.inl rfl)
  rw [setW_two, setW_at] at h1
  exact h1
end
end Go.Proofs.YtjnffegjpkbjmaaGreat.Mem
namespace Go.Proofs.YtjnffegjpkbjmaaGreat.Mem
open Go.RowKit Go.Maps Go.Proofs.YtjnffegjpkbjmaaGreatW.PrintWords Go.Proofs.YtjnffegjpkbjmaaGreatW.PrintLast Go.Proofs.YtjnffegjpkbjmaaGreatW.PrintMore Go.Proofs.YtjnffegjpkbjmaaGreat.QTsbPlays Go.Proofs.YtjnffegjpkbjmaaGreat.Pure
set_option linter.unusedSimpArgs false
set_option linter.unusedVariables false
section
set_option maxHeartbeats 1000000
set_option maxRecDepth 100000
def listO (N : Nat) (os : Nat → Option GE) : List GE := (List.range N).filterMap os
theorem filterMap_eq {α β : Type} (f g : α → Option β) : ∀ l : List α, (∀ x ∈ l, f x = g x) → l.filterMap f = l.filterMap g
  | [], _ => rfl
  | x :: l, h => by
    rw [List.filterMap_cons, List.filterMap_cons, h x (by simp), filterMap_eq f g l (fun y hy => h y (by simp [hy]))]
theorem own_O {N s : Nat} {sz : Int} {base : Nat} (b : TB base N s sz) {os : Nat → Option GE} (h : OKO N s os) {i : Nat} (hi : i < N) : ownW N s i (WO os i) = os i := by
  cases ho : os i with
  | none =>
    have e : WO os i = (BADW, 0) := by unfold WO; rw [ho]; rfl
    rw [e]
    exact ownW_bad N s i 0
  | some g =>
    obtain ⟨h1, h2, h3⟩ := h i hi g ho
    have e : WO os i = (g.tag, g.data) := by unfold WO; rw [ho]; rfl
    rw [e]
    subst h2
    have hq := b.hq
    have := ownW_ge h1 hq b.h1
    rw [h3] at this
    exact this
theorem listW_O {N s : Nat} {sz : Int} {base : Nat} (b : TB base N s sz) {os : Nat → Option GE} (h : OKO N s os) : listW N s (WO os) = listO N os :=
  filterMap_eq _ _ _ (fun i hi => own_O b h (List.mem_range.1 hi))
/-- A place made empty takes its entry off the list. -/
theorem list_none {os : Nat → Option GE} {i : Nat} : ∀ is : List Nat, is.Nodup → (is.filterMap (setO os i none)).length + (if i ∈ is then (if (os i).isSome = true then 1 else 0) else 0) = (is.filterMap os).length
  | [], _ => by simp
  | j :: is, hn => by
    have hn2 := (List.nodup_cons.1 hn)
    have ih := list_none (os := os) (i := i) is hn2.2
    rw [List.filterMap_cons, List.filterMap_cons]
    by_cases e : j = i
    · subst e
      rw [setO_at]
      rw [if_neg hn2.1] at ih
      rw [if_pos (by simp)]
      cases ho : os j with
      | none => simp; omega
      | some g => simp; omega
    · rw [setO_ne e]
      have hm : (i ∈ j :: is) ↔ i ∈ is := by simp [Ne.symm e]
      simp only [hm]
      cases ho : os j with
      | none => simpa using ih
      | some g => simp only [List.length_cons]; omega
section
variable {B : Nat} {w0 W : World} {p mb pt : Nat} {sz : Int} {base N s n : Nat} {grade : Int} {os : Nat → Option GE}
theorem o_list (b : TB base N s sz) (h : TQ B w0 p mb pt sz base N s grade n os W) :
    Calls Tryz.prog 11 #[.pointer (some ⟨pt, 0, none⟩)] W fun e W' => ∃ v, e = .returned v ∧ Kd.R k41 41 W' W.heap.size (fun _ => True) v ((listO N os).map geS) ∧ W.grownBy W' none := by
  obtain ⟨D, hM, hD⟩ := h.mem
  have := q_list b hM hD h.row
  rw [listW_O b h.ok] at this
  exact this
theorem list_le (N : Nat) (os : Nat → Option GE) : (listO N os).length ≤ N := by
  have := List.length_filterMap_le os (List.range N)
  rw [List.length_range] at this
  exact this
end
end
end Go.Proofs.YtjnffegjpkbjmaaGreat.Mem
