/- What was put last at a place stands there; a list of entries, read. -/
import Derived.Test.YtjnffegjpkbjmaaTsEn
import Derived.Test.YtjnffegjpkbjmaaTsP2
/- merged: TsQ -/
namespace Go.Proofs.Ytjnffegjpkbjmaa.Mem
open Go.RowKit Go.Maps Go.Proofs.YtjnffegjpkbjmaaW.PrintWords Go.Proofs.YtjnffegjpkbjmaaW.PrintLast Go.Proofs.YtjnffegjpkbjmaaW.PrintMore Go.Proofs.Ytjnffegjpkbjmaa.QTsbPlays Go.Proofs.Ytjnffegjpkbjmaa.Pure
set_option linter.unusedSimpArgs false
set_option linter.unusedVariables false
section
set_option maxHeartbeats 1000000
set_option maxRecDepth 100000
def setO (os : Nat → Option GE) (i : Nat) (o : Option GE) : Nat → Option GE := fun j => if j = i then o else os j
theorem setO_at (os : Nat → Option GE) (i : Nat) (o : Option GE) : setO os i o i = o := if_pos rfl
theorem setO_ne {os : Nat → Option GE} {i j : Nat} {o : Option GE} (h : j ≠ i) : setO os i o j = os j := if_neg h
def wOf : Option GE → Wd
  | some g => (g.tag, g.data)
  | none => (BADW, 0)
def WO (os : Nat → Option GE) : Nat → Wd := fun i => wOf (os i)
theorem WO_set (os : Nat → Option GE) (i : Nat) (o : Option GE) : setW (WO os) i (wOf o) = WO (setO os i o) := by
  funext j
  unfold setW WO setO
  split <;> rfl
/-- Each place's entry is that place's. -/
def OKO (N s : Nat) (os : Nat → Option GE) : Prop := ∀ i, i < N → ∀ g, os i = some g → g.ok ∧ g.s = s ∧ plcOf N (s : Int) g.v = i
theorem OKO.is {N s : Nat} {os : Nat → Option GE} (h : OKO N s os) {i : Nat} (hi : i < N) : Is N s i (WO os i) (os i) := by
  cases ho : os i with
  | none => exact .lock (by unfold WO; rw [ho]; rfl)
  | some g =>
    obtain ⟨h1, h2, h3⟩ := h i hi g ho
    exact .ent g h1 h2 h3 (by unfold WO; rw [ho]; rfl)
theorem OKO.set {N s : Nat} {os : Nat → Option GE} (h : OKO N s os) {i : Nat} {o : Option GE} (ho : ∀ g, o = some g → g.ok ∧ g.s = s ∧ plcOf N (s : Int) g.v = i) : OKO N s (setO os i o) := by
  intro j hj g hg
  by_cases e : j = i
  · subst e; rw [setO_at] at hg; exact ho g hg
  · rw [setO_ne e] at hg; exact h j hj g hg
theorem oko_none (N s : Nat) : OKO N s (fun _ => none) := fun i _ g h => by cases h
/-- A TSB that has a memory's map for itself. -/
structure TQ (B : Nat) (w0 : World) (p mb pt : Nat) (sz : Int) (base N s : Nat) (grade : Int) (n : Nat) (os : Nat → Option GE) (W : World) : Prop where
  mem : ∃ D, Mem B w0 p mb sz n D W ∧ Holds D base N s (WO os)
  row : W.heap[pt]? = some (.cells (TCs p base N s grade) 95 (0, 0))
  ok : OKO N s os
section
variable {B : Nat} {w0 W W' : World} {p mb pt : Nat} {sz : Int} {base N s n : Nat} {grade : Int} {os : Nat → Option GE}
theorem TQ.same (h : TQ B w0 p mb pt sz base N s grade n os W) (hg : W.grownBy W' none) : TQ B w0 p mb pt sz base N s grade n os W' := by
  obtain ⟨D, hM, hD⟩ := h.mem
  exact ⟨⟨D, hM.same hg, hD⟩, blk_grown h.row hg, h.ok⟩
theorem TQ.nb (h : TQ B w0 p mb pt sz base N s grade n os W) (b : Nat) (cs : Array Value) (t : TypeId) (hb : W.heap[b]? = some (.cells cs t (0, 0))) : b ≠ mb := by
  obtain ⟨D, hM, hD⟩ := h.mem
  exact hM.nb b cs t hb
/-- Another block is written: one that is neither the memory's nor the TSB's row. -/
theorem TQ.kept {k : Nat} (h : TQ B w0 p mb pt sz base N s grade n os W) (hg : W.grownBy W' (some k)) {cs : Array Value} {t : TypeId} (hk : W.heap[k]? = some (.cells cs t (0, 0))) (h1 : t ≠ 95) (h2 : t ≠ 115) (h3 : B ≤ k) : TQ B w0 p mb pt sz base N s grade n os W' := by
  obtain ⟨D, hM, hD⟩ := h.mem
  have e1 : k ≠ mb := hM.nb k cs t hk
  have e2 : k ≠ p := by rintro rfl; have := hM.row; rw [hk] at this; injection this with this; injection this with _ a; exact h2 a
  have e3 : k ≠ pt := by rintro rfl; have := h.row; rw [hk] at this; injection this with this; injection this with _ a; exact h1 a
  exact ⟨⟨D, hM.kept hg (fun e => e1 (Option.some.inj e).symm) (fun e => e2 (Option.some.inj e).symm) (fun j e => by cases e; exact h3), hD⟩, (hg.block pt (blk_lt h.row) (fun e => e3 (Option.some.inj e).symm)).trans h.row, h.ok⟩
/-- A list's row is written, or a new one is made. -/
theorem TQ.keptR {o : Option Nat} (h : TQ B w0 p mb pt sz base N s grade n os W) (hg : W.grownBy W' o) {t : TypeId} (hk : ∀ k, o = some k → ∃ cs, W.heap[k]? = some (.cells cs t (0, 0))) (h1 : t ≠ 95) (h2 : t ≠ 115) (h3 : ∀ k, o = some k → B ≤ k) : TQ B w0 p mb pt sz base N s grade n os W' := by
  cases o with
  | none => exact h.same hg
  | some k =>
    obtain ⟨cs, hc⟩ := hk k rfl
    exact h.kept hg hc h1 h2 (h3 k rfl)
theorem TQ.lt (h : TQ B w0 p mb pt sz base N s grade n os W) : p < W.heap.size ∧ mb < W.heap.size ∧ pt < W.heap.size := by
  obtain ⟨D, hM, hD⟩ := h.mem
  exact ⟨hM.lt, hM.own.lt, blk_lt h.row⟩
theorem TQ.mono {n' : Nat} (h : TQ B w0 p mb pt sz base N s grade n os W) (hn : n ≤ n') : TQ B w0 p mb pt sz base N s grade n' os W := by
  obtain ⟨D, hM, hD⟩ := h.mem
  exact ⟨⟨D, hM.more hn, hD⟩, h.row, h.ok⟩
theorem TQ.now {n' : Nat} {os' : Nat → Option GE} {D : DataW Unit} (h : TQ B w0 p mb pt sz base N s grade n os W) (hn : Now B w0 p mb sz base N s D n' (WO os') W') (hg : W.grownBy W' (some mb)) (hok : OKO N s os') : TQ B w0 p mb pt sz base N s grade n' os' W' := by
  obtain ⟨D', hM, hD, _⟩ := hn
  exact ⟨⟨D', hM, hD⟩, (hg.block pt (blk_lt h.row) (fun e => h.nb _ _ _ h.row (Option.some.inj e))).trans h.row, hok⟩
theorem o_insert (b : TB base N s sz) (h : TQ B w0 p mb pt sz base N s grade n os W) (g : GE) (hg : g.ok) (hs : g.s = s) (hn : n < 900000) :
    Calls Try.prog 22 #[.pointer (some ⟨pt, 0, none⟩), .agg (geA g)] W fun e W' => e = .returned (.int .i64 0) ∧ TQ B w0 p mb pt sz base N s grade (n + 3) (setO os (plcOf N (s : Int) g.v) (some g)) W' ∧ W.grownBy W' (some mb) := by
  obtain ⟨D, hM, hD⟩ := h.mem
  refine (q_insert b hM hD h.row g hg hs hn).mono ?_
  rintro e W' ⟨rfl, hN, hgr⟩
  rw [show ((g.tag, g.data) : Wd) = wOf (some g) from rfl, WO_set] at hN
  exact ⟨rfl, h.now hN hgr (h.ok.set (fun g' e => by cases e; exact ⟨hg, hs, rfl⟩)), hgr⟩
end
/-- A TSB and the document's are begun. -/
theorem o_begin {B : Nat} {w0 W : World} (hb : Below B w0 W) (hB : B ≤ W.heap.size) (size grade : Int) :
    Calls Try.prog 20 #[.int .i64 size, .int .i64 grade] W fun e W' => ∃ p mb pt A c, e = .returned (.tuple #[.pointer (some ⟨pt, 0, none⟩), .agg #[.int .i64 (ar4 size), .int .i64 (plcs (ar4 size) (ar4 grade)), .slice A 0 c]]) ∧ Kd.R k122 122 W' W.heap.size (fun _ => True) (.slice A 0 c) [] ∧ TQ B w0 p mb pt 1048576 65536 (plcs (ar4 size) (ar4 grade)) (ar4 size) (ar4 grade) (2 * plcs (ar4 size) (ar4 grade)) (fun _ => none) W' ∧ W.heap.size ≤ mb ∧ W.grownBy W' none ∧ TB 65536 (plcs (ar4 size) (ar4 grade)) (ar4 size) 1048576 := by
  refine (begin_calls hb hB size grade).mono ?_
  rintro e W' ⟨p, mb, pt, A, c, rfl, hR, ⟨D, hM, hD, _⟩, hT, hpt, hp, hmb, hg⟩
  exact ⟨p, mb, pt, A, c, rfl, hR, ⟨⟨D, hM, hD⟩, hT, oko_none _ _⟩, hmb, hg, tb_begin _ _ (ar4_lt size) (ar4_lt grade)⟩
/-- An entry as the lists have it. -/
abbrev geS (g : GE) : Ent := ⟨g.s, g.c, g.v, g.p, ⟨g.w, g.pr, g.x, g.l, g.g, g.q⟩, true⟩
end
end Go.Proofs.Ytjnffegjpkbjmaa.Mem
namespace Go.Proofs.Ytjnffegjpkbjmaa.Mem
open Go.RowKit Go.Maps Go.Proofs.YtjnffegjpkbjmaaW.PrintWords Go.Proofs.YtjnffegjpkbjmaaW.PrintLast Go.Proofs.YtjnffegjpkbjmaaW.PrintMore Go.Proofs.Ytjnffegjpkbjmaa.QTsbPlays Go.Proofs.Ytjnffegjpkbjmaa.Pure
set_option linter.unusedSimpArgs false
set_option linter.unusedVariables false
section
set_option maxHeartbeats 1000000
set_option maxRecDepth 100000
def insL (N s : Nat) (xs : List GE) (os : Nat → Option GE) : Nat → Option GE := xs.foldl (fun os g => setO os (plcOf N (s : Int) g.v) (some g)) os
theorem geS_wf {g : GE} (h : g.ok) : EntW (geS g) := by
  have h1 := h.hs
  have h2 := h.hc
  have h3 := h.hv
  have h4 := h.hp
  exact ⟨by simp [geS, Lit.wf, IntKind.min, IntKind.max, IntKind.signed, IntKind.bits]; omega, by simp [geS, Lit.wf, IntKind.min, IntKind.max, IntKind.signed, IntKind.bits]; omega, wfN h3, wfN (by omega)⟩
/-- An element of a list. -/
theorem own_at {w : World} {base : Nat} {ok : Nat → Prop} {A : Option Addr} {n c : Nat} {xs : List GE} (h : Kd.R k50 50 w base ok (.slice A n c) (xs.map geS)) (hx : ∀ g ∈ xs, g.ok) (i : Nat) (hi : i < xs.length) : ∃ ad, A = some ad ∧ EntAt w (ad.add (i * 11)) (geS xs[i]) := by
  obtain ⟨hn, _, hC⟩ := Kd.R_reads' h
  obtain ⟨ad, e, c0, c1, c2, c3, c4, c5, c6, c7, c8, c9, c10⟩ := at_T50 hC (i : Int) (by omega) (by simp; omega)
  have hr : rd_T50 (xs.map geS) (i : Int) = geS xs[i] := by
    unfold rd_T50
    simp [List.getD, hi]
  rw [Int.toNat_natCast, hr] at c0 c1 c2 c3 c4 c5 c6 c7 c8 c9 c10
  exact ⟨ad, e, geS_wf (hx _ (List.getElem_mem hi)), c0, c1, c2, c3, c4, c5, c6, c7, c8, c9, c10⟩
/-- The cells of an entry that may be. -/
structure GEAt (w : World) (y : Addr) (g : GE) : Prop where
  c0 : w.cell? y = some (.int .i64 (g.s : Int))
  c1 : w.cell? ⟨y.block, y.off + 1, none⟩ = some (.int .i64 (g.c : Int))
  c2 : w.cell? ⟨y.block, y.off + 2, none⟩ = some (.int .u64 (g.v : Int))
  c3 : w.cell? ⟨y.block, y.off + 3, none⟩ = some (.int .u64 (g.p : Int))
  c4 : w.cell? ⟨y.block, y.off + 4, none⟩ = some (.bool g.w)
  c5 : w.cell? ⟨y.block, y.off + 5, none⟩ = some (.bool g.pr)
  c6 : w.cell? ⟨y.block, y.off + 6, none⟩ = some (.bool g.x)
  c7 : w.cell? ⟨y.block, y.off + 7, none⟩ = some (.bool g.l)
  c8 : w.cell? ⟨y.block, y.off + 8, none⟩ = some (.bool g.g)
  c9 : w.cell? ⟨y.block, y.off + 9, none⟩ = some (.bool g.q)
  c10 : w.cell? ⟨y.block, y.off + 10, none⟩ = some (.bool true)
theorem GEAt.grown {w w' : World} {y : Addr} {g : GE} (h : GEAt w y g) (hg : w.grownBy w' none) : GEAt w' y g := ⟨cell_grown h.c0 hg, cell_grown h.c1 hg, cell_grown h.c2 hg, cell_grown h.c3 hg, cell_grown h.c4 hg, cell_grown h.c5 hg, cell_grown h.c6 hg, cell_grown h.c7 hg, cell_grown h.c8 hg, cell_grown h.c9 hg, cell_grown h.c10 hg⟩
theorem own_ge {w : World} {base : Nat} {ok : Nat → Prop} {A : Option Addr} {n c : Nat} {xs : List GE} (h : Kd.R k50 50 w base ok (.slice A n c) (xs.map geS)) (hx : ∀ g ∈ xs, g.ok) (i : Nat) (hi : i < xs.length) : ∃ ad, A = some ad ∧ GEAt w (ad.add (i * 11)) xs[i] := by
  obtain ⟨ad, e, _, c0, c1, c2, c3, c4, c5, c6, c7, c8, c9, c10⟩ := own_at h hx i hi
  exact ⟨ad, e, c0, c1, c2, c3, c4, c5, c6, c7, c8, c9, c10⟩
end
end Go.Proofs.Ytjnffegjpkbjmaa.Mem
