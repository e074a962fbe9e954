/- A TSB by its words, whatever they are; its DropContext. -/
import Derived.Test.YtjnffegjpkbjmaaTpL
import Derived.Deep.Onto
namespace Go.Proofs.Ytjnffegjpkbjmaa.Mem
open Go.RowKit Go.Maps Go.Shelf Go.Proofs.YtjnffegjpkbjmaaW.PrintWords Go.Proofs.YtjnffegjpkbjmaaW.PrintLast Go.Proofs.YtjnffegjpkbjmaaW.PrintMore Go.Proofs.Ytjnffegjpkbjmaa.QTsbPlays Go.Proofs.Ytjnffegjpkbjmaa.Pure
attribute [local go_sem] Oper.semAt_some
set_option linter.unusedSimpArgs false
set_option linter.unusedVariables false
section
set_option maxHeartbeats 2000000
set_option maxRecDepth 100000
/-- A TSB that has a memory's map for itself, by its words. -/
structure QW (B : Nat) (w0 : World) (p mb pt : Nat) (sz : Int) (base N s : Nat) (grade : Int) (n : Nat) (ws : Nat → Wd) (W : World) : Prop where
 mem : ∃ D, Mem B w0 p mb sz n D W ∧ Holds D base N s ws
 row : W.heap[pt]? = some (.cells (TCs p base N s grade) 95 (0, 0))
section
variable {B : Nat} {w0 W W' : World} {p mb pt : Nat} {sz : Int} {base N s n : Nat} {grade : Int} {ws : Nat → Wd}
theorem QW.wok (h : QW B w0 p mb pt sz base N s grade n ws W) : WOK N s ws := by
 obtain ⟨D, hM, hD⟩ := h.mem
 exact hD.wok
theorem QW.same (h : QW B w0 p mb pt sz base N s grade n ws W) (hg : W.grownBy W' none) : QW B w0 p mb pt sz base N s grade n ws W' := by
 obtain ⟨D, hM, hD⟩ := h.mem
 exact ⟨⟨D, hM.same hg, hD⟩, blk_grown h.row hg⟩
theorem QW.nb (h : QW B w0 p mb pt sz base N s grade n ws W) (b : Nat) (cs : Array Value) (t : TypeId) (hb : W.heap[b]? = some (.cells cs t (0, 0))) : b ≠ mb := by
 obtain ⟨D, hM, hD⟩ := h.mem
 exact hM.nb b cs t hb
theorem QW.kept {k : Nat} (h : QW B w0 p mb pt sz base N s grade n ws W) (hg : W.grownBy W' (some k)) {cs : Array Value} {t : TypeId} (hk : W.heap[k]? = some (.cells cs t (0, 0))) (h1 : t ≠ 95) (h2 : t ≠ 115) (h3 : B ≤ k) : QW B w0 p mb pt sz base N s grade n ws W' := by
 obtain ⟨D, hM, hD⟩ := h.mem
 have e1 : k ≠ mb := hM.nb k cs t hk
 have e2 : k ≠ p := by rintro rfl; have := hM.row; rw [hk] at this; injection this with this; injection this with _ a; exact h2 a
 have e3 : k ≠ pt := by rintro rfl; have := h.row; rw [hk] at this; injection this with this; injection this with _ a; exact h1 a
 exact ⟨⟨D, hM.kept hg (fun e => e1 (Option.some.inj e).symm) (fun e => e2 (Option.some.inj e).symm) (fun j e => by cases e; exact h3), hD⟩, (hg.block pt (blk_lt h.row) (fun e => e3 (Option.some.inj e).symm)).trans h.row⟩
theorem QW.keptR {o : Option Nat} (h : QW B w0 p mb pt sz base N s grade n ws W) (hg : W.grownBy W' o) {t : TypeId} (hk : ∀ k, o = some k → ∃ cs, W.heap[k]? = some (.cells cs t (0, 0))) (h1 : t ≠ 95) (h2 : t ≠ 115) (h3 : ∀ k, o = some k → B ≤ k) : QW B w0 p mb pt sz base N s grade n ws W' := by
 cases o with
 | none => exact h.same hg
 | some k =>
  obtain ⟨cs, hc⟩ := hk k rfl
  exact h.kept hg hc h1 h2 (h3 k rfl)
theorem QW.lt (h : QW B w0 p mb pt sz base N s grade n ws W) : p < W.heap.size ∧ mb < W.heap.size ∧ pt < W.heap.size := by
 obtain ⟨D, hM, hD⟩ := h.mem
 exact ⟨hM.lt, hM.own.lt, blk_lt h.row⟩
theorem QW.mono {n' : Nat} (h : QW B w0 p mb pt sz base N s grade n ws W) (hn : n ≤ n') : QW B w0 p mb pt sz base N s grade n' ws W := by
 obtain ⟨D, hM, hD⟩ := h.mem
 exact ⟨⟨D, hM.more hn, hD⟩, h.row⟩
theorem QW.now {n' : Nat} {ws' : Nat → Wd} {D : DataW Unit} (h : QW B w0 p mb pt sz base N s grade n ws W) (hn : Now B w0 p mb sz base N s D n' ws' W') (hg : W.grownBy W' (some mb)) : QW B w0 p mb pt sz base N s grade n' ws' W' := by
 obtain ⟨D', hM, hD, _⟩ := hn
 exact ⟨⟨D', hM, hD⟩, (hg.block pt (blk_lt h.row) (fun e => h.nb _ _ _ h.row (Option.some.inj e))).trans h.row⟩
theorem w_find (b : TB base N s sz) (h : QW B w0 p mb pt sz base N s grade n ws W) (va : Nat) (hva : va < 18446744073709551616) (ctx : Int) :
  Calls Try.prog 24 #[.pointer (some ⟨pt, 0, none⟩), .int .u64 va, .int .i64 ctx] W fun e W' => e = .returned (foundV (findO (readW (ws (plcOf N (s : Int) va)) va) va ctx)) ∧ W.grownBy W' none := by
 obtain ⟨D, hM, hD⟩ := h.mem
 exact q_findW b hM hD h.row va hva ctx
theorem w_list (b : TB base N s sz) (h : QW B w0 p mb pt sz base N s grade n ws W) :
  Calls Try.prog 34 #[.pointer (some ⟨pt, 0, none⟩)] W fun e W' => ∃ v, e = .returned v ∧ Kd.R k50 50 W' W.heap.size (fun _ => True) v ((listO N (owO N s ws)).map geS) ∧ W.grownBy W' none := by
 obtain ⟨D, hM, hD⟩ := h.mem
 exact q_list b hM hD h.row
theorem w_locked (b : TB base N s sz) (h : QW B w0 p mb pt sz base N s grade n ws W) :
  Calls Try.prog 42 #[.pointer (some ⟨pt, 0, none⟩)] W fun e W' => e = .returned (.int .i64 (lockX ws (List.range N) : Int)) ∧ W.grownBy W' none := by
 obtain ⟨D, hM, hD⟩ := h.mem
 exact locked_calls b hM hD h.row
theorem w_lock (b : TB base N s sz) (h : QW B w0 p mb pt sz base N s grade n ws W) (va : Nat) (hva : va < 18446744073709551616) (hn : n < 900000) :
  Calls Try.prog 27 #[.pointer (some ⟨pt, 0, none⟩), .int .u64 va] W fun e W' => e = .returned (.tuple #[]) ∧ QW B w0 p mb pt sz base N s grade (n + 1) (setW ws (plcOf N (s : Int) va) (BADW, (ws (plcOf N (s : Int) va)).2)) W' ∧ W.grownBy W' (some mb) := by
 obtain ⟨D, hM, hD⟩ := h.mem
 exact (q_lock b hM hD h.row va hva hn).mono fun e W' ⟨he, hN, hg⟩ => ⟨he, h.now hN hg, hg⟩
theorem w_data (b : TB base N s sz) (h : QW B w0 p mb pt sz base N s grade n ws W) (g : GE) (hg : g.ok) (hs : g.s = s) (hn : n < 900000) :
  Calls Try.prog 28 #[.pointer (some ⟨pt, 0, none⟩), .agg (geA g)] W fun e W' => e = .returned (.int .i64 0) ∧ QW B w0 p mb pt sz base N s grade (n + 1) (setW ws (plcOf N (s : Int) g.v) ((ws (plcOf N (s : Int) g.v)).1, g.data)) W' ∧ W.grownBy W' (some mb) := by
 obtain ⟨D, hM, hD⟩ := h.mem
 exact (q_data b hM hD h.row g hg hs hn).mono fun e W' ⟨he, hN, hg⟩ => ⟨he, h.now hN hg, hg⟩
theorem w_tag (b : TB base N s sz) (h : QW B w0 p mb pt sz base N s grade n ws W) (g : GE) (hg : g.ok) (hs : g.s = s) (hn : n < 900000) :
  Calls Try.prog 29 #[.pointer (some ⟨pt, 0, none⟩), .agg (geA g)] W fun e W' => e = .returned (.int .i64 0) ∧ QW B w0 p mb pt sz base N s grade (n + 1) (setW ws (plcOf N (s : Int) g.v) (g.tag, (ws (plcOf N (s : Int) g.v)).2)) W' ∧ W.grownBy W' (some mb) := by
 obtain ⟨D, hM, hD⟩ := h.mem
 exact (q_tag b hM hD h.row g hg hs hn).mono fun e W' ⟨he, hN, hg⟩ => ⟨he, h.now hN hg, hg⟩
theorem w_insert (b : TB base N s sz) (h : QW B w0 p mb pt sz base N s grade n ws W) (g : GE) (hg : g.ok) (hs : g.s = s) (hn : n < 900000) :
  Calls Try.prog 22 #[.pointer (some ⟨pt, 0, none⟩), .agg (geA g)] W fun e W' => e = .returned (.int .i64 0) ∧ QW B w0 p mb pt sz base N s grade (n + 3) (setW ws (plcOf N (s : Int) g.v) (g.tag, g.data)) W' ∧ W.grownBy W' (some mb) := by
 obtain ⟨D, hM, hD⟩ := h.mem
 exact (q_insert b hM hD h.row g hg hs hn).mono fun e W' ⟨he, hN, hg⟩ => ⟨he, h.now hN hg, hg⟩
theorem w_drop (b : TB base N s sz) (h : QW B w0 p mb pt sz base N s grade n ws W) (va : Nat) (hva : va < 18446744073709551616) (ctx : Int) (hn : n < 999999) :
  Calls Try.prog 43 #[.pointer (some ⟨pt, 0, none⟩), .int .u64 va, .int .i64 ctx] W fun e W' => e = .returned (.bool (findO (readW (ws (plcOf N (s : Int) va)) va) va ctx).isSome) ∧ QW B w0 p mb pt sz base N s grade (n + 2) (if (findO (readW (ws (plcOf N (s : Int) va)) va) va ctx).isSome = true then setW ws (plcOf N (s : Int) va) (BADW, 0) else ws) W' ∧ W.grownBy W' (some mb) := by
 obtain ⟨D, hM, hD⟩ := h.mem
 exact (q_drop b hM hD h.row va hva ctx hn trivial).mono fun e W' ⟨he, hN, hg⟩ => ⟨he, h.now hN hg, hg⟩
theorem w_clear (b : TB base N s sz) (h : QW B w0 p mb pt sz base N s grade n ws W) (hn : n ≤ 500000) :
  Calls Try.prog 45 #[.pointer (some ⟨pt, 0, none⟩)] W fun e W' => e = .returned (.tuple #[]) ∧ QW B w0 p mb pt sz base N s grade (n + 2 * N) (fun _ => (BADW, 0)) W' ∧ W.grownBy W' (some mb) := by
 obtain ⟨D, hM, hD⟩ := h.mem
 have hb := b.hb
 have hN := b.hN
 refine (tclear_calls hM h.row (by omega) (by omega) (by omega) b.hsz b.hz hn).mono ?_
 rintro e W' ⟨rfl, hM2, hg⟩
 exact ⟨rfl, ⟨⟨_, hM2, cleared b D hD.map⟩, (hg.block pt (blk_lt h.row) (fun e => h.nb _ _ _ h.row (Option.some.inj e))).trans h.row⟩, hg⟩
end
/-- An entry of this context that is none of all contexts. -/
def dropsAt (ctx : Int) : Option GE → Bool
 | some g => !g.g && ((g.c : Int) == ctx)
 | none => false
def dstep (N s : Nat) (ctx : Int) (x : (Nat → Wd) × Nat) (i : Nat) : (Nat → Wd) × Nat := if dropsAt ctx (ownW N s i (x.1 i)) = true then (setW x.1 i (BADW, 0), x.2 + 1) else x
def dfold (N s : Nat) (ctx : Int) (ws : Nat → Wd) (is : List Nat) : (Nat → Wd) × Nat := is.foldl (dstep N s ctx) (ws, 0)
theorem dfold_snoc (N s : Nat) (ctx : Int) (ws : Nat → Wd) (is : List Nat) (i : Nat) : dfold N s ctx ws (is ++ [i]) = dstep N s ctx (dfold N s ctx ws is) i := by
 unfold dfold
 rw [List.foldl_append, List.foldl_cons, List.foldl_nil]
theorem dfold_le (N s : Nat) (ctx : Int) (ws : Nat → Wd) (is : List Nat) : (dfold N s ctx ws is).2 ≤ is.length := by
 have h : ∀ (is : List Nat) (x : (Nat → Wd) × Nat), (is.foldl (dstep N s ctx) x).2 ≤ x.2 + is.length := by
  intro is
  induction is with
  | nil => intro x; exact Nat.le_refl _
  | cons i is ih =>
   intro x
   rw [List.foldl_cons, List.length_cons]
   have h1 := ih (dstep N s ctx x i)
   have h2 : (dstep N s ctx x i).2 ≤ x.2 + 1 := by
    unfold dstep
    split <;> simp
   omega
 have := h is (ws, 0)
 simpa [dfold] using this
section
variable {B : Nat} {w0 W : World} {p mb pt : Nat} {sz : Int} {base N s n : Nat} {grade : Int} {ws : Nat → Wd}
theorem o_own (b : TB base N s sz) (h : QW B w0 p mb pt sz base N s grade n ws W) (i : Nat) (hi : i < N) :
  Calls Try.prog 72 #[.pointer (some ⟨pt, 0, none⟩), .int .u64 ((base + 16 * i : Nat) : Int)] W fun e W' => e = .returned (foundV (ownW N s i (ws i))) ∧ W.grownBy W' none := by
 obtain ⟨D, hM, hD⟩ := h.mem
 exact own_calls b hM hD h.row i hi
theorem o_dropAt (b : TB base N s sz) (h : QW B w0 p mb pt sz base N s grade n ws W) (i : Nat) (hi : i < N) (hn : n < 999999) :
  Calls Try.prog 78 #[.pointer (some ⟨pt, 0, none⟩), .int .u64 ((base + 16 * i : Nat) : Int)] W fun e W' => e = .returned (.tuple #[]) ∧ QW B w0 p mb pt sz base N s grade (n + 2) (setW ws i (BADW, 0)) W' ∧ W.grownBy W' (some mb) := by
 obtain ⟨D, hM, hD⟩ := h.mem
 exact (q_dropAt b hM hD h.row i hi hn).mono fun e W' ⟨he, hN, hg⟩ => ⟨he, h.now hN hg, hg⟩
/-- What stands between two rounds of DropContext. -/
structure DC (B : Nat) (w0 W0 : World) (p mb pt s1 s3 s5 : Nat) (sz : Int) (base N s : Nat) (grade ctx : Int) (n : Nat) (x : (Nat → Wd) × Nat) (W : World) : Prop where
 tq : QW B w0 p mb pt sz base N s grade n x.1 W
 box : W.heap[s1]? = some (.cells #[.pointer (some ⟨pt, 0, none⟩)] 36 (0, 0))
 cb : W.heap[s3]? = some (.cells #[.int .i64 ctx] 3 (0, 0))
 out : W.heap[s5]? = some (.cells #[.int .i64 (x.2 : Int)] 3 (0, 0))
 gr : W0.grownBy W (some mb)
theorem DC.same {w0 W0 p mb pt s1 s3 s5 ctx x W W'} (h : DC B w0 W0 p mb pt s1 s3 s5 sz base N s grade ctx n x W) (hg : W.grownBy W' none) : DC B w0 W0 p mb pt s1 s3 s5 sz base N s grade ctx n x W' :=
 ⟨h.tq.same hg, blk_grown h.box hg, blk_grown h.cb hg, blk_grown h.out hg, grown_two h.gr (grown_but hg _)⟩
theorem DC.kept {w0 W0 p mb pt s1 s3 s5 ctx x W W' row} (h : DC B w0 W0 p mb pt s1 s3 s5 sz base N s grade ctx n x W) (hg : W.grownBy W' row) (hr : ∀ j, row = some j → mb < j ∧ p < j ∧ pt < j ∧ s1 < j ∧ s3 < j ∧ s5 < j ∧ W0.heap.size ≤ j ∧ B ≤ j) : DC B w0 W0 p mb pt s1 s3 s5 sz base N s grade ctx n x W' := by
 cases row with
 | none => exact h.same hg
 | some j =>
  obtain ⟨r1, r2, r3, r4, r5, r6, r7, r8⟩ := hr j rfl
  obtain ⟨D, hM, hD⟩ := h.tq.mem
  have hk : ∀ {k : Nat} {o : Obj}, W.heap[k]? = some o → k < j → W'.heap[k]? = some o := fun hb hlt => (hg.block _ (blk_lt hb) (fun e => by have := Option.some.inj e; omega)).trans hb
  exact ⟨⟨⟨D, hM.kept hg (fun e => by have := Option.some.inj e; omega) (fun e => by have := Option.some.inj e; omega) (fun k e => by have := Option.some.inj e; omega), hD⟩, hk h.tq.row r3⟩, hk h.box r4, hk h.cb r5, hk h.out r6, grown_loc h.gr hg r7⟩
/-- A place is dropped. -/
theorem DC.drop {w0 W0 p mb pt s1 s3 s5 ctx x W W' ws'} (h : DC B w0 W0 p mb pt s1 s3 s5 sz base N s grade ctx n x W) (hT : QW B w0 p mb pt sz base N s grade (n + 2) ws' W') (hg : W.grownBy W' (some mb)) : DC B w0 W0 p mb pt s1 s3 s5 sz base N s grade ctx (n + 2) (ws', x.2) W' :=
 ⟨hT, (hg.block _ (blk_lt h.box) (fun e => h.tq.nb _ _ _ h.box (Option.some.inj e))).trans h.box, (hg.block _ (blk_lt h.cb) (fun e => h.tq.nb _ _ _ h.cb (Option.some.inj e))).trans h.cb, (hg.block _ (blk_lt h.out) (fun e => h.tq.nb _ _ _ h.out (Option.some.inj e))).trans h.out, grown_two h.gr hg⟩
/-- The count's box is written. -/
theorem DC.put {w0 W0 p mb pt s1 s3 s5 ctx x W} (h : DC B w0 W0 p mb pt s1 s3 s5 sz base N s grade ctx n x W) (c' : Nat) (hB : B ≤ s5) (hW : W0.heap.size ≤ s5) (h35 : s3 ≠ s5) : DC B w0 W0 p mb pt s1 s3 s5 sz base N s grade ctx n (x.1, c') (W.setCell ⟨s5, 0, none⟩ (.int .i64 (c' : Int))) ∧ W.grownBy (W.setCell ⟨s5, 0, none⟩ (.int .i64 (c' : Int))) (some s5) := by
 have hg := grown_cellq W ⟨s5, 0, none⟩ (.int .i64 (c' : Int))
 have hk : ∀ k, some s5 = some k → ∃ cs, W.heap[k]? = some (.cells cs 3 (0, 0)) := fun k e => by cases e; exact ⟨_, h.out⟩
 exact ⟨⟨h.tq.keptR hg hk (by decide) (by decide) (fun k e => by obtain rfl : s5 = k := Option.some.inj e; exact hB), blk_keptR h.box hg hk (by decide), (hg.block s3 (blk_lt h.cb) (fun e => h35 (Option.some.inj e))).trans h.cb, blk_put h.out 0 _ rfl, grown_loc h.gr hg hW⟩, hg⟩
theorem w_dropCtx (b : TB base N s sz) (h : QW B w0 p mb pt sz base N s grade n ws W) (ctx : Int) (hn : n ≤ 500000) :
  Calls Try.prog 44 #[.pointer (some ⟨pt, 0, none⟩), .int .i64 ctx] W fun e W' => e = .returned (.int .i64 ((dfold N s ctx ws (List.range N)).2 : Int)) ∧ QW B w0 p mb pt sz base N s grade (n + 2 * N) (dfold N s ctx ws (List.range N)).1 W' ∧ W.grownBy W' (some mb) := by
 have hu := Try.underlying50
 have HBT := Aside0.mk b
 have HK := Aside0.mk (show mb < W.heap.size ∧ p < W.heap.size ∧ pt < W.heap.size ∧ B ≤ W.heap.size ∧ pt ≠ mb from by
  obtain ⟨D, hM, hD⟩ := h.mem
  exact ⟨hM.own.lt, hM.lt, blk_lt h.row, hM.hB, hM.nb _ _ _ h.row⟩)
 have hN := b.hN
 have hsz := b.hsz
 have hz := b.hz
 have ha1 := World.grownBy_alloc W (.cells #[.pointer (some ⟨pt, 0, none⟩)] 36) none
 have ha2 := World.grownBy_alloc (W.alloc (.cells #[.pointer (some ⟨pt, 0, none⟩)] 36)) (.cells #[.int .i64 ctx] 3) none
 have ha3 := World.grownBy_alloc ((W.alloc (.cells #[.pointer (some ⟨pt, 0, none⟩)] 36)).alloc (.cells #[.int .i64 ctx] 3)) (.cells #[.int .i64 0] 3) none
 have hA := grown_two (grown_two ha1 ha2) ha3
 have HB1 := Aside0.mk (blk_grown (blk_grown (heap_alloc_new W (.cells #[.pointer (some ⟨pt, 0, none⟩)] 36)) ha2) ha3)
 have HB3 := Aside0.mk (blk_grown (heap_alloc_new (W.alloc (.cells #[.pointer (some ⟨pt, 0, none⟩)] 36)) (.cells #[.int .i64 ctx] 3)) ha3)
 have HB5 := Aside0.mk (heap_alloc_new ((W.alloc (.cells #[.pointer (some ⟨pt, 0, none⟩)] 36)).alloc (.cells #[.int .i64 ctx] 3)) (.cells #[.int .i64 0] 3))
 rw [World.size_alloc] at HB3
 rw [World.size_alloc, World.size_alloc] at HB5
 have HM0 := Aside0.mk (h.same hA)
 have HAA := Aside0.mk hA
 clear h b hA ha1 ha2 ha3
 refine (callsIn_wide (n := 4)).1 ?_
 refine callsIn_of_wp_marks Try.func44 rfl trivial ?_ rfl
 simp only [Try.ntmps44, List.size_toArray, List.length_cons, List.length_nil, Nat.reduceAdd, Nat.reduceSub, Array.replicate_succ, Array.replicate_zero, List.push_toArray, List.append_toArray, List.nil_append, List.cons_append]
 have q0 := cz1 HB1.out
 gi_wp2_with (refine ⟨trivial, ?_⟩; gi_at_call 71; refine (callsIn_wide.2 (each_calls2 _ _ ⟨_, rfl⟩)).mono ?_; rintro e w5 ⟨b1, rfl, hx1, hx2, hg⟩; have HL5 := Aside0.mk (show DC B w0 W p mb pt W.heap.size (W.heap.size + 1) (W.heap.size + 1 + 1) sz base N s grade ctx n (ws, 0) w5 from ⟨HM0.out.same hg, blk_grown HB1.out hg, blk_grown HB3.out hg, blk_grown HB5.out hg, grown_but (grown_two HAA.out hg) _⟩); have HX := Aside0.mk (And.intro hx1 hx2); clear hx1 hx2 hg q0)
 obtain ⟨s1, hs1⟩ : ∃ z, z = W.heap.size := ⟨_, rfl⟩
 obtain ⟨s3, hs3⟩ : ∃ z, z = W.heap.size + 1 := ⟨_, rfl⟩
 obtain ⟨s5, hs5⟩ : ∃ z, z = W.heap.size + 1 + 1 := ⟨_, rfl⟩
 have HSS := Aside0.mk (And.intro hs1 (And.intro hs3 hs5))
 rw [← hs5, ← hs3, ← hs1] at HL5
 rw [← hs5, ← hs3, ← hs1]
 clear HB1 HB3 HB5 HM0 HAA
 have HW5 := Aside0.mk (show s1 < w5.heap.size ∧ s3 < w5.heap.size ∧ b1 < w5.heap.size ∧ W.heap.size ≤ w5.heap.size ∧ b1 ≠ s5 ∧ pt ≠ s5 ∧ s5 < w5.heap.size ∧ b1 ≠ mb from by
  have := HX.out.2
  rw [World.size_alloc, World.size_alloc, World.size_alloc] at this
  have := HK.out
  exact ⟨blk_lt HL5.out.box, blk_lt HL5.out.cb, blk_lt HX.out.1, HL5.out.gr.size, by omega, by omega, blk_lt HL5.out.out, HL5.out.tq.nb _ _ _ HX.out.1⟩)
 clear hs1 hs3 hs5
 refine wpIn_rangeFunc_ownG rfl (by omega) (gf := 105) (lb := #[.pointer (some ⟨b1, 0, none⟩)]) rfl trivial (enters_of Try.func105 (by kernel_rfl) rfl)
  (each_stopsX (n0 := w5.heap.size) (X := fun k => k = mb ∨ k = s5) (p := p) (size := s) (grade := grade) (base := (base : Int)) (by omega) (by omega) (by omega) (blk_lt HL5.out.tq.row) HW5.out.2.2.1 (fun e => e.elim HK.out.2.2.2.2 HW5.out.2.2.2.2.2.1) (fun e => e.elim HW5.out.2.2.2.2.2.2.2 HW5.out.2.2.2.2.1) (Nat.le_refl _) HL5.out.tq.row HX.out.1) KeptX.t (KeptX.b (Nat.le_refl _)) (Below.refl _ _) (fun _ => rfl)
  (fun (pre : List (Pl N)) W2 => DC B w0 W p mb pt s1 s3 s5 sz base N s grade ctx (n + 2 * pre.length) (dfold N s ctx ws (pre.map (fun x : Pl N => x.1))) W2)
  (fun _ _ _ => False)
  (fun x A C row hs hg hr => hs.kept hg (fun j e => by have h1 := (hr j e).1; have h2 := HK.out; have h3 := HW5.out; have h6 := HSS.out; exact ⟨by omega, by omega, by omega, by omega, by omega, by omega, by omega, by omega⟩))
  (fun _ _ _ _ _ hs _ _ => hs)
  (by simpa [dfold] using HL5.out)
  (fun x => { tmps := #[.pointer (some ⟨pt, 0, none⟩), .int .i64 ctx, .pointer (some ⟨s1, 0, none⟩), .pointer (some ⟨s3, 0, none⟩), .int .i64 0, .pointer (some ⟨s5, 0, none⟩), .int .u64 ((base : Int) + 16 * (x.1 : Nat)), undef, undef, .pointer (some ⟨pt, 0, none⟩), .func (.func 105) #[] #[.pointer (some ⟨b1, 0, none⟩)], .int .u64 ((base : Int) + 16 * (x.1 : Nat)), undef, undef, undef, undef, undef, undef, undef, undef, undef, undef, undef, undef, undef, undef, undef, undef, undef, undef, undef, undef, undef, undef, undef, undef, undef], defers := [] }) ?assign ?body ?done ?stop
 case assign =>
  intro l x W2 K hK
  gi_wp2
  exact hK
 case body =>
  rintro l pre ⟨i, hi⟩ W2 hC hlen
  have HLE := Aside0.mk (dfold_le N s ctx ws (pre.map (fun x : Pl N => x.1)))
  rw [List.length_map] at HLE
  obtain ⟨PR, hPR⟩ : ∃ x, x = dfold N s ctx ws (pre.map (fun x : Pl N => x.1)) := ⟨_, rfl⟩
  have hC' : DC B w0 W p mb pt s1 s3 s5 sz base N s grade ctx (n + 2 * pre.length) (dfold N s ctx ws (pre.map (fun x : Pl N => x.1))) W2 := hC
  rw [← hPR] at hC' HLE
  have HPR := Aside0.mk hPR.symm
  have HC2 := Aside0.mk hC'
  clear hC hC' hPR
  have hat : ((base : Int) + 16 * (i : Nat)) = ((base + 16 * i : Nat) : Int) := by omega
  have hown := o_own HBT.out HC2.out.tq i hi
  rw [← hat] at hown
  have HOWN := Aside0.mk hown
  clear hown
  have HAT := Aside0.mk hat
  clear hat
  have q0 := cz1 HC2.out.box
  cases ho : ownW N s i (PR.1 i) with
  | none =>
   rw [ho] at HOWN
   gi_wp2_with fail
   refine ⟨trivial, ?_⟩
   refine (CallsIn.inRound l (callsIn_wide.2 HOWN.out)).mono ?_
   rintro e w6 ⟨hx, hg⟩
   obtain rfl : e = .returned (.tuple #[.agg #[.int .i64 0, .int .i64 0, .int .u64 0, .int .u64 0, .bool false, .bool false, .bool false, .bool false, .bool false, .bool false, .bool false], .bool false]) := hx
   clear q0
   have HC3 := Aside0.mk (HC2.out.same hg)
   have HG6 := Aside0.mk hg
   clear hg
   gi_wp2
   have hgA := grown_two HG6.out (World.grownBy_alloc w6 (.cells #[.int .i64 0, .int .i64 0, .int .u64 0, .int .u64 0, .bool false, .bool false, .bool false, .bool false, .bool false, .bool false, .bool false] 50) none)
   have hL : dfold N s ctx ws ((pre ++ [(⟨i, hi⟩ : Pl N)]).map (fun x : Pl N => x.1)) = PR := by
    rw [List.map_append]
    refine (dfold_snoc N s ctx ws _ i).trans ?_
    rw [HPR.out]
    unfold dstep
    rw [if_neg (by rw [show ownW N s i (PR.1 i) = _ from ho]; simp [dropsAt])]
   refine ⟨KeepsFrom.of_grownBy hgA (fun j e => by cases e), KeptX.g hgA (fun k e => by cases e), ?_⟩
   show DC B w0 W p mb pt s1 s3 s5 sz base N s grade ctx (n + 2 * (pre ++ [(⟨i, hi⟩ : Pl N)]).length) (dfold N s ctx ws ((pre ++ [(⟨i, hi⟩ : Pl N)]).map (fun x : Pl N => x.1))) _
   rw [hL]
   have h9 := HC3.out.same (World.grownBy_alloc w6 (.cells #[.int .i64 0, .int .i64 0, .int .u64 0, .int .u64 0, .bool false, .bool false, .bool false, .bool false, .bool false, .bool false, .bool false] 50) none)
   exact ⟨h9.tq.mono (by rw [List.length_append]; omega), h9.box, h9.cb, h9.out, h9.gr⟩
  | some g =>
   rw [ho] at HOWN
   gi_wp2_with fail
   refine ⟨trivial, ?_⟩
   refine (CallsIn.inRound l (callsIn_wide.2 HOWN.out)).mono ?_
   rintro e w6 ⟨hx, hg⟩
   obtain rfl : e = .returned (.tuple #[.agg (geA g), .bool true]) := hx
   clear q0
   have HC3 := Aside0.mk (HC2.out.same hg)
   have HG6 := Aside0.mk hg
   clear hg
   have HG7 := Aside0.mk (World.grownBy_alloc w6 (.cells (geA g) 50) none)
   have q3 := cz1 (blk_grown HC3.out.cb HG7.out)
   have q1 := cz1 (blk_grown HC3.out.box HG7.out)
   obtain ⟨z0, z1, z2, z3, z4, z5, z6, z7, z8, z9, z10⟩ := tte_Read.cz11 (heap_alloc_new w6 (.cells (geA g) 50))
   have HO := Aside0.mk ho
   clear ho
   cases hgg : g.g with
   | true =>
    rw [hgg] at z8
    have HGG := Aside0.mk hgg
    clear z0 z1 z2 z3 z4 z5 z6 z7 z9 z10 hgg
    gi_wp2
    have ho := HO.out
    have hgg := HGG.out
    have hgA := grown_two HG6.out HG7.out
    have hL : dfold N s ctx ws ((pre ++ [(⟨i, hi⟩ : Pl N)]).map (fun x : Pl N => x.1)) = PR := by
     rw [List.map_append]
     refine (dfold_snoc N s ctx ws _ i).trans ?_
     rw [HPR.out]
     unfold dstep
     rw [if_neg (by rw [show ownW N s i (PR.1 i) = _ from ho]; simp [dropsAt, hgg])]
    refine ⟨KeepsFrom.of_grownBy hgA (fun j e => by cases e), KeptX.g hgA (fun k e => by cases e), ?_⟩
    show DC B w0 W p mb pt s1 s3 s5 sz base N s grade ctx (n + 2 * (pre ++ [(⟨i, hi⟩ : Pl N)]).length) (dfold N s ctx ws ((pre ++ [(⟨i, hi⟩ : Pl N)]).map (fun x : Pl N => x.1))) _
    rw [hL]
    have h9 := HC3.out.same (World.grownBy_alloc w6 (.cells (geA g) 50) none)
    exact ⟨h9.tq.mono (by rw [List.length_append]; omega), h9.box, h9.cb, h9.out, h9.gr⟩
   | false =>
    rw [hgg] at z8
    have HGG := Aside0.mk hgg
    clear hgg
    cases hcc : ((g.c : Int) == ctx) with
    | false =>
     clear z0 z2 z3 z4 z5 z6 z7 z9 z10
     gi_wp2
     have ho := HO.out
     have hgg := HGG.out
     have hgA := grown_two HG6.out HG7.out
     have hL : dfold N s ctx ws ((pre ++ [(⟨i, hi⟩ : Pl N)]).map (fun x : Pl N => x.1)) = PR := by
      rw [List.map_append]
      refine (dfold_snoc N s ctx ws _ i).trans ?_
      rw [HPR.out]
      unfold dstep
      rw [if_neg (by rw [show ownW N s i (PR.1 i) = _ from ho]; simp [dropsAt, hgg, hcc])]
     refine ⟨KeepsFrom.of_grownBy hgA (fun j e => by cases e), KeptX.g hgA (fun k e => by cases e), ?_⟩
     show DC B w0 W p mb pt s1 s3 s5 sz base N s grade ctx (n + 2 * (pre ++ [(⟨i, hi⟩ : Pl N)]).length) (dfold N s ctx ws ((pre ++ [(⟨i, hi⟩ : Pl N)]).map (fun x : Pl N => x.1))) _
     rw [hL]
     have h9 := HC3.out.same (World.grownBy_alloc w6 (.cells (geA g) 50) none)
     exact ⟨h9.tq.mono (by rw [List.length_append]; omega), h9.box, h9.cb, h9.out, h9.gr⟩
    | true =>
     clear z0 z2 z3 z4 z5 z6 z7 z9 z10
     have HC4 := Aside0.mk (HC3.out.same HG7.out)
     have hda := o_dropAt HBT.out HC4.out.tq i hi (by have := HLE.out; omega)
     rw [← HAT.out] at hda
     have HDA := Aside0.mk hda
     clear hda
     obtain ⟨c, hc⟩ : ∃ c, c = PR.2 := ⟨_, rfl⟩
     have hw3 : IntKind.i64.wrap ((c : Int) + 1) = ((c + 1 : Nat) : Int) := IntWalk.i64_in _ (by have := HLE.out; omega)
     have HCE := Aside0.mk hc
     clear hc
     gi_wp2_with (refine ⟨trivial, ?_⟩; refine (CallsIn.inRound l (callsIn_wide.2 HDA.out)).mono ?_; rintro e w7 ⟨rfl, hM, hg⟩; have HC5 := Aside0.mk (HC4.out.drop hM hg); have HG8 := Aside0.mk hg; rw [← HCE.out] at HC5; clear hg hM q1 q3 z1 z8; have q5 := cz1 HC5.out.out; have qf := blk_frozen HC5.out.out 0)
     obtain ⟨hput, hgp⟩ := HC5.out.put (c + 1) (by have := HK.out; have := HSS.out; omega) (by have := HSS.out; omega) (by have := HSS.out; omega)
     have hgA := grown_two HG6.out HG7.out
     refine ⟨(KeepsFrom.of_grownBy hgA (fun j e => by cases e)).trans ((KeepsFrom.of_grownBy HG8.out (fun j e => by cases e; have := HK.out; have := HW5.out; omega)).trans (KeepsFrom.of_grownBy hgp (fun j e => by obtain rfl : s5 = j := Option.some.inj e; exact HW5.out.2.2.2.2.2.2.1))), (KeptX.g hgA (fun k e => by cases e)).t ((KeptX.g HG8.out (fun k e => by cases e; exact .inl (.inl rfl))).t (KeptX.g hgp (fun k e => by obtain rfl : s5 = k := Option.some.inj e; exact .inl (.inr rfl)))), ?_⟩
     have hL : dfold N s ctx ws ((pre ++ [(⟨i, hi⟩ : Pl N)]).map (fun x : Pl N => x.1)) = (setW PR.1 i (BADW, 0), c + 1) := by
      rw [List.map_append]
      refine (dfold_snoc N s ctx ws _ i).trans ?_
      rw [HPR.out]
      unfold dstep
      rw [if_pos (by rw [HO.out]; simp [dropsAt, HGG.out, hcc]), HCE.out]
     show DC B w0 W p mb pt s1 s3 s5 sz base N s grade ctx (n + 2 * (pre ++ [(⟨i, hi⟩ : Pl N)]).length) (dfold N s ctx ws ((pre ++ [(⟨i, hi⟩ : Pl N)]).map (fun x : Pl N => x.1))) _
     rw [hL, show n + 2 * (pre ++ [(⟨i, hi⟩ : Pl N)]).length = n + 2 * pre.length + 2 by rw [List.length_append]; simp; omega]
     exact hput
 case done =>
  rintro E ys W2 hE hS hC hK
  have hC2 : DC B w0 W p mb pt s1 s3 s5 sz base N s grade ctx (n + 2 * ys.length) (dfold N s ctx ws (ys.map (fun x : Pl N => x.1))) W2 := hC
  have hl : ys.length = N := by have := congrArg List.length (show ys.map (fun x : Pl N => x.1) = List.range N from hS); simpa using this
  rw [show ys.map (fun x : Pl N => x.1) = List.range N from hS, hl] at hC2
  have HC2 := Aside0.mk hC2
  clear hC hC2
  have q3 := cz1 HC2.out.out
  gi_wp2
  refine ⟨by simp, .inl ⟨_, _, rfl, run_takeDeferred hK, ?_⟩⟩
  have HC4 := HC2.out.kept (grownBy_putObj' W2 E (.deferred none)) (fun j e => by cases e; have h2 := HK.out; have h3 := HW5.out; have h6 := HSS.out; exact ⟨by omega, by omega, by omega, by omega, by omega, by omega, by omega, by omega⟩)
  exact ⟨_, by simp [results, Try.f44, go_sem], rfl, HC4.tq, HC4.gr⟩
 case stop =>
  rintro E c pre W2 hD _ h _
  exact h.elim
end
end
end Go.Proofs.Ytjnffegjpkbjmaa.Mem
-- halved
