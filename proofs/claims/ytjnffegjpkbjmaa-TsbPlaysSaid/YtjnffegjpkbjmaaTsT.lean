/- A TSB by its words: which words stand at its places, and what its deeds make of them. -/
import Derived.Test.YtjnffegjpkbjmaaTs14
import Derived.Test.YtjnffegjpkbjmaaPureTsb
namespace Go.Proofs.Ytjnffegjpkbjmaa.Mem
open Go.RowKit Go.Maps Go.Proofs.YtjnffegjpkbjmaaW.PrintWords Go.Proofs.YtjnffegjpkbjmaaW.PrintLast Go.Proofs.YtjnffegjpkbjmaaW.PrintMore Go.Proofs.Ytjnffegjpkbjmaa.QTsbPlays Go.Proofs.Ytjnffegjpkbjmaa.Pure
set_option linter.unusedSimpArgs false
set_option linter.unusedVariables false
section
set_option maxHeartbeats 1000000
set_option maxRecDepth 100000
theorem qst_isMap {D : DataW Unit} (h : IsMap D) (k v : Int) : IsMap (st D k v) := by unfold st; split; exact h.del _; exact h.put _ _
theorem qrd_same {D : DataW Unit} (h : IsMap D) (k v : Int) : rd (st D k v) k = v := by
 unfold rd st
 by_cases hv : v = 0
 ·rw [if_pos hv, atKey_del_same, hv]
 ·rw [if_neg hv, atKey_put_same h (by trivial)]
theorem qrd_other {D : DataW Unit} {k k' : Int} (hne : k' ≠ k) (v : Int) : rd (st D k v) k' = rd D k' := by
 have h : Lit.int .u64 k' ≠ Lit.int .u64 k := fun e => hne (by injection e)
 unfold rd st
 by_cases hv : v = 0
 ·rw [if_pos hv, atKey_del_other h]
 ·rw [if_neg hv, atKey_put_other h]
/-- Words are put at places of a range, one by one. -/
inductive Sts (lo hi : Int) (D : DataW Unit) : DataW Unit → Prop
 | refl : Sts lo hi D D
 | st {E : DataW Unit} (h : Sts lo hi D E) (k v : Int) (hk : lo ≤ k ∧ k < hi) (hv : (Lit.int .u64 v).wf = true) : Sts lo hi D (st E k v)
theorem Sts.t {lo hi D E F} (h : Sts lo hi D E) (k : Sts lo hi E F) : Sts lo hi D F := by
 induction k with
 | refl => exact h
 | st _ a b hk hv ih => exact ih.st a b hk hv
theorem Sts.isMap {lo hi D E} (h : Sts lo hi D E) (hD : IsMap D) : IsMap E := by
 induction h with
 | refl => exact hD
 | st _ a b hk hv ih => exact qst_isMap ih a b
theorem Sts.out {lo hi D E} (h : Sts lo hi D E) {k : Int} (hk : k < lo ∨ hi ≤ k) : rd E k = rd D k := by
 induction h with
 | refl => rfl
 | st _ a b hr hv ih => rw [qrd_other (by omega), ih]
abbrev Wd := Nat × Nat
def BADW : Nat := 9223372036854775807
/-- A TSB's numbers. -/
structure TB (base N s : Nat) (sz : Int) : Prop where
 hs : s < 4
 h1 : 1 ≤ N
 hN : N ≤ 4096
 hb : base % 16 = 0
 hsz : (base : Int) + 16 * N ≤ sz
 hz : sz ≤ 2199023255552
 hq : N % (4194304 / bytesOf (s : Int)) = 0
/-- These words stand at a TSB's places. -/
structure Holds (D : DataW Unit) (base N s : Nat) (ws : Nat → Wd) : Prop where
 map : IsMap D
 tag : ∀ i, i < N → rd D (((base + 16 * i : Nat) : Int) / 8) = ((ws i).1 : Int)
 data : ∀ i, i < N → rd D (((base + 16 * i : Nat) : Int) / 8 + 1) = ((ws i).2 : Int)
 lt : ∀ i, i < N → (ws i).1 < 18446744073709551616 ∧ (ws i).2 < 18446744073709551616
 size : ∀ i, i < N → (ws i).2 = 0 ∨ sOf (ws i).2 = s
def setW (ws : Nat → Wd) (i : Nat) (w : Wd) : Nat → Wd := fun j => if j = i then w else ws j
theorem setW_at (ws : Nat → Wd) (i : Nat) (w : Wd) : setW ws i w i = w := if_pos rfl
theorem setW_ne {ws : Nat → Wd} {i j : Nat} {w : Wd} (h : j ≠ i) : setW ws i w j = ws j := if_neg h
theorem setW_two (ws : Nat → Wd) (i : Nat) (v w : Wd) : setW (setW ws i v) i w = setW ws i w := by
 funext j; unfold setW; split <;> simp [*]
theorem Holds.setTag {D base N s ws} (h : Holds D base N s ws) (hb : base % 16 = 0) {i : Nat} (hi : i < N) {t : Nat} (ht : t < 18446744073709551616) : Holds (st D (((base + 16 * i : Nat) : Int) / 8) (t : Int)) base N s (setW ws i (t, (ws i).2)) := by
 refine ⟨qst_isMap h.map _ _, fun j hj => ?_, fun j hj => ?_, fun j hj => ?_, fun j hj => ?_⟩
 ·by_cases e : j = i
  ·subst e; rw [qrd_same h.map, setW_at]
  ·rw [qrd_other (by omega), setW_ne e, h.tag j hj]
 ·rw [qrd_other (by omega), h.data j hj]
  by_cases e : j = i
  ·subst e; rw [setW_at]
  ·rw [setW_ne e]
 ·by_cases e : j = i
  ·subst e; rw [setW_at]; exact ⟨ht, (h.lt j hj).2⟩
  ·rw [setW_ne e]; exact h.lt j hj
 ·by_cases e : j = i
  ·subst e; rw [setW_at]; exact h.size j hj
  ·rw [setW_ne e]; exact h.size j hj
theorem Holds.setData {D base N s ws} (h : Holds D base N s ws) (hb : base % 16 = 0) {i : Nat} (hi : i < N) {d : Nat} (ht : d < 18446744073709551616) (hd : d = 0 ∨ sOf d = s) : Holds (st D (((base + 16 * i : Nat) : Int) / 8 + 1) (d : Int)) base N s (setW ws i ((ws i).1, d)) := by
 refine ⟨qst_isMap h.map _ _, fun j hj => ?_, fun j hj => ?_, fun j hj => ?_, fun j hj => ?_⟩
 ·rw [qrd_other (by omega), h.tag j hj]
  by_cases e : j = i
  ·subst e; rw [setW_at]
  ·rw [setW_ne e]
 ·by_cases e : j = i
  ·subst e; rw [qrd_same h.map, setW_at]
  ·rw [qrd_other (by omega), setW_ne e, h.data j hj]
 ·by_cases e : j = i
  ·subst e; rw [setW_at]; exact ⟨(h.lt j hj).1, ht⟩
  ·rw [setW_ne e]; exact h.lt j hj
 ·by_cases e : j = i
  ·subst e; rw [setW_at]; exact hd
  ·rw [setW_ne e]; exact h.size j hj
/-- What Clear leaves. -/
theorem clear_holds {base N s : Nat} {sz : Int} (b : TB base N s sz) : ∀ (xs : List Nat) (D : DataW Unit), IsMap D → (∀ x ∈ xs, x < N) →
  Sts (base / 8) ((base : Int) / 8 + 2 * N) D (clearD D base xs) ∧ ∀ j, rd (clearD D base xs) (((base + 16 * j : Nat) : Int) / 8) = (if j ∈ xs then (BADW : Int) else rd D (((base + 16 * j : Nat) : Int) / 8)) ∧ rd (clearD D base xs) (((base + 16 * j : Nat) : Int) / 8 + 1) = (if j ∈ xs then 0 else rd D (((base + 16 * j : Nat) : Int) / 8 + 1))
 | [], D, hD, hx => ⟨.refl, fun j => ⟨(if_neg (by simp)).symm, (if_neg (by simp)).symm⟩⟩
 | x :: xs, D, hD, hx => by
  have hb := b.hb
  have hxN : x < N := hx x (by simp)
  have s0 : Sts (base / 8) ((base : Int) / 8 + 2 * N) D (st (st D (((base : Int) + 16 * (x : Nat)) / 8) 9223372036854775807) (((base : Int) + 16 * (x : Nat)) / 8 + 1) 0) :=
   (Sts.refl.st _ _ (by omega) (by decide)).st _ _ (by omega) (by decide)
  obtain ⟨h1, h2⟩ := clear_holds b xs _ (s0.isMap hD) (fun y hy => hx y (by simp [hy]))
  refine ⟨s0.t h1, fun j => ?_⟩
  obtain ⟨h3, h4⟩ := h2 j
  have hc : clearD D base (x :: xs) = clearD (st (st D (((base : Int) + 16 * (x : Nat)) / 8) 9223372036854775807) (((base : Int) + 16 * (x : Nat)) / 8 + 1) 0) base xs := rfl
  rw [hc, h3, h4]
  by_cases e : j ∈ xs
  ·rw [if_pos e, if_pos e, if_pos (by simp [e]), if_pos (by simp [e])]
   exact ⟨rfl, rfl⟩
  ·rw [if_neg e, if_neg e]
   by_cases e2 : j = x
   ·subst e2
    rw [if_pos (by simp), if_pos (by simp), qrd_other (by omega), show ((base + 16 * j : Nat) : Int) / 8 = ((base : Int) + 16 * (j : Nat)) / 8 by omega, qrd_same hD, qrd_same (qst_isMap hD _ _)]
    exact ⟨rfl, rfl⟩
   ·rw [if_neg (by simp [e, e2]), if_neg (by simp [e, e2]), qrd_other (by omega), qrd_other (by omega), qrd_other (by omega), qrd_other (by omega)]
    exact ⟨rfl, rfl⟩
theorem cleared {base N s : Nat} {sz : Int} (b : TB base N s sz) (D : DataW Unit) (hD : IsMap D) : Holds (clearD D base (List.range N)) base N s (fun _ => (BADW, 0)) := by
 obtain ⟨h1, h2⟩ := clear_holds b (List.range N) D hD (fun x hx => List.mem_range.1 hx)
 refine ⟨h1.isMap hD, fun i hi => ?_, fun i hi => ?_, fun i hi => ⟨by decide, by decide⟩, fun i hi => .inl rfl⟩
 ·rw [(h2 i).1, if_pos (List.mem_range.2 hi)]
 ·rw [(h2 i).2, if_pos (List.mem_range.2 hi)]; rfl
section
variable {base N s : Nat} {sz : Int}
theorem TB.at8 (b : TB base N s sz) {i : Nat} (hi : i < N) : (Lit.int .u64 ((base + 16 * i : Nat) : Int)).wf = true ∧ (Lit.int .u64 (((base + 16 * i : Nat) : Int) + 8)).wf = true ∧ mayOf sz ((base + 16 * i : Nat) : Int) 8 8 = 0 ∧ mayOf sz (((base + 16 * i : Nat) : Int) + 8) 8 8 = 0 ∧ mayOf sz ((base + 16 * i : Nat) : Int) 16 16 = 0 ∧ (((base + 16 * i : Nat) : Int) + 8) / 8 = ((base + 16 * i : Nat) : Int) / 8 + 1 := by
 have h1 := b.hb
 have h2 := b.hsz
 have h3 := b.hz
 refine ⟨WalkArith.wf_u64 (by omega), WalkArith.wf_u64 (by omega), ?_, ?_, ?_, by omega⟩
 all_goals
  unfold mayOf
  rw [if_neg (by omega), if_neg (by omega)]
theorem TB.slot (b : TB base N s sz) (va : Nat) (hva : va < 18446744073709551616) : point_Slot.f (base : Int) (N : Int) (va : Int) (s : Int) = some ((base + 16 * plcOf N (s : Int) va : Nat) : Int) := pSlot base va (by have := b.hsz; have := b.hz; omega) hva s N b.hs b.h1 (by have := b.hN; omega)
theorem TB.in (b : TB base N s sz) (va : Nat) : plcOf N (s : Int) va < N := plcOf_lt b.h1 _ _
end
theorem wfN {n : Nat} (h : n < 18446744073709551616) : (Lit.int .u64 (n : Int)).wf = true := WalkArith.wf_u64 (by omega)
/-- What holds of a TSB's words behind a deed. -/
def Now (B : Nat) (w0 : World) (p mb : Nat) (sz : Int) (base N s : Nat) (D : DataW Unit) (n : Nat) (ws : Nat → Wd) (W : World) : Prop := ∃ D', Mem B w0 p mb sz n D' W ∧ Holds D' base N s ws ∧ Sts (base / 8) ((base : Int) / 8 + 2 * N) D D'
theorem q_lock {B w0 p mb sz n D W pt base N s grade ws} (b : TB base N s sz) (h : Mem B w0 p mb sz n D W) (hD : Holds D base N s ws) (kt : W.heap[pt]? = some (.cells (TCs p base N s grade) 95 (0, 0))) (va : Nat) (hva : va < 18446744073709551616) (hn : n < 900000) :
  Calls Try.prog 27 #[.pointer (some ⟨pt, 0, none⟩), .int .u64 va] W fun e W' => e = .returned (.tuple #[]) ∧ Now B w0 p mb sz base N s D (n + 1) (setW ws (plcOf N s va) (BADW, (ws (plcOf N s va)).2)) W' ∧ W.grownBy W' (some mb) := by
 have hi := b.in va
 obtain ⟨a1, a2, a3, a4, a5, a6⟩ := b.at8 hi
 have hb := b.hb
 refine (tlock_calls h kt va _ (b.slot va hva) a1 (by omega) a3).mono ?_
 rintro e W' ⟨rfl, hM, hg⟩
 exact ⟨rfl, ⟨_, hM, hD.setTag b.hb hi (by decide), Sts.refl.st _ _ (by omega) (by decide)⟩, hg⟩
theorem ge_sD {e : GE} (h : e.ok) : sOf e.data = e.s := (word_is _ _ _ _ _ _ _ _ h.hs h.hp h.p8).2.1
/-- An entry's cells. -/
abbrev geA (e : GE) : Array Value := #[.int .i64 (e.s : Int), .int .i64 (e.c : Int), .int .u64 (e.v : Int), .int .u64 (e.p : Int), .bool e.w, .bool e.pr, .bool e.x, .bool e.l, .bool e.g, .bool e.q, .bool true]
theorem q_data {B w0 p mb sz n D W pt base N s grade ws} (b : TB base N s sz) (h : Mem B w0 p mb sz n D W) (hD : Holds D base N s ws) (kt : W.heap[pt]? = some (.cells (TCs p base N s grade) 95 (0, 0))) (g : GE) (hg : g.ok) (hs : g.s = s) (hn : n < 900000) :
  Calls Try.prog 28 #[.pointer (some ⟨pt, 0, none⟩), .agg (geA g)] W fun e W' => e = .returned (.int .i64 0) ∧ Now B w0 p mb sz base N s D (n + 1) (setW ws (plcOf N s g.v) ((ws (plcOf N s g.v)).1, g.data)) W' ∧ W.grownBy W' (some mb) := by
 subst hs
 have hi := b.in g.v
 obtain ⟨a1, a2, a3, a4, a5, a6⟩ := b.at8 hi
 have hb := b.hb
 refine (tdata_calls h kt _ _ _ _ _ _ _ _ _ _ 500 hg.may _ _ (b.slot g.v hg.hv) hg.dataF a2 (wfN hg.data_lt) (by omega) a4).mono ?_
 rintro e W' ⟨rfl, hM, hgr⟩
 rw [a6] at hM
 exact ⟨rfl, ⟨_, hM, hD.setData b.hb hi hg.data_lt (.inr (ge_sD hg)), Sts.refl.st _ _ (by omega) (wfN hg.data_lt)⟩, hgr⟩
theorem q_tag {B w0 p mb sz n D W pt base N s grade ws} (b : TB base N s sz) (h : Mem B w0 p mb sz n D W) (hD : Holds D base N s ws) (kt : W.heap[pt]? = some (.cells (TCs p base N s grade) 95 (0, 0))) (g : GE) (hg : g.ok) (hs : g.s = s) (hn : n < 900000) :
  Calls Try.prog 29 #[.pointer (some ⟨pt, 0, none⟩), .agg (geA g)] W fun e W' => e = .returned (.int .i64 0) ∧ Now B w0 p mb sz base N s D (n + 1) (setW ws (plcOf N s g.v) (g.tag, (ws (plcOf N s g.v)).2)) W' ∧ W.grownBy W' (some mb) := by
 subst hs
 have hi := b.in g.v
 obtain ⟨a1, a2, a3, a4, a5, a6⟩ := b.at8 hi
 have hb := b.hb
 refine (ttag_calls h kt _ _ _ _ _ _ _ _ _ _ 500 hg.may _ _ (b.slot g.v hg.hv) hg.tagF a1 (wfN hg.tag_lt) (by omega) a3).mono ?_
 rintro e W' ⟨rfl, hM, hgr⟩
 exact ⟨rfl, ⟨_, hM, hD.setTag b.hb hi hg.tag_lt, Sts.refl.st _ _ (by omega) (wfN hg.tag_lt)⟩, hgr⟩
theorem q_insert {B w0 p mb sz n D W pt base N s grade ws} (b : TB base N s sz) (h : Mem B w0 p mb sz n D W) (hD : Holds D base N s ws) (kt : W.heap[pt]? = some (.cells (TCs p base N s grade) 95 (0, 0))) (g : GE) (hg : g.ok) (hs : g.s = s) (hn : n < 900000) :
  Calls Try.prog 22 #[.pointer (some ⟨pt, 0, none⟩), .agg (geA g)] W fun e W' => e = .returned (.int .i64 0) ∧ Now B w0 p mb sz base N s D (n + 3) (setW ws (plcOf N s g.v) (g.tag, g.data)) W' ∧ W.grownBy W' (some mb) := by
 subst hs
 have hi := b.in g.v
 obtain ⟨a1, a2, a3, a4, a5, a6⟩ := b.at8 hi
 have hb := b.hb
 refine (tinsert_calls h kt _ _ _ _ _ _ _ _ _ _ 500 hg.may _ _ _ (b.slot g.v hg.hv) hg.dataF hg.tagF a1 a2 (wfN hg.data_lt) (wfN hg.tag_lt) hn a3 a4).mono ?_
 rintro e W' ⟨rfl, hM, hgr⟩
 rw [a6] at hM
 have e1 := ((hD.setTag b.hb hi (t := BADW) (by decide)).setData b.hb hi hg.data_lt (.inr (ge_sD hg))).setTag b.hb hi hg.tag_lt
 rw [setW_two, setW_two, setW_at, setW_at] at e1
 refine ⟨rfl, ⟨_, hM, e1, ((Sts.refl.st _ _ (by omega) (by decide)).st _ _ (by omega) (wfN hg.data_lt)).st _ _ (by omega) (wfN hg.tag_lt)⟩, hgr⟩
/-- Words that no entry's are. -/
theorem q_find_no {B w0 p mb sz n D W pt base N s grade ws} (b : TB base N s sz) (h : Mem B w0 p mb sz n D W) (hD : Holds D base N s ws) (kt : W.heap[pt]? = some (.cells (TCs p base N s grade) 95 (0, 0))) (va : Nat) (hva : va < 18446744073709551616) (ctx : Int) (hw : (ws (plcOf N s va)).1 = BADW) :
  Calls Try.prog 24 #[.pointer (some ⟨pt, 0, none⟩), .int .u64 va, .int .i64 ctx] W fun e W' => e = .returned (.tuple #[.agg #[.int .i64 0, .int .i64 0, .int .u64 0, .int .u64 0, .bool false, .bool false, .bool false, .bool false, .bool false, .bool false, .bool false], .bool false]) ∧ W.grownBy W' none := by
 have hi := b.in va
 obtain ⟨a1, a2, a3, a4, a5, a6⟩ := b.at8 hi
 have e1 := hD.tag _ hi
 have e2 := hD.data _ hi
 have e3 := hD.lt _ hi
 obtain ⟨f0, f1, f2, f3, b4, b5, b6, b7, b8, b9, b10, q, hr, hq⟩ := read_bad (ws (plcOf N s va)).2 va
 refine tfind_no h kt f0 f1 f2 f3 b4 b5 b6 b7 b8 b9 b10 500 va ctx _ q (b.slot va hva) a1 a5 ?_ hq
 rw [e1, e2, pRead _ _ _ e3.1 e3.2 hva 500 (by decide), hw]
 exact congrArg some hr
/-- What stands at a place: an entry's words, or a locked tag. -/
inductive Is (N s i : Nat) (w : Wd) : Option GE → Prop
 | lock (h : w.1 = BADW) : Is N s i w none
 | ent (g : GE) (hg : g.ok) (hs : g.s = s) (hi : plcOf N s g.v = i) (h : w = (g.tag, g.data)) : Is N s i w (some g)
def findO (o : Option GE) (A : Nat) (ctx : Int) : Option GE := match o with
 | some g => if g.hit A ctx = true then some g else none
 | none => none
def foundV : Option GE → Value
 | some g => .tuple #[.agg (geA g), .bool true]
 | none => .tuple #[.agg #[.int .i64 0, .int .i64 0, .int .u64 0, .int .u64 0, .bool false, .bool false, .bool false, .bool false, .bool false, .bool false, .bool false], .bool false]
theorem q_find {B w0 p mb sz n D W pt base N s grade ws} (b : TB base N s sz) (h : Mem B w0 p mb sz n D W) (hD : Holds D base N s ws) (kt : W.heap[pt]? = some (.cells (TCs p base N s grade) 95 (0, 0))) (va : Nat) (hva : va < 18446744073709551616) (ctx : Int) (o : Option GE) (ho : Is N s (plcOf N s va) (ws (plcOf N s va)) o) :
  Calls Try.prog 24 #[.pointer (some ⟨pt, 0, none⟩), .int .u64 va, .int .i64 ctx] W fun e W' => e = .returned (foundV (findO o va ctx)) ∧ W.grownBy W' none := by
 generalize hi : plcOf N s va = i at ho
 cases ho with
 | lock hw => exact q_find_no b h hD kt va hva ctx (by rw [hi]; exact hw)
 | ent g hg hs hig hw =>
  subst hs
  have hlt := b.in va
  obtain ⟨a1, a2, a3, a4, a5, a6⟩ := b.at8 hlt
  have e1 := hD.tag _ hlt
  have e2 := hD.data _ hlt
  have e3 := hD.lt _ hlt
  rw [hi] at e1 e2 e3 a1 a5 hlt
  have hsl := b.slot va hva
  rw [hi] at hsl
  rw [hw] at e1 e2 e3
  by_cases hA : va / bytesOf (g.s : Int) * bytesOf (g.s : Int) = g.v
  ·have hr : tte_Read.f 500 (rd D (((base + 16 * i : Nat) : Int) / 8)) (rd D (((base + 16 * i : Nat) : Int) / 8 + 1)) va = some ((g.s : Int), (g.c : Int), (g.v : Int), (g.p : Int), g.w, g.pr, g.x, g.l, g.g, g.q, true, 0) := by
    rw [e1, e2, pRead _ _ _ e3.1 e3.2 hva 500 (by decide)]
    exact congrArg some (hg.readAt hA (hg.nohole hA))
   by_cases hh : g.hit va ctx = true
   ·refine (tfind_yes h kt _ _ _ _ _ _ _ _ _ _ 500 500 va ctx _ hsl a1 a5 hr ((hg.hits hva ctx).trans (congrArg some hh))).mono ?_
    rintro e W' ⟨rfl, hgr⟩
    exact ⟨by simp only [findO, if_pos hh]; rfl, hgr⟩
   ·have hf : g.hit va ctx = false := by simpa using hh
    refine (tfind_nohit h kt _ _ _ _ _ _ _ _ _ _ 500 500 va ctx _ hsl a1 a5 hr ((hg.hits hva ctx).trans (congrArg some hf))).mono ?_
    rintro e W' ⟨rfl, hgr⟩
    exact ⟨by simp only [findO, if_neg hh]; rfl, hgr⟩
  ·obtain ⟨f0, f1, f2, f3, b4, b5, b6, b7, b8, b9, b10, q, hr, hq⟩ := hg.readNo b.hq hva (by rw [hi, hig]) hA
   have hf : ¬ g.hit va ctx = true := by unfold GE.hit; rw [decide_eq_false hA]; simp
   refine (tfind_no h kt f0 f1 f2 f3 b4 b5 b6 b7 b8 b9 b10 500 va ctx _ q hsl a1 a5 ?_ hq).mono ?_
   ·rw [e1, e2, pRead _ _ _ e3.1 e3.2 hva 500 (by decide)]
    exact congrArg some hr
   ·rintro e W' ⟨rfl, hgr⟩
    exact ⟨by simp only [findO, if_neg hf]; rfl, hgr⟩
end
end Go.Proofs.Ytjnffegjpkbjmaa.Mem
-- halved
