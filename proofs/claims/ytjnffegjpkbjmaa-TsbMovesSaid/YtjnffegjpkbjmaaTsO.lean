/- A TSB by its entries: List, Locked, Drop. -/
import Derived.Test.YtjnffegjpkbjmaaTsList
import Derived.Deep.Onto
import Derived.Test.YtjnffegjpkbjmaaTsLq
import Derived.Test.YtjnffegjpkbjmaaTsLR
/- merged: TsDc -/
/- merged: TsLk -/
namespace Go.Proofs.Ytjnffegjpkbjmaa.Mem
open Go.RowKit Go.Maps Go.Shelf Go.Proofs.YtjnffegjpkbjmaaW.PrintWords Go.Proofs.YtjnffegjpkbjmaaW.PrintLast Go.Proofs.YtjnffegjpkbjmaaW.PrintMore Go.Proofs.Ytjnffegjpkbjmaa.QTsbPlays Go.Proofs.Ytjnffegjpkbjmaa.Pure
attribute [local go_sem] Oper.semAt_some
set_option linter.unusedSimpArgs false
set_option linter.unusedVariables false
section
set_option maxHeartbeats 2000000
set_option maxRecDepth 100000
/-- What stands between two rounds of Locked. -/
structure LK (B : Nat) (w0 W0 : World) (p mb pt s1 s3 : Nat) (sz : Int) (n : Nat) (D : DataW Unit) (base N s : Nat) (grade : Int) (c : Nat) (W : World) : Prop where
  mem : Mem B w0 p mb sz n D W
  row : W.heap[pt]? = some (.cells (TCs p base N s grade) 95 (0, 0))
  box : W.heap[s1]? = some (.cells #[.pointer (some ⟨pt, 0, none⟩)] 36 (0, 0))
  out : W.heap[s3]? = some (.cells #[.int .i64 (c : Int)] 3 (0, 0))
  gr : W0.grownBy W none
theorem LK.kept {B w0 W0 p mb pt s1 s3 sz n D base N s grade c W W' row} (h : LK B w0 W0 p mb pt s1 s3 sz n D base N s grade c W) (hg : W.grownBy W' row) (hr : ∀ j, row = some j → mb < j ∧ p < j ∧ pt < j ∧ s1 < j ∧ s3 < j ∧ W0.heap.size ≤ j ∧ B ≤ j) : LK B w0 W0 p mb pt s1 s3 sz n D base N s grade c W' := by
  refine ⟨h.mem.kept hg (fun e => by have := (hr _ e.symm).1; omega) (fun e => by have := (hr _ e.symm).2.1; omega) (fun k e => (hr k e).2.2.2.2.2.2), (hg.block pt (blk_lt h.row) (fun e => by have := (hr _ e.symm).2.2.1; omega)).trans h.row, (hg.block s1 (blk_lt h.box) (fun e => by have := (hr _ e.symm).2.2.2.1; omega)).trans h.box, (hg.block s3 (blk_lt h.out) (fun e => by have := (hr _ e.symm).2.2.2.2.1; omega)).trans h.out, ?_⟩
  cases row with
  | none => exact grown_two h.gr hg
  | some j => exact grown_loc h.gr hg (hr j rfl).2.2.2.2.2.1
theorem LK.same {B w0 W0 p mb pt s1 s3 sz n D base N s grade c W W'} (h : LK B w0 W0 p mb pt s1 s3 sz n D base N s grade c W) (hg : W.grownBy W' none) : LK B w0 W0 p mb pt s1 s3 sz n D base N s grade c W' := h.kept hg (fun j e => by cases e)
/-- The count's box is written. -/
theorem LK.put {B w0 W0 p mb pt s1 s3 sz n D base N s grade c W} (h : LK B w0 W0 p mb pt s1 s3 sz n D base N s grade c W) (c' : Nat) (hB : B ≤ s3) (hW : W0.heap.size ≤ s3) : LK B w0 W0 p mb pt s1 s3 sz n D base N s grade c' (W.setCell ⟨s3, 0, none⟩ (.int .i64 (c' : Int))) ∧ W.grownBy (W.setCell ⟨s3, 0, none⟩ (.int .i64 (c' : Int))) (some s3) := by
  have hg := grown_cellq W ⟨s3, 0, none⟩ (.int .i64 (c' : Int))
  have hk : ∀ k, some s3 = some k → ∃ cs, W.heap[k]? = some (.cells cs 3 (0, 0)) := fun k e => by cases e; exact ⟨_, h.out⟩
  exact ⟨⟨h.mem.keptR hg hk (by decide) (fun k e => by obtain rfl : s3 = k := Option.some.inj e; exact hB), blk_keptR h.row hg hk (by decide), blk_keptR h.box hg hk (by decide), blk_put h.out 0 _ rfl, below_grownW h.gr hg (fun k e => by obtain rfl : s3 = k := Option.some.inj e; exact hW)⟩, hg⟩
end
end Go.Proofs.Ytjnffegjpkbjmaa.Mem
namespace Go.Proofs.Ytjnffegjpkbjmaa.Mem
open Go.RowKit Go.Maps Go.Shelf Go.Proofs.YtjnffegjpkbjmaaW.PrintWords Go.Proofs.YtjnffegjpkbjmaaW.PrintLast Go.Proofs.YtjnffegjpkbjmaaW.PrintMore Go.Proofs.Ytjnffegjpkbjmaa.QTsbPlays Go.Proofs.Ytjnffegjpkbjmaa.Pure
attribute [local go_sem] Oper.semAt_some
set_option linter.unusedSimpArgs false
set_option linter.unusedVariables false
section
set_option maxHeartbeats 2000000
set_option maxRecDepth 100000
/-- A place is dropped. -/
theorem Holds.drop {D base N s ws} (h : Holds D base N s ws) (hb : base % 16 = 0) {i : Nat} (hi : i < N) : Holds (st (st D (((base + 16 * i : Nat) : Int) / 8) 9223372036854775807) (((base + 16 * i : Nat) : Int) / 8 + 1) 0) base N s (setW ws i (BADW, 0)) := by
  have h1 := (h.setTag hb hi (t := BADW) (by decide)).setData hb hi (d := 0) (by decide) (.inl rfl)
  rw [setW_two, setW_at] at h1
  exact h1
end
end Go.Proofs.Ytjnffegjpkbjmaa.Mem
namespace Go.Proofs.Ytjnffegjpkbjmaa.Mem
open Go.RowKit Go.Maps Go.Proofs.YtjnffegjpkbjmaaW.PrintWords Go.Proofs.YtjnffegjpkbjmaaW.PrintLast Go.Proofs.YtjnffegjpkbjmaaW.PrintMore Go.Proofs.Ytjnffegjpkbjmaa.QTsbPlays Go.Proofs.Ytjnffegjpkbjmaa.Pure
set_option linter.unusedSimpArgs false
set_option linter.unusedVariables false
section
set_option maxHeartbeats 1000000
set_option maxRecDepth 100000
def listO (N : Nat) (os : Nat → Option GE) : List GE := (List.range N).filterMap os
theorem filterMap_eq {α β : Type} (f g : α → Option β) : ∀ l : List α, (∀ x ∈ l, f x = g x) → l.filterMap f = l.filterMap g
  | [], _ => rfl
  | x :: l, h => by
    rw [List.filterMap_cons, List.filterMap_cons, h x (by simp), filterMap_eq f g l (fun y hy => h y (by simp [hy]))]
theorem own_O {N s : Nat} {sz : Int} {base : Nat} (b : TB base N s sz) {os : Nat → Option GE} (h : OKO N s os) {i : Nat} (hi : i < N) : ownW N s i (WO os i) = os i := by
  cases ho : os i with
  | none =>
    have e : WO os i = (BADW, 0) := by unfold WO; rw [ho]; rfl
    rw [e]
    exact ownW_bad N s i 0
  | some g =>
    obtain ⟨h1, h2, h3⟩ := h i hi g ho
    have e : WO os i = (g.tag, g.data) := by unfold WO; rw [ho]; rfl
    rw [e]
    subst h2
    have hq := b.hq
    have := ownW_ge h1 hq b.h1
    rw [h3] at this
    exact this
theorem listW_O {N s : Nat} {sz : Int} {base : Nat} (b : TB base N s sz) {os : Nat → Option GE} (h : OKO N s os) : listW N s (WO os) = listO N os :=
  filterMap_eq _ _ _ (fun i hi => own_O b h (List.mem_range.1 hi))
theorem tag_bad {os : Nat → Option GE} {N s i : Nat} (h : OKO N s os) (hi : i < N) : (WO os i).1 = BADW ↔ os i = none := by
  cases ho : os i with
  | none => simp [WO, ho, wOf]
  | some g =>
    have hg := (h i hi g ho).1
    have e : (WO os i).1 = g.tag := by unfold WO; rw [ho]; rfl
    rw [e]
    exact ⟨fun e => absurd e (bad_ne g.c g.v g.g hg.hc), fun e => by cases e⟩
/-- A place made empty takes its entry off the list. -/
theorem list_none {os : Nat → Option GE} {i : Nat} : ∀ is : List Nat, is.Nodup → (is.filterMap (setO os i none)).length + (if i ∈ is then (if (os i).isSome = true then 1 else 0) else 0) = (is.filterMap os).length
  | [], _ => by simp
  | j :: is, hn => by
    have hn2 := (List.nodup_cons.1 hn)
    have ih := list_none (os := os) (i := i) is hn2.2
    rw [List.filterMap_cons, List.filterMap_cons]
    by_cases e : j = i
    · subst e
      rw [setO_at]
      rw [if_neg hn2.1] at ih
      rw [if_pos (by simp)]
      cases ho : os j with
      | none => simp; omega
      | some g => simp; omega
    · rw [setO_ne e]
      have hm : (i ∈ j :: is) ↔ i ∈ is := by simp [Ne.symm e]
      simp only [hm]
      cases ho : os j with
      | none => simpa using ih
      | some g => simp only [List.length_cons]; omega
section
variable {B : Nat} {w0 W : World} {p mb pt : Nat} {sz : Int} {base N s n : Nat} {grade : Int} {os : Nat → Option GE}
theorem o_list (b : TB base N s sz) (h : TQ B w0 p mb pt sz base N s grade n os W) :
    Calls Try.prog 34 #[.pointer (some ⟨pt, 0, none⟩)] W fun e W' => ∃ v, e = .returned v ∧ Kd.R k50 50 W' W.heap.size (fun _ => True) v ((listO N os).map geS) ∧ W.grownBy W' none := by
  obtain ⟨D, hM, hD⟩ := h.mem
  have := q_list b hM hD h.row
  rw [listW_O b h.ok] at this
  exact this
theorem list_le (N : Nat) (os : Nat → Option GE) : (listO N os).length ≤ N := by
  have := List.length_filterMap_le os (List.range N)
  rw [List.length_range] at this
  exact this
end
end
end Go.Proofs.Ytjnffegjpkbjmaa.Mem
