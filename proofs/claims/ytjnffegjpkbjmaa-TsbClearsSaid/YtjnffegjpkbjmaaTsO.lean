/- A TSB by its entries: List, Locked, Drop. -/
import Derived.Test.YtjnffegjpkbjmaaTsLq
import Derived.Test.YtjnffegjpkbjmaaTsLR
import Derived.Test.YtjnffegjpkbjmaaTsDc
namespace Go.Proofs.Ytjnffegjpkbjmaa.Mem
open Go.RowKit Go.Maps Go.Proofs.YtjnffegjpkbjmaaW.PrintWords Go.Proofs.YtjnffegjpkbjmaaW.PrintLast Go.Proofs.YtjnffegjpkbjmaaW.PrintMore Go.Proofs.Ytjnffegjpkbjmaa.QTsbPlays Go.Proofs.Ytjnffegjpkbjmaa.Pure
set_option linter.unusedSimpArgs false
set_option linter.unusedVariables false
section
set_option maxHeartbeats 1000000
set_option maxRecDepth 100000
def listO (N : Nat) (os : Nat → Option GE) : List GE := (List.range N).filterMap os
theorem filterMap_eq {α β : Type} (f g : α → Option β) : ∀ l : List α, (∀ x ∈ l, f x = g x) → l.filterMap f = l.filterMap g
  | [], _ => rfl
  | x :: l, h => by
    rw [List.filterMap_cons, List.filterMap_cons, h x (by simp), filterMap_eq f g l (fun y hy => h y (by simp [hy]))]
theorem own_O {N s : Nat} {sz : Int} {base : Nat} (b : TB base N s sz) {os : Nat → Option GE} (h : OKO N s os) {i : Nat} (hi : i < N) : ownW N s i (WO os i) = os i := by
  cases ho : os i with
  | none =>
    have e : WO os i = (BADW, 0) := by unfold WO; rw [ho]; rfl
    rw [e]
    exact ownW_bad N s i 0
  | some g =>
    obtain ⟨h1, h2, h3⟩ := h i hi g ho
    have e : WO os i = (g.tag, g.data) := by unfold WO; rw [ho]; rfl
    rw [e]
    subst h2
    have hq := b.hq
    have := ownW_ge h1 hq b.h1
    rw [h3] at this
    exact this
theorem listW_O {N s : Nat} {sz : Int} {base : Nat} (b : TB base N s sz) {os : Nat → Option GE} (h : OKO N s os) : listW N s (WO os) = listO N os :=
  filterMap_eq _ _ _ (fun i hi => own_O b h (List.mem_range.1 hi))
theorem tag_bad {os : Nat → Option GE} {N s i : Nat} (h : OKO N s os) (hi : i < N) : (WO os i).1 = BADW ↔ os i = none := by
  cases ho : os i with
  | none => simp [WO, ho, wOf]
  | some g =>
    have hg := (h i hi g ho).1
    have e : (WO os i).1 = g.tag := by unfold WO; rw [ho]; rfl
    rw [e]
    exact ⟨fun e => absurd e (bad_ne g.c g.v g.g hg.hc), fun e => by cases e⟩
theorem lock_O {N s : Nat} {os : Nat → Option GE} (h : OKO N s os) : ∀ is : List Nat, (∀ i ∈ is, i < N) → lockX (WO os) is + (is.filterMap os).length = is.length
  | [], _ => rfl
  | i :: is, hi => by
    have ih := lock_O h is (fun j hj => hi j (by simp [hj]))
    have ht := tag_bad h (hi i (by simp))
    unfold lockX at ih ⊢
    rw [List.filter_cons, List.filterMap_cons]
    cases ho : os i with
    | none =>
      rw [if_pos (by simpa using ht.2 ho)]
      simp only [List.length_cons]
      omega
    | some g =>
      rw [if_neg (by
        have : ¬ (WO os i).1 = BADW := fun e => by rw [ht.1 e] at ho; cases ho
        simpa using this)]
      simp only [List.length_cons]
      omega
/-- A place made empty takes its entry off the list. -/
theorem list_none {os : Nat → Option GE} {i : Nat} : ∀ is : List Nat, is.Nodup → (is.filterMap (setO os i none)).length + (if i ∈ is then (if (os i).isSome = true then 1 else 0) else 0) = (is.filterMap os).length
  | [], _ => by simp
  | j :: is, hn => by
    have hn2 := (List.nodup_cons.1 hn)
    have ih := list_none (os := os) (i := i) is hn2.2
    rw [List.filterMap_cons, List.filterMap_cons]
    by_cases e : j = i
    · subst e
      rw [setO_at]
      rw [if_neg hn2.1] at ih
      rw [if_pos (by simp)]
      cases ho : os j with
      | none => simp; omega
      | some g => simp; omega
    · rw [setO_ne e]
      have hm : (i ∈ j :: is) ↔ i ∈ is := by simp [Ne.symm e]
      simp only [hm]
      cases ho : os j with
      | none => simpa using ih
      | some g => simp only [List.length_cons]; omega
section
variable {B : Nat} {w0 W : World} {p mb pt : Nat} {sz : Int} {base N s n : Nat} {grade : Int} {os : Nat → Option GE}
theorem o_list (b : TB base N s sz) (h : TQ B w0 p mb pt sz base N s grade n os W) :
    Calls Try.prog 34 #[.pointer (some ⟨pt, 0, none⟩)] W fun e W' => ∃ v, e = .returned v ∧ Kd.R k50 50 W' W.heap.size (fun _ => True) v ((listO N os).map geS) ∧ W.grownBy W' none := by
  obtain ⟨D, hM, hD⟩ := h.mem
  have := q_list b hM hD h.row
  rw [listW_O b h.ok] at this
  exact this
theorem o_locked (b : TB base N s sz) (h : TQ B w0 p mb pt sz base N s grade n os W) :
    Calls Try.prog 42 #[.pointer (some ⟨pt, 0, none⟩)] W fun e W' => e = .returned (.int .i64 ((N - (listO N os).length : Nat) : Int)) ∧ W.grownBy W' none := by
  obtain ⟨D, hM, hD⟩ := h.mem
  have := locked_calls b hM hD h.row
  have e := lock_O h.ok (List.range N) (fun i hi => List.mem_range.1 hi)
  rw [List.length_range] at e
  rw [show lockX (WO os) (List.range N) = N - (listO N os).length by unfold listO; omega] at this
  exact this
theorem list_le (N : Nat) (os : Nat → Option GE) : (listO N os).length ≤ N := by
  have := List.length_filterMap_le os (List.range N)
  rw [List.length_range] at this
  exact this
/-- A place's entry is dropped. -/
theorem read_O (h : OKO N s os) {i : Nat} (hi : i < N) (va : Nat) (hva : va < 18446744073709551616) (hpl : plcOf N (s : Int) va = i) (hq : N % (4194304 / Pure.bytesOf (s : Int)) = 0) (ctx : Int) : findO (readW (WO os i) va) va ctx = findO (os i) va ctx := by
  cases ho : os i with
  | none =>
    have e : WO os i = (BADW, 0) := by unfold WO; rw [ho]; rfl
    rw [e, show readW (BADW, 0) va = none from readW_bad 0 va]
  | some g =>
    obtain ⟨h1, h2, h3⟩ := h i hi g ho
    have e : WO os i = (g.tag, g.data) := by unfold WO; rw [ho]; rfl
    rw [e]
    subst h2
    by_cases hA : va / Pure.bytesOf (g.s : Int) * Pure.bytesOf (g.s : Int) = g.v
    · rw [readW_ge h1 hA]
    · have hn : readW (g.tag, g.data) va = none := by
        obtain ⟨f0, f1, f2, f3, b4, b5, b6, b7, b8, b9, b10, q, hr, hq2⟩ := h1.readNo hq hva (by rw [hpl, h3]) hA
        unfold readW
        rw [show readOf (g.tag, g.data).1 (g.tag, g.data).2 va = _ from hr]
        exact if_neg (by simpa using hq2)
      rw [hn]
      unfold findO
      simp only
      rw [if_neg (by unfold GE.hit; rw [decide_eq_false hA]; simp)]
theorem o_drop (b : TB base N s sz) (h : TQ B w0 p mb pt sz base N s grade n os W) (va : Nat) (hva : va < 18446744073709551616) (ctx : Int) (hn : n < 999999) :
    Calls Try.prog 43 #[.pointer (some ⟨pt, 0, none⟩), .int .u64 va, .int .i64 ctx] W fun e W' => e = .returned (.bool (findO (os (plcOf N (s : Int) va)) va ctx).isSome) ∧ TQ B w0 p mb pt sz base N s grade (n + 2) (if (findO (os (plcOf N (s : Int) va)) va ctx).isSome = true then setO os (plcOf N (s : Int) va) none else os) W' ∧ W.grownBy W' (some mb) := by
  obtain ⟨D, hM, hD⟩ := h.mem
  have hr := read_O h.ok (b.in va) va hva rfl b.hq ctx
  refine (q_drop b hM hD h.row va hva ctx hn trivial).mono ?_
  rintro e W' ⟨rfl, hN, hg⟩
  rw [hr] at hN ⊢
  refine ⟨rfl, ?_, hg⟩
  by_cases hF : (findO (os (plcOf N (s : Int) va)) va ctx).isSome = true
  · rw [if_pos hF] at hN ⊢
    rw [show ((BADW, 0) : Wd) = wOf none from rfl, WO_set] at hN
    exact h.now hN hg (h.ok.set (fun g e => by cases e))
  · rw [if_neg hF] at hN ⊢
    exact h.now hN hg h.ok
end
end
end Go.Proofs.Ytjnffegjpkbjmaa.Mem
