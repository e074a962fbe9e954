/- A context's entries dropped, plainly; a TSB cleared, by its entries. -/
import Derived.Test.YtjnffegjpkbjmaaTsDx
namespace Go.Proofs.Ytjnffegjpkbjmaa.Mem
open Go.RowKit Go.Maps Go.Proofs.YtjnffegjpkbjmaaW.PrintWords Go.Proofs.YtjnffegjpkbjmaaW.PrintLast Go.Proofs.YtjnffegjpkbjmaaW.PrintMore Go.Proofs.Ytjnffegjpkbjmaa.QTsbPlays Go.Proofs.Ytjnffegjpkbjmaa.Pure
set_option linter.unusedSimpArgs false
set_option linter.unusedVariables false
section
set_option maxHeartbeats 1000000
set_option maxRecDepth 100000
theorem dfold_all (ctx : Int) : ∀ (is : List Nat) (os : Nat → Option GE) (c : Nat), is.Nodup →
    (∀ j, (is.foldl (dstep ctx) (os, c)).1 j = if j ∈ is ∧ dropsAt ctx (os j) = true then none else os j) ∧
    (is.foldl (dstep ctx) (os, c)).2 = c + ((is.filterMap os).filter (fun g => dropsAt ctx (some g))).length
  | [], os, c, _ => ⟨fun j => by simp, by simp⟩
  | i :: is, os, c, hn => by
    have hn2 := List.nodup_cons.1 hn
    by_cases hd : dropsAt ctx (os i) = true
    · have hs : dstep ctx (os, c) i = (setO os i none, c + 1) := by
        unfold dstep
        rw [if_pos hd]
      obtain ⟨h1, h2⟩ := dfold_all ctx is (setO os i none) (c + 1) hn2.2
      rw [List.foldl_cons, hs]
      refine ⟨fun j => ?_, ?_⟩
      · rw [h1 j]
        by_cases hj : j = i
        · subst hj
          rw [if_neg (fun e => hn2.1 e.1), setO_at, if_pos ⟨by simp, hd⟩]
        · rw [setO_ne hj]
          by_cases hk : j ∈ is ∧ dropsAt ctx (os j) = true
          · rw [if_pos hk, if_pos ⟨by simp [hk.1], hk.2⟩]
          · rw [if_neg hk, if_neg (fun e => hk ⟨by simpa [hj] using e.1, e.2⟩)]
      · rw [h2, filterMap_eq (setO os i none) os is (fun x hx => setO_ne (fun e => hn2.1 (e ▸ hx))), List.filterMap_cons]
        cases ho : os i with
        | none => rw [ho] at hd; cases hd
        | some g =>
          rw [ho] at hd
          rw [List.filter_cons, if_pos hd, List.length_cons]
          omega
    · have hs : dstep ctx (os, c) i = (os, c) := by
        unfold dstep
        rw [if_neg hd]
      obtain ⟨h1, h2⟩ := dfold_all ctx is os c hn2.2
      rw [List.foldl_cons, hs]
      refine ⟨fun j => ?_, ?_⟩
      · rw [h1 j]
        by_cases hj : j = i
        · subst hj
          rw [if_neg (fun e => hd e.2), if_neg (fun e => hd e.2)]
        · by_cases hk : j ∈ is ∧ dropsAt ctx (os j) = true
          · rw [if_pos hk, if_pos ⟨by simp [hk.1], hk.2⟩]
          · rw [if_neg hk, if_neg (fun e => hk ⟨by simpa [hj] using e.1, e.2⟩)]
      · rw [h2, List.filterMap_cons]
        cases ho : os i with
        | none => rfl
        | some g =>
          rw [ho] at hd
          rw [List.filter_cons, if_neg hd]
theorem filter_none {f : Nat → Option GE} {P : GE → Bool} {h : Nat → Option GE} : ∀ is : List Nat, (∀ j ∈ is, h j = if (match f j with | some g => P g | none => false) = true then none else f j) → is.filterMap h = (is.filterMap f).filter (fun g => !P g)
  | [], _ => rfl
  | i :: is, hh => by
    have ih := filter_none is (fun j hj => hh j (by simp [hj]))
    rw [List.filterMap_cons, List.filterMap_cons, hh i (by simp)]
    cases ho : f i with
    | none => simpa using ih
    | some g =>
      cases hp : P g <;> simp [List.filter_cons, hp, ih]
/-- What stays, and how many go. -/
theorem dropO (ctx : Int) (N : Nat) (os : Nat → Option GE) :
    listO N (dfold ctx os (List.range N)).1 = (listO N os).filter (fun g => !dropsAt ctx (some g)) ∧
    (dfold ctx os (List.range N)).2 = ((listO N os).filter (fun g => dropsAt ctx (some g))).length := by
  obtain ⟨h1, h2⟩ := dfold_all ctx (List.range N) os 0 List.nodup_range
  refine ⟨filter_none (P := fun g => dropsAt ctx (some g)) (List.range N) (fun j hj => ?_), by unfold dfold listO; rw [h2]; omega⟩
  have := h1 j
  unfold dfold
  rw [this]
  cases ho : os j with
  | none => simp
  | some g => simp [hj]
theorem filter_len {α : Type} (P : α → Bool) : ∀ l : List α, (l.filter P).length + (l.filter (fun x => !P x)).length = l.length
  | [] => rfl
  | x :: l => by
    have ih := filter_len P l
    rw [List.filter_cons, List.filter_cons]
    cases hp : P x
    · simp [hp]; omega
    · simp [hp]; omega
theorem filter_take {α : Type} (P : α → Bool) (l : List α) (i : Nat) (hi : i < l.length) : ((l.take (i + 1)).filter P).length = ((l.take i).filter P).length + (if P l[i] = true then 1 else 0) := by
  rw [List.take_succ_eq_append_getElem hi, List.filter_append, List.length_append, List.filter_cons]
  by_cases h : P l[i] = true <;> simp [h]
theorem listO_none (N : Nat) : listO N (fun _ => none) = [] := by
  unfold listO
  rw [List.filterMap_eq_nil_iff]
  intro _ _
  rfl
theorem WO_none : WO (fun _ => none) = fun _ => (BADW, 0) := by
  funext i
  rfl
theorem mem_listO {N s : Nat} {os : Nat → Option GE} (h : OKO N s os) {g : GE} (hg : g ∈ listO N os) : g.ok ∧ g.s = s := by
  obtain ⟨i, hi, ho⟩ := List.mem_filterMap.1 hg
  obtain ⟨h1, h2, h3⟩ := h i (List.mem_range.1 hi) g ho
  exact ⟨h1, h2⟩
section
variable {B : Nat} {w0 W : World} {p mb pt : Nat} {sz : Int} {base N s n : Nat} {grade : Int} {os : Nat → Option GE}
theorem o_clear (b : TB base N s sz) (h : TQ B w0 p mb pt sz base N s grade n os W) (hn : n ≤ 500000) :
    Calls Try.prog 45 #[.pointer (some ⟨pt, 0, none⟩)] W fun e W' => e = .returned (.tuple #[]) ∧ TQ B w0 p mb pt sz base N s grade (n + 2 * N) (fun _ => none) W' ∧ W.grownBy W' (some mb) := by
  obtain ⟨D, hM, hD⟩ := h.mem
  have hb := b.hb
  have hN := b.hN
  refine (tclear_calls hM h.row (by omega) (by omega) (by omega) b.hsz b.hz hn).mono ?_
  rintro e W' ⟨rfl, hM2, hg⟩
  refine ⟨rfl, ⟨⟨_, hM2, ?_⟩, (hg.block pt (blk_lt h.row) (fun e => h.nb _ _ _ h.row (Option.some.inj e))).trans h.row, fun i _ g e => by cases e⟩, hg⟩
  rw [WO_none]
  exact cleared b D hD.map
end
end
end Go.Proofs.Ytjnffegjpkbjmaa.Mem
