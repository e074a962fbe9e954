/- A TSB's List, as a list of entries. -/
import Derived.Test.YtjnffegjpkbjmaaTsList
namespace Go.Proofs.Ytjnffegjpkbjmaa.Mem
open Go.RowKit Go.Maps Go.Proofs.YtjnffegjpkbjmaaW.PrintWords Go.Proofs.YtjnffegjpkbjmaaW.PrintLast Go.Proofs.YtjnffegjpkbjmaaW.PrintMore Go.Proofs.Ytjnffegjpkbjmaa.QTsbPlays Go.Proofs.Ytjnffegjpkbjmaa.Pure
set_option linter.unusedSimpArgs false
set_option linter.unusedVariables false
section
set_option maxHeartbeats 1000000
set_option maxRecDepth 100000
/-- An entry as the lists have it. -/
abbrev geR (g : GE) : Ent := ⟨g.s, g.c, g.v, g.p, ⟨g.w, g.pr, g.x, g.l, g.g, g.q⟩, true⟩
theorem flat_len : ∀ gs : List GE, (flatG gs).length = gs.length * 11
  | [] => rfl
  | g :: gs => by
    show ((geA g).toList ++ flatG gs).length = _
    rw [List.length_append, flat_len gs]
    simp only [List.length_cons]
    show 11 + _ = _
    omega
theorem flat_seg : ∀ (gs : List GE) (j : Nat) (g : GE), gs[j]? = some g → ((flatG gs).drop (j * 11)).take 11 = (geA g).toList
  | [], j, g, h => by simp at h
  | x :: gs, 0, g, h => by
    obtain rfl : x = g := by simpa using h
    show (((geA x).toList ++ flatG gs).drop (0 * 11)).take 11 = _
    rw [Nat.zero_mul, List.drop_zero]
    exact List.take_left' rfl
  | x :: gs, j + 1, g, h => by
    have h2 : gs[j]? = some g := by simpa using h
    show (((geA x).toList ++ flatG gs).drop ((j + 1) * 11)).take 11 = _
    have e : (j + 1) * 11 = (geA x).toList.length + j * 11 := by show _ = 11 + _; omega
    rw [e, ← List.drop_drop, List.drop_left']
    · exact flat_seg gs j g h2
    · rfl
theorem list_R {W : World} {base : Nat} {v : Value} {gs : List GE} (h : W.ownsRow base 50 11 v gs.length (flatG gs)) : Kd.R k50 50 W base (fun _ => True) v (gs.map geR) := by
  refine ⟨fun _ _ => trivial, flatG gs, ?_, ?_, fun j p hp => ?_⟩
  · rw [List.length_map]; exact h
  · rw [List.length_map]; exact flat_len gs
  · rw [List.getElem?_map, Option.map_eq_some_iff] at hp
    obtain ⟨g, hg, rfl⟩ := hp
    show k50.M W base _ (geR g) (((flatG gs).drop (j * 11)).take 11)
    rw [flat_seg gs j g hg]
    exact k50_mkM _ _ _ (geR g)
theorem q_list {B : Nat} {w0 W : World} {p mb : Nat} {sz : Int} {n : Nat} {D : DataW Unit} {pt base N s : Nat} {grade : Int} {ws : Nat → Wd} (b : TB base N s sz) (h : Mem B w0 p mb sz n D W) (hD : Holds D base N s ws) (kt : W.heap[pt]? = some (.cells (TCs p base N s grade) 95 (0, 0))) :
    Calls Try.prog 34 #[.pointer (some ⟨pt, 0, none⟩)] W fun e W' => ∃ v, e = .returned v ∧ Kd.R k50 50 W' W.heap.size (fun _ => True) v ((listW N s ws).map geR) ∧ W.grownBy W' none := by
  refine (list_calls b h hD kt).mono ?_
  rintro e W' ⟨v, rfl, ho, hg⟩
  exact ⟨v, rfl, list_R ho, hg⟩
end
end Go.Proofs.Ytjnffegjpkbjmaa.Mem
