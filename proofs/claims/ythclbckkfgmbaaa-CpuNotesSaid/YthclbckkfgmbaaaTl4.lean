/- demap and its kin, Locked, New, what a place has, Clear; at whatever numbers. -/
import Derived.Test.YthclbckkfgmbaaaTl3
namespace Go.Proofs.Ythclbckkfgmbaaa.QTlbPlays
open Go.RowKit Go.Proofs.YthclbckkfgmbaaaW.PrintWords Go.Proofs.YthclbckkfgmbaaaW.PrintLast Go.Proofs.YthclbckkfgmbaaaW.PrintMore
set_option linter.unusedSimpArgs false
set_option linter.unusedVariables false
section
set_option maxHeartbeats 1000000
set_option maxRecDepth 100000
/-- Entries that are so are gone. -/
def clearQ (es : List (Option Ent)) (q : Ent → Bool) : List (Option Ent) := es.map fun o => match o with | some e => if q e then none else some e | none => none
def setAll (es : List (Option Ent)) (l : List Nat) : List (Option Ent) := l.foldl (fun es i => es.set i none) es
theorem setAll_len (l : List Nat) : ∀ es, (setAll es l).length = es.length := by
  induction l with
  | nil => intro es; rfl
  | cons i l ih => intro es; show (setAll (es.set i none) l).length = _; rw [ih]; simp
theorem setAll_at (l : List Nat) : ∀ (es : List (Option Ent)) (i : Nat), (setAll es l).getD i none = if i ∈ l then none else es.getD i none := by
  induction l with
  | nil => intro es i; simp [setAll]
  | cons j l ih =>
    intro es i
    show (setAll (es.set j none) l).getD i none = _
    rw [ih]
    by_cases c : i ∈ l
    · simp [c]
    · by_cases e : i = j
      · subst e
        simp [c, List.getD, List.getElem?_set]
        split <;> simp
      · simp [c, e, List.getD, List.getElem?_set_ne (Ne.symm e)]
theorem setAll_snoc (es : List (Option Ent)) (l : List Nat) (i : Nat) : setAll es (l ++ [i]) = (setAll es l).set i none := by
  unfold setAll
  rw [List.foldl_append]
  rfl
theorem ext_getD {a b : List (Option Ent)} (hl : a.length = b.length) (h : ∀ i, i < a.length → a.getD i none = b.getD i none) : a = b := by
  apply List.ext_getElem hl
  intro i h1 h2
  have := h i h1
  simpa [List.getD, h1, h2] using this
theorem clearQ_at (es : List (Option Ent)) (q : Ent → Bool) (i : Nat) : (clearQ es q).getD i none = match es.getD i none with | some e => if q e then none else some e | none => none := by
  unfold clearQ
  by_cases hi : i < es.length
  · simp [List.getD, hi]
  · simp [List.getD, hi]
theorem setAll_clear (es : List (Option Ent)) (q : Ent → Bool) : setAll es (plL es q) = clearQ es q := by
  apply ext_getD
  · rw [setAll_len]; simp [clearQ]
  · intro i hi
    rw [setAll_len] at hi
    rw [setAll_at, clearQ_at]
    by_cases c : i ∈ plL es q
    · obtain ⟨_, e, h1, h2⟩ := plL_spec c
      rw [if_pos c, h1]
      simp [h2]
    · rw [if_neg c]
      cases hx : es.getD i none with
      | none => rfl
      | some e =>
        have : q e = false := by
          cases hq : q e with
          | false => rfl
          | true =>
            refine absurd ?_ c
            unfold plL plTo
            rw [List.mem_filter, List.mem_range]
            exact ⟨hi, by simp only [hx]; exact hq⟩
        simp [this]
theorem plL_len (es : List (Option Ent)) (q : Ent → Bool) : (plL es q).length ≤ es.length := plTo_len es q es.length
theorem clearQ_len (es : List (Option Ent)) (q : Ent → Bool) : (clearQ es q).length = es.length := by simp [clearQ]
theorem tl_demap {B w0 p r es W} (h : Tl B w0 p r es W) (fid : Nat) (caps : Array Value) (q : Ent → Bool) (hen : ∀ (args : Array Value) (w : World), (callFunc fid args).run Try.prog w = .ok (.enter fid args) w)
    (hq : ∀ (W' : World) (e : Ent), some e ∈ es → W.grownBy W' none → Calls Try.prog fid (#[.agg (entA e)] ++ caps) W' fun x W'' => x = .returned (.bool (q e)) ∧ W'.grownBy W'' none) :
    Calls Try.prog 60 #[.pointer (some ⟨p, 0, none⟩), .func (.func fid) #[] caps] W fun x W' => x = .returned (.int .i64 ((plL es q).length : Nat)) ∧ Tl B w0 p r (clearQ es q) W' ∧ W.grownBy W' (some r) := by
  have HM := Aside0.mk h
  have hlen := h.len
  have HP := Aside0.mk (tl_places h fid caps q hen hq)
  have HRL := Aside0.mk h.rlt
  have hpl := plL_len es q
  have HSC := Aside0.mk (setAll_clear es q)
  have HSP := Aside0.mk (fun i (hi : i ∈ plL es q) => (plL_spec hi).1)
  clear h hq hen
  generalize hL : plL es q = L at HP hpl HSC HSP ⊢
  clear hL
  go_enter Try.func60, Try.ntmps60
  go_wp2_with (go_at_call 55; refine HP.out.mono ?_; rintro x W1 ⟨A, c, rfl, hr, hg⟩; have HR := Aside0.mk hr; have HG := Aside0.mk hg; clear hr hg HP)
  go_loopw [13] (fun v13 wr => ∃ k : Nat, v13 = .int .i64 k ∧ k ≤ L.length ∧ Aside0 (Tl B w0 p r (setAll es (L.take k)) wr) ∧ Aside0 (IRow W.heap.size A c L wr) ∧ Aside0 (W.grownBy wr (some r))) (fun v13 _ => L.length - (intOf v13).toNat)
  case atStart => exact ⟨0, rfl, by omega, ⟨by simpa [setAll] using HM.out.same HG.out⟩, HR, ⟨grown_but HG.out _⟩⟩
  case round =>
    clear HR HG HM
    obtain ⟨k, rfl, hk, HM, HR, HG⟩ := hrel
    by_cases hk2 : k < L.length
    · have hk2' : (k : Int) < (L.length : Int) := by omega
      have hk0 : (0 : Int) ≤ (k : Int) := by omega
      obtain ⟨g, rfl, hc⟩ := HR.out.at k hk2
      have hmem : L.getD k 0 ∈ L := by simp [List.getD, hk2]
      have hil := HSP.out _ hmem
      have htk : L.take (k + 1) = L.take k ++ [L.getD k 0] := by
        rw [List.take_succ_eq_append_getElem hk2]
        simp [List.getD, hk2]
      have HTK := Aside0.mk htk
      clear hmem htk
      generalize L.getD k 0 = i at hc hil HTK
      have hi' : (i : Int) < (es.length : Int) := by omega
      have hi0 : (0 : Int) ≤ (i : Int) := by omega
      have hcell := HM.out.cell
      rw [setAll_len] at hcell
      have hfr := HM.out.frozen i
      have hat := HM.out.at i (by rw [setAll_len]; exact hil)
      obtain ⟨v, hv⟩ : ∃ v, wr.cell? ⟨r, i, none⟩ = some v := by
        cases hx : (setAll es (L.take k)).getD i none with
        | none => rw [hx] at hat; cases hat with | empty h => exact ⟨_, h⟩
        | some e => rw [hx] at hat; cases hat with | full b e h hb => exact ⟨_, h⟩
      clear hat
      go_wp2
      go_roundw
      case rel => exact ⟨k + 1, by go_num, by omega, ⟨by rw [HTK.out, setAll_snoc]; exact HM.out.set i (by rw [setAll_len]; exact hil) none none (.inl ⟨rfl, rfl⟩)⟩, ⟨HR.out.kept (grown_cell _ ⟨r, i, none⟩ _) HRL.out⟩, ⟨grown_two HG.out (grown_cell _ ⟨r, i, none⟩ _)⟩⟩
      case measure => simp [intOf]; omega
    · obtain rfl : k = L.length := by omega
      have HM2 := Aside0.mk (show Tl B w0 p r (clearQ es q) wr by have := HM.out; rw [List.take_length, HSC.out] at this; exact this)
      clear HM
      go_wp2
      go_ret
      exact ⟨rfl, HM2.out, HG.out⟩
end
end Go.Proofs.Ythclbckkfgmbaaa.QTlbPlays
