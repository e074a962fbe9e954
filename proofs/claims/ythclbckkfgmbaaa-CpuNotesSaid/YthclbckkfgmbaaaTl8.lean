/- New, Clear, Insert; at whatever numbers. -/
import Derived.Test.YthclbckkfgmbaaaTl7
namespace Go.Proofs.Ythclbckkfgmbaaa.QTlbPlays
open Go.RowKit Go.Proofs.YthclbckkfgmbaaaW.PrintWords Go.Proofs.YthclbckkfgmbaaaW.PrintLast Go.Proofs.YthclbckkfgmbaaaW.PrintMore
set_option linter.unusedSimpArgs false
set_option linter.unusedVariables false
section
set_option maxHeartbeats 1000000
set_option maxRecDepth 100000
attribute [local go_sem] max2_int min2_int max_two min_two
theorem infoPtr : (Try.prog.info? 92).map (fun i => (i.zero, i.size, i.bytes)) = some (some (.pointer none), 1, 8) := by kernel_rfl
theorem made_ptrs (n : Nat) : madeCells #[Value.pointer none] n = ((List.replicate n (none : Option Nat)).map ptrV).toArray := by
  unfold madeCells
  apply Array.ext
  · simp
  · intro i h1 h2
    simp [Nat.mod_one, ptrV]
theorem tl_made {B w0 W} (hb : Below B w0 W) (hB : B ≤ W.heap.size) (m : Nat) (h0 : 1 ≤ m) (h1 : m ≤ 64) : Tl B w0 (W.heap.size + 1) W.heap.size (List.replicate m none) ((W.alloc (.cells (madeCells #[.pointer none] m) 92)).alloc (.cells #[.slice (some ⟨W.heap.size, 0, none⟩) m m] 88)) := by
  have e1 : (W.alloc (.cells (madeCells #[.pointer none] m) 92)).heap.size = W.heap.size + 1 := by simp
  refine ⟨(hb.alloc hB _).alloc (by rw [e1]; omega) _, hB, by omega, ?_, ⟨List.replicate m none, ?_, ?_⟩, by simpa using h1, by simpa using h0⟩
  · rw [← e1, heap_alloc_new]
    simp
  · have e2 := (World.grownBy_alloc (W.alloc (.cells (madeCells #[.pointer none] m) 92)) (.cells #[.slice (some ⟨W.heap.size, 0, none⟩) m m] 88) none).block W.heap.size (by rw [e1]; omega) (by simp)
    rw [e2, heap_alloc_new, made_ptrs]
  · refine ⟨by simp, fun i hi => .inl ?_⟩
    simp at hi
    simp [List.getD, hi]
theorem tl_new {B w0 W} (hb : Below B w0 W) (hB : B ≤ W.heap.size) (n q m : Int) (hq : mx n 1 = q) (hm : mn q 64 = m) (h0 : 1 ≤ m) (h1 : m ≤ 64) :
    Calls Try.prog 18 #[.int .i64 n] W fun e W' => e = .returned (.pointer (some ⟨W.heap.size + 1, 0, none⟩)) ∧ Tl B w0 (W.heap.size + 1) W.heap.size (List.replicate m.toNat none) W' ∧ W.grownBy W' none := by
  have HB := Aside0.mk hb
  clear hb
  have hq_ : (if n < 1 then 1 else n) = q := hq
  have hm_ : (if 64 < q then 64 else q) = m := hm
  clear hq hm
  have hmk := print_make_int (P := Try.prog) 86 92 (.pointer none) 8 Try.underlying86 infoPtr rfl (by omega) m (by omega) (by omega)
  go_enter Try.func18, Try.ntmps18
  go_wp2
  go_ret
  exact ⟨rfl, tl_made HB.out hB m.toNat (by omega) (by omega), grown_two (World.grownBy_alloc _ _ none) (World.grownBy_alloc _ _ none)⟩
/-- A place is emptied. -/
def clearAt (es : List (Option Ent)) (a : Int) : List (Option Ent) := if (atOf es a).isSome then es.set a.toNat none else es
theorem cell_of_place {W : World} {r i : Nat} {o : Option Ent} (h : PlaceIs W r i o) : ∃ v, W.cell? ⟨r, i, none⟩ = some v := by
  cases h with
  | empty h => exact ⟨_, h⟩
  | full b e h hb => exact ⟨_, h⟩
theorem atOf_at {es : List (Option Ent)} {a : Int} (h : (atOf es a).isSome = true) : ∃ i : Nat, a = (i : Int) ∧ i < es.length := by
  unfold atOf at h
  split at h
  · rename_i hc
    exact ⟨a.toNat, by omega, by omega⟩
  · cases h
theorem tl_clear {B w0 p r es W} (h : Tl B w0 p r es W) (a : Int) (b : Bool) (hb : (atOf es a).isSome = b) :
    Calls Try.prog 30 #[.pointer (some ⟨p, 0, none⟩), .int .i64 a] W fun x W' => x = .returned (.bool b) ∧ Tl B w0 p r (clearAt es a) W' ∧ W.grownBy W' (some r) := by
  have hu := Try.underlying26
  have hu2 := Try.underlying24
  have HM := Aside0.mk h
  have HP := Aside0.mk (tl_at h a _ rfl)
  clear h
  generalize he0 : (atOf es a).getD zE = e0 at HP
  clear he0
  cases b with
  | false =>
    have HE := Aside0.mk (show clearAt es a = es by unfold clearAt; rw [hb]; rfl)
    go_enter Try.func30, Try.ntmps30
    go_wp2_with (go_at_call 24; refine HP.out.mono ?_; rintro x W1 ⟨rfl, hM, hg⟩; rw [hb]; have HG := Aside0.mk (grown_two hg (World.grownBy_alloc W1 (.cells (entA e0) 26) none)); clear hM hg)
    go_ret
    exact ⟨rfl, by rw [HE.out]; exact HM.out.same HG.out, grown_but HG.out _⟩
  | true =>
    obtain ⟨i, rfl, hi⟩ := atOf_at hb
    have HE := Aside0.mk (show clearAt es i = es.set i none by unfold clearAt; rw [hb]; simp)
    have hi' : (i : Int) < (es.length : Int) := by omega
    have hi0 : (0 : Int) ≤ (i : Int) := by omega
    go_enter Try.func30, Try.ntmps30
    go_wp2_with (go_at_call 24; refine HP.out.mono ?_; rintro x W1 ⟨rfl, hM, hg⟩; rw [hb]; have HG := Aside0.mk (grown_two hg (World.grownBy_alloc W1 (.cells (entA e0) 26) none)); clear hM hg; have HM2 := Aside0.mk (HM.out.same HG.out); have hcell := HM2.out.cell; have hfr := HM2.out.frozen i; obtain ⟨v, hv⟩ := cell_of_place (HM2.out.at i hi))
    go_ret
    exact ⟨rfl, by rw [HE.out]; exact HM2.out.set i hi none none (.inl ⟨rfl, rfl⟩), grown_two (grown_but HG.out _) (grown_cell _ ⟨r, i, none⟩ _)⟩
/-- What Insert leaves, and tells. -/
def goneOf (es : List (Option Ent)) (e : Ent) : List (Option Ent) := clearQ es (againstQ e)
def insOf (es : List (Option Ent)) (e : Ent) (pick : Int) : Int × Int × List (Option Ent) :=
  if mayB e = false then (0, 1, es) else if (plL es (againstQ e)).any (lockAt es) = true then (0, 7, es) else match placeN (goneOf es e) pick with
    | none => (0, 7, goneOf es e)
    | some i => ((i : Int), 0, (goneOf es e).set i (some e))
theorem placeN_lt {es : List (Option Ent)} {pick : Int} {i : Nat} (h : placeN es pick = some i) : i < es.length := by
  unfold placeN at h
  split at h
  · rename_i hn
    cases h
    exact (List.findIdx?_eq_some_iff_getElem.1 hn).1
  · split at h
    · cases h
    · rename_i h0
      have hm : (plL es openB).getD (pickN pick % (plL es openB).length) 0 ∈ plL es openB := by
        have hlt := Nat.mod_lt (pickN pick) (Nat.pos_of_ne_zero h0)
        simp [List.getD, hlt]
      cases h
      exact (plL_spec hm).1
theorem lockAt_of {es : List (Option Ent)} {i : Nat} {e : Ent} (h : es.getD i none = some e) : lockAt es i = lockB e := by unfold lockAt; rw [h]
theorem ins_any {B w0 p r es W} (h : Tl B w0 p r es W) (b1 : Nat) (c1 : W.cell? ⟨b1, 0, none⟩ = some (.pointer (some ⟨p, 0, none⟩))) {base A c} (q : Ent → Bool) (hr : IRow base A c (plL es q) W) :
    Calls Try.prog 51 #[.slice A (plL es q).length c, .func (.func 52) #[] #[.pointer (some ⟨b1, 0, none⟩)]] W fun x W' => x = .returned (.bool ((plL es q).any (lockAt es))) ∧ W.grownBy W' none :=
  contains_func hr (Nat.le_trans (plL_len es q) h.len) 52 _ (lockAt es) (enters_ Try.func52 (by kernel_rfl) rfl) (fun W' i hi hg => by
    obtain ⟨_, e, hx, _⟩ := plL_spec hi
    rw [app1, lockAt_of hx]
    exact fn_ins (h.same hg) i e hx b1 (cell_grown c1 hg))
end
end Go.Proofs.Ythclbckkfgmbaaa.QTlbPlays
