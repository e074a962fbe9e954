/- What is read of frames, and New, at whatever numbers. -/
import Derived.Test.YtlndljgoliepdaaFr0
namespace Go.Proofs.Ytlndljgoliepdaa.QFramesPlays
open Go.RowKit Go.Proofs.YtlndljgoliepdaaW.PrintWords Go.Proofs.YtlndljgoliepdaaW.PrintLast Go.Proofs.YtlndljgoliepdaaW.PrintMore
set_option linter.unusedSimpArgs false
set_option linter.unusedVariables false
section
set_option maxHeartbeats 1000000
set_option maxRecDepth 100000
attribute [local go_sem] max2_int min2_int max_two min_two
theorem fr_len {B w0 p r ts free W} (h : Fr B w0 p r ts free W) (x y : Int) (hf : frames_Frames_Len.f ts free  = some (x, y)) :
    Calls Try.prog 30 #[.pointer (some ⟨p, 0, none⟩)] W fun e W' => e = .returned (.int .i64 x) ∧ Fr B w0 p r ts y W' ∧ W.grownBy W' (some p) :=
  (frames_Frames_Len.calls p ts free x y (trunc W p) W h.isS (trunc_below h.lt) hf).mono fun e W' z => ⟨z.1, h.after z.2.1 z.2.2.1 z.2.2.2⟩
theorem fr_free {B w0 p r ts free W} (h : Fr B w0 p r ts free W) (x y : Int) (hf : frames_Frames_Free.f ts free  = some (x, y)) :
    Calls Try.prog 32 #[.pointer (some ⟨p, 0, none⟩)] W fun e W' => e = .returned (.int .i64 x) ∧ Fr B w0 p r ts y W' ∧ W.grownBy W' (some p) :=
  (frames_Frames_Free.calls p ts free x y (trunc W p) W h.isS (trunc_below h.lt) hf).mono fun e W' z => ⟨z.1, h.after z.2.1 z.2.2.1 z.2.2.2⟩
theorem fr_longest {B w0 p r ts free W} (h : Fr B w0 p r ts free W) (k : Nat) (x y : Int) (hf : frames_Frames_Longest.f k ts free  = some (x, y)) :
    Calls Try.prog 33 #[.pointer (some ⟨p, 0, none⟩)] W fun e W' => e = .returned (.int .i64 x) ∧ Fr B w0 p r ts y W' ∧ W.grownBy W' (some p) :=
  (frames_Frames_Longest.calls k p ts free x y (trunc W p) W h.isS (trunc_below h.lt) hf).mono fun e W' z => ⟨z.1, h.after z.2.1 z.2.2.1 z.2.2.2⟩
theorem fr_in {B w0 p r ts free W} (h : Fr B w0 p r ts free W) (a n : Int) (x : Bool) (y : Int) (hf : frames_Frames_in.f ts free a n  = some (x, y)) :
    Calls Try.prog 55 #[.pointer (some ⟨p, 0, none⟩), .int .i64 a, .int .i64 n] W fun e W' => e = .returned (.bool x) ∧ Fr B w0 p r ts y W' ∧ W.grownBy W' (some p) :=
  (frames_Frames_in.calls p ts free a n x y (trunc W p) W h.isS (trunc_below h.lt) hf).mono fun e W' z => ⟨z.1, h.after z.2.1 z.2.2.1 z.2.2.2⟩
theorem fr_is {B w0 p r ts free W} (h : Fr B w0 p r ts free W) (a : Int) (x : Bool) (y : Int) (hf : frames_Frames_Is.f ts free a  = some (x, y)) :
    Calls Try.prog 34 #[.pointer (some ⟨p, 0, none⟩), .int .i64 a] W fun e W' => e = .returned (.bool x) ∧ Fr B w0 p r ts y W' ∧ W.grownBy W' (some p) :=
  (frames_Frames_Is.calls p ts free a x y (trunc W p) W h.isS (trunc_below h.lt) hf).mono fun e W' z => ⟨z.1, h.after z.2.1 z.2.2.1 z.2.2.2⟩
theorem fr_list {B w0 p r ts free W} (h : Fr B w0 p r ts free W) (k : Nat) (x : List Int) (y : Int) (hf : frames_Frames_List.f k ts free = some (x, y)) :
    Calls Try.prog 40 #[.pointer (some ⟨p, 0, none⟩)] W fun e W' => (∃ v0, e = .returned v0 ∧ Kd.R (Kd.int .i64) 3 W' W.heap.size (fun _ => True) v0 x) ∧ Fr B w0 p r ts y W' ∧ W.grownBy W' (some p) :=
  (frames_Frames_List.calls k p ts free x y (trunc W p) W h.isS (trunc_below h.lt) hf).mono fun e W' ⟨v0, he, hr, hi, hb, hk⟩ => ⟨⟨v0, he, hr⟩, h.after hi hb hk⟩
theorem made_bools (n : Nat) : madeCells #[Value.bool false] n = ((List.replicate n false).map Value.bool).toArray := by
  unfold madeCells
  apply Array.ext
  · simp
  · intro i h1 h2
    simp [Nat.mod_one]
theorem fr_made {B w0 W} (hb : Below B w0 W) (hB : B ≤ W.heap.size) (m : Int) (h0 : 0 ≤ m) (h1 : m ≤ 65536) : Fr B w0 (W.heap.size + 1) W.heap.size (List.replicate m.toNat false) m ((W.alloc (.cells (madeCells #[.bool false] m.toNat) 4)).alloc (.cells #[.slice (some ⟨W.heap.size, 0, none⟩) m.toNat m.toNat, .int .i64 m] 94)) := by
  have e1 : (W.alloc (.cells (madeCells #[.bool false] m.toNat) 4)).heap.size = W.heap.size + 1 := by simp
  refine ⟨(hb.alloc hB _).alloc (by rw [e1]; omega) _, hB, rfl, ?_, ?_, by simp; omega⟩
  · rw [← e1, heap_alloc_new]
    simp
  · have e2 := (World.grownBy_alloc (W.alloc (.cells (madeCells #[.bool false] m.toNat) 4)) (.cells #[.slice (some ⟨W.heap.size, 0, none⟩) m.toNat m.toNat, .int .i64 m] 94) none).block W.heap.size (by rw [e1]; omega) (by simp)
    rw [e2, heap_alloc_new, made_bools]
theorem fr_new {B w0 W} (hb : Below B w0 W) (hB : B ≤ W.heap.size) (n q m : Int) (hq : mx n 0 = q) (hm : mn q 65536 = m) (h0 : 0 ≤ m) (h1 : m ≤ 65536) :
    Calls Try.prog 27 #[.int .i64 n] W fun e W' => e = .returned (.pointer (some ⟨W.heap.size + 1, 0, none⟩)) ∧ Fr B w0 (W.heap.size + 1) W.heap.size (List.replicate m.toNat false) m W' ∧ W.grownBy W' none := by
  have HB := Aside0.mk hb
  clear hb
  have hq_ : (if n < 0 then 0 else n) = q := hq
  have hm_ : (if 65536 < q then 65536 else q) = m := hm
  clear hq hm
  have hmk := print_make_int (P := Try.prog) 92 4 (.bool false) 1 Try.underlying92 info4 rfl (by omega) m h0 (by omega)
  go_enter Try.func27, Try.ntmps27
  go_wp2
  go_ret
  exact ⟨rfl, fr_made HB.out hB m h0 h1, grown_of_below (below_alloc (below_alloc (Below.refl _ _) _) _) none⟩
end
end Go.Proofs.Ytlndljgoliepdaa.QFramesPlays
