/- The demaps, Locked, New, what a place has, Clear; at whatever numbers. -/
import Derived.Test.YthclbckkfgmbaaaTl4
namespace Go.Proofs.Ythclbckkfgmbaaa.QTlbPlays
open Go.RowKit Go.Proofs.YthclbckkfgmbaaaW.PrintWords Go.Proofs.YthclbckkfgmbaaaW.PrintLast Go.Proofs.YthclbckkfgmbaaaW.PrintMore
set_option linter.unusedSimpArgs false
set_option linter.unusedVariables false
section
set_option maxHeartbeats 1000000
set_option maxRecDepth 100000
theorem box_new (W : World) (v : Value) (t : TypeId) : (W.alloc (.cells #[v] t)).cell? ⟨W.heap.size, 0, none⟩ = some v := (blk_cell (heap_alloc_new W _) 0).trans rfl
theorem box_two (W : World) (v u : Value) (t s : TypeId) : ((W.alloc (.cells #[v] t)).alloc (.cells #[u] s)).cell? ⟨W.heap.size, 0, none⟩ = some v ∧ ((W.alloc (.cells #[v] t)).alloc (.cells #[u] s)).cell? ⟨W.heap.size + 1, 0, none⟩ = some u := by
  refine ⟨cell_grown (box_new W v t) (World.grownBy_alloc _ _ none), ?_⟩
  have := box_new (W.alloc (.cells #[v] t)) u s
  rw [World.size_alloc] at this
  exact this
theorem tl_dpage {B w0 p r es W} (h : Tl B w0 p r es W) (hw : OkL es) (va ctx : Int) (hva : (Lit.int .u64 va).wf = true) :
    Calls Try.prog 27 #[.pointer (some ⟨p, 0, none⟩), .int .u64 va, .int .i64 ctx] W fun x W' => x = .returned (.int .i64 ((plL es (fun e => hitsB e va ctx)).length : Nat)) ∧ Tl B w0 p r (clearQ es (fun e => hitsB e va ctx)) W' ∧ W.grownBy W' (some r) := by
  have hb := box_two W (.int .u64 va) (.int .i64 ctx) 22 3
  have hg := grown_two (World.grownBy_alloc W (.cells #[.int .u64 va] 22) none) (World.grownBy_alloc _ (.cells #[.int .i64 ctx] 3) none)
  have HP := Aside0.mk (tl_demap (h.same hg) 62 #[.pointer (some ⟨W.heap.size, 0, none⟩), .pointer (some ⟨W.heap.size + 1, 0, none⟩)] (fun e => hitsB e va ctx) (enters_ Try.func62 (by kernel_rfl) rfl) (fun W' e hmem hg' => by rw [app2]; exact fn_hit2 e (hw e hmem).1 va hva ctx _ _ W' (cell_grown hb.1 hg') (cell_grown hb.2 hg')))
  have HG := Aside0.mk hg
  clear h hw hva hb hg
  go_enter Try.func27, Try.ntmps27
  go_wp2_with (go_at_call 60; refine HP.out.mono ?_; rintro x W1 ⟨rfl, hM, hg⟩; have HM := Aside0.mk hM; have HG2 := Aside0.mk (grown_two (grown_but HG.out (some r)) hg); clear hM hg)
  go_ret
  exact ⟨rfl, HM.out, HG2.out⟩
theorem tl_dctx {B w0 p r es W} (h : Tl B w0 p r es W) (ctx : Int) :
    Calls Try.prog 68 #[.pointer (some ⟨p, 0, none⟩), .int .i64 ctx] W fun x W' => x = .returned (.int .i64 ((plL es (ctxB ctx)).length : Nat)) ∧ Tl B w0 p r (clearQ es (ctxB ctx)) W' ∧ W.grownBy W' (some r) := by
  have hb := box_new W (.int .i64 ctx) 3
  have hg := World.grownBy_alloc W (.cells #[.int .i64 ctx] 3) none
  have HP := Aside0.mk (tl_demap (h.same hg) 95 #[.pointer (some ⟨W.heap.size, 0, none⟩)] (ctxB ctx) (enters_ Try.func95 (by kernel_rfl) rfl) (fun W' e hmem hg' => by rw [app1]; exact fn_ctx e ctx _ W' (cell_grown hb hg')))
  have HG := Aside0.mk hg
  clear h hb hg
  go_enter Try.func68, Try.ntmps68
  go_wp2_with (go_at_call 60; refine HP.out.mono ?_; rintro x W1 ⟨rfl, hM, hg⟩; have HM := Aside0.mk hM; have HG2 := Aside0.mk (grown_two (grown_but HG.out (some r)) hg); clear hM hg)
  go_ret
  exact ⟨rfl, HM.out, HG2.out⟩
theorem tl_dall {B w0 p r es W} (h : Tl B w0 p r es W) :
    Calls Try.prog 25 #[.pointer (some ⟨p, 0, none⟩)] W fun x W' => x = .returned (.int .i64 ((plL es openB).length : Nat)) ∧ Tl B w0 p r (clearQ es openB) W' ∧ W.grownBy W' (some r) := by
  have HP := Aside0.mk (tl_demap h 61 #[] openB (enters_ Try.func61 (by kernel_rfl) rfl) (fun W' e hmem hg' => by rw [app0]; exact fn_open2 e W'))
  clear h
  go_enter Try.func25, Try.ntmps25
  go_wp2_with (go_at_call 60; refine HP.out.mono ?_; rintro x W1 ⟨rfl, hM, hg⟩; have HM := Aside0.mk hM; have HG2 := Aside0.mk hg; clear hM hg)
  go_ret
  exact ⟨rfl, HM.out, HG2.out⟩
theorem tl_locked {B w0 p r es W} (h : Tl B w0 p r es W) (n : Int) (hn : ((plL es lockB).length : Int) = n) :
    Calls Try.prog 26 #[.pointer (some ⟨p, 0, none⟩)] W fun x W' => x = .returned (.int .i64 n) ∧ Tl B w0 p r es W' ∧ W.grownBy W' none := by
  subst hn
  have HP := Aside0.mk (tl_places h 53 #[] lockB (enters_ Try.func53 (by kernel_rfl) rfl) (fun W' e hmem hg' => by rw [app0]; exact fn_locked e W'))
  have HM := Aside0.mk h
  have hpl := plL_len es lockB
  have hlen := h.len
  clear h
  go_enter Try.func26, Try.ntmps26
  go_wp2_with (go_at_call 55; refine HP.out.mono ?_; rintro x W1 ⟨A, c, rfl, hr, hg⟩; have HG2 := Aside0.mk hg; clear hr hg)
  go_ret
  exact ⟨rfl, HM.out.same HG2.out, HG2.out⟩
theorem tl_slots {B w0 p r es W} (h : Tl B w0 p r es W) (n : Int) (hn : (es.length : Int) = n) :
    Calls Try.prog 23 #[.pointer (some ⟨p, 0, none⟩)] W fun x W' => x = .returned (.int .i64 n) ∧ Tl B w0 p r es W' ∧ W.grownBy W' none := by
  subst hn
  have HM := Aside0.mk h
  have hcell := h.cell
  clear h
  go_enter Try.func23, Try.ntmps23
  go_wp2
  go_ret
  exact ⟨rfl, HM.out, grown_refl _ _⟩
def inB (es : List (Option Ent)) (a : Int) : Bool := decide (0 ≤ a ∧ a < es.length)
theorem tl_in {B w0 p r es W} (h : Tl B w0 p r es W) (a : Int) (b : Bool) (hb : inB es a = b) :
    Calls Try.prog 59 #[.pointer (some ⟨p, 0, none⟩), .int .i64 a] W fun x W' => x = .returned (.bool b) ∧ Tl B w0 p r es W' ∧ W.grownBy W' none := by
  have HM := Aside0.mk h
  have hcell := h.cell
  have HB := Aside0.mk hb
  clear h hb
  by_cases h0 : 0 ≤ a
  · have HB2 := Aside0.mk (show decide (a < (es.length : Int)) = b by rw [← HB.out]; unfold inB; simp [h0])
    go_enter Try.func59, Try.ntmps59
    go_wp2
    go_ret
    exact ⟨by rw [← HB2.out]; rfl, HM.out, grown_refl _ _⟩
  · have HB2 := Aside0.mk (show false = b by rw [← HB.out]; unfold inB; simp [h0])
    go_enter Try.func59, Try.ntmps59
    go_wp2
    go_ret
    exact ⟨by rw [← HB2.out]; rfl, HM.out, grown_refl _ _⟩
/-- What a place has. -/
def atOf (es : List (Option Ent)) (a : Int) : Option Ent := if 0 ≤ a ∧ a < es.length then es.getD a.toNat none else none
theorem tl_at {B w0 p r es W} (h : Tl B w0 p r es W) (a : Int) (v : Option Ent) (hv : atOf es a = v) :
    Calls Try.prog 24 #[.pointer (some ⟨p, 0, none⟩), .int .i64 a] W fun x W' => x = .returned (.tuple #[.agg (entA (v.getD zE)), .bool v.isSome]) ∧ Tl B w0 p r es W' ∧ W.grownBy W' none := by
  subst hv
  have hu := Try.underlying26
  have hu2 := Try.underlying24
  have HG0 := Aside0.mk (World.grownBy_alloc W (.cells #[.int .i64 0, .int .i64 0, .int .u64 0, .int .u64 0, .bool false, .bool false, .bool false, .bool false, .bool false, .bool false, .bool false] 26) none)
  have HB0 := Aside0.mk (heap_alloc_new W (.cells #[.int .i64 0, .int .i64 0, .int .u64 0, .int .u64 0, .bool false, .bool false, .bool false, .bool false, .bool false, .bool false, .bool false] 26))
  have HM := Aside0.mk (h.same HG0.out)
  have HM00 := Aside0.mk h
  clear h
  by_cases hin : 0 ≤ a ∧ a < (es.length : Int)
  · have HI := Aside0.mk (show inB es a = true from decide_eq_true hin)
    obtain ⟨ha0, ha1⟩ := hin
    have HAT := Aside0.mk (show atOf es a = es.getD a.toNat none by unfold atOf; rw [if_pos ⟨ha0, ha1⟩])
    obtain ⟨i, rfl⟩ := Int.eq_ofNat_of_zero_le ha0
    have hi : i < es.length := by omega
    rw [Int.toNat_natCast] at HAT
    cases hx : es.getD i none with
    | none =>
      have HX := Aside0.mk (HAT.out.trans hx)
      go_enter Try.func24, Try.ntmps24
      go_wp2_with fail
      refine (tl_in HM.out _ true HI.out).mono ?_
      rintro x w1 ⟨rfl, hM, hg⟩
      have HM1 := Aside0.mk hM
      have HG1 := Aside0.mk (grown_two HG0.out hg)
      have HB1 := Aside0.mk (blk_grown HB0.out hg)
      have hcell := hM.cell
      have hp := hM.at i hi
      rw [hx] at hp
      clear hM hg
      cases hp
      rename_i hc
      go_wp2_with (refine wpList_store_row rfl 26 (.tmp 4) (.tmp 20) rfl W.heap.size #[.int .i64 0, .int .i64 0, .int .u64 0, .int .u64 0, .bool false, .bool false, .bool false, .bool false, .bool false, .bool false, .bool false] rfl rfl 26 _ HB1.out (by kernel_rfl) rfl (by kernel_rfl) ?_)
      have hbn := setRow_heap w1 W.heap.size _ #[.int .i64 0, .int .i64 0, .int .u64 0, .int .u64 0, .bool false, .bool false, .bool false, .bool false, .bool false, .bool false, .bool false] 26 _ HB1.out
      obtain ⟨q0, q1, q2, q3, q4, q5, q6, q7, q8, q9, q10⟩ := cz11 hbn
      have hgr := grown_own HG1.out (grown_row w1 W.heap.size #[.int .i64 0, .int .i64 0, .int .u64 0, .int .u64 0, .bool false, .bool false, .bool false, .bool false, .bool false, .bool false, .bool false]) (fun j e => by cases e; omega)
      rw [HX.out]
      exact bodyPost_ret (v := .tuple #[.agg (entA zE), .bool false]) (by simp [results, Try.f24, go_sem, q0, q1, q2, q3, q4, q5, q6, q7, q8, q9, q10]; exact ⟨rfl, rfl, rfl, rfl, rfl, rfl, rfl, rfl, rfl, rfl, rfl⟩) rfl ⟨rfl, HM00.out.same hgr, hgr⟩
    | some e =>
      have HX := Aside0.mk (HAT.out.trans hx)
      go_enter Try.func24, Try.ntmps24
      go_wp2_with fail
      refine (tl_in HM.out _ true HI.out).mono ?_
      rintro x w1 ⟨rfl, hM, hg⟩
      have HM1 := Aside0.mk hM
      have HG1 := Aside0.mk (grown_two HG0.out hg)
      have HB1 := Aside0.mk (blk_grown HB0.out hg)
      have hcell := hM.cell
      have hp := hM.at i hi
      rw [hx] at hp
      clear hM hg
      cases hp
      rename_i b hc hb
      obtain ⟨q0, q1, q2, q3, q4, q5, q6, q7, q8, q9, q10⟩ := cz11 hb
      clear hb
      go_wp2_with (refine wpList_store_row rfl 26 (.tmp 4) (.tmp 29) rfl W.heap.size (entA e) rfl rfl 26 _ HB1.out (by kernel_rfl) rfl (by kernel_rfl) ?_)
      have hbn := setRow_heap w1 W.heap.size _ (entA e) 26 _ HB1.out
      obtain ⟨z0, z1, z2, z3, z4, z5, z6, z7, z8, z9, z10⟩ := cz11 hbn
      have hgr := grown_own HG1.out (grown_row w1 W.heap.size (entA e)) (fun j e => by cases e; omega)
      rw [HX.out]
      exact bodyPost_ret (v := .tuple #[.agg (entA e), .bool true]) (by simp [results, Try.f24, go_sem, z0, z1, z2, z3, z4, z5, z6, z7, z8, z9, z10]) rfl ⟨rfl, HM00.out.same hgr, hgr⟩
  · have HI := Aside0.mk (show inB es a = false from decide_eq_false hin)
    have HX := Aside0.mk (show atOf es a = none by unfold atOf; rw [if_neg hin])
    go_enter Try.func24, Try.ntmps24
    go_wp2_with (first | (go_at_call 59; refine (tl_in HM.out _ false HI.out).mono ?_; rintro x w1 ⟨rfl, hM, hg⟩; have HM1 := Aside0.mk hM; have HG1 := Aside0.mk (grown_two HG0.out hg); have HB1 := Aside0.mk (blk_grown HB0.out hg); clear hM hg) | (refine wpList_store_row rfl 26 (.tmp 4) (.tmp 20) rfl W.heap.size #[.int .i64 0, .int .i64 0, .int .u64 0, .int .u64 0, .bool false, .bool false, .bool false, .bool false, .bool false, .bool false, .bool false] rfl rfl 26 _ HB1.out (by kernel_rfl) rfl (by kernel_rfl) ?_))
    have hbn := setRow_heap w1 W.heap.size _ #[.int .i64 0, .int .i64 0, .int .u64 0, .int .u64 0, .bool false, .bool false, .bool false, .bool false, .bool false, .bool false, .bool false] 26 _ HB1.out
    obtain ⟨q0, q1, q2, q3, q4, q5, q6, q7, q8, q9, q10⟩ := cz11 hbn
    have hgr := grown_own HG1.out (grown_row w1 W.heap.size #[.int .i64 0, .int .i64 0, .int .u64 0, .int .u64 0, .bool false, .bool false, .bool false, .bool false, .bool false, .bool false, .bool false]) (fun j e => by cases e; omega)
    rw [HX.out]
    exact bodyPost_ret (v := .tuple #[.agg (entA zE), .bool false]) (by simp [results, Try.f24, go_sem, q0, q1, q2, q3, q4, q5, q6, q7, q8, q9, q10]; exact ⟨rfl, rfl, rfl, rfl, rfl, rfl, rfl, rfl, rfl, rfl, rfl⟩) rfl ⟨rfl, HM00.out.same hgr, hgr⟩
end
end Go.Proofs.Ythclbckkfgmbaaa.QTlbPlays
