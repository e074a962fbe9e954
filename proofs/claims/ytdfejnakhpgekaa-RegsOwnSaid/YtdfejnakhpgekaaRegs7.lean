/- What a deed does with registers and with the document's registers: they answer alike, and are alike; at whatever numbers. -/
import Derived.Test.YtdfejnakhpgekaaRegs6
namespace Go.Proofs.Ytdfejnakhpgekaa.QRegsPlays
open Go.RowKit Go.Maps Go.Proofs.YtdfejnakhpgekaaW.PrintWords Go.Proofs.YtdfejnakhpgekaaW.PrintLast Go.Proofs.YtdfejnakhpgekaaW.PrintMore
set_option linter.unusedSimpArgs false
set_option linter.unusedVariables false
section
set_option maxHeartbeats 1000000
set_option maxRecDepth 100000
/-- The document's registers, as the law has them. -/
def tupV (D : DataW Unit) : Array Value := #[.int .u64 (rdk D 80 24), .int .u64 (rdk D 80 40), .int .u64 (rdk D 80 48), .int .u64 (rdk D 88 8), .int .u64 (rdk D 88 16), .int .u64 (rdk D 88 24), .int .u64 (rdk D 88 32), .int .u64 (rdk D 88 40), .int .u64 (rdk D 88 48)]
theorem blk_grown {W W' : World} {g : Nat} {o : Obj} (h : W.heap[g]? = some o) (hg : W.grownBy W' none) : W'.heap[g]? = some o := (hg.block g (blk_lt h) (by simp)).trans h
theorem cz8 {W : World} {g : Nat} {t : TypeId} {a0 a1 a2 a3 a4 a5 a6 a7 : Value} (h : W.heap[g]? = some (.cells #[a0, a1, a2, a3, a4, a5, a6, a7] t (0, 0))) : W.cell? ⟨g, 0, none⟩ = some a0 ∧ W.cell? ⟨g, 1, none⟩ = some a1 ∧ W.cell? ⟨g, 2, none⟩ = some a2 ∧ W.cell? ⟨g, 3, none⟩ = some a3 ∧ W.cell? ⟨g, 4, none⟩ = some a4 ∧ W.cell? ⟨g, 5, none⟩ = some a5 ∧ W.cell? ⟨g, 6, none⟩ = some a6 ∧ W.cell? ⟨g, 7, none⟩ = some a7 := ⟨(blk_cell h 0).trans rfl, (blk_cell h 1).trans rfl, (blk_cell h 2).trans rfl, (blk_cell h 3).trans rfl, (blk_cell h 4).trans rfl, (blk_cell h 5).trans rfl, (blk_cell h 6).trans rfl, (blk_cell h 7).trans rfl⟩
theorem cz9 {W : World} {g : Nat} {t : TypeId} {a0 a1 a2 a3 a4 a5 a6 a7 a8 : Value} (h : W.heap[g]? = some (.cells #[a0, a1, a2, a3, a4, a5, a6, a7, a8] t (0, 0))) : W.cell? ⟨g, 0, none⟩ = some a0 ∧ W.cell? ⟨g, 1, none⟩ = some a1 ∧ W.cell? ⟨g, 2, none⟩ = some a2 ∧ W.cell? ⟨g, 3, none⟩ = some a3 ∧ W.cell? ⟨g, 4, none⟩ = some a4 ∧ W.cell? ⟨g, 5, none⟩ = some a5 ∧ W.cell? ⟨g, 6, none⟩ = some a6 ∧ W.cell? ⟨g, 7, none⟩ = some a7 ∧ W.cell? ⟨g, 8, none⟩ = some a8 := ⟨(blk_cell h 0).trans rfl, (blk_cell h 1).trans rfl, (blk_cell h 2).trans rfl, (blk_cell h 3).trans rfl, (blk_cell h 4).trans rfl, (blk_cell h 5).trans rfl, (blk_cell h 6).trans rfl, (blk_cell h 7).trans rfl, (blk_cell h 8).trans rfl⟩
/-- What does holds while it goes on. -/
structure DS (W : World) (g4 g5 g6 : Nat) (A E Z : Array Value) (w : World) : Prop where
  b4 : w.heap[g4]? = some (.cells A 38 (0, 0))
  b5 : w.heap[g5]? = some (.cells E 42 (0, 0))
  b6 : w.heap[g6]? = some (.cells Z 38 (0, 0))
  gr : W.grownBy w none
  lo : W.heap.size ≤ g6
theorem DS.more {W g4 g5 g6 A E Z w w'} (h : DS W g4 g5 g6 A E Z w) (hg : w.grownBy w' none) : DS W g4 g5 g6 A E Z w' := ⟨blk_grown h.b4 hg, blk_grown h.b5 hg, blk_grown h.b6 hg, grown_two h.gr hg, h.lo⟩
theorem DS.ne {W g4 g5 g6 A E Z w} (h : DS W g4 g5 g6 A E Z w) : g5 ≠ g6 := fun e => by
  have := h.b5
  rw [e, h.b6] at this
  injection this with this
  injection this with _ h2
  exact absurd h2 (by decide)
theorem blk_mb {w w' : World} {mb g : Nat} {cs : Array Value} {t : TypeId} {fr : Nat × Nat} (h : w.heap[g]? = some (.cells cs t fr)) {es : Array MapEntry} {c : Nat} (hm : w.heap[mb]? = some (.map es c)) (hg : w.grownBy w' (some mb)) : w'.heap[g]? = some (.cells cs t fr) := by
  refine (hg.block g (blk_lt h) (fun e => ?_)).trans h
  cases e
  rw [hm] at h
  cases h
theorem blk_row {w : World} {g g' : Nat} {cs : Array Value} {o : Obj} (h : w.heap[g]? = some o) (hn : g ≠ g') : (w.setRow g' cs).heap[g]? = some o := (setRow_other w g' g cs hn).trans h
theorem DS.fin {B w0 p mb n D W g4 g5 g6 A E Z w n' D' wn} (h : DS W g4 g5 g6 A E Z w) (hR : Regs B w0 p mb n D W) (hm : w.grownBy wn (some mb)) (h' : Regs B w0 p mb n' D' wn) (cs : Array Value) : Regs B w0 p mb n' D' (wn.setRow g6 cs) ∧ W.grownBy (wn.setRow g6 cs) (some mb) := by
  have h1 : mb ≠ g6 := Nat.ne_of_lt (Nat.lt_of_lt_of_le hR.own.lt h.lo)
  have h2 : p ≠ g6 := Nat.ne_of_lt (Nat.lt_of_lt_of_le hR.lt h.lo)
  refine ⟨h'.kept (grown_row wn g6 cs) (fun e => h1 (Option.some.inj e)) (fun e => h2 (Option.some.inj e)) (fun k e => by cases e; exact Nat.le_trans hR.hB h.lo), ?_⟩
  exact (grown_two (grown_but h.gr _) hm).andThen (grown_row wn g6 cs) (fun j e => by cases e; exact .inl h.lo)
noncomputable def doeswrite_T : Bool × List (List Nat × List Nat) := rtab .any (opsOf Try.f22 4)
theorem doeswrite_tab : rtab .any (opsOf Try.f22 4) = doeswrite_T := rfl
noncomputable def doesmiss_T : Bool × List (List Nat × List Nat) := rtab .any (opsOf Try.f22 7)
theorem doesmiss_tab : rtab .any (opsOf Try.f22 7) = doesmiss_T := rfl
noncomputable def doesfault_T : Bool × List (List Nat × List Nat) := rtab .any (opsOf Try.f22 10)
theorem doesfault_tab : rtab .any (opsOf Try.f22 10) = doesfault_T := rfl
noncomputable def doesclear_T : Bool × List (List Nat × List Nat) := rtab .any (opsOf Try.f22 13)
theorem doesclear_tab : rtab .any (opsOf Try.f22 13) = doesclear_T := rfl
theorem does_write {B w0 p mb n D W} (h : Regs B w0 p mb n D W) (asi unit num place v : Int) (store priv : Bool) (ha : (Lit.int .i64 asi).wf = true) (hq : (Lit.int .u64 place).wf = true) (hv : (Lit.int .u64 v).wf = true) (hn : n < 800000) :
    Calls Try.prog 22 #[.pointer (some ⟨p, 0, none⟩), .agg (tupV D), .agg #[.int .i64 0, .int .i64 asi, .int .i64 unit, .int .i64 num, .int .u64 place, .int .u64 v, .bool store, .bool priv]] W fun e W' => ∃ D', e = .returned (.tuple #[.agg (tupV D'), .bool true]) ∧ Regs B w0 p mb (n + 2) D' W' ∧ W.grownBy W' (some mb) := by
  obtain ⟨D1, e1, hf, hcc⟩ := both_write h asi place v ha hq hv (by omega)
  clear hcc
  generalize tupE D1 e1 = rr at hf
  obtain ⟨r1, r2, r3, r4, r5, r6, r7, r8, r9, r10⟩ := rr
  have HE : Aside0 (∀ W1, Regs B w0 p mb n D W1 → Calls Try.prog 16 #[.pointer (some ⟨p, 0, none⟩), .int .i64 asi, .int .u64 place, .int .u64 v] W1 fun e W' => ∃ D', e = .returned (.int .i64 r10) ∧ tupV D' = #[.int .u64 r1, .int .u64 r2, .int .u64 r3, .int .u64 r4, .int .u64 r5, .int .u64 r6, .int .u64 r7, .int .u64 r8, .int .u64 r9] ∧ Regs B w0 p mb (n + 2) D' W' ∧ W1.grownBy W' (some mb)) := ⟨fun W1 h1 => by
    obtain ⟨D2, e2, hf2, hc⟩ := both_write h1 asi place v ha hq hv (by omega)
    have he := hf.symm.trans hf2
    simp only [tupE, Option.some.injEq, Prod.mk.injEq] at he
    obtain ⟨rfl, rfl, rfl, rfl, rfl, rfl, rfl, rfl, rfl, rfl⟩ := he
    exact hc.mono fun e W' x => ⟨D2, x.1, rfl, x.2⟩⟩
  have HF := Aside0.mk hf
  have HR := Aside0.mk h
  have hu := Try.underlying38
  have hu42 := Try.underlying42
  clear hf h D1 e1
  have hTD : tupV D = #[.int .u64 (rdk D 80 24), .int .u64 (rdk D 80 40), .int .u64 (rdk D 80 48), .int .u64 (rdk D 88 8), .int .u64 (rdk D 88 16), .int .u64 (rdk D 88 24), .int .u64 (rdk D 88 32), .int .u64 (rdk D 88 40), .int .u64 (rdk D 88 48)] := rfl
  rw [hTD]
  have HT0 := Aside0.mk hTD
  clear hTD
  generalize rdk D 80 24 = a0 at HF HT0 ⊢
  generalize rdk D 80 40 = a1 at HF HT0 ⊢
  generalize rdk D 80 48 = a2 at HF HT0 ⊢
  generalize rdk D 88 8 = a3 at HF HT0 ⊢
  generalize rdk D 88 16 = a4 at HF HT0 ⊢
  generalize rdk D 88 24 = a5 at HF HT0 ⊢
  generalize rdk D 88 32 = a6 at HF HT0 ⊢
  generalize rdk D 88 40 = a7 at HF HT0 ⊢
  generalize rdk D 88 48 = a8 at HF HT0 ⊢
  go_enter Try.func22, Try.ntmps22
  go_wp2_with (first | ((with_reducible refine gate_dst (N := 4) rfl ?_); refine box_event ?hg (N := 4) ?hd (cs := #[.int .u64 a0, .int .u64 a1, .int .u64 a2, .int .u64 a3, .int .u64 a4, .int .u64 a5, .int .u64 a6, .int .u64 a7, .int .u64 a8]) (t := 38) ?hr ?_; (case hd => rfl); (case hg => rfl); (case hr => first | (go_simp; done) | (go_simp; rfl)); intro g4 hgb w1 hbox hb; have H4 := Aside0.mk hbox; have GH4 := Aside0.mk (below_grown hb); have LH4 := Aside0.mk (Nat.le_of_eq hgb.symm); clear hgb hbox hb) | ((with_reducible refine gate_dst (N := 5) rfl ?_); refine box_event ?hg (N := 5) ?hd (cs := #[.int .i64 0, .int .i64 asi, .int .i64 unit, .int .i64 num, .int .u64 place, .int .u64 v, .bool store, .bool priv]) (t := 42) ?hr ?_; (case hd => rfl); (case hg => rfl); (case hr => first | (go_simp; done) | (go_simp; rfl)); intro g5 hgb w2 hbox hb; have H5 := Aside0.mk hbox; have GH5 := Aside0.mk (below_grown hb); have LH5 := Aside0.mk (Nat.le_of_eq hgb.symm); clear hgb hbox hb; have H4b := Aside0.mk (blk_grown H4.out GH5.out); have G4b := Aside0.mk (grown_two GH4.out GH5.out); clear H4) | ((with_reducible refine gate_dst (N := 6) rfl ?_); refine box_event ?hg (N := 6) ?hd (cs := #[.int .u64 0, .int .u64 0, .int .u64 0, .int .u64 0, .int .u64 0, .int .u64 0, .int .u64 0, .int .u64 0, .int .u64 0]) (t := 38) ?hr ?_; (case hd => rfl); (case hg => rfl); (case hr => first | (go_simp; done) | (go_simp; rfl)); intro g6 hgb w3 hbox hb; have H6 := Aside0.mk hbox; have GH6 := Aside0.mk (below_grown hb); have LH6 := Aside0.mk (Nat.le_of_eq hgb.symm); clear hgb hbox hb; have HS3 := Aside0.mk (DS.mk (blk_grown H4b.out GH6.out) (blk_grown H5.out GH6.out) H6.out (grown_two G4b.out GH6.out) (Nat.le_trans G4b.out.size LH6.out)); obtain ⟨c0, c1, c2, c3, c4, c5, c6, c7⟩ := cz8 HS3.out.b5; clear H4b H5 H6 G4b GH6) | ((with_reducible refine gate_dst (N := 25) rfl ?_); refine wpList_load_row rfl 38 (.tmp 4) rfl g4 rfl 38 #[.int .u64 a0, .int .u64 a1, .int .u64 a2, .int .u64 a3, .int .u64 a4, .int .u64 a5, .int .u64 a6, .int .u64 a7, .int .u64 a8] (0, 0) _ HS3.out.b4 hu rfl (by kernel_rfl) ?_) | (go_at_call 64; refine (lookasideref07_Write.calls 20 _ _ _ _ _ _ _ _ _ asi place v _ _ _ _ _ _ _ _ _ _ _ HF.out).mono ?_; rintro e w4 ⟨rfl, hb⟩; have HS4 := Aside0.mk (HS3.out.more (below_grown hb)); clear hb HF c0 c1 c2 c3 c4 c5 c6 c7) | ((with_reducible refine gate_dst (N := 8) rfl ?_); refine box_event ?hg (N := 8) ?hd (cs := #[.int .u64 0, .int .u64 0, .int .u64 0, .int .u64 0, .int .u64 0, .int .u64 0, .int .u64 0, .int .u64 0, .int .u64 0]) (t := 38) ?hr ?_; (case hd => rfl); (case hg => rfl); (case hr => first | (go_simp; done) | (go_simp; rfl)); intro g8 hgb w5 hbox hb; have H8 := Aside0.mk hbox; have GH8 := Aside0.mk (below_grown hb); have LH8 := Aside0.mk (Nat.le_of_eq hgb.symm); clear hgb hbox hb) | ((with_reducible refine gate_store (t := 38) (p := 8) rfl ?_); refine wpList_store_row rfl 38 (.tmp 8) (.tmp 33) rfl g8 #[.int .u64 r1, .int .u64 r2, .int .u64 r3, .int .u64 r4, .int .u64 r5, .int .u64 r6, .int .u64 r7, .int .u64 r8, .int .u64 r9] rfl rfl 38 _ H8.out (by kernel_rfl) rfl (by kernel_rfl) ?_; have SH8 := Aside0.mk (setRow_heap _ g8 _ #[.int .u64 r1, .int .u64 r2, .int .u64 r3, .int .u64 r4, .int .u64 r5, .int .u64 r6, .int .u64 r7, .int .u64 r8, .int .u64 r9] _ _ H8.out); have TH8 := Aside0.mk (grown_row w5 g8 #[.int .u64 r1, .int .u64 r2, .int .u64 r3, .int .u64 r4, .int .u64 r5, .int .u64 r6, .int .u64 r7, .int .u64 r8, .int .u64 r9]); have hgn := grown_new GH8.out TH8.out LH8.out; have HS7 := Aside0.mk (HS4.out.more hgn); have HN := Aside0.mk (show g8 ≠ g6 from Nat.ne_of_gt (Nat.lt_of_lt_of_le (blk_lt HS4.out.b6) LH8.out)); obtain ⟨c0, c1, c2, c3, c4, c5, c6, c7⟩ := cz8 HS7.out.b5; clear hgn HS4 HS3 H8 GH8 TH8) | go_in)
  generalize hwq : World.setRow _ g8 _ = wq at SH8 HS7 c0 c1 c2 c3 c4 c5 c6 c7 ⊢
  clear hwq
  have AHS := Aside0.mk (show wq.drew.heap[g8]? = some (.cells #[.int .u64 r1, .int .u64 r2, .int .u64 r3, .int .u64 r4, .int .u64 r5, .int .u64 r6, .int .u64 r7, .int .u64 r8, .int .u64 r9] 38 (0, 0)) ∧ wq.drew.cell? ⟨g5, 0, none⟩ = some (.int .i64 0) ∧ wq.drew.cell? ⟨g5, 1, none⟩ = some (.int .i64 asi) ∧ wq.drew.cell? ⟨g5, 2, none⟩ = some (.int .i64 unit) ∧ wq.drew.cell? ⟨g5, 3, none⟩ = some (.int .i64 num) ∧ wq.drew.cell? ⟨g5, 4, none⟩ = some (.int .u64 place) ∧ wq.drew.cell? ⟨g5, 5, none⟩ = some (.int .u64 v) ∧ wq.drew.cell? ⟨g5, 6, none⟩ = some (.bool store) ∧ wq.drew.cell? ⟨g5, 7, none⟩ = some (.bool priv) from ⟨SH8.out, c0, c1, c2, c3, c4, c5, c6, c7⟩)
  have HS8 := Aside0.mk (HS7.out.more (grown_drew _ _))
  have HR8 := Aside0.mk (HR.out.same HS8.out.gr)
  refine start_ (n := 13) (S := fun w' => w'.heap[g8]? = some (.cells #[.int .u64 r1, .int .u64 r2, .int .u64 r3, .int .u64 r4, .int .u64 r5, .int .u64 r6, .int .u64 r7, .int .u64 r8, .int .u64 r9] 38 (0, 0)) ∧ w'.cell? ⟨g5, 0, none⟩ = some (.int .i64 0) ∧ w'.cell? ⟨g5, 1, none⟩ = some (.int .i64 asi) ∧ w'.cell? ⟨g5, 2, none⟩ = some (.int .i64 unit) ∧ w'.cell? ⟨g5, 3, none⟩ = some (.int .i64 num) ∧ w'.cell? ⟨g5, 4, none⟩ = some (.int .u64 place) ∧ w'.cell? ⟨g5, 5, none⟩ = some (.int .u64 v) ∧ w'.cell? ⟨g5, 6, none⟩ = some (.bool store) ∧ w'.cell? ⟨g5, 7, none⟩ = some (.bool priv)) (ds := []) #[false, false, false, false, false, false, false, false, false, false, false, false, false] (by kernel_rfl) rfl rfl AHS.out (fun hHeld => ?_)
  refine with_tab doeswrite_tab (fun HT_ => ?_)
  refine pure_ (i := 1) (N := some 36) (v := ?_) (a' := ?_) #[false, true, false, false, false, false, false, false, false, false, false, false, false] rfl rfl (any_of HT_.out (by kernel_rfl)) (fun _ _ _ h => h) (Or.inl ⟨by rfl, ?_⟩) ?_ ?_
  rotate_left
  · intro w'
    go_simp
    with_reducible rfl
  rotate_left
  · simp only [Act.put, List.setIfInBounds_toArray, List.set_cons_zero, List.set_cons_succ, i64_w, i32_w]
    rfl
  refine pure_ (i := 2) (N := some 37) (v := ?_) (a' := ?_) #[false, true, true, false, false, false, false, false, false, false, false, false, false] rfl rfl (any_of HT_.out (by kernel_rfl)) (fun _ _ _ h => h) (Or.inl ⟨by rfl, ?_⟩) ?_ ?_
  rotate_left
  · intro w'
    go_simp
    with_reducible rfl
  rotate_left
  · simp only [Act.put, List.setIfInBounds_toArray, List.set_cons_zero, List.set_cons_succ, i64_w, i32_w]
    rfl
  refine pure_ (i := 4) (N := some 39) (v := ?_) (a' := ?_) #[false, true, true, false, true, false, false, false, false, false, false, false, false] rfl rfl (any_of HT_.out (by kernel_rfl)) (fun _ _ _ h => h) (Or.inl ⟨by rfl, ?_⟩) ?_ ?_
  rotate_left
  · intro w'
    go_simp
    with_reducible rfl
  rotate_left
  · simp only [Act.put, List.setIfInBounds_toArray, List.set_cons_zero, List.set_cons_succ, i64_w, i32_w]
    rfl
  refine pure_ (i := 6) (N := some 41) (v := ?_) (a' := ?_) #[false, true, true, false, true, false, true, false, false, false, false, false, false] rfl rfl (any_of HT_.out (by kernel_rfl)) (fun _ _ _ h => h) (Or.inl ⟨by rfl, ?_⟩) ?_ ?_
  rotate_left
  · intro w'
    go_simp
    with_reducible rfl
  rotate_left
  · simp only [Act.put, List.setIfInBounds_toArray, List.set_cons_zero, List.set_cons_succ, i64_w, i32_w]
    rfl
  refine pure_ (i := 9) (N := some 44) (v := ?_) (a' := ?_) #[false, true, true, false, true, false, true, false, false, true, false, false, false] rfl rfl (any_of HT_.out (by kernel_rfl)) (fun _ _ _ h => h) (Or.inl ⟨by rfl, ?_⟩) ?_ ?_
  rotate_left
  · intro w'
    go_simp
    with_reducible rfl
  rotate_left
  · simp only [Act.put, List.setIfInBounds_toArray, List.set_cons_zero, List.set_cons_succ, i64_w, i32_w]
    rfl
  refine take_ (i := 3) (N := some 38) (v := ?_) (a' := ?_) #[false, true, true, true, true, false, true, false, false, true, false, false, false] rfl rfl (take_of HT_.out (by kernel_rfl)) (fun _ _ _ h => h) (Or.inl ⟨by rfl, ?_⟩) hHeld ?_ ?_
  rotate_left
  · rintro w' ⟨s8, s0, s1, s2, s3, s4, s5, s6, s7⟩
    go_simp
    with_reducible rfl
  rotate_left
  · simp only [Act.put, List.setIfInBounds_toArray, List.set_cons_zero, List.set_cons_succ, i64_w, i32_w]
    rfl
  refine take_ (i := 5) (N := some 40) (v := ?_) (a' := ?_) #[false, true, true, true, true, true, true, false, false, true, false, false, false] rfl rfl (take_of HT_.out (by kernel_rfl)) (fun _ _ _ h => h) (Or.inl ⟨by rfl, ?_⟩) hHeld ?_ ?_
  rotate_left
  · rintro w' ⟨s8, s0, s1, s2, s3, s4, s5, s6, s7⟩
    go_simp
    with_reducible rfl
  rotate_left
  · simp only [Act.put, List.setIfInBounds_toArray, List.set_cons_zero, List.set_cons_succ, i64_w, i32_w]
    rfl
  refine take_ (i := 7) (N := some 42) (v := ?_) (a' := ?_) #[false, true, true, true, true, true, true, true, false, true, false, false, false] rfl rfl (take_of HT_.out (by kernel_rfl)) (fun _ _ _ h => h) (Or.inl ⟨by rfl, ?_⟩) hHeld ?_ ?_
  rotate_left
  · rintro w' ⟨s8, s0, s1, s2, s3, s4, s5, s6, s7⟩
    go_simp
    with_reducible rfl
  rotate_left
  · simp only [Act.put, List.setIfInBounds_toArray, List.set_cons_zero, List.set_cons_succ, i64_w, i32_w]
    rfl
  refine take_ (i := 0) (N := some 35) (v := .agg #[.int .u64 r1, .int .u64 r2, .int .u64 r3, .int .u64 r4, .int .u64 r5, .int .u64 r6, .int .u64 r7, .int .u64 r8, .int .u64 r9]) (a' := ?_) #[true, true, true, true, true, true, true, true, false, true, false, false, false] rfl rfl (take_of HT_.out (by kernel_rfl)) (fun _ _ _ h => h) (Or.inl ⟨by rfl, ?_⟩) hHeld ?_ ?_
  · rintro w' ⟨s8, s0, s1, s2, s3, s4, s5, s6, s7⟩
    obtain ⟨q0, q1, q2, q3, q4, q5, q6, q7, q8⟩ := cz9 s8
    go_simp
    first | done | (rw [hrun])
  rotate_left
  · simp only [Act.put, List.setIfInBounds_toArray, List.set_cons_zero, List.set_cons_succ, i64_w, i32_w]
    rfl
  refine one_ (i := 8) (N := some 43) #[true, true, true, true, true, true, true, true, true, true, false, false, false] rfl rfl (one_of HT_.out (by kernel_rfl)) (by decide) (fun K hK => ?_)
  refine goes_ Try.func16 (by kernel_rfl) rfl #[.pointer (some ⟨p, 0, none⟩), .int .i64 asi, .int .u64 place, .int .u64 v] (by rfl) rfl rfl (by (try simp only [List.map_toArray, List.map_cons, List.map_nil]); first | done | rfl) ?_
  refine (HE.out _ HR8.out).mono ?_
  rintro e wn ⟨D', rfl, hTV, hR', hg'⟩
  obtain ⟨es, cl, hmb, hmo⟩ := HR8.out.own
  have SN := Aside0.mk (blk_mb AHS.out.1 hmb hg')
  have SN5 := Aside0.mk (blk_mb HS8.out.b5 hmb hg')
  have SN6 := Aside0.mk (blk_mb HS8.out.b6 hmb hg')
  have HFIN := Aside0.mk (HS8.out.fin HR.out hg' hR' #[.int .u64 r1, .int .u64 r2, .int .u64 r3, .int .u64 r4, .int .u64 r5, .int .u64 r6, .int .u64 r7, .int .u64 r8, .int .u64 r9])
  have HTV := Aside0.mk hTV
  have SNS := Aside0.mk (show wn.heap[g8]? = some (.cells #[.int .u64 r1, .int .u64 r2, .int .u64 r3, .int .u64 r4, .int .u64 r5, .int .u64 r6, .int .u64 r7, .int .u64 r8, .int .u64 r9] 38 (0, 0)) ∧ wn.cell? ⟨g5, 0, none⟩ = some (.int .i64 0) ∧ wn.cell? ⟨g5, 1, none⟩ = some (.int .i64 asi) ∧ wn.cell? ⟨g5, 2, none⟩ = some (.int .i64 unit) ∧ wn.cell? ⟨g5, 3, none⟩ = some (.int .i64 num) ∧ wn.cell? ⟨g5, 4, none⟩ = some (.int .u64 place) ∧ wn.cell? ⟨g5, 5, none⟩ = some (.int .u64 v) ∧ wn.cell? ⟨g5, 6, none⟩ = some (.bool store) ∧ wn.cell? ⟨g5, 7, none⟩ = some (.bool priv) from ⟨SN.out, cz8 SN5.out⟩)
  clear hmo hg' hR' hTV hmb es cl
  refine ⟨_, rfl, ?_⟩
  refine hK.out _ _ SNS.out (fun hHeld => ?_)
  clear hK K
  refine norm_ (a' := ?_) ?_ ?_
  rotate_left
  · show Act.put _ (some 43) _ = _
    simp only [Act.put, List.setIfInBounds_toArray, List.set_cons_zero, List.set_cons_succ, i64_w, i32_w]
    rfl
  refine pure_ (i := 10) (N := some 45) (v := ?_) (a' := ?_) #[true, true, true, true, true, true, true, true, true, true, true, false, false] rfl rfl (any_of HT_.out (by kernel_rfl)) (fun _ _ _ h => h) (Or.inl ⟨by rfl, ?_⟩) ?_ ?_
  rotate_left
  · intro w'
    go_simp
    with_reducible rfl
  rotate_left
  · simp only [Act.put, List.setIfInBounds_toArray, List.set_cons_zero, List.set_cons_succ, i64_w, i32_w]
    rfl
  refine one_ (i := 11) (N := none) #[true, true, true, true, true, true, true, true, true, true, true, true, false] rfl rfl (one_of HT_.out (by kernel_rfl)) (by decide) (fun K hK => ?_)
  rw [if_pos (by rfl)]
  refine wp_store_row 38 (.tmp 6) (.tmp 35) rfl g6 #[.int .u64 r1, .int .u64 r2, .int .u64 r3, .int .u64 r4, .int .u64 r5, .int .u64 r6, .int .u64 r7, .int .u64 r8, .int .u64 r9] rfl rfl 38 #[.int .u64 0, .int .u64 0, .int .u64 0, .int .u64 0, .int .u64 0, .int .u64 0, .int .u64 0, .int .u64 0, .int .u64 0] SN6.out (by kernel_rfl) rfl (by kernel_rfl) ?_
  have SO6 := Aside0.mk (setRow_heap _ g6 _ #[.int .u64 r1, .int .u64 r2, .int .u64 r3, .int .u64 r4, .int .u64 r5, .int .u64 r6, .int .u64 r7, .int .u64 r8, .int .u64 r9] _ _ SN6.out)
  refine hK.out _ _ (show (wn.setRow g6 #[.int .u64 r1, .int .u64 r2, .int .u64 r3, .int .u64 r4, .int .u64 r5, .int .u64 r6, .int .u64 r7, .int .u64 r8, .int .u64 r9]).heap[g8]? = some (.cells #[.int .u64 r1, .int .u64 r2, .int .u64 r3, .int .u64 r4, .int .u64 r5, .int .u64 r6, .int .u64 r7, .int .u64 r8, .int .u64 r9] 38 (0, 0)) ∧ (wn.setRow g6 #[.int .u64 r1, .int .u64 r2, .int .u64 r3, .int .u64 r4, .int .u64 r5, .int .u64 r6, .int .u64 r7, .int .u64 r8, .int .u64 r9]).cell? ⟨g5, 0, none⟩ = some (.int .i64 0) ∧ (wn.setRow g6 #[.int .u64 r1, .int .u64 r2, .int .u64 r3, .int .u64 r4, .int .u64 r5, .int .u64 r6, .int .u64 r7, .int .u64 r8, .int .u64 r9]).cell? ⟨g5, 1, none⟩ = some (.int .i64 asi) ∧ (wn.setRow g6 #[.int .u64 r1, .int .u64 r2, .int .u64 r3, .int .u64 r4, .int .u64 r5, .int .u64 r6, .int .u64 r7, .int .u64 r8, .int .u64 r9]).cell? ⟨g5, 2, none⟩ = some (.int .i64 unit) ∧ (wn.setRow g6 #[.int .u64 r1, .int .u64 r2, .int .u64 r3, .int .u64 r4, .int .u64 r5, .int .u64 r6, .int .u64 r7, .int .u64 r8, .int .u64 r9]).cell? ⟨g5, 3, none⟩ = some (.int .i64 num) ∧ (wn.setRow g6 #[.int .u64 r1, .int .u64 r2, .int .u64 r3, .int .u64 r4, .int .u64 r5, .int .u64 r6, .int .u64 r7, .int .u64 r8, .int .u64 r9]).cell? ⟨g5, 4, none⟩ = some (.int .u64 place) ∧ (wn.setRow g6 #[.int .u64 r1, .int .u64 r2, .int .u64 r3, .int .u64 r4, .int .u64 r5, .int .u64 r6, .int .u64 r7, .int .u64 r8, .int .u64 r9]).cell? ⟨g5, 5, none⟩ = some (.int .u64 v) ∧ (wn.setRow g6 #[.int .u64 r1, .int .u64 r2, .int .u64 r3, .int .u64 r4, .int .u64 r5, .int .u64 r6, .int .u64 r7, .int .u64 r8, .int .u64 r9]).cell? ⟨g5, 6, none⟩ = some (.bool store) ∧ (wn.setRow g6 #[.int .u64 r1, .int .u64 r2, .int .u64 r3, .int .u64 r4, .int .u64 r5, .int .u64 r6, .int .u64 r7, .int .u64 r8, .int .u64 r9]).cell? ⟨g5, 7, none⟩ = some (.bool priv) from ⟨blk_row SN.out HN.out, cz8 (blk_row SN5.out HS8.out.ne)⟩) (fun hHeld => ?_)
  clear hK K
  refine norm_ (a' := ?_) ?_ ?_
  rotate_left
  · show Act.put _ none _ = _
    rfl
  refine pure_ (i := 12) (N := some 7) (v := ?_) (a' := ?_) #[true, true, true, true, true, true, true, true, true, true, true, true, true] rfl rfl (any_of HT_.out (by kernel_rfl)) (fun _ _ _ h => h) (Or.inl ⟨by rfl, ?_⟩) ?_ ?_
  rotate_left
  · intro w'
    go_simp
    with_reducible rfl
  rotate_left
  · simp only [Act.put, List.setIfInBounds_toArray, List.set_cons_zero, List.set_cons_succ, i64_w, i32_w]
    rfl
  refine done_ (done_of HT_.out (by kernel_rfl)) ?_
  go_wp2
  refine bodyPost_ret (results_ct rfl _ _ g6 38 #[.int .u64 r1, .int .u64 r2, .int .u64 r3, .int .u64 r4, .int .u64 r5, .int .u64 r6, .int .u64 r7, .int .u64 r8, .int .u64 r9] (0, 0) _ rfl SO6.out Try.underlying38 rfl (by kernel_rfl)) rfl ?_
  exact ⟨D', congrArg (fun z => Ending.returned (.tuple #[.agg z, .bool true])) HTV.out.symm, HFIN.out⟩
theorem does_miss {B w0 p mb n D W} (h : Regs B w0 p mb n D W) (asi unit num place v : Int) (store priv : Bool) (ha : (Lit.int .i64 asi).wf = true) (hq : (Lit.int .u64 place).wf = true) (hv : (Lit.int .u64 v).wf = true) (hn : n < 800000) :
    Calls Try.prog 22 #[.pointer (some ⟨p, 0, none⟩), .agg (tupV D), .agg #[.int .i64 1, .int .i64 asi, .int .i64 unit, .int .i64 num, .int .u64 place, .int .u64 v, .bool store, .bool priv]] W fun e W' => ∃ D', e = .returned (.tuple #[.agg (tupV D'), .bool true]) ∧ Regs B w0 p mb (n + 2) D' W' ∧ W.grownBy W' (some mb) := by
  obtain ⟨D1, e1, hf, hcc⟩ := both_miss h unit v num hv (by omega)
  clear hcc
  generalize tupE D1 e1 = rr at hf
  obtain ⟨r1, r2, r3, r4, r5, r6, r7, r8, r9, r10⟩ := rr
  have HE : Aside0 (∀ W1, Regs B w0 p mb n D W1 → Calls Try.prog 25 #[.pointer (some ⟨p, 0, none⟩), .int .i64 unit, .int .u64 v, .int .i64 num] W1 fun e W' => ∃ D', e = .returned (.int .i64 r10) ∧ tupV D' = #[.int .u64 r1, .int .u64 r2, .int .u64 r3, .int .u64 r4, .int .u64 r5, .int .u64 r6, .int .u64 r7, .int .u64 r8, .int .u64 r9] ∧ Regs B w0 p mb (n + 2) D' W' ∧ W1.grownBy W' (some mb)) := ⟨fun W1 h1 => by
    obtain ⟨D2, e2, hf2, hc⟩ := both_miss h1 unit v num hv (by omega)
    have he := hf.symm.trans hf2
    simp only [tupE, Option.some.injEq, Prod.mk.injEq] at he
    obtain ⟨rfl, rfl, rfl, rfl, rfl, rfl, rfl, rfl, rfl, rfl⟩ := he
    exact hc.mono fun e W' x => ⟨D2, x.1, rfl, x.2⟩⟩
  have HF := Aside0.mk hf
  have HR := Aside0.mk h
  have hu := Try.underlying38
  have hu42 := Try.underlying42
  clear hf h D1 e1
  have hTD : tupV D = #[.int .u64 (rdk D 80 24), .int .u64 (rdk D 80 40), .int .u64 (rdk D 80 48), .int .u64 (rdk D 88 8), .int .u64 (rdk D 88 16), .int .u64 (rdk D 88 24), .int .u64 (rdk D 88 32), .int .u64 (rdk D 88 40), .int .u64 (rdk D 88 48)] := rfl
  rw [hTD]
  have HT0 := Aside0.mk hTD
  clear hTD
  generalize rdk D 80 24 = a0 at HF HT0 ⊢
  generalize rdk D 80 40 = a1 at HF HT0 ⊢
  generalize rdk D 80 48 = a2 at HF HT0 ⊢
  generalize rdk D 88 8 = a3 at HF HT0 ⊢
  generalize rdk D 88 16 = a4 at HF HT0 ⊢
  generalize rdk D 88 24 = a5 at HF HT0 ⊢
  generalize rdk D 88 32 = a6 at HF HT0 ⊢
  generalize rdk D 88 40 = a7 at HF HT0 ⊢
  generalize rdk D 88 48 = a8 at HF HT0 ⊢
  go_enter Try.func22, Try.ntmps22
  go_wp2_with (first | ((with_reducible refine gate_dst (N := 4) rfl ?_); refine box_event ?hg (N := 4) ?hd (cs := #[.int .u64 a0, .int .u64 a1, .int .u64 a2, .int .u64 a3, .int .u64 a4, .int .u64 a5, .int .u64 a6, .int .u64 a7, .int .u64 a8]) (t := 38) ?hr ?_; (case hd => rfl); (case hg => rfl); (case hr => first | (go_simp; done) | (go_simp; rfl)); intro g4 hgb w1 hbox hb; have H4 := Aside0.mk hbox; have GH4 := Aside0.mk (below_grown hb); have LH4 := Aside0.mk (Nat.le_of_eq hgb.symm); clear hgb hbox hb) | ((with_reducible refine gate_dst (N := 5) rfl ?_); refine box_event ?hg (N := 5) ?hd (cs := #[.int .i64 1, .int .i64 asi, .int .i64 unit, .int .i64 num, .int .u64 place, .int .u64 v, .bool store, .bool priv]) (t := 42) ?hr ?_; (case hd => rfl); (case hg => rfl); (case hr => first | (go_simp; done) | (go_simp; rfl)); intro g5 hgb w2 hbox hb; have H5 := Aside0.mk hbox; have GH5 := Aside0.mk (below_grown hb); have LH5 := Aside0.mk (Nat.le_of_eq hgb.symm); clear hgb hbox hb; have H4b := Aside0.mk (blk_grown H4.out GH5.out); have G4b := Aside0.mk (grown_two GH4.out GH5.out); clear H4) | ((with_reducible refine gate_dst (N := 6) rfl ?_); refine box_event ?hg (N := 6) ?hd (cs := #[.int .u64 0, .int .u64 0, .int .u64 0, .int .u64 0, .int .u64 0, .int .u64 0, .int .u64 0, .int .u64 0, .int .u64 0]) (t := 38) ?hr ?_; (case hd => rfl); (case hg => rfl); (case hr => first | (go_simp; done) | (go_simp; rfl)); intro g6 hgb w3 hbox hb; have H6 := Aside0.mk hbox; have GH6 := Aside0.mk (below_grown hb); have LH6 := Aside0.mk (Nat.le_of_eq hgb.symm); clear hgb hbox hb; have HS3 := Aside0.mk (DS.mk (blk_grown H4b.out GH6.out) (blk_grown H5.out GH6.out) H6.out (grown_two G4b.out GH6.out) (Nat.le_trans G4b.out.size LH6.out)); obtain ⟨c0, c1, c2, c3, c4, c5, c6, c7⟩ := cz8 HS3.out.b5; clear H4b H5 H6 G4b GH6) | ((with_reducible refine gate_dst (N := 49) rfl ?_); refine wpList_load_row rfl 38 (.tmp 4) rfl g4 rfl 38 #[.int .u64 a0, .int .u64 a1, .int .u64 a2, .int .u64 a3, .int .u64 a4, .int .u64 a5, .int .u64 a6, .int .u64 a7, .int .u64 a8] (0, 0) _ HS3.out.b4 hu rfl (by kernel_rfl) ?_) | (go_at_call 65; refine (lookasideref07_Miss.calls 20 _ _ _ _ _ _ _ _ _ unit v num _ _ _ _ _ _ _ _ _ _ _ HF.out).mono ?_; rintro e w4 ⟨rfl, hb⟩; have HS4 := Aside0.mk (HS3.out.more (below_grown hb)); clear hb HF c0 c1 c2 c3 c4 c5 c6 c7) | ((with_reducible refine gate_dst (N := 10) rfl ?_); refine box_event ?hg (N := 10) ?hd (cs := #[.int .u64 0, .int .u64 0, .int .u64 0, .int .u64 0, .int .u64 0, .int .u64 0, .int .u64 0, .int .u64 0, .int .u64 0]) (t := 38) ?hr ?_; (case hd => rfl); (case hg => rfl); (case hr => first | (go_simp; done) | (go_simp; rfl)); intro g8 hgb w5 hbox hb; have H8 := Aside0.mk hbox; have GH8 := Aside0.mk (below_grown hb); have LH8 := Aside0.mk (Nat.le_of_eq hgb.symm); clear hgb hbox hb) | ((with_reducible refine gate_store (t := 38) (p := 10) rfl ?_); refine wpList_store_row rfl 38 (.tmp 10) (.tmp 57) rfl g8 #[.int .u64 r1, .int .u64 r2, .int .u64 r3, .int .u64 r4, .int .u64 r5, .int .u64 r6, .int .u64 r7, .int .u64 r8, .int .u64 r9] rfl rfl 38 _ H8.out (by kernel_rfl) rfl (by kernel_rfl) ?_; have SH8 := Aside0.mk (setRow_heap _ g8 _ #[.int .u64 r1, .int .u64 r2, .int .u64 r3, .int .u64 r4, .int .u64 r5, .int .u64 r6, .int .u64 r7, .int .u64 r8, .int .u64 r9] _ _ H8.out); have TH8 := Aside0.mk (grown_row w5 g8 #[.int .u64 r1, .int .u64 r2, .int .u64 r3, .int .u64 r4, .int .u64 r5, .int .u64 r6, .int .u64 r7, .int .u64 r8, .int .u64 r9]); have hgn := grown_new GH8.out TH8.out LH8.out; have HS7 := Aside0.mk (HS4.out.more hgn); have HN := Aside0.mk (show g8 ≠ g6 from Nat.ne_of_gt (Nat.lt_of_lt_of_le (blk_lt HS4.out.b6) LH8.out)); obtain ⟨c0, c1, c2, c3, c4, c5, c6, c7⟩ := cz8 HS7.out.b5; clear hgn HS4 HS3 H8 GH8 TH8) | go_in)
  generalize hwq : World.setRow _ g8 _ = wq at SH8 HS7 c0 c1 c2 c3 c4 c5 c6 c7 ⊢
  clear hwq
  have AHS := Aside0.mk (show wq.drew.heap[g8]? = some (.cells #[.int .u64 r1, .int .u64 r2, .int .u64 r3, .int .u64 r4, .int .u64 r5, .int .u64 r6, .int .u64 r7, .int .u64 r8, .int .u64 r9] 38 (0, 0)) ∧ wq.drew.cell? ⟨g5, 0, none⟩ = some (.int .i64 1) ∧ wq.drew.cell? ⟨g5, 1, none⟩ = some (.int .i64 asi) ∧ wq.drew.cell? ⟨g5, 2, none⟩ = some (.int .i64 unit) ∧ wq.drew.cell? ⟨g5, 3, none⟩ = some (.int .i64 num) ∧ wq.drew.cell? ⟨g5, 4, none⟩ = some (.int .u64 place) ∧ wq.drew.cell? ⟨g5, 5, none⟩ = some (.int .u64 v) ∧ wq.drew.cell? ⟨g5, 6, none⟩ = some (.bool store) ∧ wq.drew.cell? ⟨g5, 7, none⟩ = some (.bool priv) from ⟨SH8.out, c0, c1, c2, c3, c4, c5, c6, c7⟩)
  have HS8 := Aside0.mk (HS7.out.more (grown_drew _ _))
  have HR8 := Aside0.mk (HR.out.same HS8.out.gr)
  refine start_ (n := 13) (S := fun w' => w'.heap[g8]? = some (.cells #[.int .u64 r1, .int .u64 r2, .int .u64 r3, .int .u64 r4, .int .u64 r5, .int .u64 r6, .int .u64 r7, .int .u64 r8, .int .u64 r9] 38 (0, 0)) ∧ w'.cell? ⟨g5, 0, none⟩ = some (.int .i64 1) ∧ w'.cell? ⟨g5, 1, none⟩ = some (.int .i64 asi) ∧ w'.cell? ⟨g5, 2, none⟩ = some (.int .i64 unit) ∧ w'.cell? ⟨g5, 3, none⟩ = some (.int .i64 num) ∧ w'.cell? ⟨g5, 4, none⟩ = some (.int .u64 place) ∧ w'.cell? ⟨g5, 5, none⟩ = some (.int .u64 v) ∧ w'.cell? ⟨g5, 6, none⟩ = some (.bool store) ∧ w'.cell? ⟨g5, 7, none⟩ = some (.bool priv)) (ds := []) #[false, false, false, false, false, false, false, false, false, false, false, false, false] (by kernel_rfl) rfl rfl AHS.out (fun hHeld => ?_)
  refine with_tab doesmiss_tab (fun HT_ => ?_)
  refine pure_ (i := 1) (N := some 60) (v := ?_) (a' := ?_) #[false, true, false, false, false, false, false, false, false, false, false, false, false] rfl rfl (any_of HT_.out (by kernel_rfl)) (fun _ _ _ h => h) (Or.inl ⟨by rfl, ?_⟩) ?_ ?_
  rotate_left
  · intro w'
    go_simp
    with_reducible rfl
  rotate_left
  · simp only [Act.put, List.setIfInBounds_toArray, List.set_cons_zero, List.set_cons_succ, i64_w, i32_w]
    rfl
  refine pure_ (i := 2) (N := some 61) (v := ?_) (a' := ?_) #[false, true, true, false, false, false, false, false, false, false, false, false, false] rfl rfl (any_of HT_.out (by kernel_rfl)) (fun _ _ _ h => h) (Or.inl ⟨by rfl, ?_⟩) ?_ ?_
  rotate_left
  · intro w'
    go_simp
    with_reducible rfl
  rotate_left
  · simp only [Act.put, List.setIfInBounds_toArray, List.set_cons_zero, List.set_cons_succ, i64_w, i32_w]
    rfl
  refine pure_ (i := 4) (N := some 63) (v := ?_) (a' := ?_) #[false, true, true, false, true, false, false, false, false, false, false, false, false] rfl rfl (any_of HT_.out (by kernel_rfl)) (fun _ _ _ h => h) (Or.inl ⟨by rfl, ?_⟩) ?_ ?_
  rotate_left
  · intro w'
    go_simp
    with_reducible rfl
  rotate_left
  · simp only [Act.put, List.setIfInBounds_toArray, List.set_cons_zero, List.set_cons_succ, i64_w, i32_w]
    rfl
  refine pure_ (i := 6) (N := some 65) (v := ?_) (a' := ?_) #[false, true, true, false, true, false, true, false, false, false, false, false, false] rfl rfl (any_of HT_.out (by kernel_rfl)) (fun _ _ _ h => h) (Or.inl ⟨by rfl, ?_⟩) ?_ ?_
  rotate_left
  · intro w'
    go_simp
    with_reducible rfl
  rotate_left
  · simp only [Act.put, List.setIfInBounds_toArray, List.set_cons_zero, List.set_cons_succ, i64_w, i32_w]
    rfl
  refine pure_ (i := 9) (N := some 68) (v := ?_) (a' := ?_) #[false, true, true, false, true, false, true, false, false, true, false, false, false] rfl rfl (any_of HT_.out (by kernel_rfl)) (fun _ _ _ h => h) (Or.inl ⟨by rfl, ?_⟩) ?_ ?_
  rotate_left
  · intro w'
    go_simp
    with_reducible rfl
  rotate_left
  · simp only [Act.put, List.setIfInBounds_toArray, List.set_cons_zero, List.set_cons_succ, i64_w, i32_w]
    rfl
  refine take_ (i := 3) (N := some 62) (v := ?_) (a' := ?_) #[false, true, true, true, true, false, true, false, false, true, false, false, false] rfl rfl (take_of HT_.out (by kernel_rfl)) (fun _ _ _ h => h) (Or.inl ⟨by rfl, ?_⟩) hHeld ?_ ?_
  rotate_left
  · rintro w' ⟨s8, s0, s1, s2, s3, s4, s5, s6, s7⟩
    go_simp
    with_reducible rfl
  rotate_left
  · simp only [Act.put, List.setIfInBounds_toArray, List.set_cons_zero, List.set_cons_succ, i64_w, i32_w]
    rfl
  refine take_ (i := 5) (N := some 64) (v := ?_) (a' := ?_) #[false, true, true, true, true, true, true, false, false, true, false, false, false] rfl rfl (take_of HT_.out (by kernel_rfl)) (fun _ _ _ h => h) (Or.inl ⟨by rfl, ?_⟩) hHeld ?_ ?_
  rotate_left
  · rintro w' ⟨s8, s0, s1, s2, s3, s4, s5, s6, s7⟩
    go_simp
    with_reducible rfl
  rotate_left
  · simp only [Act.put, List.setIfInBounds_toArray, List.set_cons_zero, List.set_cons_succ, i64_w, i32_w]
    rfl
  refine take_ (i := 7) (N := some 66) (v := ?_) (a' := ?_) #[false, true, true, true, true, true, true, true, false, true, false, false, false] rfl rfl (take_of HT_.out (by kernel_rfl)) (fun _ _ _ h => h) (Or.inl ⟨by rfl, ?_⟩) hHeld ?_ ?_
  rotate_left
  · rintro w' ⟨s8, s0, s1, s2, s3, s4, s5, s6, s7⟩
    go_simp
    with_reducible rfl
  rotate_left
  · simp only [Act.put, List.setIfInBounds_toArray, List.set_cons_zero, List.set_cons_succ, i64_w, i32_w]
    rfl
  refine take_ (i := 0) (N := some 59) (v := .agg #[.int .u64 r1, .int .u64 r2, .int .u64 r3, .int .u64 r4, .int .u64 r5, .int .u64 r6, .int .u64 r7, .int .u64 r8, .int .u64 r9]) (a' := ?_) #[true, true, true, true, true, true, true, true, false, true, false, false, false] rfl rfl (take_of HT_.out (by kernel_rfl)) (fun _ _ _ h => h) (Or.inl ⟨by rfl, ?_⟩) hHeld ?_ ?_
  · rintro w' ⟨s8, s0, s1, s2, s3, s4, s5, s6, s7⟩
    obtain ⟨q0, q1, q2, q3, q4, q5, q6, q7, q8⟩ := cz9 s8
    go_simp
    first | done | (rw [hrun])
  rotate_left
  · simp only [Act.put, List.setIfInBounds_toArray, List.set_cons_zero, List.set_cons_succ, i64_w, i32_w]
    rfl
  refine one_ (i := 8) (N := some 67) #[true, true, true, true, true, true, true, true, true, true, false, false, false] rfl rfl (one_of HT_.out (by kernel_rfl)) (by decide) (fun K hK => ?_)
  refine goes_ Try.func25 (by kernel_rfl) rfl #[.pointer (some ⟨p, 0, none⟩), .int .i64 unit, .int .u64 v, .int .i64 num] (by rfl) rfl rfl (by (try simp only [List.map_toArray, List.map_cons, List.map_nil]); first | done | rfl) ?_
  refine (HE.out _ HR8.out).mono ?_
  rintro e wn ⟨D', rfl, hTV, hR', hg'⟩
  obtain ⟨es, cl, hmb, hmo⟩ := HR8.out.own
  have SN := Aside0.mk (blk_mb AHS.out.1 hmb hg')
  have SN5 := Aside0.mk (blk_mb HS8.out.b5 hmb hg')
  have SN6 := Aside0.mk (blk_mb HS8.out.b6 hmb hg')
  have HFIN := Aside0.mk (HS8.out.fin HR.out hg' hR' #[.int .u64 r1, .int .u64 r2, .int .u64 r3, .int .u64 r4, .int .u64 r5, .int .u64 r6, .int .u64 r7, .int .u64 r8, .int .u64 r9])
  have HTV := Aside0.mk hTV
  have SNS := Aside0.mk (show wn.heap[g8]? = some (.cells #[.int .u64 r1, .int .u64 r2, .int .u64 r3, .int .u64 r4, .int .u64 r5, .int .u64 r6, .int .u64 r7, .int .u64 r8, .int .u64 r9] 38 (0, 0)) ∧ wn.cell? ⟨g5, 0, none⟩ = some (.int .i64 1) ∧ wn.cell? ⟨g5, 1, none⟩ = some (.int .i64 asi) ∧ wn.cell? ⟨g5, 2, none⟩ = some (.int .i64 unit) ∧ wn.cell? ⟨g5, 3, none⟩ = some (.int .i64 num) ∧ wn.cell? ⟨g5, 4, none⟩ = some (.int .u64 place) ∧ wn.cell? ⟨g5, 5, none⟩ = some (.int .u64 v) ∧ wn.cell? ⟨g5, 6, none⟩ = some (.bool store) ∧ wn.cell? ⟨g5, 7, none⟩ = some (.bool priv) from ⟨SN.out, cz8 SN5.out⟩)
  clear hmo hg' hR' hTV hmb es cl
  refine ⟨_, rfl, ?_⟩
  refine hK.out _ _ SNS.out (fun hHeld => ?_)
  clear hK K
  refine norm_ (a' := ?_) ?_ ?_
  rotate_left
  · show Act.put _ (some 67) _ = _
    simp only [Act.put, List.setIfInBounds_toArray, List.set_cons_zero, List.set_cons_succ, i64_w, i32_w]
    rfl
  refine pure_ (i := 10) (N := some 69) (v := ?_) (a' := ?_) #[true, true, true, true, true, true, true, true, true, true, true, false, false] rfl rfl (any_of HT_.out (by kernel_rfl)) (fun _ _ _ h => h) (Or.inl ⟨by rfl, ?_⟩) ?_ ?_
  rotate_left
  · intro w'
    go_simp
    with_reducible rfl
  rotate_left
  · simp only [Act.put, List.setIfInBounds_toArray, List.set_cons_zero, List.set_cons_succ, i64_w, i32_w]
    rfl
  refine one_ (i := 11) (N := none) #[true, true, true, true, true, true, true, true, true, true, true, true, false] rfl rfl (one_of HT_.out (by kernel_rfl)) (by decide) (fun K hK => ?_)
  rw [if_pos (by rfl)]
  refine wp_store_row 38 (.tmp 6) (.tmp 59) rfl g6 #[.int .u64 r1, .int .u64 r2, .int .u64 r3, .int .u64 r4, .int .u64 r5, .int .u64 r6, .int .u64 r7, .int .u64 r8, .int .u64 r9] rfl rfl 38 #[.int .u64 0, .int .u64 0, .int .u64 0, .int .u64 0, .int .u64 0, .int .u64 0, .int .u64 0, .int .u64 0, .int .u64 0] SN6.out (by kernel_rfl) rfl (by kernel_rfl) ?_
  have SO6 := Aside0.mk (setRow_heap _ g6 _ #[.int .u64 r1, .int .u64 r2, .int .u64 r3, .int .u64 r4, .int .u64 r5, .int .u64 r6, .int .u64 r7, .int .u64 r8, .int .u64 r9] _ _ SN6.out)
  refine hK.out _ _ (show (wn.setRow g6 #[.int .u64 r1, .int .u64 r2, .int .u64 r3, .int .u64 r4, .int .u64 r5, .int .u64 r6, .int .u64 r7, .int .u64 r8, .int .u64 r9]).heap[g8]? = some (.cells #[.int .u64 r1, .int .u64 r2, .int .u64 r3, .int .u64 r4, .int .u64 r5, .int .u64 r6, .int .u64 r7, .int .u64 r8, .int .u64 r9] 38 (0, 0)) ∧ (wn.setRow g6 #[.int .u64 r1, .int .u64 r2, .int .u64 r3, .int .u64 r4, .int .u64 r5, .int .u64 r6, .int .u64 r7, .int .u64 r8, .int .u64 r9]).cell? ⟨g5, 0, none⟩ = some (.int .i64 1) ∧ (wn.setRow g6 #[.int .u64 r1, .int .u64 r2, .int .u64 r3, .int .u64 r4, .int .u64 r5, .int .u64 r6, .int .u64 r7, .int .u64 r8, .int .u64 r9]).cell? ⟨g5, 1, none⟩ = some (.int .i64 asi) ∧ (wn.setRow g6 #[.int .u64 r1, .int .u64 r2, .int .u64 r3, .int .u64 r4, .int .u64 r5, .int .u64 r6, .int .u64 r7, .int .u64 r8, .int .u64 r9]).cell? ⟨g5, 2, none⟩ = some (.int .i64 unit) ∧ (wn.setRow g6 #[.int .u64 r1, .int .u64 r2, .int .u64 r3, .int .u64 r4, .int .u64 r5, .int .u64 r6, .int .u64 r7, .int .u64 r8, .int .u64 r9]).cell? ⟨g5, 3, none⟩ = some (.int .i64 num) ∧ (wn.setRow g6 #[.int .u64 r1, .int .u64 r2, .int .u64 r3, .int .u64 r4, .int .u64 r5, .int .u64 r6, .int .u64 r7, .int .u64 r8, .int .u64 r9]).cell? ⟨g5, 4, none⟩ = some (.int .u64 place) ∧ (wn.setRow g6 #[.int .u64 r1, .int .u64 r2, .int .u64 r3, .int .u64 r4, .int .u64 r5, .int .u64 r6, .int .u64 r7, .int .u64 r8, .int .u64 r9]).cell? ⟨g5, 5, none⟩ = some (.int .u64 v) ∧ (wn.setRow g6 #[.int .u64 r1, .int .u64 r2, .int .u64 r3, .int .u64 r4, .int .u64 r5, .int .u64 r6, .int .u64 r7, .int .u64 r8, .int .u64 r9]).cell? ⟨g5, 6, none⟩ = some (.bool store) ∧ (wn.setRow g6 #[.int .u64 r1, .int .u64 r2, .int .u64 r3, .int .u64 r4, .int .u64 r5, .int .u64 r6, .int .u64 r7, .int .u64 r8, .int .u64 r9]).cell? ⟨g5, 7, none⟩ = some (.bool priv) from ⟨blk_row SN.out HN.out, cz8 (blk_row SN5.out HS8.out.ne)⟩) (fun hHeld => ?_)
  clear hK K
  refine norm_ (a' := ?_) ?_ ?_
  rotate_left
  · show Act.put _ none _ = _
    rfl
  refine pure_ (i := 12) (N := some 7) (v := ?_) (a' := ?_) #[true, true, true, true, true, true, true, true, true, true, true, true, true] rfl rfl (any_of HT_.out (by kernel_rfl)) (fun _ _ _ h => h) (Or.inl ⟨by rfl, ?_⟩) ?_ ?_
  rotate_left
  · intro w'
    go_simp
    with_reducible rfl
  rotate_left
  · simp only [Act.put, List.setIfInBounds_toArray, List.set_cons_zero, List.set_cons_succ, i64_w, i32_w]
    rfl
  refine done_ (done_of HT_.out (by kernel_rfl)) ?_
  go_wp2
  refine bodyPost_ret (results_ct rfl _ _ g6 38 #[.int .u64 r1, .int .u64 r2, .int .u64 r3, .int .u64 r4, .int .u64 r5, .int .u64 r6, .int .u64 r7, .int .u64 r8, .int .u64 r9] (0, 0) _ rfl SO6.out Try.underlying38 rfl (by kernel_rfl)) rfl ?_
  exact ⟨D', congrArg (fun z => Ending.returned (.tuple #[.agg z, .bool true])) HTV.out.symm, HFIN.out⟩
theorem does_fault {B w0 p mb n D W} (h : Regs B w0 p mb n D W) (asi unit num place v : Int) (store priv : Bool) (ha : (Lit.int .i64 asi).wf = true) (hq : (Lit.int .u64 place).wf = true) (hv : (Lit.int .u64 v).wf = true) (hn : n < 800000) :
    Calls Try.prog 22 #[.pointer (some ⟨p, 0, none⟩), .agg (tupV D), .agg #[.int .i64 2, .int .i64 asi, .int .i64 unit, .int .i64 num, .int .u64 place, .int .u64 v, .bool store, .bool priv]] W fun e W' => ∃ D', e = .returned (.tuple #[.agg (tupV D'), .bool true]) ∧ Regs B w0 p mb (n + 2) D' W' ∧ W.grownBy W' (some mb) := by
  obtain ⟨D1, e1, hf, hcc⟩ := both_fault h unit num asi store priv v hv (by omega)
  clear hcc
  generalize tupE D1 e1 = rr at hf
  obtain ⟨r1, r2, r3, r4, r5, r6, r7, r8, r9, r10⟩ := rr
  have HE : Aside0 (∀ W1, Regs B w0 p mb n D W1 → Calls Try.prog 19 #[.pointer (some ⟨p, 0, none⟩), .int .i64 unit, .int .i64 num, .int .i64 asi, .bool store, .bool priv, .int .u64 v] W1 fun e W' => ∃ D', e = .returned (.int .i64 r10) ∧ tupV D' = #[.int .u64 r1, .int .u64 r2, .int .u64 r3, .int .u64 r4, .int .u64 r5, .int .u64 r6, .int .u64 r7, .int .u64 r8, .int .u64 r9] ∧ Regs B w0 p mb (n + 2) D' W' ∧ W1.grownBy W' (some mb)) := ⟨fun W1 h1 => by
    obtain ⟨D2, e2, hf2, hc⟩ := both_fault h1 unit num asi store priv v hv (by omega)
    have he := hf.symm.trans hf2
    simp only [tupE, Option.some.injEq, Prod.mk.injEq] at he
    obtain ⟨rfl, rfl, rfl, rfl, rfl, rfl, rfl, rfl, rfl, rfl⟩ := he
    exact hc.mono fun e W' x => ⟨D2, x.1, rfl, x.2⟩⟩
  have HF := Aside0.mk hf
  have HR := Aside0.mk h
  have hu := Try.underlying38
  have hu42 := Try.underlying42
  clear hf h D1 e1
  have hTD : tupV D = #[.int .u64 (rdk D 80 24), .int .u64 (rdk D 80 40), .int .u64 (rdk D 80 48), .int .u64 (rdk D 88 8), .int .u64 (rdk D 88 16), .int .u64 (rdk D 88 24), .int .u64 (rdk D 88 32), .int .u64 (rdk D 88 40), .int .u64 (rdk D 88 48)] := rfl
  rw [hTD]
  have HT0 := Aside0.mk hTD
  clear hTD
  generalize rdk D 80 24 = a0 at HF HT0 ⊢
  generalize rdk D 80 40 = a1 at HF HT0 ⊢
  generalize rdk D 80 48 = a2 at HF HT0 ⊢
  generalize rdk D 88 8 = a3 at HF HT0 ⊢
  generalize rdk D 88 16 = a4 at HF HT0 ⊢
  generalize rdk D 88 24 = a5 at HF HT0 ⊢
  generalize rdk D 88 32 = a6 at HF HT0 ⊢
  generalize rdk D 88 40 = a7 at HF HT0 ⊢
  generalize rdk D 88 48 = a8 at HF HT0 ⊢
  go_enter Try.func22, Try.ntmps22
  go_wp2_with (first | ((with_reducible refine gate_dst (N := 4) rfl ?_); refine box_event ?hg (N := 4) ?hd (cs := #[.int .u64 a0, .int .u64 a1, .int .u64 a2, .int .u64 a3, .int .u64 a4, .int .u64 a5, .int .u64 a6, .int .u64 a7, .int .u64 a8]) (t := 38) ?hr ?_; (case hd => rfl); (case hg => rfl); (case hr => first | (go_simp; done) | (go_simp; rfl)); intro g4 hgb w1 hbox hb; have H4 := Aside0.mk hbox; have GH4 := Aside0.mk (below_grown hb); have LH4 := Aside0.mk (Nat.le_of_eq hgb.symm); clear hgb hbox hb) | ((with_reducible refine gate_dst (N := 5) rfl ?_); refine box_event ?hg (N := 5) ?hd (cs := #[.int .i64 2, .int .i64 asi, .int .i64 unit, .int .i64 num, .int .u64 place, .int .u64 v, .bool store, .bool priv]) (t := 42) ?hr ?_; (case hd => rfl); (case hg => rfl); (case hr => first | (go_simp; done) | (go_simp; rfl)); intro g5 hgb w2 hbox hb; have H5 := Aside0.mk hbox; have GH5 := Aside0.mk (below_grown hb); have LH5 := Aside0.mk (Nat.le_of_eq hgb.symm); clear hgb hbox hb; have H4b := Aside0.mk (blk_grown H4.out GH5.out); have G4b := Aside0.mk (grown_two GH4.out GH5.out); clear H4) | ((with_reducible refine gate_dst (N := 6) rfl ?_); refine box_event ?hg (N := 6) ?hd (cs := #[.int .u64 0, .int .u64 0, .int .u64 0, .int .u64 0, .int .u64 0, .int .u64 0, .int .u64 0, .int .u64 0, .int .u64 0]) (t := 38) ?hr ?_; (case hd => rfl); (case hg => rfl); (case hr => first | (go_simp; done) | (go_simp; rfl)); intro g6 hgb w3 hbox hb; have H6 := Aside0.mk hbox; have GH6 := Aside0.mk (below_grown hb); have LH6 := Aside0.mk (Nat.le_of_eq hgb.symm); clear hgb hbox hb; have HS3 := Aside0.mk (DS.mk (blk_grown H4b.out GH6.out) (blk_grown H5.out GH6.out) H6.out (grown_two G4b.out GH6.out) (Nat.le_trans G4b.out.size LH6.out)); obtain ⟨c0, c1, c2, c3, c4, c5, c6, c7⟩ := cz8 HS3.out.b5; clear H4b H5 H6 G4b GH6) | ((with_reducible refine gate_dst (N := 73) rfl ?_); refine wpList_load_row rfl 38 (.tmp 4) rfl g4 rfl 38 #[.int .u64 a0, .int .u64 a1, .int .u64 a2, .int .u64 a3, .int .u64 a4, .int .u64 a5, .int .u64 a6, .int .u64 a7, .int .u64 a8] (0, 0) _ HS3.out.b4 hu rfl (by kernel_rfl) ?_) | (go_at_call 66; refine (lookasideref07_Fault.calls 20 _ _ _ _ _ _ _ _ _ unit num asi store priv v _ _ _ _ _ _ _ _ _ _ _ HF.out).mono ?_; rintro e w4 ⟨rfl, hb⟩; have HS4 := Aside0.mk (HS3.out.more (below_grown hb)); clear hb HF c0 c1 c2 c3 c4 c5 c6 c7) | ((with_reducible refine gate_dst (N := 12) rfl ?_); refine box_event ?hg (N := 12) ?hd (cs := #[.int .u64 0, .int .u64 0, .int .u64 0, .int .u64 0, .int .u64 0, .int .u64 0, .int .u64 0, .int .u64 0, .int .u64 0]) (t := 38) ?hr ?_; (case hd => rfl); (case hg => rfl); (case hr => first | (go_simp; done) | (go_simp; rfl)); intro g8 hgb w5 hbox hb; have H8 := Aside0.mk hbox; have GH8 := Aside0.mk (below_grown hb); have LH8 := Aside0.mk (Nat.le_of_eq hgb.symm); clear hgb hbox hb) | ((with_reducible refine gate_store (t := 38) (p := 12) rfl ?_); refine wpList_store_row rfl 38 (.tmp 12) (.tmp 87) rfl g8 #[.int .u64 r1, .int .u64 r2, .int .u64 r3, .int .u64 r4, .int .u64 r5, .int .u64 r6, .int .u64 r7, .int .u64 r8, .int .u64 r9] rfl rfl 38 _ H8.out (by kernel_rfl) rfl (by kernel_rfl) ?_; have SH8 := Aside0.mk (setRow_heap _ g8 _ #[.int .u64 r1, .int .u64 r2, .int .u64 r3, .int .u64 r4, .int .u64 r5, .int .u64 r6, .int .u64 r7, .int .u64 r8, .int .u64 r9] _ _ H8.out); have TH8 := Aside0.mk (grown_row w5 g8 #[.int .u64 r1, .int .u64 r2, .int .u64 r3, .int .u64 r4, .int .u64 r5, .int .u64 r6, .int .u64 r7, .int .u64 r8, .int .u64 r9]); have hgn := grown_new GH8.out TH8.out LH8.out; have HS7 := Aside0.mk (HS4.out.more hgn); have HN := Aside0.mk (show g8 ≠ g6 from Nat.ne_of_gt (Nat.lt_of_lt_of_le (blk_lt HS4.out.b6) LH8.out)); obtain ⟨c0, c1, c2, c3, c4, c5, c6, c7⟩ := cz8 HS7.out.b5; clear hgn HS4 HS3 H8 GH8 TH8) | go_in)
  generalize hwq : World.setRow _ g8 _ = wq at SH8 HS7 c0 c1 c2 c3 c4 c5 c6 c7 ⊢
  clear hwq
  have AHS := Aside0.mk (show wq.drew.heap[g8]? = some (.cells #[.int .u64 r1, .int .u64 r2, .int .u64 r3, .int .u64 r4, .int .u64 r5, .int .u64 r6, .int .u64 r7, .int .u64 r8, .int .u64 r9] 38 (0, 0)) ∧ wq.drew.cell? ⟨g5, 0, none⟩ = some (.int .i64 2) ∧ wq.drew.cell? ⟨g5, 1, none⟩ = some (.int .i64 asi) ∧ wq.drew.cell? ⟨g5, 2, none⟩ = some (.int .i64 unit) ∧ wq.drew.cell? ⟨g5, 3, none⟩ = some (.int .i64 num) ∧ wq.drew.cell? ⟨g5, 4, none⟩ = some (.int .u64 place) ∧ wq.drew.cell? ⟨g5, 5, none⟩ = some (.int .u64 v) ∧ wq.drew.cell? ⟨g5, 6, none⟩ = some (.bool store) ∧ wq.drew.cell? ⟨g5, 7, none⟩ = some (.bool priv) from ⟨SH8.out, c0, c1, c2, c3, c4, c5, c6, c7⟩)
  have HS8 := Aside0.mk (HS7.out.more (grown_drew _ _))
  have HR8 := Aside0.mk (HR.out.same HS8.out.gr)
  refine start_ (n := 19) (S := fun w' => w'.heap[g8]? = some (.cells #[.int .u64 r1, .int .u64 r2, .int .u64 r3, .int .u64 r4, .int .u64 r5, .int .u64 r6, .int .u64 r7, .int .u64 r8, .int .u64 r9] 38 (0, 0)) ∧ w'.cell? ⟨g5, 0, none⟩ = some (.int .i64 2) ∧ w'.cell? ⟨g5, 1, none⟩ = some (.int .i64 asi) ∧ w'.cell? ⟨g5, 2, none⟩ = some (.int .i64 unit) ∧ w'.cell? ⟨g5, 3, none⟩ = some (.int .i64 num) ∧ w'.cell? ⟨g5, 4, none⟩ = some (.int .u64 place) ∧ w'.cell? ⟨g5, 5, none⟩ = some (.int .u64 v) ∧ w'.cell? ⟨g5, 6, none⟩ = some (.bool store) ∧ w'.cell? ⟨g5, 7, none⟩ = some (.bool priv)) (ds := []) #[false, false, false, false, false, false, false, false, false, false, false, false, false, false, false, false, false, false, false] (by kernel_rfl) rfl rfl AHS.out (fun hHeld => ?_)
  refine with_tab doesfault_tab (fun HT_ => ?_)
  refine pure_ (i := 1) (N := some 90) (v := ?_) (a' := ?_) #[false, true, false, false, false, false, false, false, false, false, false, false, false, false, false, false, false, false, false] rfl rfl (any_of HT_.out (by kernel_rfl)) (fun _ _ _ h => h) (Or.inl ⟨by rfl, ?_⟩) ?_ ?_
  rotate_left
  · intro w'
    go_simp
    with_reducible rfl
  rotate_left
  · simp only [Act.put, List.setIfInBounds_toArray, List.set_cons_zero, List.set_cons_succ, i64_w, i32_w]
    rfl
  refine pure_ (i := 2) (N := some 91) (v := ?_) (a' := ?_) #[false, true, true, false, false, false, false, false, false, false, false, false, false, false, false, false, false, false, false] rfl rfl (any_of HT_.out (by kernel_rfl)) (fun _ _ _ h => h) (Or.inl ⟨by rfl, ?_⟩) ?_ ?_
  rotate_left
  · intro w'
    go_simp
    with_reducible rfl
  rotate_left
  · simp only [Act.put, List.setIfInBounds_toArray, List.set_cons_zero, List.set_cons_succ, i64_w, i32_w]
    rfl
  refine pure_ (i := 4) (N := some 93) (v := ?_) (a' := ?_) #[false, true, true, false, true, false, false, false, false, false, false, false, false, false, false, false, false, false, false] rfl rfl (any_of HT_.out (by kernel_rfl)) (fun _ _ _ h => h) (Or.inl ⟨by rfl, ?_⟩) ?_ ?_
  rotate_left
  · intro w'
    go_simp
    with_reducible rfl
  rotate_left
  · simp only [Act.put, List.setIfInBounds_toArray, List.set_cons_zero, List.set_cons_succ, i64_w, i32_w]
    rfl
  refine pure_ (i := 6) (N := some 95) (v := ?_) (a' := ?_) #[false, true, true, false, true, false, true, false, false, false, false, false, false, false, false, false, false, false, false] rfl rfl (any_of HT_.out (by kernel_rfl)) (fun _ _ _ h => h) (Or.inl ⟨by rfl, ?_⟩) ?_ ?_
  rotate_left
  · intro w'
    go_simp
    with_reducible rfl
  rotate_left
  · simp only [Act.put, List.setIfInBounds_toArray, List.set_cons_zero, List.set_cons_succ, i64_w, i32_w]
    rfl
  refine pure_ (i := 8) (N := some 97) (v := ?_) (a' := ?_) #[false, true, true, false, true, false, true, false, true, false, false, false, false, false, false, false, false, false, false] rfl rfl (any_of HT_.out (by kernel_rfl)) (fun _ _ _ h => h) (Or.inl ⟨by rfl, ?_⟩) ?_ ?_
  rotate_left
  · intro w'
    go_simp
    with_reducible rfl
  rotate_left
  · simp only [Act.put, List.setIfInBounds_toArray, List.set_cons_zero, List.set_cons_succ, i64_w, i32_w]
    rfl
  refine pure_ (i := 10) (N := some 99) (v := ?_) (a' := ?_) #[false, true, true, false, true, false, true, false, true, false, true, false, false, false, false, false, false, false, false] rfl rfl (any_of HT_.out (by kernel_rfl)) (fun _ _ _ h => h) (Or.inl ⟨by rfl, ?_⟩) ?_ ?_
  rotate_left
  · intro w'
    go_simp
    with_reducible rfl
  rotate_left
  · simp only [Act.put, List.setIfInBounds_toArray, List.set_cons_zero, List.set_cons_succ, i64_w, i32_w]
    rfl
  refine pure_ (i := 12) (N := some 101) (v := ?_) (a' := ?_) #[false, true, true, false, true, false, true, false, true, false, true, false, true, false, false, false, false, false, false] rfl rfl (any_of HT_.out (by kernel_rfl)) (fun _ _ _ h => h) (Or.inl ⟨by rfl, ?_⟩) ?_ ?_
  rotate_left
  · intro w'
    go_simp
    with_reducible rfl
  rotate_left
  · simp only [Act.put, List.setIfInBounds_toArray, List.set_cons_zero, List.set_cons_succ, i64_w, i32_w]
    rfl
  refine pure_ (i := 15) (N := some 104) (v := ?_) (a' := ?_) #[false, true, true, false, true, false, true, false, true, false, true, false, true, false, false, true, false, false, false] rfl rfl (any_of HT_.out (by kernel_rfl)) (fun _ _ _ h => h) (Or.inl ⟨by rfl, ?_⟩) ?_ ?_
  rotate_left
  · intro w'
    go_simp
    with_reducible rfl
  rotate_left
  · simp only [Act.put, List.setIfInBounds_toArray, List.set_cons_zero, List.set_cons_succ, i64_w, i32_w]
    rfl
  refine take_ (i := 3) (N := some 92) (v := ?_) (a' := ?_) #[false, true, true, true, true, false, true, false, true, false, true, false, true, false, false, true, false, false, false] rfl rfl (take_of HT_.out (by kernel_rfl)) (fun _ _ _ h => h) (Or.inl ⟨by rfl, ?_⟩) hHeld ?_ ?_
  rotate_left
  · rintro w' ⟨s8, s0, s1, s2, s3, s4, s5, s6, s7⟩
    go_simp
    with_reducible rfl
  rotate_left
  · simp only [Act.put, List.setIfInBounds_toArray, List.set_cons_zero, List.set_cons_succ, i64_w, i32_w]
    rfl
  refine take_ (i := 5) (N := some 94) (v := ?_) (a' := ?_) #[false, true, true, true, true, true, true, false, true, false, true, false, true, false, false, true, false, false, false] rfl rfl (take_of HT_.out (by kernel_rfl)) (fun _ _ _ h => h) (Or.inl ⟨by rfl, ?_⟩) hHeld ?_ ?_
  rotate_left
  · rintro w' ⟨s8, s0, s1, s2, s3, s4, s5, s6, s7⟩
    go_simp
    with_reducible rfl
  rotate_left
  · simp only [Act.put, List.setIfInBounds_toArray, List.set_cons_zero, List.set_cons_succ, i64_w, i32_w]
    rfl
  refine take_ (i := 7) (N := some 96) (v := ?_) (a' := ?_) #[false, true, true, true, true, true, true, true, true, false, true, false, true, false, false, true, false, false, false] rfl rfl (take_of HT_.out (by kernel_rfl)) (fun _ _ _ h => h) (Or.inl ⟨by rfl, ?_⟩) hHeld ?_ ?_
  rotate_left
  · rintro w' ⟨s8, s0, s1, s2, s3, s4, s5, s6, s7⟩
    go_simp
    with_reducible rfl
  rotate_left
  · simp only [Act.put, List.setIfInBounds_toArray, List.set_cons_zero, List.set_cons_succ, i64_w, i32_w]
    rfl
  refine take_ (i := 9) (N := some 98) (v := ?_) (a' := ?_) #[false, true, true, true, true, true, true, true, true, true, true, false, true, false, false, true, false, false, false] rfl rfl (take_of HT_.out (by kernel_rfl)) (fun _ _ _ h => h) (Or.inl ⟨by rfl, ?_⟩) hHeld ?_ ?_
  rotate_left
  · rintro w' ⟨s8, s0, s1, s2, s3, s4, s5, s6, s7⟩
    go_simp
    with_reducible rfl
  rotate_left
  · simp only [Act.put, List.setIfInBounds_toArray, List.set_cons_zero, List.set_cons_succ, i64_w, i32_w]
    rfl
  refine take_ (i := 11) (N := some 100) (v := ?_) (a' := ?_) #[false, true, true, true, true, true, true, true, true, true, true, true, true, false, false, true, false, false, false] rfl rfl (take_of HT_.out (by kernel_rfl)) (fun _ _ _ h => h) (Or.inl ⟨by rfl, ?_⟩) hHeld ?_ ?_
  rotate_left
  · rintro w' ⟨s8, s0, s1, s2, s3, s4, s5, s6, s7⟩
    go_simp
    with_reducible rfl
  rotate_left
  · simp only [Act.put, List.setIfInBounds_toArray, List.set_cons_zero, List.set_cons_succ, i64_w, i32_w]
    rfl
  refine take_ (i := 13) (N := some 102) (v := ?_) (a' := ?_) #[false, true, true, true, true, true, true, true, true, true, true, true, true, true, false, true, false, false, false] rfl rfl (take_of HT_.out (by kernel_rfl)) (fun _ _ _ h => h) (Or.inl ⟨by rfl, ?_⟩) hHeld ?_ ?_
  rotate_left
  · rintro w' ⟨s8, s0, s1, s2, s3, s4, s5, s6, s7⟩
    go_simp
    with_reducible rfl
  rotate_left
  · simp only [Act.put, List.setIfInBounds_toArray, List.set_cons_zero, List.set_cons_succ, i64_w, i32_w]
    rfl
  refine take_ (i := 0) (N := some 89) (v := .agg #[.int .u64 r1, .int .u64 r2, .int .u64 r3, .int .u64 r4, .int .u64 r5, .int .u64 r6, .int .u64 r7, .int .u64 r8, .int .u64 r9]) (a' := ?_) #[true, true, true, true, true, true, true, true, true, true, true, true, true, true, false, true, false, false, false] rfl rfl (take_of HT_.out (by kernel_rfl)) (fun _ _ _ h => h) (Or.inl ⟨by rfl, ?_⟩) hHeld ?_ ?_
  · rintro w' ⟨s8, s0, s1, s2, s3, s4, s5, s6, s7⟩
    obtain ⟨q0, q1, q2, q3, q4, q5, q6, q7, q8⟩ := cz9 s8
    go_simp
    first | done | (rw [hrun])
  rotate_left
  · simp only [Act.put, List.setIfInBounds_toArray, List.set_cons_zero, List.set_cons_succ, i64_w, i32_w]
    rfl
  refine one_ (i := 14) (N := some 103) #[true, true, true, true, true, true, true, true, true, true, true, true, true, true, true, true, false, false, false] rfl rfl (one_of HT_.out (by kernel_rfl)) (by decide) (fun K hK => ?_)
  refine goes_ Try.func19 (by kernel_rfl) rfl #[.pointer (some ⟨p, 0, none⟩), .int .i64 unit, .int .i64 num, .int .i64 asi, .bool store, .bool priv, .int .u64 v] (by rfl) rfl rfl (by (try simp only [List.map_toArray, List.map_cons, List.map_nil]); first | done | rfl) ?_
  refine (HE.out _ HR8.out).mono ?_
  rintro e wn ⟨D', rfl, hTV, hR', hg'⟩
  obtain ⟨es, cl, hmb, hmo⟩ := HR8.out.own
  have SN := Aside0.mk (blk_mb AHS.out.1 hmb hg')
  have SN5 := Aside0.mk (blk_mb HS8.out.b5 hmb hg')
  have SN6 := Aside0.mk (blk_mb HS8.out.b6 hmb hg')
  have HFIN := Aside0.mk (HS8.out.fin HR.out hg' hR' #[.int .u64 r1, .int .u64 r2, .int .u64 r3, .int .u64 r4, .int .u64 r5, .int .u64 r6, .int .u64 r7, .int .u64 r8, .int .u64 r9])
  have HTV := Aside0.mk hTV
  have SNS := Aside0.mk (show wn.heap[g8]? = some (.cells #[.int .u64 r1, .int .u64 r2, .int .u64 r3, .int .u64 r4, .int .u64 r5, .int .u64 r6, .int .u64 r7, .int .u64 r8, .int .u64 r9] 38 (0, 0)) ∧ wn.cell? ⟨g5, 0, none⟩ = some (.int .i64 2) ∧ wn.cell? ⟨g5, 1, none⟩ = some (.int .i64 asi) ∧ wn.cell? ⟨g5, 2, none⟩ = some (.int .i64 unit) ∧ wn.cell? ⟨g5, 3, none⟩ = some (.int .i64 num) ∧ wn.cell? ⟨g5, 4, none⟩ = some (.int .u64 place) ∧ wn.cell? ⟨g5, 5, none⟩ = some (.int .u64 v) ∧ wn.cell? ⟨g5, 6, none⟩ = some (.bool store) ∧ wn.cell? ⟨g5, 7, none⟩ = some (.bool priv) from ⟨SN.out, cz8 SN5.out⟩)
  clear hmo hg' hR' hTV hmb es cl
  refine ⟨_, rfl, ?_⟩
  refine hK.out _ _ SNS.out (fun hHeld => ?_)
  clear hK K
  refine norm_ (a' := ?_) ?_ ?_
  rotate_left
  · show Act.put _ (some 103) _ = _
    simp only [Act.put, List.setIfInBounds_toArray, List.set_cons_zero, List.set_cons_succ, i64_w, i32_w]
    rfl
  refine pure_ (i := 16) (N := some 105) (v := ?_) (a' := ?_) #[true, true, true, true, true, true, true, true, true, true, true, true, true, true, true, true, true, false, false] rfl rfl (any_of HT_.out (by kernel_rfl)) (fun _ _ _ h => h) (Or.inl ⟨by rfl, ?_⟩) ?_ ?_
  rotate_left
  · intro w'
    go_simp
    with_reducible rfl
  rotate_left
  · simp only [Act.put, List.setIfInBounds_toArray, List.set_cons_zero, List.set_cons_succ, i64_w, i32_w]
    rfl
  refine one_ (i := 17) (N := none) #[true, true, true, true, true, true, true, true, true, true, true, true, true, true, true, true, true, true, false] rfl rfl (one_of HT_.out (by kernel_rfl)) (by decide) (fun K hK => ?_)
  rw [if_pos (by rfl)]
  refine wp_store_row 38 (.tmp 6) (.tmp 89) rfl g6 #[.int .u64 r1, .int .u64 r2, .int .u64 r3, .int .u64 r4, .int .u64 r5, .int .u64 r6, .int .u64 r7, .int .u64 r8, .int .u64 r9] rfl rfl 38 #[.int .u64 0, .int .u64 0, .int .u64 0, .int .u64 0, .int .u64 0, .int .u64 0, .int .u64 0, .int .u64 0, .int .u64 0] SN6.out (by kernel_rfl) rfl (by kernel_rfl) ?_
  have SO6 := Aside0.mk (setRow_heap _ g6 _ #[.int .u64 r1, .int .u64 r2, .int .u64 r3, .int .u64 r4, .int .u64 r5, .int .u64 r6, .int .u64 r7, .int .u64 r8, .int .u64 r9] _ _ SN6.out)
  refine hK.out _ _ (show (wn.setRow g6 #[.int .u64 r1, .int .u64 r2, .int .u64 r3, .int .u64 r4, .int .u64 r5, .int .u64 r6, .int .u64 r7, .int .u64 r8, .int .u64 r9]).heap[g8]? = some (.cells #[.int .u64 r1, .int .u64 r2, .int .u64 r3, .int .u64 r4, .int .u64 r5, .int .u64 r6, .int .u64 r7, .int .u64 r8, .int .u64 r9] 38 (0, 0)) ∧ (wn.setRow g6 #[.int .u64 r1, .int .u64 r2, .int .u64 r3, .int .u64 r4, .int .u64 r5, .int .u64 r6, .int .u64 r7, .int .u64 r8, .int .u64 r9]).cell? ⟨g5, 0, none⟩ = some (.int .i64 2) ∧ (wn.setRow g6 #[.int .u64 r1, .int .u64 r2, .int .u64 r3, .int .u64 r4, .int .u64 r5, .int .u64 r6, .int .u64 r7, .int .u64 r8, .int .u64 r9]).cell? ⟨g5, 1, none⟩ = some (.int .i64 asi) ∧ (wn.setRow g6 #[.int .u64 r1, .int .u64 r2, .int .u64 r3, .int .u64 r4, .int .u64 r5, .int .u64 r6, .int .u64 r7, .int .u64 r8, .int .u64 r9]).cell? ⟨g5, 2, none⟩ = some (.int .i64 unit) ∧ (wn.setRow g6 #[.int .u64 r1, .int .u64 r2, .int .u64 r3, .int .u64 r4, .int .u64 r5, .int .u64 r6, .int .u64 r7, .int .u64 r8, .int .u64 r9]).cell? ⟨g5, 3, none⟩ = some (.int .i64 num) ∧ (wn.setRow g6 #[.int .u64 r1, .int .u64 r2, .int .u64 r3, .int .u64 r4, .int .u64 r5, .int .u64 r6, .int .u64 r7, .int .u64 r8, .int .u64 r9]).cell? ⟨g5, 4, none⟩ = some (.int .u64 place) ∧ (wn.setRow g6 #[.int .u64 r1, .int .u64 r2, .int .u64 r3, .int .u64 r4, .int .u64 r5, .int .u64 r6, .int .u64 r7, .int .u64 r8, .int .u64 r9]).cell? ⟨g5, 5, none⟩ = some (.int .u64 v) ∧ (wn.setRow g6 #[.int .u64 r1, .int .u64 r2, .int .u64 r3, .int .u64 r4, .int .u64 r5, .int .u64 r6, .int .u64 r7, .int .u64 r8, .int .u64 r9]).cell? ⟨g5, 6, none⟩ = some (.bool store) ∧ (wn.setRow g6 #[.int .u64 r1, .int .u64 r2, .int .u64 r3, .int .u64 r4, .int .u64 r5, .int .u64 r6, .int .u64 r7, .int .u64 r8, .int .u64 r9]).cell? ⟨g5, 7, none⟩ = some (.bool priv) from ⟨blk_row SN.out HN.out, cz8 (blk_row SN5.out HS8.out.ne)⟩) (fun hHeld => ?_)
  clear hK K
  refine norm_ (a' := ?_) ?_ ?_
  rotate_left
  · show Act.put _ none _ = _
    rfl
  refine pure_ (i := 18) (N := some 7) (v := ?_) (a' := ?_) #[true, true, true, true, true, true, true, true, true, true, true, true, true, true, true, true, true, true, true] rfl rfl (any_of HT_.out (by kernel_rfl)) (fun _ _ _ h => h) (Or.inl ⟨by rfl, ?_⟩) ?_ ?_
  rotate_left
  · intro w'
    go_simp
    with_reducible rfl
  rotate_left
  · simp only [Act.put, List.setIfInBounds_toArray, List.set_cons_zero, List.set_cons_succ, i64_w, i32_w]
    rfl
  refine done_ (done_of HT_.out (by kernel_rfl)) ?_
  go_wp2
  refine bodyPost_ret (results_ct rfl _ _ g6 38 #[.int .u64 r1, .int .u64 r2, .int .u64 r3, .int .u64 r4, .int .u64 r5, .int .u64 r6, .int .u64 r7, .int .u64 r8, .int .u64 r9] (0, 0) _ rfl SO6.out Try.underlying38 rfl (by kernel_rfl)) rfl ?_
  exact ⟨D', congrArg (fun z => Ending.returned (.tuple #[.agg z, .bool true])) HTV.out.symm, HFIN.out⟩
theorem does_clear {B w0 p mb n D W} (h : Regs B w0 p mb n D W) (asi unit num place v : Int) (store priv : Bool) (ha : (Lit.int .i64 asi).wf = true) (hq : (Lit.int .u64 place).wf = true) (hv : (Lit.int .u64 v).wf = true) (hn : n < 800000) :
    Calls Try.prog 22 #[.pointer (some ⟨p, 0, none⟩), .agg (tupV D), .agg #[.int .i64 3, .int .i64 asi, .int .i64 unit, .int .i64 num, .int .u64 place, .int .u64 v, .bool store, .bool priv]] W fun e W' => ∃ D', e = .returned (.tuple #[.agg (tupV D'), .bool true]) ∧ Regs B w0 p mb (n + 2) D' W' ∧ W.grownBy W' (some mb) := by
  obtain ⟨D1, e1, hf, hcc⟩ := both_clear h unit (by omega)
  clear hcc
  generalize tupE D1 e1 = rr at hf
  obtain ⟨r1, r2, r3, r4, r5, r6, r7, r8, r9, r10⟩ := rr
  have HE : Aside0 (∀ W1, Regs B w0 p mb n D W1 → Calls Try.prog 20 #[.pointer (some ⟨p, 0, none⟩), .int .i64 unit] W1 fun e W' => ∃ D', e = .returned (.int .i64 r10) ∧ tupV D' = #[.int .u64 r1, .int .u64 r2, .int .u64 r3, .int .u64 r4, .int .u64 r5, .int .u64 r6, .int .u64 r7, .int .u64 r8, .int .u64 r9] ∧ Regs B w0 p mb (n + 2) D' W' ∧ W1.grownBy W' (some mb)) := ⟨fun W1 h1 => by
    obtain ⟨D2, e2, hf2, hc⟩ := both_clear h1 unit (by omega)
    have he := hf.symm.trans hf2
    simp only [tupE, Option.some.injEq, Prod.mk.injEq] at he
    obtain ⟨rfl, rfl, rfl, rfl, rfl, rfl, rfl, rfl, rfl, rfl⟩ := he
    exact hc.mono fun e W' x => ⟨D2, x.1, rfl, x.2⟩⟩
  have HF := Aside0.mk hf
  have HR := Aside0.mk h
  have hu := Try.underlying38
  have hu42 := Try.underlying42
  clear hf h D1 e1
  have hTD : tupV D = #[.int .u64 (rdk D 80 24), .int .u64 (rdk D 80 40), .int .u64 (rdk D 80 48), .int .u64 (rdk D 88 8), .int .u64 (rdk D 88 16), .int .u64 (rdk D 88 24), .int .u64 (rdk D 88 32), .int .u64 (rdk D 88 40), .int .u64 (rdk D 88 48)] := rfl
  rw [hTD]
  have HT0 := Aside0.mk hTD
  clear hTD
  generalize rdk D 80 24 = a0 at HF HT0 ⊢
  generalize rdk D 80 40 = a1 at HF HT0 ⊢
  generalize rdk D 80 48 = a2 at HF HT0 ⊢
  generalize rdk D 88 8 = a3 at HF HT0 ⊢
  generalize rdk D 88 16 = a4 at HF HT0 ⊢
  generalize rdk D 88 24 = a5 at HF HT0 ⊢
  generalize rdk D 88 32 = a6 at HF HT0 ⊢
  generalize rdk D 88 40 = a7 at HF HT0 ⊢
  generalize rdk D 88 48 = a8 at HF HT0 ⊢
  go_enter Try.func22, Try.ntmps22
  go_wp2_with (first | ((with_reducible refine gate_dst (N := 4) rfl ?_); refine box_event ?hg (N := 4) ?hd (cs := #[.int .u64 a0, .int .u64 a1, .int .u64 a2, .int .u64 a3, .int .u64 a4, .int .u64 a5, .int .u64 a6, .int .u64 a7, .int .u64 a8]) (t := 38) ?hr ?_; (case hd => rfl); (case hg => rfl); (case hr => first | (go_simp; done) | (go_simp; rfl)); intro g4 hgb w1 hbox hb; have H4 := Aside0.mk hbox; have GH4 := Aside0.mk (below_grown hb); have LH4 := Aside0.mk (Nat.le_of_eq hgb.symm); clear hgb hbox hb) | ((with_reducible refine gate_dst (N := 5) rfl ?_); refine box_event ?hg (N := 5) ?hd (cs := #[.int .i64 3, .int .i64 asi, .int .i64 unit, .int .i64 num, .int .u64 place, .int .u64 v, .bool store, .bool priv]) (t := 42) ?hr ?_; (case hd => rfl); (case hg => rfl); (case hr => first | (go_simp; done) | (go_simp; rfl)); intro g5 hgb w2 hbox hb; have H5 := Aside0.mk hbox; have GH5 := Aside0.mk (below_grown hb); have LH5 := Aside0.mk (Nat.le_of_eq hgb.symm); clear hgb hbox hb; have H4b := Aside0.mk (blk_grown H4.out GH5.out); have G4b := Aside0.mk (grown_two GH4.out GH5.out); clear H4) | ((with_reducible refine gate_dst (N := 6) rfl ?_); refine box_event ?hg (N := 6) ?hd (cs := #[.int .u64 0, .int .u64 0, .int .u64 0, .int .u64 0, .int .u64 0, .int .u64 0, .int .u64 0, .int .u64 0, .int .u64 0]) (t := 38) ?hr ?_; (case hd => rfl); (case hg => rfl); (case hr => first | (go_simp; done) | (go_simp; rfl)); intro g6 hgb w3 hbox hb; have H6 := Aside0.mk hbox; have GH6 := Aside0.mk (below_grown hb); have LH6 := Aside0.mk (Nat.le_of_eq hgb.symm); clear hgb hbox hb; have HS3 := Aside0.mk (DS.mk (blk_grown H4b.out GH6.out) (blk_grown H5.out GH6.out) H6.out (grown_two G4b.out GH6.out) (Nat.le_trans G4b.out.size LH6.out)); obtain ⟨c0, c1, c2, c3, c4, c5, c6, c7⟩ := cz8 HS3.out.b5; clear H4b H5 H6 G4b GH6) | ((with_reducible refine gate_dst (N := 109) rfl ?_); refine wpList_load_row rfl 38 (.tmp 4) rfl g4 rfl 38 #[.int .u64 a0, .int .u64 a1, .int .u64 a2, .int .u64 a3, .int .u64 a4, .int .u64 a5, .int .u64 a6, .int .u64 a7, .int .u64 a8] (0, 0) _ HS3.out.b4 hu rfl (by kernel_rfl) ?_) | (go_at_call 67; refine (lookasideref07_Clear.calls 20 _ _ _ _ _ _ _ _ _ unit _ _ _ _ _ _ _ _ _ _ _ HF.out).mono ?_; rintro e w4 ⟨rfl, hb⟩; have HS4 := Aside0.mk (HS3.out.more (below_grown hb)); clear hb HF c0 c1 c2 c3 c4 c5 c6 c7) | ((with_reducible refine gate_dst (N := 14) rfl ?_); refine box_event ?hg (N := 14) ?hd (cs := #[.int .u64 0, .int .u64 0, .int .u64 0, .int .u64 0, .int .u64 0, .int .u64 0, .int .u64 0, .int .u64 0, .int .u64 0]) (t := 38) ?hr ?_; (case hd => rfl); (case hg => rfl); (case hr => first | (go_simp; done) | (go_simp; rfl)); intro g8 hgb w5 hbox hb; have H8 := Aside0.mk hbox; have GH8 := Aside0.mk (below_grown hb); have LH8 := Aside0.mk (Nat.le_of_eq hgb.symm); clear hgb hbox hb) | ((with_reducible refine gate_store (t := 38) (p := 14) rfl ?_); refine wpList_store_row rfl 38 (.tmp 14) (.tmp 113) rfl g8 #[.int .u64 r1, .int .u64 r2, .int .u64 r3, .int .u64 r4, .int .u64 r5, .int .u64 r6, .int .u64 r7, .int .u64 r8, .int .u64 r9] rfl rfl 38 _ H8.out (by kernel_rfl) rfl (by kernel_rfl) ?_; have SH8 := Aside0.mk (setRow_heap _ g8 _ #[.int .u64 r1, .int .u64 r2, .int .u64 r3, .int .u64 r4, .int .u64 r5, .int .u64 r6, .int .u64 r7, .int .u64 r8, .int .u64 r9] _ _ H8.out); have TH8 := Aside0.mk (grown_row w5 g8 #[.int .u64 r1, .int .u64 r2, .int .u64 r3, .int .u64 r4, .int .u64 r5, .int .u64 r6, .int .u64 r7, .int .u64 r8, .int .u64 r9]); have hgn := grown_new GH8.out TH8.out LH8.out; have HS7 := Aside0.mk (HS4.out.more hgn); have HN := Aside0.mk (show g8 ≠ g6 from Nat.ne_of_gt (Nat.lt_of_lt_of_le (blk_lt HS4.out.b6) LH8.out)); obtain ⟨c0, c1, c2, c3, c4, c5, c6, c7⟩ := cz8 HS7.out.b5; clear hgn HS4 HS3 H8 GH8 TH8) | go_in)
  generalize hwq : World.setRow _ g8 _ = wq at SH8 HS7 c0 c1 c2 c3 c4 c5 c6 c7 ⊢
  clear hwq
  have AHS := Aside0.mk (show wq.drew.heap[g8]? = some (.cells #[.int .u64 r1, .int .u64 r2, .int .u64 r3, .int .u64 r4, .int .u64 r5, .int .u64 r6, .int .u64 r7, .int .u64 r8, .int .u64 r9] 38 (0, 0)) ∧ wq.drew.cell? ⟨g5, 0, none⟩ = some (.int .i64 3) ∧ wq.drew.cell? ⟨g5, 1, none⟩ = some (.int .i64 asi) ∧ wq.drew.cell? ⟨g5, 2, none⟩ = some (.int .i64 unit) ∧ wq.drew.cell? ⟨g5, 3, none⟩ = some (.int .i64 num) ∧ wq.drew.cell? ⟨g5, 4, none⟩ = some (.int .u64 place) ∧ wq.drew.cell? ⟨g5, 5, none⟩ = some (.int .u64 v) ∧ wq.drew.cell? ⟨g5, 6, none⟩ = some (.bool store) ∧ wq.drew.cell? ⟨g5, 7, none⟩ = some (.bool priv) from ⟨SH8.out, c0, c1, c2, c3, c4, c5, c6, c7⟩)
  have HS8 := Aside0.mk (HS7.out.more (grown_drew _ _))
  have HR8 := Aside0.mk (HR.out.same HS8.out.gr)
  refine start_ (n := 9) (S := fun w' => w'.heap[g8]? = some (.cells #[.int .u64 r1, .int .u64 r2, .int .u64 r3, .int .u64 r4, .int .u64 r5, .int .u64 r6, .int .u64 r7, .int .u64 r8, .int .u64 r9] 38 (0, 0)) ∧ w'.cell? ⟨g5, 0, none⟩ = some (.int .i64 3) ∧ w'.cell? ⟨g5, 1, none⟩ = some (.int .i64 asi) ∧ w'.cell? ⟨g5, 2, none⟩ = some (.int .i64 unit) ∧ w'.cell? ⟨g5, 3, none⟩ = some (.int .i64 num) ∧ w'.cell? ⟨g5, 4, none⟩ = some (.int .u64 place) ∧ w'.cell? ⟨g5, 5, none⟩ = some (.int .u64 v) ∧ w'.cell? ⟨g5, 6, none⟩ = some (.bool store) ∧ w'.cell? ⟨g5, 7, none⟩ = some (.bool priv)) (ds := []) #[false, false, false, false, false, false, false, false, false] (by kernel_rfl) rfl rfl AHS.out (fun hHeld => ?_)
  refine with_tab doesclear_tab (fun HT_ => ?_)
  refine pure_ (i := 1) (N := some 116) (v := ?_) (a' := ?_) #[false, true, false, false, false, false, false, false, false] rfl rfl (any_of HT_.out (by kernel_rfl)) (fun _ _ _ h => h) (Or.inl ⟨by rfl, ?_⟩) ?_ ?_
  rotate_left
  · intro w'
    go_simp
    with_reducible rfl
  rotate_left
  · simp only [Act.put, List.setIfInBounds_toArray, List.set_cons_zero, List.set_cons_succ, i64_w, i32_w]
    rfl
  refine pure_ (i := 2) (N := some 117) (v := ?_) (a' := ?_) #[false, true, true, false, false, false, false, false, false] rfl rfl (any_of HT_.out (by kernel_rfl)) (fun _ _ _ h => h) (Or.inl ⟨by rfl, ?_⟩) ?_ ?_
  rotate_left
  · intro w'
    go_simp
    with_reducible rfl
  rotate_left
  · simp only [Act.put, List.setIfInBounds_toArray, List.set_cons_zero, List.set_cons_succ, i64_w, i32_w]
    rfl
  refine pure_ (i := 5) (N := some 120) (v := ?_) (a' := ?_) #[false, true, true, false, false, true, false, false, false] rfl rfl (any_of HT_.out (by kernel_rfl)) (fun _ _ _ h => h) (Or.inl ⟨by rfl, ?_⟩) ?_ ?_
  rotate_left
  · intro w'
    go_simp
    with_reducible rfl
  rotate_left
  · simp only [Act.put, List.setIfInBounds_toArray, List.set_cons_zero, List.set_cons_succ, i64_w, i32_w]
    rfl
  refine take_ (i := 3) (N := some 118) (v := ?_) (a' := ?_) #[false, true, true, true, false, true, false, false, false] rfl rfl (take_of HT_.out (by kernel_rfl)) (fun _ _ _ h => h) (Or.inl ⟨by rfl, ?_⟩) hHeld ?_ ?_
  rotate_left
  · rintro w' ⟨s8, s0, s1, s2, s3, s4, s5, s6, s7⟩
    go_simp
    with_reducible rfl
  rotate_left
  · simp only [Act.put, List.setIfInBounds_toArray, List.set_cons_zero, List.set_cons_succ, i64_w, i32_w]
    rfl
  refine take_ (i := 0) (N := some 115) (v := .agg #[.int .u64 r1, .int .u64 r2, .int .u64 r3, .int .u64 r4, .int .u64 r5, .int .u64 r6, .int .u64 r7, .int .u64 r8, .int .u64 r9]) (a' := ?_) #[true, true, true, true, false, true, false, false, false] rfl rfl (take_of HT_.out (by kernel_rfl)) (fun _ _ _ h => h) (Or.inl ⟨by rfl, ?_⟩) hHeld ?_ ?_
  · rintro w' ⟨s8, s0, s1, s2, s3, s4, s5, s6, s7⟩
    obtain ⟨q0, q1, q2, q3, q4, q5, q6, q7, q8⟩ := cz9 s8
    go_simp
    first | done | (rw [hrun])
  rotate_left
  · simp only [Act.put, List.setIfInBounds_toArray, List.set_cons_zero, List.set_cons_succ, i64_w, i32_w]
    rfl
  refine one_ (i := 4) (N := some 119) #[true, true, true, true, true, true, false, false, false] rfl rfl (one_of HT_.out (by kernel_rfl)) (by decide) (fun K hK => ?_)
  refine goes_ Try.func20 (by kernel_rfl) rfl #[.pointer (some ⟨p, 0, none⟩), .int .i64 unit] (by rfl) rfl rfl (by (try simp only [List.map_toArray, List.map_cons, List.map_nil]); first | done | rfl) ?_
  refine (HE.out _ HR8.out).mono ?_
  rintro e wn ⟨D', rfl, hTV, hR', hg'⟩
  obtain ⟨es, cl, hmb, hmo⟩ := HR8.out.own
  have SN := Aside0.mk (blk_mb AHS.out.1 hmb hg')
  have SN5 := Aside0.mk (blk_mb HS8.out.b5 hmb hg')
  have SN6 := Aside0.mk (blk_mb HS8.out.b6 hmb hg')
  have HFIN := Aside0.mk (HS8.out.fin HR.out hg' hR' #[.int .u64 r1, .int .u64 r2, .int .u64 r3, .int .u64 r4, .int .u64 r5, .int .u64 r6, .int .u64 r7, .int .u64 r8, .int .u64 r9])
  have HTV := Aside0.mk hTV
  have SNS := Aside0.mk (show wn.heap[g8]? = some (.cells #[.int .u64 r1, .int .u64 r2, .int .u64 r3, .int .u64 r4, .int .u64 r5, .int .u64 r6, .int .u64 r7, .int .u64 r8, .int .u64 r9] 38 (0, 0)) ∧ wn.cell? ⟨g5, 0, none⟩ = some (.int .i64 3) ∧ wn.cell? ⟨g5, 1, none⟩ = some (.int .i64 asi) ∧ wn.cell? ⟨g5, 2, none⟩ = some (.int .i64 unit) ∧ wn.cell? ⟨g5, 3, none⟩ = some (.int .i64 num) ∧ wn.cell? ⟨g5, 4, none⟩ = some (.int .u64 place) ∧ wn.cell? ⟨g5, 5, none⟩ = some (.int .u64 v) ∧ wn.cell? ⟨g5, 6, none⟩ = some (.bool store) ∧ wn.cell? ⟨g5, 7, none⟩ = some (.bool priv) from ⟨SN.out, cz8 SN5.out⟩)
  clear hmo hg' hR' hTV hmb es cl
  refine ⟨_, rfl, ?_⟩
  refine hK.out _ _ SNS.out (fun hHeld => ?_)
  clear hK K
  refine norm_ (a' := ?_) ?_ ?_
  rotate_left
  · show Act.put _ (some 119) _ = _
    simp only [Act.put, List.setIfInBounds_toArray, List.set_cons_zero, List.set_cons_succ, i64_w, i32_w]
    rfl
  refine pure_ (i := 6) (N := some 121) (v := ?_) (a' := ?_) #[true, true, true, true, true, true, true, false, false] rfl rfl (any_of HT_.out (by kernel_rfl)) (fun _ _ _ h => h) (Or.inl ⟨by rfl, ?_⟩) ?_ ?_
  rotate_left
  · intro w'
    go_simp
    with_reducible rfl
  rotate_left
  · simp only [Act.put, List.setIfInBounds_toArray, List.set_cons_zero, List.set_cons_succ, i64_w, i32_w]
    rfl
  refine one_ (i := 7) (N := none) #[true, true, true, true, true, true, true, true, false] rfl rfl (one_of HT_.out (by kernel_rfl)) (by decide) (fun K hK => ?_)
  rw [if_pos (by rfl)]
  refine wp_store_row 38 (.tmp 6) (.tmp 115) rfl g6 #[.int .u64 r1, .int .u64 r2, .int .u64 r3, .int .u64 r4, .int .u64 r5, .int .u64 r6, .int .u64 r7, .int .u64 r8, .int .u64 r9] rfl rfl 38 #[.int .u64 0, .int .u64 0, .int .u64 0, .int .u64 0, .int .u64 0, .int .u64 0, .int .u64 0, .int .u64 0, .int .u64 0] SN6.out (by kernel_rfl) rfl (by kernel_rfl) ?_
  have SO6 := Aside0.mk (setRow_heap _ g6 _ #[.int .u64 r1, .int .u64 r2, .int .u64 r3, .int .u64 r4, .int .u64 r5, .int .u64 r6, .int .u64 r7, .int .u64 r8, .int .u64 r9] _ _ SN6.out)
  refine hK.out _ _ (show (wn.setRow g6 #[.int .u64 r1, .int .u64 r2, .int .u64 r3, .int .u64 r4, .int .u64 r5, .int .u64 r6, .int .u64 r7, .int .u64 r8, .int .u64 r9]).heap[g8]? = some (.cells #[.int .u64 r1, .int .u64 r2, .int .u64 r3, .int .u64 r4, .int .u64 r5, .int .u64 r6, .int .u64 r7, .int .u64 r8, .int .u64 r9] 38 (0, 0)) ∧ (wn.setRow g6 #[.int .u64 r1, .int .u64 r2, .int .u64 r3, .int .u64 r4, .int .u64 r5, .int .u64 r6, .int .u64 r7, .int .u64 r8, .int .u64 r9]).cell? ⟨g5, 0, none⟩ = some (.int .i64 3) ∧ (wn.setRow g6 #[.int .u64 r1, .int .u64 r2, .int .u64 r3, .int .u64 r4, .int .u64 r5, .int .u64 r6, .int .u64 r7, .int .u64 r8, .int .u64 r9]).cell? ⟨g5, 1, none⟩ = some (.int .i64 asi) ∧ (wn.setRow g6 #[.int .u64 r1, .int .u64 r2, .int .u64 r3, .int .u64 r4, .int .u64 r5, .int .u64 r6, .int .u64 r7, .int .u64 r8, .int .u64 r9]).cell? ⟨g5, 2, none⟩ = some (.int .i64 unit) ∧ (wn.setRow g6 #[.int .u64 r1, .int .u64 r2, .int .u64 r3, .int .u64 r4, .int .u64 r5, .int .u64 r6, .int .u64 r7, .int .u64 r8, .int .u64 r9]).cell? ⟨g5, 3, none⟩ = some (.int .i64 num) ∧ (wn.setRow g6 #[.int .u64 r1, .int .u64 r2, .int .u64 r3, .int .u64 r4, .int .u64 r5, .int .u64 r6, .int .u64 r7, .int .u64 r8, .int .u64 r9]).cell? ⟨g5, 4, none⟩ = some (.int .u64 place) ∧ (wn.setRow g6 #[.int .u64 r1, .int .u64 r2, .int .u64 r3, .int .u64 r4, .int .u64 r5, .int .u64 r6, .int .u64 r7, .int .u64 r8, .int .u64 r9]).cell? ⟨g5, 5, none⟩ = some (.int .u64 v) ∧ (wn.setRow g6 #[.int .u64 r1, .int .u64 r2, .int .u64 r3, .int .u64 r4, .int .u64 r5, .int .u64 r6, .int .u64 r7, .int .u64 r8, .int .u64 r9]).cell? ⟨g5, 6, none⟩ = some (.bool store) ∧ (wn.setRow g6 #[.int .u64 r1, .int .u64 r2, .int .u64 r3, .int .u64 r4, .int .u64 r5, .int .u64 r6, .int .u64 r7, .int .u64 r8, .int .u64 r9]).cell? ⟨g5, 7, none⟩ = some (.bool priv) from ⟨blk_row SN.out HN.out, cz8 (blk_row SN5.out HS8.out.ne)⟩) (fun hHeld => ?_)
  clear hK K
  refine norm_ (a' := ?_) ?_ ?_
  rotate_left
  · show Act.put _ none _ = _
    rfl
  refine pure_ (i := 8) (N := some 7) (v := ?_) (a' := ?_) #[true, true, true, true, true, true, true, true, true] rfl rfl (any_of HT_.out (by kernel_rfl)) (fun _ _ _ h => h) (Or.inl ⟨by rfl, ?_⟩) ?_ ?_
  rotate_left
  · intro w'
    go_simp
    with_reducible rfl
  rotate_left
  · simp only [Act.put, List.setIfInBounds_toArray, List.set_cons_zero, List.set_cons_succ, i64_w, i32_w]
    rfl
  refine done_ (done_of HT_.out (by kernel_rfl)) ?_
  go_wp2
  refine bodyPost_ret (results_ct rfl _ _ g6 38 #[.int .u64 r1, .int .u64 r2, .int .u64 r3, .int .u64 r4, .int .u64 r5, .int .u64 r6, .int .u64 r7, .int .u64 r8, .int .u64 r9] (0, 0) _ rfl SO6.out Try.underlying38 rfl (by kernel_rfl)) rfl ?_
  exact ⟨D', congrArg (fun z => Ending.returned (.tuple #[.agg z, .bool true])) HTV.out.symm, HFIN.out⟩
theorem target_eq {x : Int} (hx : (Lit.int .u64 x).wf = true) : lookasideref07_Target.f x = some (tgt x) := by
  obtain ⟨h0, h1⟩ := m_u64 hx
  unfold lookasideref07_Target.f tgt
  refine congrArg some ?_
  simp only [IntKind.wrap_u64]
  rw [Int.tdiv_eq_ediv_of_nonneg h0, Int.tmod_eq_emod_of_nonneg h0]
  omega
theorem both_read {B w0 p mb n D W} (h : Regs B w0 p mb n D W) (a q : Int) (ha : (Lit.int .i64 a).wf = true) (hq : (Lit.int .u64 q).wf = true) :
    ∃ v e, lookasideref07_Read.f (rdk D 80 24) (rdk D 80 40) (rdk D 80 48) (rdk D 88 8) (rdk D 88 16) (rdk D 88 24) (rdk D 88 32) (rdk D 88 40) (rdk D 88 48) a q = some (v, e) ∧ ∀ W1, Regs B w0 p mb n D W1 → Calls Try.prog 17 #[.pointer (some ⟨p, 0, none⟩), .int .i64 a, .int .u64 q] W1 fun e' W' => e' = .returned (.tuple #[.int .u64 v, .int .i64 e]) ∧ W1.grownBy W' none := by
  cases ht : thereOf a q with
  | false => exact ⟨0, 10, ref_read_none ht _ _ _ _ _ _ _ _ _, fun W1 h1 => read_none h1 a q ha hq ht⟩
  | true =>
    refine ⟨getOf D a q, 0, ?_, fun W1 h1 => read_ok h1 a q ha hq ht⟩
    have t0 := target_eq (h.wfk 80 48 (by decide) (by decide))
    have t1 := target_eq (h.wfk 88 48 (by decide) (by decide))
    rcases there_cases ht with ⟨rfl, rfl | rfl | rfl | rfl⟩ | ⟨rfl, rfl | rfl | rfl | rfl | rfl | rfl | rfl⟩ <;> simp [lookasideref07_Read.f, getOf, t0, t1]
theorem does_read {B w0 p mb n D W} (h : Regs B w0 p mb n D W) (kind asi unit num place v : Int) (store priv : Bool) (ha : (Lit.int .i64 asi).wf = true) (hq : (Lit.int .u64 place).wf = true) (hv : (Lit.int .u64 v).wf = true) (hn : n < 800000) (k0 : (kind == 0) = false) (k1 : (kind == 1) = false) (k2 : (kind == 2) = false) (k3 : (kind == 3) = false) :
    Calls Try.prog 22 #[.pointer (some ⟨p, 0, none⟩), .agg (tupV D), .agg #[.int .i64 kind, .int .i64 asi, .int .i64 unit, .int .i64 num, .int .u64 place, .int .u64 v, .bool store, .bool priv]] W fun e W' => ∃ D', e = .returned (.tuple #[.agg (tupV D'), .bool true]) ∧ Regs B w0 p mb (n + 2) D' W' ∧ W.grownBy W' (some mb) := by
  obtain ⟨rv, re, hf, hc⟩ := both_read h asi place ha hq
  have HE := Aside0.mk hc
  have HF := Aside0.mk hf
  have HR := Aside0.mk h
  have hu := Try.underlying38
  have hu42 := Try.underlying42
  clear hf hc h
  have hTD : tupV D = #[.int .u64 (rdk D 80 24), .int .u64 (rdk D 80 40), .int .u64 (rdk D 80 48), .int .u64 (rdk D 88 8), .int .u64 (rdk D 88 16), .int .u64 (rdk D 88 24), .int .u64 (rdk D 88 32), .int .u64 (rdk D 88 40), .int .u64 (rdk D 88 48)] := rfl
  rw [hTD]
  have HT0 := Aside0.mk hTD
  clear hTD
  generalize rdk D 80 24 = a0 at HF HT0 ⊢
  generalize rdk D 80 40 = a1 at HF HT0 ⊢
  generalize rdk D 80 48 = a2 at HF HT0 ⊢
  generalize rdk D 88 8 = a3 at HF HT0 ⊢
  generalize rdk D 88 16 = a4 at HF HT0 ⊢
  generalize rdk D 88 24 = a5 at HF HT0 ⊢
  generalize rdk D 88 32 = a6 at HF HT0 ⊢
  generalize rdk D 88 40 = a7 at HF HT0 ⊢
  generalize rdk D 88 48 = a8 at HF HT0 ⊢
  go_enter Try.func22, Try.ntmps22
  go_wp2_with (first | ((with_reducible refine gate_dst (N := 4) rfl ?_); refine box_event ?hg (N := 4) ?hd (cs := #[.int .u64 a0, .int .u64 a1, .int .u64 a2, .int .u64 a3, .int .u64 a4, .int .u64 a5, .int .u64 a6, .int .u64 a7, .int .u64 a8]) (t := 38) ?hr ?_; (case hd => rfl); (case hg => rfl); (case hr => first | (go_simp; done) | (go_simp; rfl)); intro g4 hgb w1 hbox hb; have H4 := Aside0.mk hbox; have GH4 := Aside0.mk (below_grown hb); have LH4 := Aside0.mk (Nat.le_of_eq hgb.symm); clear hgb hbox hb) | ((with_reducible refine gate_dst (N := 5) rfl ?_); refine box_event ?hg (N := 5) ?hd (cs := #[.int .i64 kind, .int .i64 asi, .int .i64 unit, .int .i64 num, .int .u64 place, .int .u64 v, .bool store, .bool priv]) (t := 42) ?hr ?_; (case hd => rfl); (case hg => rfl); (case hr => first | (go_simp; done) | (go_simp; rfl)); intro g5 hgb w2 hbox hb; have H5 := Aside0.mk hbox; have GH5 := Aside0.mk (below_grown hb); have LH5 := Aside0.mk (Nat.le_of_eq hgb.symm); clear hgb hbox hb; have H4b := Aside0.mk (blk_grown H4.out GH5.out); have G4b := Aside0.mk (grown_two GH4.out GH5.out); clear H4) | ((with_reducible refine gate_dst (N := 6) rfl ?_); refine box_event ?hg (N := 6) ?hd (cs := #[.int .u64 0, .int .u64 0, .int .u64 0, .int .u64 0, .int .u64 0, .int .u64 0, .int .u64 0, .int .u64 0, .int .u64 0]) (t := 38) ?hr ?_; (case hd => rfl); (case hg => rfl); (case hr => first | (go_simp; done) | (go_simp; rfl)); intro g6 hgb w3 hbox hb; have H6 := Aside0.mk hbox; have GH6 := Aside0.mk (below_grown hb); have LH6 := Aside0.mk (Nat.le_of_eq hgb.symm); clear hgb hbox hb; have HS3 := Aside0.mk (DS.mk (blk_grown H4b.out GH6.out) (blk_grown H5.out GH6.out) H6.out (grown_two G4b.out GH6.out) (Nat.le_trans G4b.out.size LH6.out)); obtain ⟨c0, c1, c2, c3, c4, c5, c6, c7⟩ := cz8 HS3.out.b5; clear H4b H5 H6 G4b GH6) | (go_at_call 17; refine (HE.out _ (HR.out.same HS3.out.gr)).mono ?_; rintro e w4 ⟨rfl, hg⟩; have HS4 := Aside0.mk (HS3.out.more hg); clear hg HS3 c0 c1 c2 c3 c4 c5 c6 c7; obtain ⟨c0, c1, c2, c3, c4, c5, c6, c7⟩ := cz8 HS4.out.b5) | ((with_reducible refine gate_dst (N := 132) rfl ?_); refine wpList_load_row rfl 38 (.tmp 4) rfl g4 rfl 38 #[.int .u64 a0, .int .u64 a1, .int .u64 a2, .int .u64 a3, .int .u64 a4, .int .u64 a5, .int .u64 a6, .int .u64 a7, .int .u64 a8] (0, 0) _ HS4.out.b4 hu rfl (by kernel_rfl) ?_) | (go_at_call 68; refine (lookasideref07_Read.calls _ _ _ _ _ _ _ _ _ asi place _ _ _ HF.out).mono ?_; rintro e w5 ⟨rfl, hb⟩; have HS5 := Aside0.mk (HS4.out.more (below_grown hb)); have HB6 := Aside0.mk HS5.out.b6; clear hb HF HS4 c0 c1 c2 c3 c4 c5 c6 c7) | ((with_reducible refine gate_dst (N := 140) rfl ?_); refine wpList_load_row rfl 38 (.tmp 4) rfl g4 rfl 38 #[.int .u64 a0, .int .u64 a1, .int .u64 a2, .int .u64 a3, .int .u64 a4, .int .u64 a5, .int .u64 a6, .int .u64 a7, .int .u64 a8] (0, 0) _ HS5.out.b4 hu rfl (by kernel_rfl) ?_) | ((with_reducible refine gate_store (t := 38) (p := 6) rfl ?_); refine wpList_store_row rfl 38 (.tmp 6) (.tmp 140) rfl g6 #[.int .u64 a0, .int .u64 a1, .int .u64 a2, .int .u64 a3, .int .u64 a4, .int .u64 a5, .int .u64 a6, .int .u64 a7, .int .u64 a8] rfl rfl 38 _ HB6.out (by kernel_rfl) rfl (by kernel_rfl) ?_; have SHB6 := Aside0.mk (setRow_heap _ g6 _ #[.int .u64 a0, .int .u64 a1, .int .u64 a2, .int .u64 a3, .int .u64 a4, .int .u64 a5, .int .u64 a6, .int .u64 a7, .int .u64 a8] _ _ HB6.out); have THB6 := Aside0.mk (grown_row w5 g6 #[.int .u64 a0, .int .u64 a1, .int .u64 a2, .int .u64 a3, .int .u64 a4, .int .u64 a5, .int .u64 a6, .int .u64 a7, .int .u64 a8])) | go_in)
  refine bodyPost_ret (results_ct rfl _ _ g6 38 #[.int .u64 a0, .int .u64 a1, .int .u64 a2, .int .u64 a3, .int .u64 a4, .int .u64 a5, .int .u64 a6, .int .u64 a7, .int .u64 a8] (0, 0) _ rfl SHB6.out Try.underlying38 rfl (by kernel_rfl)) rfl ?_
  have hT := HT0.out
  refine ⟨D, by rw [hT]; simp, ?_⟩
  exact HS5.out.fin HR.out (grown_refl _ _) ((HR.out.same HS5.out.gr).more (by omega)) #[.int .u64 a0, .int .u64 a1, .int .u64 a2, .int .u64 a3, .int .u64 a4, .int .u64 a5, .int .u64 a6, .int .u64 a7, .int .u64 a8]
theorem does_calls {B w0 p mb n D W} (h : Regs B w0 p mb n D W) (kind asi unit num place v : Int) (store priv : Bool) (ha : (Lit.int .i64 asi).wf = true) (hq : (Lit.int .u64 place).wf = true) (hv : (Lit.int .u64 v).wf = true) (hn : n < 800000) :
    Calls Try.prog 22 #[.pointer (some ⟨p, 0, none⟩), .agg (tupV D), .agg #[.int .i64 kind, .int .i64 asi, .int .i64 unit, .int .i64 num, .int .u64 place, .int .u64 v, .bool store, .bool priv]] W fun e W' => ∃ D', e = .returned (.tuple #[.agg (tupV D'), .bool true]) ∧ Regs B w0 p mb (n + 2) D' W' ∧ W.grownBy W' (some mb) := by
  by_cases h0 : kind = 0
  · subst h0; exact does_write h asi unit num place v store priv ha hq hv hn
  by_cases h1 : kind = 1
  · subst h1; exact does_miss h asi unit num place v store priv ha hq hv hn
  by_cases h2 : kind = 2
  · subst h2; exact does_fault h asi unit num place v store priv ha hq hv hn
  by_cases h3 : kind = 3
  · subst h3; exact does_clear h asi unit num place v store priv ha hq hv hn
  exact does_read h kind asi unit num place v store priv ha hq hv hn (beq_eq_false_iff_ne.mpr h0) (beq_eq_false_iff_ne.mpr h1) (beq_eq_false_iff_ne.mpr h2) (beq_eq_false_iff_ne.mpr h3)
end
end Go.Proofs.Ytdfejnakhpgekaa.QRegsPlays
