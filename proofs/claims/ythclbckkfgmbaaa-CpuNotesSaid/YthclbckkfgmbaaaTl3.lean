/- Find, demap, Locked, Clear, what a place has; at whatever numbers. -/
import Derived.Test.YthclbckkfgmbaaaTl2
namespace Go.Proofs.Ythclbckkfgmbaaa.QTlbPlays
open Go.RowKit Go.Proofs.YthclbckkfgmbaaaW.PrintWords Go.Proofs.YthclbckkfgmbaaaW.PrintLast Go.Proofs.YthclbckkfgmbaaaW.PrintMore
set_option linter.unusedSimpArgs false
set_option linter.unusedVariables false
section
set_option maxHeartbeats 1000000
set_option maxRecDepth 100000
theorem IRow.kept {base A c l W W' r} (h : IRow base A c l W) (hg : W.grownBy W' (some r)) (hr : r < base) : IRow base A c l W' := by
  refine ⟨h.own.kept hg ?_⟩
  cases hv : (Value.slice A l.length c).ownBlock with
  | none => exact .inl rfl
  | some g =>
    refine .inr (fun e => ?_)
    have := (h.own.lt g hv).1
    have e' := Option.some.inj e
    omega
/-- Entries of whole numbers that are theirs, and may be. -/
def OkL (es : List (Option Ent)) : Prop := ∀ e, some e ∈ es → EntW e ∧ mayB e = true
def zE : Ent := z26
/-- The first place of an entry that is an address's. -/
def findOf (es : List (Option Ent)) (q : Ent → Bool) : Option Nat := (plL es q).head?
def entAt (es : List (Option Ent)) (i : Nat) : Ent := (es.getD i none).getD zE
theorem plL_spec {es : List (Option Ent)} {q : Ent → Bool} {i : Nat} (h : i ∈ plL es q) : i < es.length ∧ ∃ e, es.getD i none = some e ∧ q e = true := by
  unfold plL plTo at h
  rw [List.mem_filter, List.mem_range] at h
  obtain ⟨h1, h2⟩ := h
  cases hx : es.getD i none with
  | none => rw [hx] at h2; cases h2
  | some e => rw [hx] at h2; exact ⟨h1, e, rfl, h2⟩
theorem app0 (a : Value) : (#[a] ++ #[] : Array Value) = #[a] := rfl
theorem app1 (a b : Value) : (#[a] ++ #[b] : Array Value) = #[a, b] := rfl
theorem app2 (a b c : Value) : (#[a] ++ #[b, c] : Array Value) = #[a, b, c] := rfl
theorem grown_row (W : World) (g : Nat) (cs : Array Value) : W.grownBy (W.setRow g cs) (some g) := by
  refine ⟨rfl, rfl, rfl, ?_, fun k hk hn => setRow_other W g k cs (fun e => hn (by rw [e]))⟩
  simp [World.setRow]
theorem find_begin (W : World) (va ctx : Int) : W.grownBy (((W.alloc (.cells #[.int .u64 va] 22)).alloc (.cells #[.int .i64 ctx] 3)).alloc (.cells #[.int .i64 0, .int .i64 0, .int .u64 0, .int .u64 0, .bool false, .bool false, .bool false, .bool false, .bool false, .bool false, .bool false] 26)) none ∧ (((W.alloc (.cells #[.int .u64 va] 22)).alloc (.cells #[.int .i64 ctx] 3)).alloc (.cells #[.int .i64 0, .int .i64 0, .int .u64 0, .int .u64 0, .bool false, .bool false, .bool false, .bool false, .bool false, .bool false, .bool false] 26)).cell? ⟨W.heap.size, 0, none⟩ = some (.int .u64 va) ∧ (((W.alloc (.cells #[.int .u64 va] 22)).alloc (.cells #[.int .i64 ctx] 3)).alloc (.cells #[.int .i64 0, .int .i64 0, .int .u64 0, .int .u64 0, .bool false, .bool false, .bool false, .bool false, .bool false, .bool false, .bool false] 26)).cell? ⟨W.heap.size + 1, 0, none⟩ = some (.int .i64 ctx) ∧ (((W.alloc (.cells #[.int .u64 va] 22)).alloc (.cells #[.int .i64 ctx] 3)).alloc (.cells #[.int .i64 0, .int .i64 0, .int .u64 0, .int .u64 0, .bool false, .bool false, .bool false, .bool false, .bool false, .bool false, .bool false] 26)).heap[W.heap.size + 1 + 1]? = some (.cells #[.int .i64 0, .int .i64 0, .int .u64 0, .int .u64 0, .bool false, .bool false, .bool false, .bool false, .bool false, .bool false, .bool false] 26 (0, 0)) := by
  have nw : ∀ (A : World) (o : Obj) (k : Nat), k = A.heap.size → (A.alloc o).heap[k]? = some o := fun A o k e => by subst e; exact heap_alloc_new A o
  have ol : ∀ (A : World) (o o' : Obj) (k : Nat), A.heap[k]? = some o' → (A.alloc o).heap[k]? = some o' := fun A o o' k e => (Below.heap_alloc A o k (Array.getElem?_eq_some_iff.1 e).1).trans e
  refine ⟨grown_two (grown_two (World.grownBy_alloc _ _ none) (World.grownBy_alloc _ _ none)) (World.grownBy_alloc _ _ none), ?_, ?_, ?_⟩
  · exact (blk_cell (ol _ _ _ _ (ol _ _ _ _ (nw _ _ _ rfl))) 0).trans rfl
  · exact (blk_cell (ol _ _ _ _ (nw _ _ _ (by simp))) 0).trans rfl
  · exact nw _ _ _ (by simp)
theorem tl_find {B w0 p r es W} (h : Tl B w0 p r es W) (hw : OkL es) (va ctx : Int) (hva : (Lit.int .u64 va).wf = true) :
    Calls Try.prog 20 #[.pointer (some ⟨p, 0, none⟩), .int .u64 va, .int .i64 ctx] W fun x W' => W.grownBy W' none ∧ ((findOf es (fun e => hitsB e va ctx) = none ∧ x = .returned (.tuple #[.agg (entA zE), .int .i64 (-1)])) ∨ ∃ i e, findOf es (fun e => hitsB e va ctx) = some i ∧ es.getD i none = some e ∧ x = .returned (.tuple #[.agg (entA e), .int .i64 (i : Nat)])) := by
  have hu := Try.underlying26
  have hu2 := Try.underlying24
  have HM := Aside0.mk h
  have HW := Aside0.mk hw
  have HV := Aside0.mk hva
  have hlen := h.len
  clear h hw hva
  go_enter Try.func20, Try.ntmps20
  go_wp2_with fail
  have HG := Aside0.mk (find_begin W va ctx)
  generalize ((W.alloc (.cells #[.int .u64 va] 22)).alloc (.cells #[.int .i64 ctx] 3)).alloc (.cells #[.int .i64 0, .int .i64 0, .int .u64 0, .int .u64 0, .bool false, .bool false, .bool false, .bool false, .bool false, .bool false, .bool false] 26) = W3 at HG ⊢
  refine (tl_places (HM.out.same HG.out.1) 56 #[.pointer (some ⟨W.heap.size, 0, none⟩), .pointer (some ⟨W.heap.size + 1, 0, none⟩)] (fun e => hitsB e va ctx) (enters_ Try.func56 (by kernel_rfl) rfl) (fun W' e hmem hg' => by rw [app2]; exact fn_hit1 e (HW.out e hmem).1 va HV.out ctx W.heap.size (W.heap.size + 1) W' (cell_grown HG.out.2.1 hg') (cell_grown HG.out.2.2.1 hg'))).mono ?_
  rintro x W4 ⟨A, c, rfl, hr, hg⟩
  have HR := Aside0.mk hr
  have HG4 := Aside0.mk (grown_two HG.out.1 hg)
  have HM4 := Aside0.mk (HM.out.same HG4.out)
  have HB4 := Aside0.mk (blk_grown HG.out.2.2.2 hg)
  have hll := plTo_len es (fun e => hitsB e va ctx) es.length
  clear hr hg HG HM
  cases hl : plL es (fun e => hitsB e va ctx) with
  | nil =>
    have HN := Aside0.mk (show findOf es (fun e => hitsB e va ctx) = none by unfold findOf; rw [hl]; rfl)
    simp only [List.length_nil]
    clear hl hll
    go_wp2
    go_loopw [14] (fun v14 wr => v14 = .int .i64 0 ∧ wr = W4) (fun _ _ => 0)
    case atStart => exact ⟨rfl, rfl⟩
    case round =>
      obtain ⟨rfl, rfl⟩ := hrel
      go_wp2_with (refine wpList_store_row rfl 26 (.tmp 6) (.tmp 29) rfl (W.heap.size + 1 + 1) #[.int .i64 0, .int .i64 0, .int .u64 0, .int .u64 0, .bool false, .bool false, .bool false, .bool false, .bool false, .bool false, .bool false] rfl rfl 26 _ HB4.out (by kernel_rfl) rfl (by kernel_rfl) ?_)
      have hbn := setRow_heap wr (W.heap.size + 1 + 1) _ #[.int .i64 0, .int .i64 0, .int .u64 0, .int .u64 0, .bool false, .bool false, .bool false, .bool false, .bool false, .bool false, .bool false] 26 _ HB4.out
      obtain ⟨q0, q1, q2, q3, q4, q5, q6, q7, q8, q9, q10⟩ := cz11 hbn
      refine bodyPost_ret (v := .tuple #[.agg (entA zE), .int .i64 (-1)]) (by simp [results, Try.f20, go_sem, q0, q1, q2, q3, q4, q5, q6, q7, q8, q9, q10]; exact ⟨rfl, rfl, rfl, rfl, rfl, rfl, rfl, rfl, rfl, rfl, rfl⟩) rfl ⟨grown_own HG4.out (grown_row _ _ _) (fun j e => by cases e; omega), .inl ⟨HN.out, rfl⟩⟩
  | cons i l =>
    have hmem : i ∈ plL es (fun e => hitsB e va ctx) := by rw [hl]; exact List.mem_cons_self
    obtain ⟨hi, e, hx, hq⟩ := plL_spec hmem
    have HN := Aside0.mk (show findOf es (fun e => hitsB e va ctx) = some i by unfold findOf; rw [hl]; rfl)
    have HX := Aside0.mk hx
    rw [hl] at HR
    have hcz := HR.out.at 0 (by simp)
    obtain ⟨g, rfl, hc0⟩ := hcz
    have hp := HM4.out.at i hi
    rw [hx] at hp
    obtain ⟨n, hn⟩ : ∃ n, (i :: l).length = n := ⟨_, rfl⟩
    rw [hn]
    have hn1 : 1 ≤ n := by rw [← hn]; simp
    have hn2 : n ≤ 64 := by rw [← hn, ← hl]; exact Nat.le_trans (plTo_len _ _ _) hlen
    cases hp with
    | full b e hcb hb =>
      clear hl hll hmem hx hn hq
      have hi' : (i : Int) < (es.length : Int) := by omega
      have hi0 : (0 : Int) ≤ (i : Int) := by omega
      have hn1' : (0 : Int) < (n : Int) := by omega
      have hcell := HM4.out.cell
      have hc0' : W4.cell? ⟨g, 0, none⟩ = some (.int .i64 (i : Nat)) := hc0
      clear hc0
      go_wp2
      go_loopw [14] (fun v14 wr => v14 = .int .i64 0 ∧ wr = W4) (fun _ _ => 0)
      case atStart => exact ⟨rfl, rfl⟩
      case round =>
        obtain ⟨rfl, rfl⟩ := hrel
        obtain ⟨q0, q1, q2, q3, q4, q5, q6, q7, q8, q9, q10⟩ := cz11 hb
        go_wp2_with (refine wpList_store_row rfl 26 (.tmp 6) (.tmp 26) rfl (W.heap.size + 1 + 1) (entA e) rfl rfl 26 _ HB4.out (by kernel_rfl) rfl (by kernel_rfl) ?_)
        have hbn := setRow_heap wr (W.heap.size + 1 + 1) _ (entA e) 26 _ HB4.out
        obtain ⟨z0, z1, z2, z3, z4, z5, z6, z7, z8, z9, z10⟩ := cz11 hbn
        refine bodyPost_ret (v := .tuple #[.agg (entA e), .int .i64 (i : Nat)]) (by simp [results, Try.f20, go_sem, z0, z1, z2, z3, z4, z5, z6, z7, z8, z9, z10]) rfl ⟨grown_own HG4.out (grown_row _ _ _) (fun j e => by cases e; omega), .inr ⟨i, e, HN.out, HX.out, rfl⟩⟩
end
end Go.Proofs.Ythclbckkfgmbaaa.QTlbPlays
