/- The document's New and May of layer 4, over a list that is nil; at whatever numbers. -/
import Derived.Test.YtlndljgoliepdaaMem3
namespace Go.Proofs.Ytlndljgoliepdaa.Mem
open Go.RowKit Go.Maps Go.Proofs.YtlndljgoliepdaaW.PrintWords Go.Proofs.YtlndljgoliepdaaW.PrintLast Go.Proofs.YtlndljgoliepdaaW.PrintMore
set_option linter.unusedSimpArgs false
set_option linter.unusedVariables false
section
set_option maxHeartbeats 1000000
set_option maxRecDepth 100000
/-- A new block, told as one fact. -/
theorem box_facts {W w1 : World} {g : Nat} (hg : g = W.heap.size) (hb : Below W.heap.size W w1) : W.grownBy w1 none := below_grown hb
theorem grown_row (W : World) (g : Nat) (cs : Array Value) : W.grownBy (W.setRow g cs) (some g) := by
  refine ⟨rfl, rfl, rfl, ?_, fun k hk hn => ?_⟩
  · simp [World.setRow]
  · exact setRow_other W g k cs (fun e => hn (by rw [e]))
theorem refNew_calls (sz : Int) (W : World) (hs : (Lit.int .u64 sz).wf = true) (hm : sz ≤ 2199023255552) :
    Calls Try.prog 23 #[.int .u64 sz] W fun e W' => e = .returned (.agg #[.int .u64 sz, .slice none 0 0]) ∧ W.grownBy W' none := by
  have hu := Try.underlying43
  go_enter Try.func23, Try.ntmps23
  go_wp2_with (first | ((with_reducible refine gate_dst (N := 2) rfl ?_); refine box_event ?hg (N := 2) ?hd (cs := #[.int .u64 0, .slice none 0 0]) (t := 43) ?hr ?_; (case hd => rfl); (case hg => rfl); (case hr => first | (go_simp; done) | (go_simp; rfl)); intro g2 hgb w1 hbox hb; have H2 := Aside0.mk hbox; have GH2 := Aside0.mk (below_grown hb); have LH2 := Aside0.mk (Nat.le_of_eq hgb.symm); clear hgb hbox hb) | ((with_reducible refine gate_store (t := 43) (p := 2) rfl ?_); refine wpList_store_row rfl 43 (.tmp 2) (.tmp 6) rfl g2 #[.int .u64 sz, .slice none 0 0] rfl rfl 43 _ H2.out (by kernel_rfl) rfl (by kernel_rfl) ?_; have SH2 := Aside0.mk (setRow_heap _ g2 _ #[.int .u64 sz, .slice none 0 0] _ _ H2.out); have TH2 := Aside0.mk (grown_row w1 g2 #[.int .u64 sz, .slice none 0 0])) | go_in)
  refine bodyPost_ret (results_cell_row rfl _ _ g2 43 #[.int .u64 sz, .slice none 0 0] (0, 0) _ rfl SH2.out Try.underlying43 rfl (by kernel_rfl)) rfl ?_
  exact ⟨rfl, GH2.out.andThen TH2.out (fun j e => by cases e; exact .inl LH2.out)⟩
/-- What the document's May tells. -/
def refMayOf (sz a n each : Int) : Int := if a % each ≠ 0 then 4 else if n = 0 then 0 else if a ≥ sz ∨ n > sz ∨ a > sz - n then 5 else 0
theorem refMay_eq {sz a n each : Int} (ha : 0 ≤ a) (hn : 0 ≤ n) : refMayOf sz a n each = mayOf sz a n each := by
  unfold refMayOf mayOf
  by_cases h1 : a % each ≠ 0
  · rw [if_pos h1, if_pos h1]
  · rw [if_neg h1, if_neg h1]
    by_cases h2 : n = 0
    · rw [if_pos h2, if_neg (by omega)]
    · rw [if_neg h2]
      by_cases h3 : a ≥ sz ∨ n > sz ∨ a > sz - n
      · rw [if_pos h3, if_pos (by omega)]
      · rw [if_neg h3, if_neg (by omega)]
theorem cz2 {W : World} {g : Nat} {t : TypeId} {a0 a1 : Value} (h : W.heap[g]? = some (.cells #[a0, a1] t (0, 0))) : W.cell? ⟨g, 0, none⟩ = some a0 ∧ W.cell? ⟨g, 1, none⟩ = some a1 := ⟨(blk_cell h 0).trans rfl, (blk_cell h 1).trans rfl⟩
theorem refMay_align {each : Int} (he : each = 1 ∨ each = 8 ∨ each = 16) (sz a n : Int) (W : World) (hs : (Lit.int .u64 sz).wf = true) (ha : (Lit.int .u64 a).wf = true) (hn : (Lit.int .u64 n).wf = true) (h1 : (a % each != 0) = true) :
    Calls Try.prog 24 #[.agg #[.int .u64 sz, .slice none 0 0], .int .u64 a, .int .u64 n, .int .u64 each] W fun e W' => e = .returned (.int .i64 4) ∧ W.grownBy W' none := by
  have hs0 := (u64_b hs).1
  have hs1 := (u64_b hs).2
  have hn1 := (u64_b hn).2
  have ha0 := (u64_b ha).1
  have hn0 := (u64_b hn).1
  have hu := Try.underlying43
  rcases he with rfl | rfl | rfl
  · exfalso; simp at h1
  all_goals
    go_enter Try.func24, Try.ntmps24
    go_wp2_with (first | ((with_reducible refine gate_dst (N := 4) rfl ?_); refine box_event ?hg (N := 4) ?hd (cs := #[.int .u64 sz, .slice none 0 0]) (t := 43) ?hr ?_; (case hd => rfl); (case hg => rfl); (case hr => first | (go_simp; done) | (go_simp; rfl)); intro g4 hgb w1 hbox hb; have H4 := Aside0.mk hbox; have GH4 := Aside0.mk (below_grown hb); have LH4 := Aside0.mk (Nat.le_of_eq hgb.symm); clear hgb hbox hb; obtain ⟨c0, c1⟩ := cz2 H4.out) | go_in)
    go_ret
    exact ⟨rfl, GH4.out⟩
theorem refMay_none {each : Int} (he : each = 1 ∨ each = 8 ∨ each = 16) (sz a n : Int) (W : World) (hs : (Lit.int .u64 sz).wf = true) (ha : (Lit.int .u64 a).wf = true) (hn : (Lit.int .u64 n).wf = true) (h1 : (a % each != 0) = false) (h2 : (n == 0) = true) :
    Calls Try.prog 24 #[.agg #[.int .u64 sz, .slice none 0 0], .int .u64 a, .int .u64 n, .int .u64 each] W fun e W' => e = .returned (.int .i64 0) ∧ W.grownBy W' none := by
  have hs0 := (u64_b hs).1
  have hs1 := (u64_b hs).2
  have hn1 := (u64_b hn).2
  have ha0 := (u64_b ha).1
  have hn0 := (u64_b hn).1
  have hu := Try.underlying43
  rcases he with rfl | rfl | rfl
  all_goals
    go_enter Try.func24, Try.ntmps24
    go_wp2_with (first | ((with_reducible refine gate_dst (N := 4) rfl ?_); refine box_event ?hg (N := 4) ?hd (cs := #[.int .u64 sz, .slice none 0 0]) (t := 43) ?hr ?_; (case hd => rfl); (case hg => rfl); (case hr => first | (go_simp; done) | (go_simp; rfl)); intro g4 hgb w1 hbox hb; have H4 := Aside0.mk hbox; have GH4 := Aside0.mk (below_grown hb); have LH4 := Aside0.mk (Nat.le_of_eq hgb.symm); clear hgb hbox hb; obtain ⟨c0, c1⟩ := cz2 H4.out) | go_in)
    go_ret
    exact ⟨rfl, GH4.out⟩
theorem refMay_far {each : Int} (he : each = 1 ∨ each = 8 ∨ each = 16) (sz a n : Int) (W : World) (hs : (Lit.int .u64 sz).wf = true) (ha : (Lit.int .u64 a).wf = true) (hn : (Lit.int .u64 n).wf = true) (h1 : (a % each != 0) = false) (h2 : (n == 0) = false) (h3 : sz ≤ a) :
    Calls Try.prog 24 #[.agg #[.int .u64 sz, .slice none 0 0], .int .u64 a, .int .u64 n, .int .u64 each] W fun e W' => e = .returned (.int .i64 5) ∧ W.grownBy W' none := by
  have hs0 := (u64_b hs).1
  have hs1 := (u64_b hs).2
  have hn1 := (u64_b hn).2
  have ha0 := (u64_b ha).1
  have hn0 := (u64_b hn).1
  have hu := Try.underlying43
  rcases he with rfl | rfl | rfl
  all_goals
    go_enter Try.func24, Try.ntmps24
    go_wp2_with (first | ((with_reducible refine gate_dst (N := 4) rfl ?_); refine box_event ?hg (N := 4) ?hd (cs := #[.int .u64 sz, .slice none 0 0]) (t := 43) ?hr ?_; (case hd => rfl); (case hg => rfl); (case hr => first | (go_simp; done) | (go_simp; rfl)); intro g4 hgb w1 hbox hb; have H4 := Aside0.mk hbox; have GH4 := Aside0.mk (below_grown hb); have LH4 := Aside0.mk (Nat.le_of_eq hgb.symm); clear hgb hbox hb; obtain ⟨c0, c1⟩ := cz2 H4.out) | go_in)
    go_ret
    exact ⟨rfl, GH4.out⟩
theorem refMay_much {each : Int} (he : each = 1 ∨ each = 8 ∨ each = 16) (sz a n : Int) (W : World) (hs : (Lit.int .u64 sz).wf = true) (ha : (Lit.int .u64 a).wf = true) (hn : (Lit.int .u64 n).wf = true) (h1 : (a % each != 0) = false) (h2 : (n == 0) = false) (h3 : a < sz) (h4 : sz < n) :
    Calls Try.prog 24 #[.agg #[.int .u64 sz, .slice none 0 0], .int .u64 a, .int .u64 n, .int .u64 each] W fun e W' => e = .returned (.int .i64 5) ∧ W.grownBy W' none := by
  have hs0 := (u64_b hs).1
  have hs1 := (u64_b hs).2
  have hn1 := (u64_b hn).2
  have ha0 := (u64_b ha).1
  have hn0 := (u64_b hn).1
  have hu := Try.underlying43
  rcases he with rfl | rfl | rfl
  all_goals
    go_enter Try.func24, Try.ntmps24
    go_wp2_with (first | ((with_reducible refine gate_dst (N := 4) rfl ?_); refine box_event ?hg (N := 4) ?hd (cs := #[.int .u64 sz, .slice none 0 0]) (t := 43) ?hr ?_; (case hd => rfl); (case hg => rfl); (case hr => first | (go_simp; done) | (go_simp; rfl)); intro g4 hgb w1 hbox hb; have H4 := Aside0.mk hbox; have GH4 := Aside0.mk (below_grown hb); have LH4 := Aside0.mk (Nat.le_of_eq hgb.symm); clear hgb hbox hb; obtain ⟨c0, c1⟩ := cz2 H4.out) | go_in)
    go_ret
    exact ⟨rfl, GH4.out⟩
theorem refMay_over {each : Int} (he : each = 1 ∨ each = 8 ∨ each = 16) (sz a n : Int) (W : World) (hs : (Lit.int .u64 sz).wf = true) (ha : (Lit.int .u64 a).wf = true) (hn : (Lit.int .u64 n).wf = true) (h1 : (a % each != 0) = false) (h2 : (n == 0) = false) (h3 : a < sz) (h4 : n ≤ sz) (h5 : sz - n < a) :
    Calls Try.prog 24 #[.agg #[.int .u64 sz, .slice none 0 0], .int .u64 a, .int .u64 n, .int .u64 each] W fun e W' => e = .returned (.int .i64 5) ∧ W.grownBy W' none := by
  have hs0 := (u64_b hs).1
  have hs1 := (u64_b hs).2
  have hn1 := (u64_b hn).2
  have ha0 := (u64_b ha).1
  have hn0 := (u64_b hn).1
  have hu := Try.underlying43
  rcases he with rfl | rfl | rfl
  all_goals
    go_enter Try.func24, Try.ntmps24
    go_wp2_with (first | ((with_reducible refine gate_dst (N := 4) rfl ?_); refine box_event ?hg (N := 4) ?hd (cs := #[.int .u64 sz, .slice none 0 0]) (t := 43) ?hr ?_; (case hd => rfl); (case hg => rfl); (case hr => first | (go_simp; done) | (go_simp; rfl)); intro g4 hgb w1 hbox hb; have H4 := Aside0.mk hbox; have GH4 := Aside0.mk (below_grown hb); have LH4 := Aside0.mk (Nat.le_of_eq hgb.symm); clear hgb hbox hb; obtain ⟨c0, c1⟩ := cz2 H4.out) | go_in)
    go_ret
    exact ⟨rfl, GH4.out⟩
theorem refMay_in {each : Int} (he : each = 1 ∨ each = 8 ∨ each = 16) (sz a n : Int) (W : World) (hs : (Lit.int .u64 sz).wf = true) (ha : (Lit.int .u64 a).wf = true) (hn : (Lit.int .u64 n).wf = true) (h1 : (a % each != 0) = false) (h2 : (n == 0) = false) (h3 : a < sz) (h4 : n ≤ sz) (h5 : a ≤ sz - n) :
    Calls Try.prog 24 #[.agg #[.int .u64 sz, .slice none 0 0], .int .u64 a, .int .u64 n, .int .u64 each] W fun e W' => e = .returned (.int .i64 0) ∧ W.grownBy W' none := by
  have hs0 := (u64_b hs).1
  have hs1 := (u64_b hs).2
  have hn1 := (u64_b hn).2
  have ha0 := (u64_b ha).1
  have hn0 := (u64_b hn).1
  have hu := Try.underlying43
  rcases he with rfl | rfl | rfl
  all_goals
    go_enter Try.func24, Try.ntmps24
    go_wp2_with (first | ((with_reducible refine gate_dst (N := 4) rfl ?_); refine box_event ?hg (N := 4) ?hd (cs := #[.int .u64 sz, .slice none 0 0]) (t := 43) ?hr ?_; (case hd => rfl); (case hg => rfl); (case hr => first | (go_simp; done) | (go_simp; rfl)); intro g4 hgb w1 hbox hb; have H4 := Aside0.mk hbox; have GH4 := Aside0.mk (below_grown hb); have LH4 := Aside0.mk (Nat.le_of_eq hgb.symm); clear hgb hbox hb; obtain ⟨c0, c1⟩ := cz2 H4.out) | go_in)
    go_ret
    exact ⟨rfl, GH4.out⟩
theorem refMay_calls {each : Int} (he : each = 1 ∨ each = 8 ∨ each = 16) (sz a n : Int) (W : World) (hs : (Lit.int .u64 sz).wf = true) (ha : (Lit.int .u64 a).wf = true) (hn : (Lit.int .u64 n).wf = true) :
    Calls Try.prog 24 #[.agg #[.int .u64 sz, .slice none 0 0], .int .u64 a, .int .u64 n, .int .u64 each] W fun e W' => e = .returned (.int .i64 (mayOf sz a n each)) ∧ W.grownBy W' none := by
  have hn0 := (u64_b hn).1
  rw [← refMay_eq (u64_b ha).1 hn0]
  unfold refMayOf
  by_cases h1 : a % each = 0
  · have h1' : (a % each != 0) = false := bne_eq_false_iff_eq.mpr h1
    rw [if_neg (fun x => x h1)]
    by_cases h2 : n = 0
    · rw [if_pos h2]
      exact refMay_none he sz a n W hs ha hn h1' (beq_iff_eq.mpr h2)
    · have h2' := beq_eq_false_iff_ne.mpr h2
      rw [if_neg h2]
      by_cases h3 : a ≥ sz
      · rw [if_pos (.inl h3)]; exact refMay_far he sz a n W hs ha hn h1' h2' h3
      · by_cases h4 : n > sz
        · rw [if_pos (.inr (.inl h4))]; exact refMay_much he sz a n W hs ha hn h1' h2' (by omega) h4
        · by_cases h5 : a > sz - n
          · rw [if_pos (.inr (.inr h5))]; exact refMay_over he sz a n W hs ha hn h1' h2' (by omega) (by omega) h5
          · rw [if_neg (by omega)]; exact refMay_in he sz a n W hs ha hn h1' h2' (by omega) (by omega) (by omega)
  · rw [if_pos h1]
    exact refMay_align he sz a n W hs ha hn (bne_iff_ne.mpr h1)
end
end Go.Proofs.Ytlndljgoliepdaa.Mem
