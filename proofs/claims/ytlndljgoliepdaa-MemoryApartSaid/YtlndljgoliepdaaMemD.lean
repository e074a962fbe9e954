/- What is done to a memory, and to the document's: the document's functions, told of lists; what a memory refuses; at whatever numbers. -/
import Derived.Test.YtlndljgoliepdaaMemL
import Derived.Test.YtlndljgoliepdaaMemRef
namespace Go.Proofs.Ytlndljgoliepdaa.Mem
open Go.RowKit Go.Maps Go.Proofs.YtlndljgoliepdaaW.PrintWords Go.Proofs.YtlndljgoliepdaaW.PrintLast Go.Proofs.YtlndljgoliepdaaW.PrintMore Go.Proofs.Ytlndljgoliepdaa.QMemoryApart
set_option linter.unusedSimpArgs false
set_option linter.unusedVariables false
section
set_option maxHeartbeats 2000000
set_option maxRecDepth 100000
theorem cz4 {W : World} {g : Nat} {t : TypeId} {a0 a1 a2 a3 : Value} (h : W.heap[g]? = some (.cells #[a0, a1, a2, a3] t (0, 0))) : W.cell? ⟨g, 0, none⟩ = some a0 ∧ W.cell? ⟨g, 1, none⟩ = some a1 ∧ W.cell? ⟨g, 2, none⟩ = some a2 ∧ W.cell? ⟨g, 3, none⟩ = some a3 := ⟨(blk_cell h 0).trans rfl, (blk_cell h 1).trans rfl, (blk_cell h 2).trans rfl, (blk_cell h 3).trans rfl⟩
theorem blk_grown {W W' : World} {g : Nat} {o : Obj} (h : W.heap[g]? = some o) (hg : W.grownBy W' none) : W'.heap[g]? = some o := (hg.block g (blk_lt h) (by simp)).trans h
theorem grown_but {W W1 : World} (h : W.grownBy W1 none) (row : Option Nat) : W.grownBy W1 row := ⟨h.os, h.tape, h.output, h.size, fun i hi _ => h.block i hi (by simp)⟩
theorem grown_own {W W1 W2 : World} {row : Option Nat} (h : W.grownBy W1 none) (k : W1.grownBy W2 row) (hr : ∀ j, row = some j → W.heap.size ≤ j) : W.grownBy W2 none :=
  ⟨k.os.trans h.os, k.tape.trans h.tape, k.output.trans h.output, Nat.le_trans h.size k.size, fun i hi _ => (k.block i (Nat.lt_of_lt_of_le hi h.size) (fun e => by have := hr i e.symm; omega)).trans (h.block i hi (by simp))⟩
theorem box3 (W : World) (a b c : Array Value) (ta tb tc : TypeId) : (((W.alloc (.cells a ta)).alloc (.cells b tb)).alloc (.cells c tc)).heap[W.heap.size]? = some (.cells a ta (0, 0)) ∧ (((W.alloc (.cells a ta)).alloc (.cells b tb)).alloc (.cells c tc)).heap[W.heap.size + 1]? = some (.cells b tb (0, 0)) ∧ (((W.alloc (.cells a ta)).alloc (.cells b tb)).alloc (.cells c tc)).heap[W.heap.size + 1 + 1]? = some (.cells c tc (0, 0)) ∧ W.grownBy (((W.alloc (.cells a ta)).alloc (.cells b tb)).alloc (.cells c tc)) none := by
  have g1 := World.grownBy_alloc W (.cells a ta) none
  have g2 := World.grownBy_alloc (W.alloc (.cells a ta)) (.cells b tb) none
  have g3 := World.grownBy_alloc ((W.alloc (.cells a ta)).alloc (.cells b tb)) (.cells c tc) none
  have h1 := heap_alloc_new W (.cells a ta)
  have h2 := heap_alloc_new (W.alloc (.cells a ta)) (.cells b tb)
  have h3 := heap_alloc_new ((W.alloc (.cells a ta)).alloc (.cells b tb)) (.cells c tc)
  rw [World.size_alloc] at h2
  rw [World.size_alloc, World.size_alloc] at h3
  exact ⟨blk_grown (blk_grown h1 g2) g3, blk_grown h2 g3, h3, grown_two (grown_two g1 g2) g3⟩
/-- What a deed leaves. -/
def DidM (B : Nat) (w0 : World) (p mb L : Nat) (W : World) (x : Ending) (W' : World) : Prop := ∃ v l' D', x = .returned (.tuple #[.agg #[.int .u64 1000, v], .bool true]) ∧ Mem B w0 p mb 1000 (Maps.size D') D' W' ∧ Good D' ∧ (∀ t, 1000 ≤ t → byteAt D' t = 0) ∧ RefL 1000 (byteAt D') l' ∧ l'.length ≤ 2 * L + 16 ∧ Kd.V k106 106 W' 0 (fun k => k ≠ mb) v l' ∧ W.grownBy W' (some mb)
theorem mayL_calls {each : Int} (he : each = 1 ∨ each = 8 ∨ each = 16) {l : List Bt} {A : Option Addr} {c : Nat} (a n : Int) (W : World) (hv : l.length = l.length ∧ l.length ≤ c ∧ k106.C W A l.length l) (ha : (Lit.int .u64 a).wf = true) (hn : (Lit.int .u64 n).wf = true) :
    Calls Try.prog 24 #[.agg #[.int .u64 1000, .slice A l.length c], .int .u64 a, .int .u64 n, .int .u64 each] W fun e W' => e = .returned (.int .i64 (mayOf 1000 a n each)) ∧ W.grownBy W' none := by
  have h1 := u64_b ha
  have h2 := u64_b hn
  refine (lookasideref04_May.calls 1000 A c l a n each (mayOf 1000 a n each) W hv.2.2 hv.2.1 ?_).mono fun e W' z => ⟨z.1, below_grown z.2⟩
  rw [← refMay_eq h1.1 h2.1]
  unfold lookasideref04_May.f refMayOf
  rw [if_neg (by rcases he with rfl | rfl | rfl <;> decide)]
  rw [Int.tmod_eq_emod_of_nonneg h1.1]
  by_cases c1 : a % each = 0
  · rw [if_pos c1, if_neg (show ¬ (a % each ≠ 0) from fun x => x c1)]
    by_cases c2 : n = 0
    · rw [if_pos c2, if_pos c2]
    · rw [if_neg c2, if_neg c2]
      by_cases c3 : a ≥ 1000
      · rw [if_pos c3, if_pos (.inl c3)]
      · rw [if_neg c3]
        by_cases c4 : n > 1000
        · rw [if_pos c4, if_pos (.inr (.inl c4))]
        · have hw : IntKind.u64.wrap (1000 - n) = 1000 - n := by rw [IntKind.wrap_u64]; omega
          rw [if_neg c4, hw]
          by_cases c5 : a > 1000 - n
          · rw [if_pos c5, if_pos (.inr (.inr c5))]
          · rw [if_neg c5, if_neg (by omega)]
  · rw [if_neg c1, if_pos c1]
theorem ref_put {l : List Bt} {A : Option Addr} {c : Nat} {ok ok' : Nat → Prop} {W : World} (hv : Kd.V k106 106 W 0 ok (.slice A l.length c) l) (hl : l.length ≤ 400000000) (hm : ∀ k, W.heap.size ≤ k → ok' k) (a b : Int) :
    Calls Try.prog 49 #[.agg #[.int .u64 1000, .slice A l.length c], .int .u64 a, .int .u8 b] W fun e W' => ∃ v, e = .returned (.agg #[.int .u64 1000, v]) ∧ Kd.V k106 106 W' 0 ok' v (putL l a b) ∧ W.grownBy W' none := by
  refine (lookasideref04_Put.calls _ 1000 A c l a b 1000 (putL l a b) W (Kd.V_reads' hv).2.2 (Kd.V_reads' hv).2.1 (put_f 1000 a b l (by omega) (Nat.le_refl _))).mono ?_
  rintro e W' ⟨v, rfl, hR, hb⟩
  exact ⟨v, rfl, Kd.V_mono (Kd.R_V (base' := 0) (Kd.R_bound hR)) (fun k hk => hm k hk.2.1), below_grown hb⟩
theorem ref_clr {l : List Bt} {A : Option Addr} {c : Nat} {ok ok' : Nat → Prop} {W : World} (hv : Kd.V k106 106 W 0 ok (.slice A l.length c) l) (hl : l.length ≤ 400000000) (hm : ∀ k, W.heap.size ≤ k → ok' k) (a n : Int) (ha : 0 ≤ a) (hr : ∀ b ∈ l, 0 ≤ b.f0 ∧ b.f0 < 18446744073709551616) :
    Calls Try.prog 51 #[.agg #[.int .u64 1000, .slice A l.length c], .int .u64 a, .int .u64 n] W fun e W' => ∃ v, e = .returned (.agg #[.int .u64 1000, v]) ∧ Kd.V k106 106 W' 0 ok' v (clrL l a n) ∧ W.grownBy W' none := by
  refine (lookasideref04_Clear.calls _ 1000 A c l a n 1000 (clrL l a n) W (Kd.V_reads' hv).2.2 (Kd.V_reads' hv).2.1 (clr_f 1000 a n l (by omega) ha hr (Nat.le_refl _))).mono ?_
  rintro e W' ⟨v, rfl, hR, hb⟩
  exact ⟨v, rfl, Kd.V_mono (Kd.R_V (base' := 0) (Kd.R_bound hR)) (fun k hk => hm k hk.2.1), below_grown hb⟩
theorem ref_puts {l l' : List Bt} {A : Option Addr} {c : Nat} {ok : Nat → Prop} {W : World} (hv : Kd.V k106 106 W 0 ok (.slice A l.length c) l) (hm : ∀ k, W.heap.size ≤ k → ok k) (a w : Int) (k : Nat) (hf : lookasideref04_PutWord.f k 1000 l a w = some (1000, l')) :
    Calls Try.prog 50 #[.agg #[.int .u64 1000, .slice A l.length c], .int .u64 a, .int .u64 w] W fun e W' => ∃ v, e = .returned (.agg #[.int .u64 1000, v]) ∧ Kd.V k106 106 W' 0 ok v l' ∧ W.grownBy W' none := by
  refine (lookasideref04_PutWord.calls k 1000 ok A c l a w 1000 l' W hv hf).mono ?_
  rintro e W' ⟨v, rfl, hR, hb⟩
  exact ⟨v, rfl, Kd.V_lower (Kd.V_mono hR (fun k hk => hk.elim id (hm k))) (Nat.zero_le _), below_grown hb⟩
theorem ref_copy {l l' : List Bt} {A : Option Addr} {c : Nat} {ok ok' : Nat → Prop} {W : World} (hv : Kd.V k106 106 W 0 ok (.slice A l.length c) l) (hm : ∀ k, W.heap.size ≤ k → ok' k) (s t n : Int) (k : Nat) (hf : lookasideref04_Copy.f k 1000 l s t n = some (1000, l')) :
    Calls Try.prog 52 #[.agg #[.int .u64 1000, .slice A l.length c], .int .u64 s, .int .u64 t, .int .u64 n] W fun e W' => ∃ v, e = .returned (.agg #[.int .u64 1000, v]) ∧ Kd.V k106 106 W' 0 ok' v l' ∧ W.grownBy W' none := by
  refine (lookasideref04_Copy.calls k 1000 A c l s t n 1000 l' W (Kd.V_reads' hv).2.2 (Kd.V_reads' hv).2.1 hf).mono ?_
  rintro e W' ⟨v, rfl, hR, hb⟩
  exact ⟨v, rfl, Kd.V_mono (Kd.R_V (base' := 0) (Kd.R_bound hR)) (fun k hk => hm k hk.2.1), below_grown hb⟩
theorem clear_bad {B w0 p mb sz n D W} (h : Mem B w0 p mb sz n D W) (a k : Int) (ha : (Lit.int .u64 a).wf = true) (hk : (Lit.int .u64 k).wf = true) {c : Int} (h0 : (c != 0) = true) (hc : mayOf sz a k 1 = c) :
    Calls Try.prog 25 #[.pointer (some ⟨p, 0, none⟩), .int .u64 a, .int .u64 k] W fun e W' => e = .returned (.int .i64 c) ∧ W' = W := by
  have HC := Aside0.mk (may_calls h (.inl rfl) a k ha hk hc)
  clear h hc
  go_enter Try.func25, Try.ntmps25
  go_wp2_with (go_at_call 44; refine HC.out.mono ?_; rintro e w' ⟨rfl, rfl⟩)
  go_ret
  exact ⟨rfl, rfl⟩
theorem copy_bad1 {B w0 p mb sz n D W} (h : Mem B w0 p mb sz n D W) (s t k : Int) (hs : (Lit.int .u64 s).wf = true) (hk : (Lit.int .u64 k).wf = true) {c : Int} (h0 : (c != 0) = true) (hc : mayOf sz s k 1 = c) :
    Calls Try.prog 22 #[.pointer (some ⟨p, 0, none⟩), .int .u64 s, .int .u64 t, .int .u64 k] W fun e W' => e = .returned (.int .i64 c) ∧ W' = W := by
  have HC := Aside0.mk (may_calls h (.inl rfl) s k hs hk hc)
  clear h hc
  go_enter Try.func22, Try.ntmps22
  go_wp2_with (go_at_call 44; refine HC.out.mono ?_; rintro e w' ⟨rfl, rfl⟩)
  go_ret
  exact ⟨rfl, rfl⟩
theorem copy_bad2 {B w0 p mb sz n D W} (h : Mem B w0 p mb sz n D W) (s t k : Int) (hs : (Lit.int .u64 s).wf = true) (ht : (Lit.int .u64 t).wf = true) (hk : (Lit.int .u64 k).wf = true) {c : Int} (h0 : (c != 0) = true) (hc1 : mayOf sz s k 1 = 0) (hc : mayOf sz t k 1 = c) :
    Calls Try.prog 22 #[.pointer (some ⟨p, 0, none⟩), .int .u64 s, .int .u64 t, .int .u64 k] W fun e W' => e = .returned (.int .i64 c) ∧ W' = W := by
  have HC1 := Aside0.mk (may_calls h (.inl rfl) s k hs hk hc1)
  have HC := Aside0.mk (may_calls h (.inl rfl) t k ht hk hc)
  clear h hc hc1
  go_enter Try.func22, Try.ntmps22
  go_wp2_with fail
  refine HC1.out.mono ?_
  rintro e w' ⟨rfl, rfl⟩
  go_wp2_with fail
  refine HC.out.mono ?_
  rintro e w' ⟨rfl, rfl⟩
  go_wp2
  go_ret
  exact ⟨rfl, rfl⟩
end
end Go.Proofs.Ytlndljgoliepdaa.Mem
