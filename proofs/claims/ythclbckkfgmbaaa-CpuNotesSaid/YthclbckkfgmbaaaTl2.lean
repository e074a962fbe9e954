/- What the closures tell of an entry; find, demap, what is locked; at whatever numbers. -/
import Derived.Test.YthclbckkfgmbaaaTlP
import Derived.Test.YthclbckkfgmbaaaTl1
namespace Go.Proofs.Ythclbckkfgmbaaa.QTlbPlays
open Go.RowKit Go.Proofs.YthclbckkfgmbaaaW.PrintWords Go.Proofs.YthclbckkfgmbaaaW.PrintLast Go.Proofs.YthclbckkfgmbaaaW.PrintMore
set_option linter.unusedSimpArgs false
set_option linter.unusedVariables false
section
set_option maxHeartbeats 1000000
set_option maxRecDepth 100000
def lockB (e : Ent) : Bool := e.f4.f3
def openB (e : Ent) : Bool := !e.f4.f3
def ctxB (ctx : Int) (e : Ent) : Bool := !e.f4.f4 && e.f1 == ctx
theorem fn_locked (e : Ent) (W : World) : Calls Try.prog 53 #[.agg (entA e)] W fun x W' => x = .returned (.bool (lockB e)) ∧ W.grownBy W' none :=
  (tlb_locked.calls e.f0 e.f1 e.f2 e.f3 e.f4.f0 e.f4.f1 e.f4.f2 e.f4.f3 e.f4.f4 e.f4.f5 e.f5 (lockB e) W rfl).mono fun x W' h => ⟨h.1, below_grown h.2⟩
theorem hits_calls {e : Ent} (h : EntW e) {va : Int} (hva : (Lit.int .u64 va).wf = true) (ctx : Int) (W : World) : Calls Try.prog 57 #[.agg (entA e), .int .u64 va, .int .i64 ctx] W fun x W' => x = .returned (.bool (hitsB e va ctx)) ∧ W.grownBy W' none :=
  (tte_Hits.calls e.f0 e.f1 e.f2 e.f3 e.f4.f0 e.f4.f1 e.f4.f2 e.f4.f3 e.f4.f4 e.f4.f5 e.f5 va ctx _ W (hits_ok h hva ctx)).mono fun x W' z => ⟨z.1, below_grown z.2⟩
theorem parts_calls {a b : Ent} (ha : EntW a) (hb : EntW b) (W : World) : Calls Try.prog 14 #[.agg (entA a), .agg (entA b)] W fun x W' => x = .returned (.bool (partsB a b)) ∧ W.grownBy W' none :=
  (tlb_Parts.calls a.f0 a.f1 a.f2 a.f3 a.f4.f0 a.f4.f1 a.f4.f2 a.f4.f3 a.f4.f4 a.f4.f5 a.f5 b.f0 b.f1 b.f2 b.f3 b.f4.f0 b.f4.f1 b.f4.f2 b.f4.f3 b.f4.f4 b.f4.f5 b.f5 _ W (parts_ok ha hb)).mono fun x W' z => ⟨z.1, below_grown z.2⟩
theorem may_calls {e : Ent} (h : EntW e) (W : World) : Calls Try.prog 49 #[.agg (entA e)] W fun x W' => x = .returned (.bool (mayB e)) ∧ W.grownBy W' none :=
  (tte_May.calls 10 e.f0 e.f1 e.f2 e.f3 e.f4.f0 e.f4.f1 e.f4.f2 e.f4.f3 e.f4.f4 e.f4.f5 e.f5 _ W (may_ok h 10 (Nat.le_refl _))).mono fun x W' z => ⟨z.1, by first | exact below_grown z.2 | exact drawn_grown z.2⟩
theorem fn_open1 (e : Ent) (W : World) : Calls Try.prog 91 #[.agg (entA e)] W fun x W' => x = .returned (.bool (openB e)) ∧ W.grownBy W' none := by
  have hu := Try.underlying26
  have hu2 := Try.underlying24
  have HG := Aside0.mk (grown_refl W none)
  go_enter Try.func91, Try.ntmps91
  go_wp2_with (go_at_call 53; refine (fn_locked e _).mono ?_; rintro x w1 ⟨rfl, hg⟩; have HG1 := Aside0.mk (grown_two (World.grownBy_alloc W (.cells (entA e) 26) none) hg); clear HG; have HG := HG1; clear hg)
  go_ret
  exact ⟨rfl, HG.out⟩
theorem fn_open2 (e : Ent) (W : World) : Calls Try.prog 61 #[.agg (entA e)] W fun x W' => x = .returned (.bool (openB e)) ∧ W.grownBy W' none := by
  have hu := Try.underlying26
  have hu2 := Try.underlying24
  have HG := Aside0.mk (grown_refl W none)
  go_enter Try.func61, Try.ntmps61
  go_wp2_with (go_at_call 53; refine (fn_locked e _).mono ?_; rintro x w1 ⟨rfl, hg⟩; have HG1 := Aside0.mk (grown_two (World.grownBy_alloc W (.cells (entA e) 26) none) hg); clear HG; have HG := HG1; clear hg)
  go_ret
  exact ⟨rfl, HG.out⟩
theorem fn_hit1 (e : Ent) (he : EntW e) (va : Int) (hva : (Lit.int .u64 va).wf = true) (ctx : Int) (b1 b2 : Nat) (W : World) (c1 : W.cell? ⟨b1, 0, none⟩ = some (.int .u64 va)) (c2 : W.cell? ⟨b2, 0, none⟩ = some (.int .i64 ctx)) : Calls Try.prog 56 #[.agg (entA e), .pointer (some ⟨b1, 0, none⟩), .pointer (some ⟨b2, 0, none⟩)] W fun x W' => x = .returned (.bool (hitsB e va ctx)) ∧ W.grownBy W' none := by
  have hu := Try.underlying26
  have hu2 := Try.underlying24
  have c1' := cell_grown c1 (World.grownBy_alloc W (.cells (entA e) 26) none)
  have c2' := cell_grown c2 (World.grownBy_alloc W (.cells (entA e) 26) none)
  have HG := Aside0.mk (grown_refl W none)
  go_enter Try.func56, Try.ntmps56
  go_wp2_with (go_at_call 57; refine (hits_calls he hva ctx _).mono ?_; rintro x w1 ⟨rfl, hg⟩; have HG1 := Aside0.mk (grown_two (World.grownBy_alloc W (.cells (entA e) 26) none) hg); clear HG; have HG := HG1; clear hg)
  go_ret
  exact ⟨rfl, HG.out⟩
theorem fn_hit2 (e : Ent) (he : EntW e) (va : Int) (hva : (Lit.int .u64 va).wf = true) (ctx : Int) (b1 b2 : Nat) (W : World) (c1 : W.cell? ⟨b1, 0, none⟩ = some (.int .u64 va)) (c2 : W.cell? ⟨b2, 0, none⟩ = some (.int .i64 ctx)) : Calls Try.prog 62 #[.agg (entA e), .pointer (some ⟨b1, 0, none⟩), .pointer (some ⟨b2, 0, none⟩)] W fun x W' => x = .returned (.bool (hitsB e va ctx)) ∧ W.grownBy W' none := by
  have hu := Try.underlying26
  have hu2 := Try.underlying24
  have c1' := cell_grown c1 (World.grownBy_alloc W (.cells (entA e) 26) none)
  have c2' := cell_grown c2 (World.grownBy_alloc W (.cells (entA e) 26) none)
  have HG := Aside0.mk (grown_refl W none)
  go_enter Try.func62, Try.ntmps62
  go_wp2_with (go_at_call 57; refine (hits_calls he hva ctx _).mono ?_; rintro x w1 ⟨rfl, hg⟩; have HG1 := Aside0.mk (grown_two (World.grownBy_alloc W (.cells (entA e) 26) none) hg); clear HG; have HG := HG1; clear hg)
  go_ret
  exact ⟨rfl, HG.out⟩
theorem fn_against (e : Ent) (a : Ent) (ha : EntW a) (he : EntW e) (b1 : Nat) (W : World) (hb : W.heap[b1]? = some (.cells (entA a) 26 (0, 0))) : Calls Try.prog 88 #[.agg (entA e), .pointer (some ⟨b1, 0, none⟩)] W fun x W' => x = .returned (.bool (!partsB a e)) ∧ W.grownBy W' none := by
  have hu := Try.underlying26
  have hu2 := Try.underlying24
  obtain ⟨q0, q1, q2, q3, q4, q5, q6, q7, q8, q9, q10⟩ := cz11 (blk_grown hb (World.grownBy_alloc W (.cells (entA e) 26) none))
  have HG := Aside0.mk (grown_refl W none)
  go_enter Try.func88, Try.ntmps88
  go_wp2_with (go_at_call 14; refine (parts_calls ha he _).mono ?_; rintro x w1 ⟨rfl, hg⟩; have HG1 := Aside0.mk (grown_two (World.grownBy_alloc W (.cells (entA e) 26) none) hg); clear HG; have HG := HG1; clear hg)
  go_ret
  exact ⟨rfl, HG.out⟩
theorem fn_ctx (e : Ent) (ctx : Int) (b1 : Nat) (W : World) (c1 : W.cell? ⟨b1, 0, none⟩ = some (.int .i64 ctx)) : Calls Try.prog 95 #[.agg (entA e), .pointer (some ⟨b1, 0, none⟩)] W fun x W' => x = .returned (.bool (ctxB ctx e)) ∧ W.grownBy W' none := by
  have hu := Try.underlying26
  have hu2 := Try.underlying24
  have c1' := cell_grown c1 (World.grownBy_alloc W (.cells (entA e) 26) none)
  cases hg : e.f4.f4 with
  | true =>
    have HB := Aside0.mk (show ctxB ctx e = false by unfold ctxB; rw [hg]; rfl)
    have HGl := Aside0.mk hg
    go_enter Try.func95, Try.ntmps95
    go_wp2
    go_ret
    exact ⟨by rw [HB.out]; rfl, World.grownBy_alloc W _ none⟩
  | false =>
    have HB := Aside0.mk (show ctxB ctx e = (e.f1 == ctx) by unfold ctxB; rw [hg]; rfl)
    go_enter Try.func95, Try.ntmps95
    go_wp2
    go_ret
    exact ⟨by rw [HB.out]; rfl, World.grownBy_alloc W _ none⟩
end
end Go.Proofs.Ythclbckkfgmbaaa.QTlbPlays
