/- take: the first run that is free is taken, or none is; at whatever numbers. -/
import Derived.Test.YtjnffegjpkbjmaaFr4
import Derived.OrdersIn
import Derived.OrdersHeld
import Derived.OwnWalkIn
import Derived.RangeFuncCalls
import Derived.RangeFuncSeq
import Derived.RangeFuncNested
import Derived.RangeFuncBound
import Derived.RangeFuncLeaves
import Derived.Shelf.Abstract
import Derived.Shelf.RegionOpen
import Derived.WalkKit
import Derived.TacticsInMore
import Derived.LoopNIn
import Derived.LoopIn
import Derived.RangeFuncFrom
/- merged: Fr5 -/
/- merged: FrRng -/
namespace Go.Proofs.Ytjnffegjpkbjmaa.QFramesPlays
open Go.Proofs.Ytjnffegjpkbjmaa.QTsbPlays
open Go.RowKit Go.Proofs.YtjnffegjpkbjmaaW.PrintWords Go.Proofs.YtjnffegjpkbjmaaW.PrintLast Go.Proofs.YtjnffegjpkbjmaaW.PrintMore
set_option linter.unusedSimpArgs false
set_option linter.unusedVariables false
section
variable {F : Fence} {n : Nat} {P : Program} {ops : Array Oper} {Q : Exit → Act → World → Prop} {md : Region.Mode} {S : World → Prop} {ds : List Nat}
/-- The fence lets in every function, and has no depth. -/
structure Wd (F : Fence) : Prop where
  fn : ∀ f, F.fn f
  depth : F.depth = none
  calls : ∀ {n : Nat} {P : Program} {f : FuncId} {args : Array Value} {w : World} {R : Ending → World → Prop}, Calls P f args w R → CallsIn F n P f args w R
theorem wd_wide : Wd Fence.wide := ⟨fun _ => trivial, rfl, fun h => callsIn_wide.2 h⟩
theorem YieldsIf.wpOpIn {i : Nat} {o : Oper} {v : Value} {a : Act} (hF : Wd F) (hnd : ∀ c, o.op ≠ .defer c) (hi : ops[i]? = some o) (hy : YieldsIf P ops S o v a)
    {K : Act → World → Prop} {w : World} (hS : S w) (h : K (a.put o.dst v) w) : wpOpIn F n P ops Q i K a w := by
  unfold Go.wpOpIn
  simp only [hi]
  rcases hy with ⟨hw, hv⟩ | ⟨hw, rfl⟩
  · simp only [hw, if_true, Oper.wpIn, Oper.semAt_plain F _ _ hnd, hv w hS, Oper.uponIn]
    exact ⟨fun f _ => hF.fn f, h⟩
  · simp only [hw, Bool.false_eq_true, if_false]
    exact ⟨fun f _ => hF.fn f, h⟩
theorem wpOpIn_putIf {j : Nat} {oi oj : Oper} {v : Value} (hF : Wd F) (hnd : ∀ c, oj.op ≠ .defer c) (hj : ops[j]? = some oj) (hap : oi.apart ops oj = true)
    (hsi : ∀ cs b, oi.op ≠ .select cs b) (hsj : ∀ cs b, oj.op ≠ .select cs b)
    (hQ : ∀ c a w, Q (.panic c) (a.put oi.dst v) w → Q (.panic c) a w) {K : Act → World → Prop} {a : Act} {w : World}
    (hy : YieldsIf P ops S oi v a) (h : wpOpIn F n P ops Q j K (a.put oi.dst v) w) :
    wpOpIn F n P ops Q j (fun a' w' => YieldsIf P ops S oi v a' ∧ K (a'.put oi.dst v) w') a w := by
  obtain ⟨h1, h2, h3⟩ := Oper.apart_spec hap
  have keep : ∀ (a : Act), YieldsIf P ops S oi v a → ∀ u, YieldsIf P ops S oi v (a.put oj.dst u) := fun a hy u =>
    hy.of_same (execOp_put oi hsi a oj.dst u h3) (wanted_put oi a oj.dst u h3)
  have keepD : ∀ d, YieldsIf P ops S oi v { a with defers := d :: a.defers } := fun d => hy.of_same rfl rfl
  unfold wpOpIn at *
  simp only [hj] at *
  rw [wanted_put oj a oi.dst v h1] at h
  split
  · rename_i hw
    simp only [hw, if_true] at h
    unfold Oper.wpIn at *
    refine ⟨fun f _ => hF.fn f, ?_⟩
    have h := h.2
    rw [Oper.semAt_plain F _ _ hnd, execOp_put oj hsj a oi.dst v h1] at h
    rw [Oper.semAt_plain F _ _ hnd]
    generalize (execOp a.eval oj).run P w = r at *
    cases r with
    | ok x w' =>
      cases x <;> simp only [Oper.uponIn] at h ⊢
      case value u => exact ⟨keep a hy u, by rw [← Act.put_comm a v u h2]; exact h⟩
      case skip => exact ⟨keep a hy _, by rw [← Act.put_comm a v undef h2]; exact h⟩
      case defer d =>
        refine ⟨keep _ (keepD d) _, ?_⟩
        rw [← Act.put_comm _ v undef h2, ← Act.put_defers]
        exact h
      case enter f args =>
        refine ⟨h.1, CallsIn.mono h.2 fun e w'' he => ?_⟩
        cases e with
        | returned u => exact ⟨keep a hy u, by rw [← Act.put_comm a v u h2]; exact he⟩
        | panicked c => exact hQ _ _ _ he
        | outgrown => exact he
      case row row args => exact ⟨h.1, RowsIn.mono h.2 fun u w'' he => ⟨keep a hy u, by rw [← Act.put_comm a v u h2]; exact he⟩⟩
      case round l f tmps assign body =>
        refine ⟨h.1, RoundIn.mono h.2 fun e w'' he => ?_⟩
        cases e with
        | returned u => exact ⟨keep a hy u, by rw [← Act.put_comm a v u h2]; exact he⟩
        | panicked c => exact hQ _ _ _ he
        | outgrown => exact he
    | halt x w' =>
      cases x <;> simp only [Oper.uponIn] at h ⊢
      case panic u => exact hQ _ _ _ h
  · rename_i hw
    simp only [hw] at h
    exact ⟨fun f _ => hF.fn f, keep a hy _, by rw [← Act.put_comm a v undef h2]; exact h.2⟩
def noDefer (ops : Array Oper) : Bool := ops.all fun o => match o.op with | .defer _ => false | _ => true
theorem noDefer_spec (h : noDefer ops = true) {j : Nat} {o : Oper} (hj : ops[j]? = some o) : ∀ c, o.op ≠ .defer c := by
  intro c hc
  obtain ⟨hlt, he⟩ := Array.getElem?_eq_some_iff.1 hj
  have h1 := Array.all_eq_true.1 h j hlt
  rw [he, hc] at h1
  cases h1
/-- Whatever order is picked from here on, and S holds behind every operation, those of ds apart. -/
def wpAnyW (F : Fence) (n : Nat) (P : Program) (md : Region.Mode) (ops : Array Oper) (Q : Exit → Act → World → Prop) (S : World → Prop) (ds : List Nat) : Nat → Array Bool → Act → World → Prop
  | 0, listed, a, w => Region.ready md ops listed = [] ∧ Q .normal a w
  | fuel + 1, listed, a, w =>
    (Region.ready md ops listed = [] → Q .normal a w) ∧
    ∀ i ∈ Region.ready md ops listed, wpOpIn F n P ops Q i (fun a' w' => (i ∉ ds → S w → S w') ∧ wpAnyW F n P md ops Q S ds fuel (listed.setIfInBounds i true) a' w') a w
theorem wpAnyIn_of_W : ∀ (fuel : Nat) (listed : Array Bool) (a : Act) (w : World), wpAnyW F n P md ops Q S ds fuel listed a w → wpAnyIn F n P md ops Q fuel listed a w
  | 0, _, _, _, h => h
  | fuel + 1, _, _, _, h => ⟨h.1, fun i hi => wpOpIn_mono (fun a' w' h' => wpAnyIn_of_W fuel _ a' w' h'.2) (h.2 i hi)⟩
theorem wpAnyW_first {i : Nat} {oi : Oper} {v : Value} (hF : Wd F) (hD : noDefer ops = true) (hi : ops[i]? = some oi) (hsel : ∀ (j : Nat) (o : Oper) cs b, ops[j]? = some o → o.op ≠ .select cs b)
    (hQ : ∀ c a w, Q (.panic c) (a.put oi.dst v) w → Q (.panic c) a w) (m : Nat) :
    ∀ (fuel : Nat) (listed : Array Bool) (a : Act) (w : World),
      (∀ j oj, ops[j]? = some oj → j ≠ i → listed.getD j true = false → (∀ e ∈ oj.after, Region.binds md e = true → e.on ≠ i) → oi.apart ops oj = true) →
      ListedClosed md ops listed → (∀ d ∈ ds, listed.getD d true = false → Region.reachB md ops i m d = true) →
      i ∈ Region.ready md ops listed → YieldsIf P ops S oi v a → S w →
      wpAnyW F n P md ops Q S ds fuel (listed.setIfInBounds i true) (a.put oi.dst v) w → wpAnyW F n P md ops Q S ds (fuel + 1) listed a w := by
  intro fuel
  induction fuel with
  | zero =>
    intro listed a w _ _ _ hr hy hS H
    refine ⟨fun h => (by rw [h] at hr; cases hr), fun j hj => ?_⟩
    by_cases hji : j = i
    · subst hji; exact YieldsIf.wpOpIn hF (noDefer_spec hD hi) hi hy hS ⟨fun _ h => h, H⟩
    · have := ready_mono hj hji
      rw [H.1] at this
      cases this
  | succ fuel ih =>
    intro listed a w hfree hc hd hr hy hS H
    refine ⟨fun h => (by rw [h] at hr; cases hr), fun j hj => ?_⟩
    by_cases hji : j = i
    · subst hji; exact YieldsIf.wpOpIn hF (noDefer_spec hD hi) hi hy hS ⟨fun _ h => h, H⟩
    · have h1 := H.2 j (ready_mono hj hji)
      obtain ⟨hjun, oj, hoj, hall⟩ := mem_ready.1 hj
      have hiun := (mem_ready.1 hr).1
      have hnot : ∀ e ∈ oj.after, Region.binds md e = true → e.on ≠ i := fun e he hb heq => by
        have h1 := hall e he hb
        rw [heq] at h1
        rcases Nat.lt_or_ge i listed.size with h' | h'
        · simp [h'] at hiun h1; rw [hiun] at h1; cases h1
        · simp [Array.getElem?_eq_none h'] at h1
      have hjd : j ∉ ds := fun hm => Region.reach_not_ready hc (hd j hm hjun) hiun hj
      have h2 := wpOpIn_putIf hF (noDefer_spec hD hoj) hoj (hfree j oj hoj hji hjun hnot) (fun cs b => hsel i oi cs b hi) (fun cs b => hsel j oj cs b hoj) hQ hy h1
      have hfree' : ∀ k ok, ops[k]? = some ok → k ≠ i → (listed.setIfInBounds j true).getD k true = false →
          (∀ e ∈ ok.after, Region.binds md e = true → e.on ≠ i) → oi.apart ops ok = true := fun k ok hk hki hun hno => by
        refine hfree k ok hk hki ?_ hno
        by_cases hjk : j = k
        · subst hjk; exact hjun
        · rw [getD_set_ne true hjk] at hun; exact hun
      have hd' : ∀ d ∈ ds, (listed.setIfInBounds j true).getD d true = false → Region.reachB md ops i m d = true := fun d hm hun => by
        refine hd d hm ?_
        by_cases hjk : j = d
        · subst hjk; exact hjun
        · rw [getD_set_ne true hjk] at hun; exact hun
      refine wpOpIn_mono (fun a' w' h3 => ⟨h3.2.1, ih (listed.setIfInBounds j true) a' w' hfree' (hc.set hj) hd' (ready_mono hr (Ne.symm hji)) h3.1 (h3.2.1 hjd hS) ?_⟩) h2
      rw [Array.setIfInBounds_comm _ _ hji]
      exact h3.2.2
theorem wpAnyW_any {i : Nat} {oi : Oper} {v : Value} (hF : Wd F) (hD : noDefer ops = true) (hi : ops[i]? = some oi) (hsel : ∀ (j : Nat) (o : Oper) cs b, ops[j]? = some o → o.op ≠ .select cs b)
    (hQ : ∀ c a w, Q (.panic c) (a.put oi.dst v) w → Q (.panic c) a w) :
    ∀ (fuel : Nat) (listed : Array Bool) (a : Act) (w : World),
      (∀ j oj, ops[j]? = some oj → j ≠ i → listed.getD j true = false → (∀ e ∈ oj.after, Region.binds md e = true → e.on ≠ i) → oi.apart ops oj = true) →
      i ∈ Region.ready md ops listed → Yields P ops oi v a →
      wpAnyW F n P md ops Q S ds fuel (listed.setIfInBounds i true) (a.put oi.dst v) w → wpAnyW F n P md ops Q S ds (fuel + 1) listed a w := by
  intro fuel
  induction fuel with
  | zero =>
    intro listed a w _ hr hy H
    refine ⟨fun h => (by rw [h] at hr; cases hr), fun j hj => ?_⟩
    by_cases hji : j = i
    · subst hji; exact YieldsIf.wpOpIn hF (noDefer_spec hD hi) hi (hy.yieldsIf (S := fun _ => True)) trivial ⟨fun _ h => h, H⟩
    · have := ready_mono hj hji
      rw [H.1] at this
      cases this
  | succ fuel ih =>
    intro listed a w hfree hr hy H
    refine ⟨fun h => (by rw [h] at hr; cases hr), fun j hj => ?_⟩
    by_cases hji : j = i
    · subst hji; exact YieldsIf.wpOpIn hF (noDefer_spec hD hi) hi (hy.yieldsIf (S := fun _ => True)) trivial ⟨fun _ h => h, H⟩
    · have h1 := H.2 j (ready_mono hj hji)
      obtain ⟨hjun, oj, hoj, hall⟩ := mem_ready.1 hj
      have hiun := (mem_ready.1 hr).1
      have hnot : ∀ e ∈ oj.after, Region.binds md e = true → e.on ≠ i := fun e he hb heq => by
        have h1 := hall e he hb
        rw [heq] at h1
        rcases Nat.lt_or_ge i listed.size with h' | h'
        · simp [h'] at hiun h1; rw [hiun] at h1; cases h1
        · simp [Array.getElem?_eq_none h'] at h1
      have h2 := wpOpIn_putIf (S := fun _ => True) hF (noDefer_spec hD hoj) hoj (hfree j oj hoj hji hjun hnot) (fun cs b => hsel i oi cs b hi) (fun cs b => hsel j oj cs b hoj) hQ hy.yieldsIf h1
      have hfree' : ∀ k ok, ops[k]? = some ok → k ≠ i → (listed.setIfInBounds j true).getD k true = false →
          (∀ e ∈ ok.after, Region.binds md e = true → e.on ≠ i) → oi.apart ops ok = true := fun k ok hk hki hun hno => by
        refine hfree k ok hk hki ?_ hno
        by_cases hjk : j = k
        · subst hjk; exact hjun
        · rw [getD_set_ne true hjk] at hun; exact hun
      have back : ∀ {a : Act}, YieldsIf P ops (fun _ => True) oi v a → Yields P ops oi v a := fun h => h.imp (fun x => ⟨x.1, fun w => x.2 w trivial⟩) id
      refine wpOpIn_mono (fun a' w' h3 => ⟨h3.2.1, ih (listed.setIfInBounds j true) a' w' hfree' (ready_mono hr (Ne.symm hji)) (back h3.1) ?_⟩) h2
      rw [Array.setIfInBounds_comm _ _ hji]
      exact h3.2.2
theorem startW {id m : Nat} {a : Act} {w : World} (l : Array Bool) (hm : P.follows .mixedOrders = true) (hn : ops.size = m) (hl : Array.replicate m false = l) (hS : S w.drew)
    (h : S w.drew → wpAnyW F n P .any ops Q S ds m l a w.drew) : (Code.region id ops true).wpIn F n P Q a w := by
  subst hn
  subst hl
  exact wpIn_region_any hm (wpAnyIn_of_W _ _ _ _ (h hS))
theorem withW {T : Bool × List (List Nat × List Nat)} {m : Nat} {l : Array Bool} {a : Act} {w : World} (hT : rtab md ops = T) (hD : noDefer ops = true) (h : Aside0 (rtab md ops = T) → Aside0 (noDefer ops = true) → wpAnyW F n P md ops Q S ds m l a w) : wpAnyW F n P md ops Q S ds m l a w := h ⟨hT⟩ ⟨hD⟩
/-- An operation that yields in every world: taken first. -/
theorem pureW {i : Nat} {N : Option Tmp} {oi : Oper} {v : Value} {fuel : Nat} {l : Array Bool} {a : Act} {w : World} (hF : Wd F) (hD : noDefer ops = true) (l' : Array Bool) (hi : ops[i]? = some oi) (hN : oi.dst = N) (hc : anyB md ops l l' i = true)
    (hQ : ∀ c a w, Q (.panic c) (a.put oi.dst v) w → Q (.panic c) a w) (hy : Yields P ops oi v a) {a' : Act} (ha : a.put N v = a')
    (h : wpAnyW F n P md ops Q S ds fuel l' a' w) : wpAnyW F n P md ops Q S ds (fuel + 1) l a w := by
  subst ha
  subst hN
  simp only [anyB, Bool.and_eq_true, beq_iff_eq] at hc
  obtain ⟨⟨⟨h1, h2⟩, h3⟩, h6⟩ := hc
  subst h6
  exact wpAnyW_any hF hD hi (Region.noSelect_spec h1) hQ fuel l a w (Region.free_spec hi h2) (by simpa using h3) hy h
/-- An operation that yields in every world that meets S: taken first. -/
theorem takeW {i : Nat} {N : Option Tmp} {oi : Oper} {v : Value} {fuel : Nat} {l : Array Bool} {a : Act} {w : World} (hF : Wd F) (hD : noDefer ops = true) (l' : Array Bool) (hi : ops[i]? = some oi) (hN : oi.dst = N) (hc : takeB md ops ds l l' i = true)
    (hQ : ∀ c a w, Q (.panic c) (a.put oi.dst v) w → Q (.panic c) a w) (hy : YieldsIf P ops S oi v a) (hS : S w) {a' : Act} (ha : a.put N v = a')
    (h : wpAnyW F n P md ops Q S ds fuel l' a' w) : wpAnyW F n P md ops Q S ds (fuel + 1) l a w := by
  subst ha
  subst hN
  simp only [takeB, Bool.and_eq_true, beq_iff_eq] at hc
  obtain ⟨⟨⟨⟨⟨h1, h2⟩, h3⟩, h4⟩, h5⟩, h6⟩ := hc
  subst h6
  exact wpAnyW_first hF hD hi (Region.noSelect_spec h1) hQ ops.size fuel l a w (Region.free_spec hi h2) (Region.closedB_spec h4)
    (fun d hm hun => by have := List.all_eq_true.1 h5 d hm; rw [hun] at this; simpa using this) (by simpa using h3) hy hS h
theorem oneW {i : Nat} {N : Option Tmp} {oi : Oper} {fuel : Nat} {l : Array Bool} {a : Act} {w : World} (hF : Wd F) (l' : Array Bool) (hi : ops[i]? = some oi) (hN : oi.dst = N) (hc : readyB md ops l l' i = true)
    (h : ∀ K : Act → World → Prop, Shut (∀ a' w', (i ∉ ds → S w → S w') → wpAnyW F n P md ops Q S ds fuel l' a' w' → K a' w') → if Region.wanted oi (yielded ops a.tmps) = true then Oper.wpIn F n P oi a w K Q else K (a.put N undef) w) :
    wpAnyW F n P md ops Q S ds (fuel + 1) l a w := by
  subst hN
  simp only [readyB, Bool.and_eq_true, beq_iff_eq] at hc
  obtain ⟨h1, h2⟩ := hc
  subst h2
  refine ⟨fun h0 => (by rw [h1] at h0; cases h0), fun j hj => ?_⟩
  rw [h1] at hj
  obtain rfl : j = i := by simpa using hj
  have h3 := h (fun a' w' => (j ∉ ds → S w → S w') ∧ wpAnyW F n P md ops Q S ds fuel (l.setIfInBounds j true) a' w') (fun a' w' hS hW => ⟨hS, hW⟩)
  unfold wpOpIn
  simp only [hi]
  split
  · rename_i hw
    rw [if_pos hw] at h3
    exact h3
  · rename_i hw
    rw [if_neg hw] at h3
    exact ⟨fun f _ => hF.fn f, h3⟩
theorem doneW {l : Array Bool} {a : Act} {w : World} {m : Nat} (hr : (Region.ready md ops l == []) = true) (h : Q .normal a w) : wpAnyW F n P md ops Q S ds m l a w := by
  have hr' : Region.ready md ops l = [] := by simpa using hr
  cases m with
  | zero => exact ⟨hr', h⟩
  | succ m => exact ⟨fun _ => h, by rw [hr']; simp⟩
theorem normW {fuel : Nat} {l : Array Bool} {a a' : Act} {w : World} (ha : a = a') (h : wpAnyW F n P md ops Q S ds fuel l a' w) : wpAnyW F n P md ops Q S ds fuel l a w := by
  subst ha
  exact h
/-- A call of a Go function, by its contract. -/
theorem goesW {oi : Oper} {N : Option Tmp} {a : Act} {w : World} {K : Act → World → Prop} {f : FuncId} {fn : Func} {xs : Array Operand} {ts : Array TypeId} (hF : Wd F) (hf : P.funcs[f]? = some fn) (hname : (fn.name == "runtime.NumGoroutine") = false) (hb : fn.body.isSome = true) (args : Array Value)
    (hw : Region.wanted oi (yielded ops a.tmps) = true) (hN : oi.dst = N) (hop : oi.op = .call { callee := .value (.func f), args := xs, argTypes := ts }) (hargs : xs.map a.eval = args)
    (h : Calls P f args w fun e w' => ∃ v, e = .returned v ∧ K (a.put N v) w') : if Region.wanted oi (yielded ops a.tmps) = true then Oper.wpIn F n P oi a w K Q else K (a.put N undef) w := by
  rw [if_pos hw]
  subst hN
  have he := enters_ hf hname hb args w
  have hrun : (execOp a.eval oi).run P w = .ok (.enter f args) w := by
    unfold execOp
    simp [hop, resolve, Deferred.ofValue, invoke, Act.eval, hargs, he]
  unfold Oper.wpIn
  refine ⟨fun f _ => hF.fn f, ?_⟩
  rw [Oper.semAt_plain F _ _ (by rw [hop]; intro c hc; cases hc), hrun, Oper.uponIn_enter]
  refine ⟨fun h0 => (by rw [hF.depth] at h0; cases h0), (hF.calls h).mono fun e w'' hh => ?_⟩
  obtain ⟨v, rfl, hk⟩ := hh
  exact hk
/-- A call of yield. -/
theorem yieldW {oi : Oper} {N : Option Tmp} {a : Act} {w : World} {K : Act → World → Prop} {t : Operand} {xs : Array Operand} {ts : Array TypeId} {l : Nat} (hF : Wd F) (args : Array Value)
    (hw : Region.wanted oi (yielded ops a.tmps) = true) (hN : oi.dst = N) (hop : oi.op = .call { callee := .value t, args := xs, argTypes := ts }) (ht : a.eval t = .func (.yield l) #[] #[]) (hargs : xs.map a.eval = args)
    (h : YieldAt F (n - 1) P l args w fun e w' => ∃ v, e = .returned v ∧ K (a.put N v) w') : if Region.wanted oi (yielded ops a.tmps) = true then Oper.wpIn F n P oi a w K Q else K (a.put N undef) w := by
  rw [if_pos hw]
  subst hN
  obtain ⟨fn, tmps, assign, body, hy, hR⟩ := h
  have hrun : (execOp a.eval oi).run P w = .ok (.round l fn tmps assign body) w := by
    unfold execOp
    simp [hop, resolve, Deferred.ofValue, invoke, ht, hargs, hy]
  unfold Oper.wpIn
  refine ⟨fun f _ => hF.fn f, ?_⟩
  rw [Oper.semAt_plain F _ _ (by rw [hop]; intro c hc; cases hc), hrun, Oper.uponIn_round]
  refine ⟨fun h0 => (by rw [hF.depth] at h0; cases h0), hR.mono fun e w'' hh => ?_⟩
  obtain ⟨v, rfl, hk⟩ := hh
  exact hk
end
end Go.Proofs.Ytjnffegjpkbjmaa.QFramesPlays
namespace Go.Proofs.Ytjnffegjpkbjmaa.QFramesPlays
open Go.Proofs.Ytjnffegjpkbjmaa.QTsbPlays
open Go.RowKit Go.Shelf Go.Proofs.YtjnffegjpkbjmaaW.PrintWords Go.Proofs.YtjnffegjpkbjmaaW.PrintLast Go.Proofs.YtjnffegjpkbjmaaW.PrintMore
attribute [local go_sem] Oper.semAt_some
set_option linter.unusedSimpArgs false
set_option linter.unusedVariables false
section
set_option maxHeartbeats 1000000
set_option maxRecDepth 100000
noncomputable def runs3_T : Bool × List (List Nat × List Nat) := rtab .any (opsOf Try.f132 3)
theorem runs3_tab : rtab .any (opsOf Try.f132 3) = runs3_T := rfl
theorem grown_drew (W : World) (row : Option Nat) : W.grownBy W.drew row := ⟨rfl, rfl, rfl, Nat.le_refl _, fun _ _ _ => rfl⟩
theorem cell_lt {w : World} {a : Addr} {v : Value} (h : w.cell? a = some v) : a.block < w.heap.size := by
  unfold World.cell? at h
  split at h
  · rename_i hb
    exact blk_lt hb
  · cases h
theorem YieldAt.mono {F : Fence} {m : Nat} {P : Program} {l : Nat} {args : Array Value} {W : World} {R R' : Ending → World → Prop} (h : YieldAt F m P l args W R) (hr : ∀ e w', R e w' → R' e w') : YieldAt F m P l args W R' := by
  obtain ⟨fn, tmps, assign, body, hy, hR⟩ := h
  exact ⟨fn, tmps, assign, body, hy, hR.mono hr⟩
/-- The first free run. -/
def First (ts : List Bool) (n each x : Nat) : Prop := ∃ j, x = j * each ∧ x + n ≤ ts.length ∧ FreeIn ts x n ∧ ∀ j', j' < j → ¬ FreeIn ts (j' * each) n
/-- Where a run is wholly there. -/
abbrev Run (ts : List Bool) (n : Nat) := { x : Nat // x + n ≤ ts.length }
def SDone (ts : List Bool) (n each : Nat) (xs : List (Run ts n)) : Prop := xs = [] → ∀ j, j * each + n ≤ ts.length → ¬ FreeIn ts (j * each) n
def SStop (ts : List Bool) (n each : Nat) (xs : List (Run ts n)) : Prop := ∀ x rest, xs = x :: rest → First ts n each x.1
/-- What has come ahead of the multiple j. -/
def Came (ts : List Bool) (n each j : Nat) (pre : List (Run ts n)) : Prop := pre.length ≤ j ∧ (pre = [] → ∀ j', j' < j → ¬ FreeIn ts (j' * each) n) ∧ SStop ts n each pre
theorem Came.no {ts n each j pre} (h : Came ts n each j pre) (hf : ¬ FreeIn ts (j * each) n) : Came ts n each (j + 1) pre := ⟨Nat.le_succ_of_le h.1, fun e j' hj' => by
  by_cases c : j' < j
  · exact h.2.1 e j' c
  · obtain rfl : j' = j := by omega
    exact hf, h.2.2⟩
theorem Came.yes {ts n each j i pre} (h : Came ts n each j pre) (hi : i = j * each) (hl : i + n ≤ ts.length) (hf : FreeIn ts i n) : Came ts n each (j + 1) (pre ++ [⟨i, hl⟩]) := ⟨by have := h.1; simp; omega, fun e => by simp at e, fun x rest e => by
  cases pre with
  | nil =>
    obtain ⟨rfl, _⟩ : (⟨i, hl⟩ : Run ts n) = x ∧ [] = rest := by simpa using e
    exact ⟨j, hi, hl, hf, h.2.1 rfl⟩
  | cons y l =>
    obtain ⟨rfl, _⟩ : y = x ∧ _ := by simpa using e
    exact h.2.2 _ _ rfl⟩
theorem Came.done {ts n each j pre} (h : Came ts n each j pre) (hl : ¬ j * each + n ≤ ts.length) : SDone ts n each pre := fun e j' hj' => h.2.1 e j' (by
  by_cases c : j' < j
  · exact c
  · exfalso
    have : j * each ≤ j' * each := Nat.mul_le_mul_right _ (by omega)
    omega)
theorem Fr.later {B w0 p r ts free W W' m} (h : Fr B w0 p r ts free W) (hm : p < m) (hb : Below m W W') : Fr B w0 p r ts free W' := by
  have hrp := h.rp
  exact ⟨h.below.trans (hb.mono (Nat.le_trans h.hr (Nat.le_of_lt (Nat.lt_trans hrp hm)))), h.hr, h.hp, (hb.block p hm).trans h.row, (hb.block r (Nat.lt_trans hrp hm)).trans h.bits, h.len⟩
theorem below_more {W W1 W2 : World} {m : Nat} (h : Below m W W1) (hg : W1.grownBy W2 none) (hm : m ≤ W.heap.size) : Below m W W2 := h.grown hg (Nat.le_trans hm h.size) (fun _ e => by cases e)
theorem runs_stops {B w0 p r ts free w} (h : Fr B w0 p r ts free w) (b1 b2 b3 n each : Nat) (hn : 1 ≤ n) (he : 1 ≤ each) (he2 : each ≤ 70000) (k1 : w.cell? ⟨b1, 0, none⟩ = some (.pointer (some ⟨p, 0, none⟩))) (k2 : w.cell? ⟨b2, 0, none⟩ = some (.int .i64 n)) (k3 : w.cell? ⟨b3, 0, none⟩ = some (.int .i64 each)) :
    SeqStopsK Fence.wide 3 Try.prog 132 #[.pointer (some ⟨b1, 0, none⟩), .pointer (some ⟨b2, 0, none⟩), .pointer (some ⟨b3, 0, none⟩)] (fun x : Run ts n => #[.int .i64 (x.1 : Nat)]) (Below w.heap.size) (SDone ts n each) (SStop ts n each) 70000 w := by
  intro l J Jx W hW hJ hJx hY h0
  refine callsIn_of_wp Try.func132 rfl trivial ?_ rfl
  simp only [Try.ntmps132, List.size_toArray, List.length_cons, List.length_nil, Nat.reduceAdd, Nat.reduceSub, Array.replicate_succ, Array.replicate_zero, List.push_toArray, List.append_toArray, List.nil_append, List.cons_append]
  have hRg : ∀ {pre W1 W2}, J pre W1 → W1.grownBy W2 none → J pre W2 := fun hj hg => hJ _ _ _ none hj hg (fun _ e => by cases e)
  have HRG := Aside0.mk (@hRg)
  clear hRg
  have HY := Aside0.mk hY
  have hl := h.len
  have HP := Aside0.mk h.lt
  have HM := Aside0.mk (h.later h.lt hW)
  have HK := Aside0.mk hW
  have HC := Aside0.mk (And.intro k1 (And.intro k2 k3))
  have HJ0 := Aside0.mk h0
  clear h k1 k2 k3 hJ hJx hY h0 hW
  have kc : ∀ {a : Addr} {v : Value} {wr : World}, Below w.heap.size w wr → w.cell? a = some v → wr.cell? a = some v := fun {a v wr} hG hc => (hG.cell (cell_lt hc)).trans hc
  gi_wp2
  gi_loopw [5] (fun v5 wr => ∃ (j i : Nat) (pre : List (Run ts n)), v5 = .int .i64 i ∧ i ≤ ts.length + each ∧ Aside0 (i = j * each) ∧ Aside0 (Came ts n each j pre) ∧ Aside0 (Fr B w0 p r ts free wr) ∧ Aside0 (Below w.heap.size w wr) ∧ Aside0 (J pre wr)) (fun v5 _ => ts.length + each + 1 - (intOf v5).toNat)
  case atStart => exact ⟨0, 0, [], by simp, by omega, ⟨by simp⟩, ⟨by simp [Came, SStop]⟩, HM, HK, HJ0⟩
  case round =>
    clear HM HK HJ0
    obtain ⟨j, i, pre, rfl, hj, HJ, HN, HM, HG, HJ0⟩ := hrel
    have k1 := kc HG.out HC.out.1
    have k2 := kc HG.out HC.out.2.1
    have k3 := kc HG.out HC.out.2.2
    by_cases hin : i + n ≤ ts.length
    · have HI := Aside0.mk (show inOf ts (i : Int) n = true by unfold inOf; exact decide_eq_true ⟨by omega, by omega, by omega⟩)
      gi_wp2_with (refine ⟨trivial, ?_⟩; gi_at_call 133; refine (callsIn_wide.2 (fr_in_eq HM.out _ _ _ HI.out)).mono ?_; rintro e w1 ⟨rfl, hM, hg⟩; have HG1 := Aside0.mk (below_more HG.out hg (Nat.le_refl _)); have HJ1 := Aside0.mk (HRG.out HJ0.out hg); have HM1 := Aside0.mk hM; clear hM hg HM HG HJ0)
      have j1 := kc HG1.out HC.out.1
      have j2 := kc HG1.out HC.out.2.1
      have HM2 := Aside0.mk (HM1.out.same (grown_drew w1 _))
      have HG2 := Aside0.mk (below_more HG1.out (grown_drew w1 none) (Nat.le_refl _))
      have HJ2 := Aside0.mk (HRG.out HJ1.out (grown_drew w1 none))
      refine startW (m := 12) (S := fun w' => w'.cell? ⟨b1, 0, none⟩ = some (.pointer (some ⟨p, 0, none⟩)) ∧ w'.cell? ⟨b2, 0, none⟩ = some (.int .i64 n)) (ds := [9]) #[false, false, false, false, false, false, false, false, false, false, false, false] (by kernel_rfl) rfl rfl ⟨(World.cell?_of_block (w := w1) rfl).trans j1, (World.cell?_of_block (w := w1) rfl).trans j2⟩ (fun hHeld => ?_)
      refine withW runs3_tab (by kernel_rfl) (fun HT_ HD_ => ?_)
      refine takeW (i := 0) (N := some 13) (v := ?_) (a' := ?_) wd_wide HD_.out #[true, false, false, false, false, false, false, false, false, false, false, false] rfl rfl (take_of HT_.out (by kernel_rfl)) (fun _ _ _ h => h) (Or.inl ⟨by rfl, ?_⟩) hHeld ?_ ?_
      rotate_left
      · rintro w' ⟨s1, s2⟩
        go_simp
        with_reducible rfl
      rotate_left
      · simp only [Act.put, List.setIfInBounds_toArray, List.set_cons_zero, List.set_cons_succ, i64_w, i32_w]
        rfl
      refine takeW (i := 2) (N := some 15) (v := ?_) (a' := ?_) wd_wide HD_.out #[true, false, true, false, false, false, false, false, false, false, false, false] rfl rfl (take_of HT_.out (by kernel_rfl)) (fun _ _ _ h => h) (Or.inl ⟨by rfl, ?_⟩) hHeld ?_ ?_
      rotate_left
      · rintro w' ⟨s1, s2⟩
        go_simp
        with_reducible rfl
      rotate_left
      · simp only [Act.put, List.setIfInBounds_toArray, List.set_cons_zero, List.set_cons_succ, i64_w, i32_w]
        rfl
      refine takeW (i := 4) (N := some 17) (v := ?_) (a' := ?_) wd_wide HD_.out #[true, false, true, false, true, false, false, false, false, false, false, false] rfl rfl (take_of HT_.out (by kernel_rfl)) (fun _ _ _ h => h) (Or.inl ⟨by rfl, ?_⟩) hHeld ?_ ?_
      rotate_left
      · rintro w' ⟨s1, s2⟩
        go_simp
        with_reducible rfl
      rotate_left
      · simp only [Act.put, List.setIfInBounds_toArray, List.set_cons_zero, List.set_cons_succ, i64_w, i32_w]
        rfl
      refine pureW (i := 1) (N := some 14) (v := ?_) (a' := ?_) wd_wide HD_.out #[true, true, true, false, true, false, false, false, false, false, false, false] rfl rfl (any_of HT_.out (by kernel_rfl)) (fun _ _ _ h => h) (Or.inl ⟨by rfl, ?_⟩) ?_ ?_
      rotate_left
      · intro w'
        go_simp
        with_reducible rfl
      rotate_left
      · simp only [Act.put, List.setIfInBounds_toArray, List.set_cons_zero, List.set_cons_succ, i64_w, i32_w]
        rfl
      refine oneW (i := 3) (N := some 16) wd_wide #[true, true, true, true, true, false, false, false, false, false, false, false] rfl rfl (one_of HT_.out (by kernel_rfl)) (fun K hK => ?_)
      refine goesW wd_wide Try.func134 (by kernel_rfl) rfl #[.pointer (some ⟨p, 0, none⟩), .int .i64 i, .int .i64 n] (by rfl) rfl rfl (by (try simp only [List.map_toArray, List.map_cons, List.map_nil]); first | done | rfl) ?_
      refine (fr_open HM2.out i n (by omega) (by omega)).mono ?_
      rintro e w2 ⟨k, rfl, hk, hF, hS, hM, hg⟩
      have HG3 := Aside0.mk (below_more HG2.out hg (Nat.le_refl _))
      have HJ3 := Aside0.mk (HRG.out HJ2.out hg)
      have HM3 := Aside0.mk hM
      have HF := Aside0.mk hF
      have HS := Aside0.mk hS
      have hh := hHeld
      have q1 := (World.cell?_of_block (w := w1.drew) (a := ⟨b1, 0, none⟩) (hg.block b1 (cell_lt hh.1) (by simp))).trans hh.1
      have q2 := (World.cell?_of_block (w := w1.drew) (a := ⟨b2, 0, none⟩) (hg.block b2 (cell_lt hh.2) (by simp))).trans hh.2
      clear hM hg hF hS hh HM2 HG2 HJ2
      refine ⟨_, rfl, ?_⟩
      refine hK.out _ _ (fun _ _ => ⟨q1, q2⟩) ?_
      clear hK K
      refine normW (a' := ?_) ?_ ?_
      rotate_left
      · show Act.put _ (some 16) _ = _
        simp only [Act.put, List.setIfInBounds_toArray, List.set_cons_zero, List.set_cons_succ, i64_w, i32_w]
        rfl
      by_cases hkn : k = n
      · obtain rfl : n = k := hkn.symm
        have HNL := Aside0.mk (show pre.length < 70000 from by
          have h1 := HN.out.1
          have h2 : j * 1 ≤ j * each := Nat.mul_le_mul_left _ he
          have h3 := HJ.out
          omega)
        have HC2 := Aside0.mk (HN.out.yes HJ.out hin HF.out)
        refine pureW (i := 5) (N := some 18) (v := ?_) (a' := ?_) wd_wide HD_.out #[true, true, true, true, true, true, false, false, false, false, false, false] rfl rfl (any_of HT_.out (by kernel_rfl)) (fun _ _ _ h => h) (Or.inl ⟨by rfl, ?_⟩) ?_ ?_
        rotate_left
        · intro w'
          go_simp
          with_reducible rfl
        rotate_left
        · simp only [Act.put, List.setIfInBounds_toArray, List.set_cons_zero, List.set_cons_succ, i64_w, i32_w]
          rfl
        refine pureW (i := 6) (N := some 19) (v := ?_) (a' := ?_) wd_wide HD_.out #[true, true, true, true, true, true, true, false, false, false, false, false] rfl rfl (any_of HT_.out (by kernel_rfl)) (fun _ _ _ h => h) (Or.inl ⟨by rfl, ?_⟩) ?_ ?_
        rotate_left
        · intro w'
          go_simp
          with_reducible rfl
        rotate_left
        · simp only [Act.put, List.setIfInBounds_toArray, List.set_cons_zero, List.set_cons_succ, i64_w, i32_w]
          rfl
        refine pureW (i := 7) (N := some 20) (v := ?_) (a' := ?_) wd_wide HD_.out #[true, true, true, true, true, true, true, true, false, false, false, false] rfl rfl (any_of HT_.out (by kernel_rfl)) (fun _ _ _ h => h) (Or.inl ⟨by rfl, ?_⟩) ?_ ?_
        rotate_left
        · intro w'
          go_simp
          with_reducible rfl
        rotate_left
        · simp only [Act.put, List.setIfInBounds_toArray, List.set_cons_zero, List.set_cons_succ, i64_w, i32_w]
          rfl
        refine pureW (i := 8) (N := some 21) (v := ?_) (a' := ?_) wd_wide HD_.out #[true, true, true, true, true, true, true, true, true, false, false, false] rfl rfl (any_of HT_.out (by kernel_rfl)) (fun _ _ _ h => h) (Or.inl ⟨by rfl, ?_⟩) ?_ ?_
        rotate_left
        · intro w'
          go_simp
          with_reducible rfl
        rotate_left
        · simp only [Act.put, List.setIfInBounds_toArray, List.set_cons_zero, List.set_cons_succ, i64_w, i32_w]
          rfl
        refine oneW (i := 9) (N := some 22) wd_wide #[true, true, true, true, true, true, true, true, true, true, false, false] rfl rfl (one_of HT_.out (by kernel_rfl)) (fun K hK => ?_)
        refine yieldW wd_wide #[.int .i64 i] (by rfl) rfl rfl (by rfl) (by (try simp only [List.map_toArray, List.map_cons, List.map_nil]); first | done | rfl) ?_
        refine YieldAt.mono (HY.out pre ⟨i, hin⟩ _ HJ3.out HNL.out) ?_
        rintro e w3 (⟨rfl, hX, hY3⟩ | ⟨rfl, hX⟩)
        · have HX := Aside0.mk hX
          have HG4 := Aside0.mk (HG3.out.trans hY3)
          have HM4 := Aside0.mk (HM3.out.later HP.out hY3)
          clear hX hY3
          refine ⟨_, rfl, ?_⟩
          refine hK.out _ _ (fun hn _ => absurd (by simp) hn) ?_
          clear hK K
          refine normW (a' := ?_) ?_ ?_
          rotate_left
          · show Act.put _ (some 22) _ = _
            simp only [Act.put, List.setIfInBounds_toArray, List.set_cons_zero, List.set_cons_succ, i64_w, i32_w]
            rfl
          refine pureW (i := 10) (N := some 23) (v := ?_) (a' := ?_) wd_wide HD_.out #[true, true, true, true, true, true, true, true, true, true, true, false] rfl rfl (any_of HT_.out (by kernel_rfl)) (fun _ _ _ h => h) (Or.inl ⟨by rfl, ?_⟩) ?_ ?_
          rotate_left
          · intro w'
            go_simp
            with_reducible rfl
          rotate_left
          · simp only [Act.put, List.setIfInBounds_toArray, List.set_cons_zero, List.set_cons_succ, i64_w, i32_w]
            rfl
          refine pureW (i := 11) (N := some 24) (v := ?_) (a' := ?_) wd_wide HD_.out #[true, true, true, true, true, true, true, true, true, true, true, true] rfl rfl (any_of HT_.out (by kernel_rfl)) (fun _ _ _ h => h) (Or.inl ⟨by rfl, ?_⟩) ?_ ?_
          rotate_left
          · intro w'
            go_simp
            with_reducible rfl
          rotate_left
          · simp only [Act.put, List.setIfInBounds_toArray, List.set_cons_zero, List.set_cons_succ, i64_w, i32_w]
            rfl
          refine doneW (done_of HT_.out (by kernel_rfl)) ?_
          have k1 := kc HG4.out HC.out.1
          have k3 := kc HG4.out HC.out.2.2
          gi_wp2
          go_roundw
          case rel => exact ⟨j + 1, i + each, pre ++ [⟨i, hin⟩], by go_num, by omega, ⟨by rw [Nat.succ_mul, HJ.out]⟩, HC2, HM4, HG4, HX⟩
          case measure => simp [intOf]; omega
        · have HX := Aside0.mk hX
          clear hX
          refine ⟨_, rfl, ?_⟩
          refine hK.out _ _ (fun hn _ => absurd (by simp) hn) ?_
          clear hK K
          refine normW (a' := ?_) ?_ ?_
          rotate_left
          · show Act.put _ (some 22) _ = _
            simp only [Act.put, List.setIfInBounds_toArray, List.set_cons_zero, List.set_cons_succ, i64_w, i32_w]
            rfl
          refine pureW (i := 10) (N := some 23) (v := ?_) (a' := ?_) wd_wide HD_.out #[true, true, true, true, true, true, true, true, true, true, true, false] rfl rfl (any_of HT_.out (by kernel_rfl)) (fun _ _ _ h => h) (Or.inl ⟨by rfl, ?_⟩) ?_ ?_
          rotate_left
          · intro w'
            go_simp
            with_reducible rfl
          rotate_left
          · simp only [Act.put, List.setIfInBounds_toArray, List.set_cons_zero, List.set_cons_succ, i64_w, i32_w]
            rfl
          refine pureW (i := 11) (N := some 24) (v := ?_) (a' := ?_) wd_wide HD_.out #[true, true, true, true, true, true, true, true, true, true, true, true] rfl rfl (any_of HT_.out (by kernel_rfl)) (fun _ _ _ h => h) (Or.inl ⟨by rfl, ?_⟩) ?_ ?_
          rotate_left
          · intro w'
            go_simp
            with_reducible rfl
          rotate_left
          · simp only [Act.put, List.setIfInBounds_toArray, List.set_cons_zero, List.set_cons_succ, i64_w, i32_w]
            rfl
          refine doneW (done_of HT_.out (by kernel_rfl)) ?_
          gi_wp2
          refine bodyPost_ret (results_none rfl _ _ _) rfl ?_
          exact ⟨⟨_, rfl⟩, .inr ⟨pre ++ [⟨i, hin⟩], HC2.out.2.2, HX.out⟩⟩
      · have hd : ((k : Int) == (n : Int)) = false := by rw [beq_eq_false_iff_ne]; omega
        have HN2 := Aside0.mk (show ¬ FreeIn ts i n from fun x => by
          rcases HS.out with h1 | h1 | h1
          · exact hkn h1
          · have := (x k (by omega)).1
            omega
          · have := (x k (by omega)).2
            rw [h1] at this
            cases this)
        refine pureW (i := 5) (N := some 18) (v := ?_) (a' := ?_) wd_wide HD_.out #[true, true, true, true, true, true, false, false, false, false, false, false] rfl rfl (any_of HT_.out (by kernel_rfl)) (fun _ _ _ h => h) (Or.inl ⟨by rfl, ?_⟩) ?_ ?_
        rotate_left
        · intro w'
          go_simp
          with_reducible rfl
        rotate_left
        · simp only [Act.put, List.setIfInBounds_toArray, List.set_cons_zero, List.set_cons_succ, i64_w, i32_w]
          rfl
        refine pureW (i := 6) (N := some 19) (v := ?_) (a' := ?_) wd_wide HD_.out #[true, true, true, true, true, true, true, false, false, false, false, false] rfl rfl (any_of HT_.out (by kernel_rfl)) (fun _ _ _ h => h) (Or.inl ⟨by rfl, ?_⟩) ?_ ?_
        rotate_left
        · intro w'
          go_simp
          with_reducible rfl
        rotate_left
        · simp only [Act.put, List.setIfInBounds_toArray, List.set_cons_zero, List.set_cons_succ, i64_w, i32_w]
          rfl
        refine pureW (i := 7) (N := some 20) (v := undef) (a' := ?_) wd_wide HD_.out #[true, true, true, true, true, true, true, true, false, false, false, false] rfl rfl (any_of HT_.out (by kernel_rfl)) (fun _ _ _ h => h) (Or.inr ⟨by rfl, rfl⟩) ?_ ?_
        rotate_left
        · simp only [Act.put, List.setIfInBounds_toArray, List.set_cons_zero, List.set_cons_succ, i64_w, i32_w]
          rfl
        refine pureW (i := 8) (N := some 21) (v := undef) (a' := ?_) wd_wide HD_.out #[true, true, true, true, true, true, true, true, true, false, false, false] rfl rfl (any_of HT_.out (by kernel_rfl)) (fun _ _ _ h => h) (Or.inr ⟨by rfl, rfl⟩) ?_ ?_
        rotate_left
        · simp only [Act.put, List.setIfInBounds_toArray, List.set_cons_zero, List.set_cons_succ, i64_w, i32_w]
          rfl
        refine pureW (i := 9) (N := some 22) (v := undef) (a' := ?_) wd_wide HD_.out #[true, true, true, true, true, true, true, true, true, true, false, false] rfl rfl (any_of HT_.out (by kernel_rfl)) (fun _ _ _ h => h) (Or.inr ⟨by rfl, rfl⟩) ?_ ?_
        rotate_left
        · simp only [Act.put, List.setIfInBounds_toArray, List.set_cons_zero, List.set_cons_succ, i64_w, i32_w]
          rfl
        refine pureW (i := 10) (N := some 23) (v := undef) (a' := ?_) wd_wide HD_.out #[true, true, true, true, true, true, true, true, true, true, true, false] rfl rfl (any_of HT_.out (by kernel_rfl)) (fun _ _ _ h => h) (Or.inr ⟨by rfl, rfl⟩) ?_ ?_
        rotate_left
        · simp only [Act.put, List.setIfInBounds_toArray, List.set_cons_zero, List.set_cons_succ, i64_w, i32_w]
          rfl
        refine pureW (i := 11) (N := some 24) (v := ?_) (a' := ?_) wd_wide HD_.out #[true, true, true, true, true, true, true, true, true, true, true, true] rfl rfl (any_of HT_.out (by kernel_rfl)) (fun _ _ _ h => h) (Or.inl ⟨by rfl, ?_⟩) ?_ ?_
        rotate_left
        · intro w'
          go_simp
          with_reducible rfl
        rotate_left
        · simp only [Act.put, List.setIfInBounds_toArray, List.set_cons_zero, List.set_cons_succ, i64_w, i32_w]
          rfl
        refine doneW (done_of HT_.out (by kernel_rfl)) ?_
        have k1 := kc HG3.out HC.out.1
        have k3 := kc HG3.out HC.out.2.2
        gi_wp2
        go_roundw
        case rel => exact ⟨j + 1, i + each, pre, by go_num, by omega, ⟨by rw [Nat.succ_mul, HJ.out]⟩, ⟨HN.out.no (by rw [← HJ.out]; exact HN2.out)⟩, HM3, HG3, HJ3⟩
        case measure => simp [intOf]; omega
    · have HI := Aside0.mk (show inOf ts (i : Int) n = false by unfold inOf; exact decide_eq_false (fun x => hin (by omega)))
      gi_wp2_with (refine ⟨trivial, ?_⟩; gi_at_call 133; refine (callsIn_wide.2 (fr_in_eq HM.out _ _ _ HI.out)).mono ?_; rintro e w1 ⟨rfl, hM, hg⟩; have HG1 := Aside0.mk (below_more HG.out hg (Nat.le_refl _)); have HJ1 := Aside0.mk (HRG.out HJ0.out hg); clear hM hg HM HG HJ0)
      go_end0
      exact ⟨⟨_, rfl⟩, .inl ⟨pre, HN.out.done (by rw [← HJ.out]; exact hin), HJ1.out⟩⟩
end
end Go.Proofs.Ytjnffegjpkbjmaa.QFramesPlays
namespace Go.Proofs.Ytjnffegjpkbjmaa.QFramesPlays
open Go.Proofs.Ytjnffegjpkbjmaa.QTsbPlays
open Go.RowKit Go.Shelf Go.Proofs.YtjnffegjpkbjmaaW.PrintWords Go.Proofs.YtjnffegjpkbjmaaW.PrintLast Go.Proofs.YtjnffegjpkbjmaaW.PrintMore
attribute [local go_sem] Oper.semAt_some
set_option linter.unusedSimpArgs false
set_option linter.unusedVariables false
section
set_option maxHeartbeats 1000000
set_option maxRecDepth 100000
theorem fr_runs (W : World) (p n each : Value) (hp : ∃ x, p = .pointer x) (hn : ∃ x, n = .int .i64 x) (he : ∃ x, each = .int .i64 x) : Calls Try.prog 128 #[p, n, each] W fun e W' => ∃ b1 b2 b3, e = .returned (.func (.func 132) #[] #[.pointer (some ⟨b1, 0, none⟩), .pointer (some ⟨b2, 0, none⟩), .pointer (some ⟨b3, 0, none⟩)]) ∧ W'.cell? ⟨b1, 0, none⟩ = some p ∧ W'.cell? ⟨b2, 0, none⟩ = some n ∧ W'.cell? ⟨b3, 0, none⟩ = some each ∧ Below W.heap.size W W' := by
  obtain ⟨x, rfl⟩ := hp
  obtain ⟨y, rfl⟩ := hn
  obtain ⟨z, rfl⟩ := he
  go_enter Try.func128, Try.ntmps128
  go_wp2
  go_ret
  exact ⟨_, _, _, rfl, by go_simp, by go_simp, by go_simp, below_alloc (below_alloc (below_alloc (Below.refl _ _) _) _) _⟩
/-- What holds in the loop of take. -/
structure TK (B : Nat) (w0 W0 : World) (p r s m : Nat) (ts : List Bool) (free : Int) (a b : Value) (W : World) : Prop where
  fr : Fr B w0 p r ts free W
  k : FrK W0 p r W
  cs : W.heap[s]? = some (.cells #[.pointer (some ⟨p, 0, none⟩)] 28 (0, 0))
  cn : W.heap[s + 1]? = some (.cells #[.int .i64 m] 3 (0, 0))
  ca : W.heap[s + 2]? = some (.cells #[a] 3 (0, 0))
  cb : W.heap[s + 3]? = some (.cells #[b] 54 (0, 0))
  lo : p < s
  le : W0.heap.size ≤ s
theorem TK.kept {B w0 W0 p r s m ts free a b W row W'} (h : TK B w0 W0 p r s m ts free a b W) (hg : W.grownBy W' row) (hr : ∀ r', row = some r' → s + 3 < r') : TK B w0 W0 p r s m ts free a b W' := by
  have hrp := h.fr.rp
  have hlo := h.lo
  have hle := h.le
  have hB := h.fr.hr
  have ne : ∀ k, k ≤ s + 3 → some k ≠ row := fun k hk e => by
    have := hr k e.symm
    omega
  have bl : ∀ k, k ≤ s + 3 → W'.heap[k]? = W.heap[k]? := fun k hk => hg.block k (by have := blk_lt h.cb; omega) (ne k hk)
  refine ⟨h.fr.kept hg (ne p (by omega)) (ne r (by omega)) (fun k e => by have := hr k e; omega), ⟨hg.os.trans h.k.os, hg.tape.trans h.k.tape, hg.output.trans h.k.output, Nat.le_trans h.k.size hg.size, fun k hk h1 h2 => (bl k (by omega)).trans (h.k.block k hk h1 h2)⟩, (bl s (by omega)).trans h.cs, (bl _ (by omega)).trans h.cn, (bl _ (by omega)).trans h.ca, (bl _ (by omega)).trans h.cb, hlo, hle⟩
theorem TK.below {B w0 W0 p r s m ts free a b W W'} (h : TK B w0 W0 p r s m ts free a b W) (hb : Below W.heap.size W W') : TK B w0 W0 p r s m ts free a b W' := h.kept (row := none) ⟨hb.os, hb.tape, hb.output, hb.size, fun k hk _ => hb.block k hk⟩ (fun r' e => by cases e)
theorem TK.turn {B w0 W0 p r s m ts free a b W ts' free' W'} (h : TK B w0 W0 p r s m ts free a b W) (hf : Fr B w0 p r ts' free' W') (hk : FrK W p r W') : TK B w0 W0 p r s m ts' free' a b W' := by
  have hrp := h.fr.rp
  have hlo := h.lo
  have bl : ∀ k, s ≤ k → k ≤ s + 3 → W'.heap[k]? = W.heap[k]? := fun k h1 hk' => hk.block k (by have := blk_lt h.cb; omega) (by omega) (by omega)
  exact ⟨hf, h.k.trans hk, (bl s (by omega) (by omega)).trans h.cs, (bl _ (by omega) (by omega)).trans h.cn, (bl _ (by omega) (by omega)).trans h.ca, (bl _ (by omega) (by omega)).trans h.cb, hlo, h.le⟩
theorem grown_cell (W : World) (x : Addr) (v : Value) : W.grownBy (W.setCell x v) (some x.block) := ⟨rfl, rfl, rfl, by simp [World.setCell], fun k _ hk => Below.heap_setCell W x v k (fun e => hk (by rw [e]))⟩
theorem TK.setA {B w0 W0 p r s m ts free a b W} (h : TK B w0 W0 p r s m ts free a b W) (v : Value) : TK B w0 W0 p r s m ts free v b (W.setCell ⟨s + 1 + 1, 0, none⟩ v) := by
  have hrp := h.fr.rp
  have hlo := h.lo
  have hg := grown_cell W ⟨s + 1 + 1, 0, none⟩ v
  have bl : ∀ k, k ≠ s + 2 → k ≤ s + 3 → (W.setCell ⟨s + 1 + 1, 0, none⟩ v).heap[k]? = W.heap[k]? := fun k h1 h2 => Below.heap_setCell W _ v k (by simpa using h1)
  exact ⟨h.fr.kept hg (by simp; omega) (by simp; omega) (fun k e => by cases e; have := h.fr.hr; simp; omega), ⟨hg.os.trans h.k.os, hg.tape.trans h.k.tape, hg.output.trans h.k.output, Nat.le_trans h.k.size hg.size, fun k hk h1 h2 => (bl k (by have := h.le; omega) (by have := h.le; omega)).trans (h.k.block k hk h1 h2)⟩, (bl _ (by omega) (by omega)).trans h.cs, (bl _ (by omega) (by omega)).trans h.cn, blk_set h.ca 0 v, (bl _ (by omega) (by omega)).trans h.cb, hlo, h.le⟩
theorem TK.setB {B w0 W0 p r s m ts free a b W} (h : TK B w0 W0 p r s m ts free a b W) (v : Value) : TK B w0 W0 p r s m ts free a v (W.setCell ⟨s + 1 + 1 + 1, 0, none⟩ v) := by
  have hrp := h.fr.rp
  have hlo := h.lo
  have hg := grown_cell W ⟨s + 1 + 1 + 1, 0, none⟩ v
  have bl : ∀ k, k ≠ s + 3 → k ≤ s + 3 → (W.setCell ⟨s + 1 + 1 + 1, 0, none⟩ v).heap[k]? = W.heap[k]? := fun k h1 h2 => Below.heap_setCell W _ v k (by simpa using h1)
  exact ⟨h.fr.kept hg (by simp; omega) (by simp; omega) (fun k e => by cases e; have := h.fr.hr; simp; omega), ⟨hg.os.trans h.k.os, hg.tape.trans h.k.tape, hg.output.trans h.k.output, Nat.le_trans h.k.size hg.size, fun k hk h1 h2 => (bl k (by have := h.le; omega) (by have := h.le; omega)).trans (h.k.block k hk h1 h2)⟩, (bl _ (by omega) (by omega)).trans h.cs, (bl _ (by omega) (by omega)).trans h.cn, (bl _ (by omega) (by omega)).trans h.ca, blk_set h.cb 0 v, hlo, h.le⟩
theorem TK.others {B w0 W0 p r s m ts free a b W W'} (h : TK B w0 W0 p r s m ts free a b W) (hk : FrK W p r W') : KeepsOthers W W' := ⟨hk.size, fun k o ho hc => by
  refine (hk.block k (Array.getElem?_eq_some_iff.1 ho).1 (fun e => ?_) (fun e => ?_)).trans ho
  · subst e; rw [h.fr.row] at ho; cases ho; cases hc
  · subst e; rw [h.fr.bits] at ho; cases ho; cases hc⟩
/-- The end of take: the block of deferred calls is turned once more. -/
theorem TK.end {B w0 W0 p r s m ts free a b W} (h : TK B w0 W0 p r s m ts free a b W) (D : Nat) (o : Obj) (hD : s + 3 < D) : TK B w0 W0 p r s m ts free a b (W.putObj D o) := h.kept (grownBy_putObj' W D o) (fun r' e => by cases e; exact hD)
theorem TK.own {B w0 W0 p r s m ts free} (B0 : Nat) (hB : s + 3 < B0) {β : Type} (pr : β → Prop) (a b : β → Value) : OwnFrom B0 (fun x W => pr x ∧ TK B w0 W0 p r s m ts free (a x) (b x) W) := fun x W W' row hs hg hr => ⟨hs.1, hs.2.kept hg (fun r' e => by have := (hr r' e).1; omega)⟩
theorem tk_begin {B w0 W p r ts free} (h : Fr B w0 p r ts free W) (n : Nat) {s : Nat} (hs : s = W.heap.size) : TK B w0 W p r s n ts free (.int .i64 0) (.int .i64 0) ((((W.alloc (.cells #[.pointer (some ⟨p, 0, none⟩)] 28)).alloc (.cells #[.int .i64 n] 3)).alloc (.cells #[.int .i64 0] 3)).alloc (.cells #[.int .i64 0] 54)) := by
  subst hs
  have hg : ∀ (A : World) (o : Obj), A.grownBy (A.alloc o) none := fun A o => World.grownBy_alloc A o none
  have hg4 := grown_two (grown_two (grown_two (hg W (.cells #[.pointer (some ⟨p, 0, none⟩)] 28)) (hg _ (.cells #[.int .i64 n] 3))) (hg _ (.cells #[.int .i64 0] 3))) (hg _ (.cells #[.int .i64 0] 54))
  have nw : ∀ (A : World) (o : Obj) (k : Nat), k = A.heap.size → (A.alloc o).heap[k]? = some o := fun A o k e => by subst e; exact World.alloc_heap_new A o
  have ol : ∀ (A : World) (o o' : Obj) (k : Nat), A.heap[k]? = some o' → (A.alloc o).heap[k]? = some o' := fun A o o' k e => (Below.heap_alloc A o k (Array.getElem?_eq_some_iff.1 e).1).trans e
  exact ⟨h.same hg4, FrK.of_grown hg4, ol _ _ _ _ (ol _ _ _ _ (ol _ _ _ _ (nw _ _ _ rfl))), ol _ _ _ _ (ol _ _ _ _ (nw _ _ _ (by simp))), ol _ _ _ _ (nw _ _ _ (by simp)), nw _ _ _ (by simp), h.lt, Nat.le_refl _⟩
/-- Behind take. -/
def TookOr (B : Nat) (w0 W0 : World) (p r : Nat) (ts : List Bool) (free : Int) (n each : Nat) (e : Ending) (W' : World) : Prop :=
  FrK W0 p r W' ∧ ((e = .returned (.tuple #[.int .i64 0, .int .i64 6]) ∧ Fr B w0 p r ts free W' ∧ ∀ j, j * each + n ≤ ts.length → ¬ FreeIn ts (j * each) n) ∨
    ∃ x, e = .returned (.tuple #[.int .i64 (x : Nat), .int .i64 0]) ∧ Fr B w0 p r (setN ts x true n) (free - n) W' ∧ First ts n each x)
theorem fr_take {B w0 p r ts free W} (h : Fr B w0 p r ts free W) (n each : Nat) (hn : 1 ≤ n) (he : 1 ≤ each) (he2 : each ≤ 70000) (hf0 : 0 ≤ free) (hf1 : free ≤ 65536) :
    Calls Try.prog 112 #[.pointer (some ⟨p, 0, none⟩), .int .i64 n, .int .i64 each] W (TookOr B w0 W p r ts free n each) := by
  have HM := Aside0.mk h
  have hl := h.len
  clear h
  refine (callsIn_wide (n := 4)).1 ?_
  refine callsIn_of_wp_marks Try.func112 rfl trivial ?_ rfl
  simp only [Try.ntmps112, List.size_toArray, List.length_cons, List.length_nil, Nat.reduceAdd, Nat.reduceSub, Array.replicate_succ, Array.replicate_zero, List.push_toArray, List.append_toArray, List.nil_append, List.cons_append]
  obtain ⟨s, hs⟩ : ∃ s, s = W.heap.size := ⟨_, rfl⟩
  have HT0 := Aside0.mk (tk_begin HM.out n hs)
  have hm := Aside0.mk hs
  clear hs
  gi_wp2_with (refine ⟨trivial, ?_⟩; gi_at_call 128; refine (callsIn_wide.2 (fr_runs _ _ _ _ ⟨_, rfl⟩ ⟨_, rfl⟩ ⟨_, rfl⟩)).mono ?_; rintro e w5 ⟨b1, b2, b3, rfl, j1, j2, j3, hb⟩; have HT := Aside0.mk (HT0.out.below hb); clear hb HT0)
  have hsz : s + 3 < w5.heap.size := blk_lt HT.out.cb
  rw [← hm.out]
  refine wpIn_rangeFunc_ownF rfl (by omega) (gf := 132) (lb := #[.pointer (some ⟨b1, 0, none⟩), .pointer (some ⟨b2, 0, none⟩), .pointer (some ⟨b3, 0, none⟩)]) rfl trivial (enters_of Try.func132 (by kernel_rfl) rfl)
    (runs_stops HT.out.fr b1 b2 b3 n each hn he he2 j1 j2 j3) belowK_t (belowK_b (Nat.le_refl _)) (Below.refl _ _) (fun _ => rfl)
    (fun pre W2 => pre = [] ∧ TK B w0 W p r s n ts free (.int .i64 0) (.int .i64 0) W2)
    (fun c pre W2 => ∃ x : Nat, (c = .ret ∧ ∃ hx, pre = [⟨x, hx⟩]) ∧ TK B w0 W p r s n (setN ts x true n) (free - n) (.int .i64 (x : Nat)) (.int .i64 0) W2)
    (fun x A C row hs hg hr => ⟨hs.1, hs.2.kept hg (fun r' e => by have := (hr r' e).1; omega)⟩)
    (fun c x A C row hs hg hr => ⟨hs.choose, hs.choose_spec.1, hs.choose_spec.2.kept hg (fun r' e => by have := (hr r' e).1; omega)⟩)
    ⟨rfl, HT.out⟩
    (fun x => { tmps := #[.pointer (some ⟨p, 0, none⟩), .int .i64 n, .int .i64 each, .pointer (some ⟨s, 0, none⟩), .pointer (some ⟨s + 1, 0, none⟩), undef, .pointer (some ⟨s + 1 + 1, 0, none⟩), .pointer (some ⟨s + 1 + 1 + 1, 0, none⟩), .int .i64 (x.1 : Nat), .pointer (some ⟨p, 0, none⟩), .int .i64 n, .int .i64 each, .func (.func 132) #[] #[.pointer (some ⟨b1, 0, none⟩), .pointer (some ⟨b2, 0, none⟩), .pointer (some ⟨b3, 0, none⟩)], .int .i64 (x.1 : Nat), undef, undef, undef, undef, undef], defers := [] }) ?assign ?body ?done ?stop
  case assign =>
    intro l x W2 K hK
    gi_wp2
    exact hK
  case body =>
    rintro l pre ⟨x, hx⟩ W2 ⟨rfl, hT⟩ _
    have HT2 := Aside0.mk hT
    have d1 : W2.cell? ⟨s, 0, none⟩ = some (.pointer (some ⟨p, 0, none⟩)) := (blk_cell hT.cs 0).trans rfl
    have d2 : W2.cell? ⟨s + 1, 0, none⟩ = some (.int .i64 n) := (blk_cell hT.cn 0).trans rfl
    clear hT
    gi_wp2_with (refine ⟨trivial, ?_⟩; gi_at_call 129; refine (CallsIn.inRound l (callsIn_wide.2 (fr_turn HT2.out.fr x n true hx hf0 hf1))).mono ?_; rintro e w6 ⟨rfl, hM, hg⟩; have HT3 := Aside0.mk (HT2.out.turn hM hg); have HO := Aside0.mk (HT2.out.others hg); have c6 : w6.cell? ⟨s + 1 + 1, 0, none⟩ = some (.int .i64 0) := (blk_cell HT3.out.ca 0).trans rfl; have c7 : w6.cell? ⟨s + 1 + 1 + 1, 0, none⟩ = some (.int .i64 0) := (blk_cell HT3.out.cb 0).trans rfl; have f6 : w6.frozen? ⟨s + 1 + 1, 0, none⟩ = false := blk_frozen HT3.out.ca 0; have f7 : w6.frozen? ⟨s + 1 + 1 + 1, 0, none⟩ = false := blk_frozen HT3.out.cb 0; clear hM hg)
    exact ⟨HO.out.trans ((KeepsOthers.setCell _ _ _).trans (KeepsOthers.setCell _ _ _)), x, ⟨rfl, hx, rfl⟩, (HT3.out.setA _).setB _⟩
  case done =>
    rintro D ys W2 hD hS ⟨rfl, hT⟩ hK
    have HT2 := Aside0.mk hT
    have c6 : W2.cell? ⟨s + 1 + 1, 0, none⟩ = some (.int .i64 0) := (blk_cell hT.ca 0).trans rfl
    have c7 : W2.cell? ⟨s + 1 + 1 + 1, 0, none⟩ = some (.int .i64 0) := (blk_cell hT.cb 0).trans rfl
    have f6 : W2.frozen? ⟨s + 1 + 1, 0, none⟩ = false := blk_frozen hT.ca 0
    have f7 : W2.frozen? ⟨s + 1 + 1 + 1, 0, none⟩ = false := blk_frozen hT.cb 0
    clear hT
    gi_wp2
    have HT3 := Aside0.mk ((HT2.out.setA (.int .i64 0)).setB (.int .i64 6))
    have hK' := ((KeepsOthers.setCell W2 ⟨s + 1 + 1, 0, none⟩ (.int .i64 0)).trans (KeepsOthers.setCell _ ⟨s + 1 + 1 + 1, 0, none⟩ (.int .i64 6))).same D _ hK rfl
    refine ⟨by simp, .inl ⟨_, _, rfl, run_takeDeferred hK', ?_⟩⟩
    have HT4 := Aside0.mk (HT3.out.end D (.deferred none) (by omega))
    have d6 := (blk_cell HT4.out.ca 0).trans rfl
    have d7 := (blk_cell HT4.out.cb 0).trans rfl
    refine ⟨.tuple #[.int .i64 0, .int .i64 6], ?_, HT4.out.k, .inl ⟨rfl, HT4.out.fr, hS rfl⟩⟩
    simp [results, Try.f112, go_sem, d6, d7]
  case stop =>
    rintro D c pre W2 hD hS ⟨x, ⟨rfl, hx, rfl⟩, hT⟩ hK
    have HT2 := Aside0.mk hT
    clear hT
    gi_wp2
    refine ⟨by simp, .inl ⟨_, _, rfl, run_takeDeferred hK, ?_⟩⟩
    have HT4 := Aside0.mk (HT2.out.end D (.deferred none) (by omega))
    have d6 := (blk_cell HT4.out.ca 0).trans rfl
    have d7 := (blk_cell HT4.out.cb 0).trans rfl
    refine ⟨.tuple #[.int .i64 (x : Nat), .int .i64 0], ?_, HT4.out.k, .inr ⟨x, rfl, HT4.out.fr, hS _ _ rfl⟩⟩
    simp [results, Try.f112, go_sem, d6, d7]
end
end Go.Proofs.Ytjnffegjpkbjmaa.QFramesPlays
