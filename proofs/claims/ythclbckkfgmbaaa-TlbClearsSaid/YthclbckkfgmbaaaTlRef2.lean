/- The document's TLB, told of places: New, Put, Demap, Clear, Find; plain lists; no conditions. -/
import Derived.Test.YthclbckkfgmbaaaTlRef
import Derived.Test.YthclbckkfgmbaaaQTlbPlaysx8
import Derived.Test.YthclbckkfgmbaaaQTlbPlaysx9
namespace Go.Proofs.Ythclbckkfgmbaaa.QTlbPlays
open Go.RowKit Go.Proofs.YthclbckkfgmbaaaW.PrintWords Go.Proofs.YthclbckkfgmbaaaW.PrintLast Go.Proofs.YthclbckkfgmbaaaW.PrintMore
set_option linter.unusedSimpArgs false
set_option linter.unusedVariables false
def isAt (es : List (Option Ent)) (q : Ent → Bool) (i : Nat) : Bool := match es.getD i none with | some e => q e | none => false
theorem plTo_is (es : List (Option Ent)) (q : Ent → Bool) (i : Nat) : plTo es q (i + 1) = plTo es q i ++ (if isAt es q i = true then [i] else []) := by
  rw [plTo_succ]
  unfold isAt
  cases es.getD i none with
  | none => rfl
  | some e => rfl
theorem refL_new (n : Int) : lookasideref06_New.f n = some (refL (List.replicate (slotsOf n) none)) := by
  have hb := slots_b n
  unfold lookasideref06_New.f
  rw [if_pos (by omega), if_pos (by omega)]
  unfold refL slotsOf
  rw [List.map_replicate]
  rfl
theorem put_l0 {es : List (Option Ent)} (h : OkL es) (hl : es.length ≤ 64) {e : Ent} (he : EntW e) (a : Nat) (ha : a < es.length) :
    ∀ (m i k : Nat), i + m = es.length → m + 200 ≤ k → (∀ j, j < i → ∀ b, es.getD j none = some b → againstQ e b = true → j = a) → lookasideref06_Put.l0 k (refL es) (a : Int) (i : Int) e.f0 e.f1 e.f2 e.f3 e.f4.f0 e.f4.f1 e.f4.f2 e.f4.f3 e.f4.f4 e.f4.f5 e.f5 = if (plL es (againstQ e)).any (fun i => !decide ((i : Int) = (a : Int))) = true then some (refL es, 9) else some (refL (es.set a (some e)), 0) := by
  intro m
  induction m with
  | zero =>
    intro i k hi hk hno
    obtain rfl : i = es.length := by omega
    obtain ⟨k, rfl⟩ : ∃ n, k = n + 1 := ⟨k - 1, by omega⟩
    rw [lookasideref06_Put.l0, if_neg (by rw [ref_len]; omega), with_f a (by rw [ref_len]; exact ha) (by rw [ref_len]; exact hl) e, Option.bind_some, if_neg]
    · rw [ref_set]; rfl
    · rw [Bool.not_eq_true, List.any_eq_false]
      intro j hj
      obtain ⟨b, hx, hq⟩ := mem_plL.1 hj
      have := hno j (lt_of_getD hx) b hx hq
      subst this
      simp
  | succ m ih =>
    intro i k hi hk hno
    obtain ⟨k, rfl⟩ : ∃ n, k = n + 1 := ⟨k - 1, by omega⟩
    have hi' : i < es.length := by omega
    rw [lookasideref06_Put.l0, if_pos (by rw [ref_len]; omega), if_pos (by omega), ref_rd, rparts_ok he (ref_W h i) k (by omega), Option.bind_some]
    have next := fun hn => ih (i + 1) k (by omega) (by omega) hn
    by_cases hia : i = a
    · subst hia
      rw [if_pos rfl, w64s i (by omega)]
      exact next (fun j hj b hb hq => by
        by_cases c : j = i
        · exact c
        · exact hno j (by omega) b hb hq)
    · rw [if_neg (by omega)]
      cases hx : es.getD i none with
      | none =>
        rw [if_neg (show ¬ (((none : Option Ent).getD zE).f5 = true) by decide), w64s i (by omega)]
        exact next (fun j hj b hb hq => by
          by_cases c : j = i
          · subst c; rw [hx] at hb; cases hb
          · exact hno j (by omega) b hb hq)
      | some b =>
        have hb5 : ((some b).getD zE).f5 = true := (may_okS (ok_at h hx).2).2
        rw [if_pos hb5, Option.getD_some]
        cases hp : partsB e b with
        | true =>
          rw [if_pos rfl, w64s i (by omega)]
          exact next (fun j hj b' hb hq => by
            by_cases c : j = i
            · subst c; rw [hx] at hb; cases hb; unfold againstQ at hq; rw [hp] at hq; cases hq
            · exact hno j (by omega) b' hb hq)
        | false =>
          rw [if_neg (by decide), if_pos]
          refine List.any_eq_true.2 ⟨i, mem_plL.2 ⟨b, hx, by unfold againstQ; rw [hp]; rfl⟩, ?_⟩
          simp
          omega
theorem ref_put {es : List (Option Ent)} (h : OkL es) (hl : es.length ≤ 64) {e : Ent} (he : EntW e) (a : Int) : lookasideref06_Put.f 1000 (refL es) a e.f0 e.f1 e.f2 e.f3 e.f4.f0 e.f4.f1 e.f4.f2 e.f4.f3 e.f4.f4 e.f4.f5 e.f5 = some (refL (putOf es a e).2, (putOf es a e).1) := by
  unfold lookasideref06_Put.f
  rw [rmay_ok he 1000 (by decide), Option.bind_some]
  cases hm : mayB e with
  | false =>
    rw [if_neg (by decide)]
    unfold putOf
    rw [if_pos hm]
  | true =>
    have hmn : ¬ (mayB e = false) := by rw [hm]; decide
    rw [if_pos rfl]
    unfold putOf
    simp only [if_neg hmn]
    by_cases ha0 : a < 0
    · rw [if_pos ha0, lookasideref06_Put.j0, if_pos rfl]
      have hi : inB es a = false := by unfold inB; exact decide_eq_false (by omega)
      simp only [hi, if_true]
    · rw [if_neg ha0]
      by_cases ha1 : a < (es.length : Int)
      · have hi : inB es a = true := by unfold inB; exact decide_eq_true ⟨by omega, ha1⟩
        obtain ⟨n, rfl⟩ := Int.eq_ofNat_of_zero_le (Int.not_lt.1 ha0)
        rw [show decide ((n : Int) ≥ ((refL es).length : Int)) = false from decide_eq_false (by rw [ref_len]; omega), lookasideref06_Put.j0, if_neg (by decide)]
        simp only [hi, Bool.true_eq_false, if_false]
        have := put_l0 h hl he n (by omega) es.length 0 999 (Nat.zero_add _) (by omega) (fun j hj => absurd hj (Nat.not_lt_zero _))
        refine this.trans ?_
        cases (plL es (againstQ e)).any (fun i => !decide ((i : Int) = (n : Int))) with
        | true => simp only [if_true]
        | false => simp only [Bool.false_eq_true, if_false, Int.toNat_natCast]
      · have hi : inB es a = false := by unfold inB; exact decide_eq_false (by omega)
        rw [show decide (a ≥ ((refL es).length : Int)) = true from decide_eq_true (by rw [ref_len]; omega), lookasideref06_Put.j0, if_pos rfl]
        simp only [hi, if_true]
theorem dem_l0 {es : List (Option Ent)} (hl : es.length ≤ 64) (kd va ctx : Int) (q : Ent → Bool) (hstep : ∀ (i k : Nat) (out : List Ent) (n : Int), i < es.length → out.length = es.length → lookasideref06_Demap.l0 (k + 2) (refL es) kd va ctx out n (i : Int) = if isAt es q i = true then lookasideref06_Demap.l0 k (refL es) kd va ctx (out.set i zE) (wrap64 (n + 1)) (wrap64 ((i : Int) + 1)) else lookasideref06_Demap.l0 k (refL es) kd va ctx out n (wrap64 ((i : Int) + 1))) :
    ∀ (m i k : Nat), i + m = es.length → 2 * m + 5 ≤ k → lookasideref06_Demap.l0 k (refL es) kd va ctx (refL (setAll es (plTo es q i))) ((plTo es q i).length : Int) (i : Int) = some (refL (clearQ es q), ((plL es q).length : Int)) := by
  intro m
  induction m with
  | zero =>
    intro i k hi hk
    obtain rfl : i = es.length := by omega
    obtain ⟨k, rfl⟩ : ∃ n, k = n + 1 := ⟨k - 1, by omega⟩
    rw [lookasideref06_Demap.l0, if_neg (by rw [ref_len]; omega), show plTo es q es.length = plL es q from rfl, setAll_clear]
  | succ m ih =>
    intro i k hi hk
    obtain ⟨k, rfl⟩ : ∃ n, k = n + 2 := ⟨k - 2, by omega⟩
    rw [hstep i k _ _ (by omega) (by rw [ref_len, setAll_len]), w64s i (by omega)]
    have hS := plTo_is es q i
    have hpl := plTo_len es q i
    cases hq : isAt es q i with
    | true =>
      rw [hq] at hS
      simp only [if_true] at hS ⊢
      have e1 : wrap64 (((plTo es q i).length : Int) + 1) = ((plTo es q (i + 1)).length : Int) := by rw [hS, List.length_append]; unfold wrap64; simp; omega
      rw [e1, show (refL (setAll es (plTo es q i))).set i zE = refL (setAll es (plTo es q (i + 1))) by rw [hS, setAll_snoc, ref_set]; rfl]
      exact ih (i + 1) k (by omega) (by omega)
    | false =>
      rw [hq] at hS
      simp only [Bool.false_eq_true, if_false, List.append_nil] at hS ⊢
      rw [← hS]
      exact ih (i + 1) k (by omega) (by omega)
theorem dem_f {es : List (Option Ent)} (hl : es.length ≤ 64) (kd va ctx : Int) (q : Ent → Bool) (hstep : ∀ (i k : Nat) (out : List Ent) (n : Int), i < es.length → out.length = es.length → lookasideref06_Demap.l0 (k + 2) (refL es) kd va ctx out n (i : Int) = if isAt es q i = true then lookasideref06_Demap.l0 k (refL es) kd va ctx (out.set i zE) (wrap64 (n + 1)) (wrap64 ((i : Int) + 1)) else lookasideref06_Demap.l0 k (refL es) kd va ctx out n (wrap64 ((i : Int) + 1))) : lookasideref06_Demap.f 1000 (refL es) kd va ctx = some (refL (clearQ es q), ((plL es q).length : Int)) := by
  have := dem_l0 hl kd va ctx q hstep es.length 0 1000 (Nat.zero_add _) (by omega)
  exact this
theorem hits_none (va ctx : Int) : hitsB ((none : Option Ent).getD zE) va ctx = false := rfl
theorem ref_demap0 {es : List (Option Ent)} (h : OkL es) (hl : es.length ≤ 64) {va : Int} (hva : (Lit.int .u64 va).wf = true) (ctx : Int) : lookasideref06_Demap.f 1000 (refL es) 0 va ctx = some (refL (clearQ es (fun e => hitsB e va ctx)), ((plL es (fun e => hitsB e va ctx)).length : Int)) := by
  refine dem_f hl 0 va ctx _ (fun i k out n hi ho => ?_)
  rw [lookasideref06_Demap.l0, if_pos (by rw [ref_len]; omega), if_pos (by omega), ref_rd, rhits_ok (ref_W h i) hva ctx, Option.bind_some, if_neg (by decide), lookasideref06_Demap.j1, if_neg (by decide), with_z i (by omega) (by omega), Option.bind_some]
  unfold isAt
  cases hx : es.getD i none with
  | none => rw [hits_none]
  | some b => rw [Option.getD_some]
theorem ref_demap1 {es : List (Option Ent)} (h : OkL es) (hl : es.length ≤ 64) (ctx : Int) : lookasideref06_Demap.f 1000 (refL es) 1 0 ctx = some (refL (clearQ es (ctxB ctx)), ((plL es (ctxB ctx)).length : Int)) := by
  refine dem_f hl 1 0 ctx _ (fun i k out n hi ho => ?_)
  rw [lookasideref06_Demap.l0, if_pos (by rw [ref_len]; omega), if_pos (by omega), ref_rd, rhits_ok (ref_W h i) (by decide) ctx, Option.bind_some, if_pos rfl]
  have hj : ∀ b, lookasideref06_Demap.j1 (k + 1) (refL es) 1 0 ctx out n (i : Int) b = if b = true then lookasideref06_Demap.l0 k (refL es) 1 0 ctx (out.set i zE) (wrap64 (n + 1)) (wrap64 ((i : Int) + 1)) else lookasideref06_Demap.l0 k (refL es) 1 0 ctx out n (wrap64 ((i : Int) + 1)) := fun b => by
    rw [lookasideref06_Demap.j1, if_neg (by decide), with_z i (by omega) (by omega), Option.bind_some]
  rw [hj, hj]
  unfold isAt
  cases hx : es.getD i none with
  | none => rfl
  | some b =>
    have hb5 : b.f5 = true := (may_okS (ok_at h hx).2).2
    rw [Option.getD_some, if_pos hb5]
    unfold ctxB
    cases hg : b.f4.f4 <;> simp [hg]
theorem ref_demap2 {es : List (Option Ent)} (h : OkL es) (hl : es.length ≤ 64) : lookasideref06_Demap.f 1000 (refL es) 2 0 0 = some (refL (clearQ es openB), ((plL es openB).length : Int)) := by
  refine dem_f hl 2 0 0 _ (fun i k out n hi ho => ?_)
  rw [lookasideref06_Demap.l0, if_pos (by rw [ref_len]; omega), if_pos (by omega), ref_rd, rhits_ok (ref_W h i) (by decide) 0, Option.bind_some, if_neg (by decide), lookasideref06_Demap.j1, if_pos rfl, if_pos (by omega), if_pos (by rw [ref_len]; omega), ref_rd, with_z i (by omega) (by omega), Option.bind_some]
  unfold isAt
  cases hx : es.getD i none with
  | none => rfl
  | some b =>
    have hb5 : b.f5 = true := (may_okS (ok_at h hx).2).2
    rw [Option.getD_some, if_pos hb5]
    unfold openB
    cases hg : b.f4.f3 <;> simp [hg]
theorem ref_clear {es : List (Option Ent)} (h : OkL es) (hl : es.length ≤ 64) (a : Int) : lookasideref06_Clear.f (refL es) a = some (refL (clearAt es a), (atOf es a).isSome) := by
  unfold lookasideref06_Clear.f clearAt
  by_cases ha0 : a < 0
  · have hn : atOf es a = none := by unfold atOf; rw [if_neg (by omega)]
    rw [if_pos ha0, hn]; rfl
  · rw [if_neg ha0]
    by_cases ha1 : a < (es.length : Int)
    · obtain ⟨n, rfl⟩ := Int.eq_ofNat_of_zero_le (Int.not_lt.1 ha0)
      have hn : atOf es (n : Int) = es.getD n none := by unfold atOf; rw [if_pos ⟨by omega, ha1⟩, Int.toNat_natCast]
      rw [if_neg (by rw [ref_len]; omega), if_pos (by omega), if_pos (by rw [ref_len]; omega), ref_rd, with_z n (by rw [ref_len]; omega) (by rw [ref_len]; omega), Option.bind_some, hn, Int.toNat_natCast]
      cases hx : es.getD n none with
      | none => rfl
      | some b =>
        have hb5 : b.f5 = true := (may_okS (ok_at h hx).2).2
        rw [Option.getD_some, if_pos hb5]
        simp only [Option.isSome_some, if_true]
        rw [ref_set]
        rfl
    · have hn : atOf es a = none := by unfold atOf; rw [if_neg (by omega)]
      rw [if_pos (by rw [ref_len]; omega), hn]; rfl
theorem find_l0 {es : List (Option Ent)} (h : OkL es) (hl : es.length ≤ 64) {va : Int} (hva : (Lit.int .u64 va).wf = true) (ctx : Int) :
    ∀ (m i k : Nat), i + m = es.length → m + 5 ≤ k → (∀ j, j < i → isAt es (fun e => hitsB e va ctx) j = false) → lookasideref06_Find.l0 k (refL es) va ctx (i : Int) = some (optV (findOf es (fun e => hitsB e va ctx))) := by
  have hF : findOf es (fun e => hitsB e va ctx) = (List.range es.length).find? (isAt es (fun e => hitsB e va ctx)) := by
    unfold findOf plL plTo
    rw [List.head?_filter]
    rfl
  intro m
  induction m with
  | zero =>
    intro i k hi hk hno
    obtain rfl : i = es.length := by omega
    obtain ⟨k, rfl⟩ : ∃ n, k = n + 1 := ⟨k - 1, by omega⟩
    rw [lookasideref06_Find.l0, if_neg (by rw [ref_len]; omega), hF, List.find?_range_eq_none.2 (fun j hj => by rw [hno j hj]; rfl)]
    rfl
  | succ m ih =>
    intro i k hi hk hno
    obtain ⟨k, rfl⟩ : ∃ n, k = n + 1 := ⟨k - 1, by omega⟩
    have hi' : i < es.length := by omega
    rw [lookasideref06_Find.l0, if_pos (by rw [ref_len]; omega), if_pos (by omega), ref_rd, rhits_ok (ref_W h i) hva ctx, Option.bind_some]
    have hq : hitsB ((es.getD i none).getD zE) va ctx = isAt es (fun e => hitsB e va ctx) i := by
      unfold isAt
      cases es.getD i none with
      | none => rfl
      | some b => rfl
    rw [hq]
    cases hi2 : isAt es (fun e => hitsB e va ctx) i with
    | true =>
      rw [if_pos rfl, hF, (List.find?_range_eq_some (i := i)).2 ⟨hi2, by simpa using hi', fun j hj => by rw [hno j hj]; rfl⟩]
      rfl
    | false =>
      rw [if_neg (by decide), w64s i (by omega)]
      exact ih (i + 1) k (by omega) (by omega) (fun j hj => by
        by_cases c : j = i
        · subst c; exact hi2
        · exact hno j (by omega))
theorem ref_find {es : List (Option Ent)} (h : OkL es) (hl : es.length ≤ 64) {va : Int} (hva : (Lit.int .u64 va).wf = true) (ctx : Int) : lookasideref06_Find.f 1000 (refL es) va ctx = some (optV (findOf es (fun e => hitsB e va ctx))) :=
  find_l0 h hl hva ctx es.length 0 1000 (Nat.zero_add _) (by omega) (fun j hj => absurd hj (Nat.not_lt_zero _))
end Go.Proofs.Ythclbckkfgmbaaa.QTlbPlays
