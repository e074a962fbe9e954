/- What a processor tells of an access: plain facts; no conditions. -/
import Derived.Test.YthclbckkfgmbaaaCp0
namespace Go.Proofs.Ythclbckkfgmbaaa.QTlbPlays
open Go.RowKit Go.Proofs.YthclbckkfgmbaaaW.PrintWords Go.Proofs.YthclbckkfgmbaaaW.PrintLast Go.Proofs.YthclbckkfgmbaaaW.PrintMore
set_option linter.unusedSimpArgs false
set_option linter.unusedVariables false
/-! ### What attributes say of an access -/
def judgeOf (w p e q : Bool) (kind : Int) (priv : Bool) : Int :=
  if (p && !priv) = true then 3 else if (q && kind != 3) = true then 4 else if (kind == 1 && !w) = true then 5 else if (kind == 2 && !e) = true then 6 else 0
theorem pJudge (w p e l g q : Bool) (kind : Int) (priv : Bool) (va : Int) (k : Nat) (hk : 10 ≤ k) : fault_Judge.f k w p e l g q kind priv va = some (judgeOf w p e q kind priv) := by
  obtain ⟨k, rfl⟩ : ∃ m, k = m + 3 := ⟨k - 3, by omega⟩
  unfold fault_Judge.f judgeOf
  by_cases h1 : kind = 1
  · subst h1; cases w <;> cases p <;> cases e <;> cases q <;> cases priv <;> rfl
  · by_cases h2 : kind = 2
    · subst h2; cases w <;> cases p <;> cases e <;> cases q <;> cases priv <;> rfl
    · by_cases h3 : kind = 3
      · subst h3; cases w <;> cases p <;> cases e <;> cases q <;> cases priv <;> rfl
      · cases w <;> cases p <;> cases e <;> cases q <;> cases priv <;> simp [fault_Judge.j0, fault_Judge.j1, fault_Judge.j2, h1, h2, h3]

theorem rJudge (w p e l g q : Bool) (kind : Int) (priv : Bool) (va : Int) (k : Nat) (hk : 10 ≤ k) : lookasideref09_Judge.f k w p e l g q kind priv va = some (judgeOf w p e q kind priv) := by
  obtain ⟨k, rfl⟩ : ∃ m, k = m + 3 := ⟨k - 3, by omega⟩
  unfold lookasideref09_Judge.f judgeOf
  by_cases h1 : kind = 1
  · subst h1; cases w <;> cases p <;> cases e <;> cases q <;> cases priv <;> rfl
  · by_cases h2 : kind = 2
    · subst h2; cases w <;> cases p <;> cases e <;> cases q <;> cases priv <;> rfl
    · by_cases h3 : kind = 3
      · subst h3; cases w <;> cases p <;> cases e <;> cases q <;> cases priv <;> rfl
      · cases w <;> cases p <;> cases e <;> cases q <;> cases priv <;> simp [lookasideref09_Judge.j0, lookasideref09_Judge.j1, lookasideref09_Judge.j2, h1, h2, h3]

/-- A number's kind of access. -/
def kindOf (n : Int) : Nat := (if n < 0 then -(n + 1) else n).toNat % 4
theorem kindOf_lt (n : Int) : kindOf n < 4 := Nat.mod_lt _ (by decide)
theorem rFGood (kind : Int) (hk : (Lit.int .i64 kind).wf = true) (priv : Bool) (va : Int) (k : Nat) : lookasideref09_Good.f k kind priv va false = some ((kindOf kind : Int), priv, va) := by
  obtain ⟨h1, h2⟩ := m_i64 hk
  unfold lookasideref09_Good.f kindOf
  by_cases h : kind < 0
  · rw [if_pos h, if_neg (by decide), if_pos h]
    have e : wrap64 (-(wrap64 (kind + 1))) = -(kind + 1) := by unfold wrap64; omega
    rw [e, Int.tmod_eq_emod_of_nonneg (by omega)]
    refine congrArg some (Prod.ext ?_ rfl); omega
  · rw [if_neg h, if_neg (by decide), if_neg h, Int.tmod_eq_emod_of_nonneg (by omega)]
    refine congrArg some (Prod.ext ?_ rfl); omega


def holeB (va : Int) : Bool := decide (va.toNat / 8796093022208 ≠ 0 ∧ va.toNat / 8796093022208 ≠ 2097151)
def ofB (e : Ent) (ctx kind : Int) (priv : Bool) (va : Int) : Int := if holeB va = true then 1 else if hitsB e va ctx = true then judgeOf e.f4.f0 e.f4.f1 e.f4.f2 e.f4.f5 kind priv else 2
theorem of_ok {e : Ent} (h : EntW e) {va : Int} (hva : (Lit.int .u64 va).wf = true) (ctx kind : Int) (priv : Bool) : fault_Of.f 20 e.f0 e.f1 e.f2 e.f3 e.f4.f0 e.f4.f1 e.f4.f2 e.f4.f3 e.f4.f4 e.f4.f5 e.f5 ctx kind priv va = some (ofB e ctx kind priv va) := by
  have h2 := u64_nat hva
  have hh := pHole va.toNat h2.2
  rw [h2.1] at hh
  unfold fault_Of.f ofB
  rw [hh, Option.bind_some, hits_ok h hva ctx]
  show (if holeB va = true then _ else _) = _
  cases holeB va with
  | true => rfl
  | false =>
    rw [if_neg (by decide), if_neg (by decide), Option.bind_some]
    cases hitsB e va ctx with
    | true =>
      rw [if_pos rfl, if_pos rfl, pJudge _ _ _ _ _ _ _ _ _ 20 (by decide)]
      rfl
    | false => rw [if_neg (by decide), if_neg (by decide)]
def frameB (e : Ent) (va : Int) : Int × Bool := if (e.f5 && decide (okSize e.f0 ∧ va.toNat / bytesOf e.f0 * bytesOf e.f0 = e.f2.toNat / bytesOf e.f0 * bytesOf e.f0)) = true then (IntKind.u64.wrap (e.f3 + ((va.toNat % bytesOf e.f0 : Nat) : Int)), true) else (0, false)
theorem frame_ok {e : Ent} (h : EntW e) {va : Int} (hva : (Lit.int .u64 va).wf = true) : tte_Frame.f e.f0 e.f1 e.f2 e.f3 e.f4.f0 e.f4.f1 e.f4.f2 e.f4.f3 e.f4.f4 e.f4.f5 e.f5 va = some (frameB e va) := by
  have h1 := u64_nat h.v
  have h2 := u64_nat hva
  have hi := pIn va.toNat e.f2.toNat h2.2 h1.2 e.f0
  rw [h1.1, h2.1] at hi
  have ho := pOffset va.toNat h2.2 e.f0
  rw [h2.1] at ho
  unfold tte_Frame.f frameB
  cases hv : e.f5 with
  | false => simp
  | true =>
    rw [if_pos rfl, hi, Option.bind_some]
    by_cases c : okSize e.f0 ∧ va.toNat / bytesOf e.f0 * bytesOf e.f0 = e.f2.toNat / bytesOf e.f0 * bytesOf e.f0
    · rw [decide_eq_true c, if_pos rfl, ho, if_pos c.1, Option.bind_some]
      rfl
    · rw [decide_eq_false c, if_neg (by decide)]
      rfl
def lookE (e : Ent) (ctx kind : Int) (priv : Bool) (va : Int) : Int × Int := if ofB e ctx kind priv va = 0 then ((frameB e va).1, 0) else (0, ofB e ctx kind priv va)
def lookB (es : List (Option Ent)) (ctx kind : Int) (priv : Bool) (va : Int) : Int × Int := lookE (findE es va ctx) ctx kind priv va
theorem zE_W0 : EntW zE := ⟨(show (Lit.int .i64 0).wf = true by decide), (show (Lit.int .i64 0).wf = true by decide), (show (Lit.int .u64 0).wf = true by decide), (show (Lit.int .u64 0).wf = true by decide)⟩
theorem findE_W {es : List (Option Ent)} (h : OkL es) (va ctx : Int) : EntW (findE es va ctx) := by
  unfold findE
  split
  · cases hx : es.getD _ none with
    | none => exact zE_W0
    | some e => exact (ok_at h hx).1
  · exact zE_W0
theorem judge_two (w p e q : Bool) (kind : Int) (priv : Bool) : judgeOf w p e q kind priv ≠ 2 := by
  unfold judgeOf
  split
  · decide
  · split
    · decide
    · split
      · decide
      · split <;> decide
/-! ### One entry alone -/
def oneL (N : Nat) (g : Ent) : List (Option Ent) := (List.replicate N none).set 0 (some g)
theorem one_at {N : Nat} (hN : 1 ≤ N) (g : Ent) (j : Nat) : (oneL N g).getD j none = if j = 0 then some g else none := by
  unfold oneL
  rw [set_at _ (by rw [List.length_replicate]; omega) j]
  split
  · rfl
  · exact rep_none N j
theorem one_inv {N : Nat} (hN : 1 ≤ N) {g : Ent} (hw : EntW g) (hm : mayB g = true) : Inv (oneL N g) :=
  (inv_new N).put (by rw [List.length_replicate]; omega) hw hm (fun j b _ hx => by rw [rep_none] at hx; cases hx)
theorem none_rep {N : Nat} (hN : 1 ≤ N) : noneAt (List.replicate N (none : Option Ent)) = some 0 := by
  cases N with
  | zero => omega
  | succ n => rfl
theorem one_ins {N : Nat} (hN : 1 ≤ N) {g : Ent} (hm : mayB g = true) (pick : Int) : insOf (List.replicate N none) g pick = (0, 0, oneL N g) := by
  have hp : ∀ q, plL (List.replicate N (none : Option Ent)) q = [] := fun q => plL_none (fun j b hx => by rw [rep_none] at hx; cases hx)
  have hg : goneOf (List.replicate N none) g = List.replicate N none := ext_getD (gone_len _ g) (fun j hj => by unfold goneOf; rw [clearQ_at, rep_none])
  unfold insOf
  rw [if_neg (by simp [hm]), hp, if_neg (by simp), hg]
  unfold placeN
  rw [none_rep hN]
  rfl
theorem one_find {N : Nat} (hN : 1 ≤ N) {g : Ent} (hw : EntW g) (hm : mayB g = true) (va ctx : Int) : findE (oneL N g) va ctx = (if hitsB g va ctx = true then g else zE) ∧ findB (oneL N g) va ctx = hitsB g va ctx := by
  have h0 := one_at hN g 0
  rw [if_pos rfl] at h0
  cases hh : hitsB g va ctx with
  | true =>
    have hf := (one_inv hN hw hm).find h0 hh
    unfold findE findB
    rw [hf]
    exact ⟨by simp only []; rw [h0]; rfl, rfl⟩
  | false =>
    have hf : findOf (oneL N g) (fun e => hitsB e va ctx) = none := by
      unfold findOf
      rw [plL_none (fun j b hx => ?_)]
      · rfl
      · rw [one_at hN] at hx
        split at hx
        · cases hx; exact hh
        · cases hx
    unfold findE findB
    rw [hf]
    exact ⟨rfl, rfl⟩
theorem none_find (N : Nat) (va ctx : Int) : findE (List.replicate N none) va ctx = zE ∧ findB (List.replicate N none) va ctx = false := by
  have hf : findOf (List.replicate N none) (fun e => hitsB e va ctx) = none := by
    unfold findOf
    rw [plL_none (fun j b hx => by rw [rep_none] at hx; cases hx)]
    rfl
  unfold findE findB
  rw [hf]
  exact ⟨rfl, rfl⟩
theorem may_hole {e : Ent} (h : mayB e = true) : ¬ (e.f2.toNat / 8796093022208 ≠ 0 ∧ e.f2.toNat / 8796093022208 ≠ 2097151) := by
  unfold mayB mayOf at h
  simp at h
  omega
theorem zero_hits (va ctx : Int) : hitsB zE va ctx = false := rfl
theorem ok_8192 {s : Int} (h : okSize s) : 8192 ≤ bytesOf s := by
  rcases ok_cases h with rfl | rfl | rfl | rfl <;> decide
/-- An address of an entry's page. -/
structure InPage (g : Ent) (o : Nat) (v : Int) : Prop where
  wf : (Lit.int .u64 v).wf = true
  hole : holeB v = false
  hit : ∀ ctx, hitsB g v ctx = (g.f4.f4 || g.f1 == ctx)
  off : v.toNat % bytesOf g.f0 = o
  same : v.toNat / bytesOf g.f0 * bytesOf g.f0 = g.f2.toNat / bytesOf g.f0 * bytesOf g.f0
theorem in_page {g : Ent} (hw : EntW g) (hm : mayB g = true) (o : Nat) (ho : o < 8192) : IntKind.u64.wrap (g.f2 + (o : Int)) = ((g.f2.toNat + o : Nat) : Int) ∧ InPage g o ((g.f2.toNat + o : Nat) : Int) := by
  have hs := may_okS hm
  have hb := ok_8192 hs.1
  have hmod := may_mod hm
  obtain ⟨h1, h2, _⟩ := hits_off hw hm o (by omega)
  obtain ⟨_, hp⟩ := off_size g.f0 hs.1 g.f2.toNat o (u64_nat hw.v).2 hmod (by omega)
  refine ⟨h1, h2, ?_, fun ctx => ?_, ?_, ?_⟩
  · have hh := may_hole hm
    unfold holeB
    rw [Int.toNat_natCast]
    refine decide_eq_false ?_
    have h8 : g.f2.toNat % 8192 = 0 := by
      rcases ok_cases hs.1 with e | e | e | e <;> rw [e] at hmod <;> simp only [by0, by1, by2, by3] at hmod <;> omega
    omega
  · rw [hitsB_eq hs, Int.toNat_natCast, decide_eq_true hp, Bool.true_and]
  · rw [Int.toNat_natCast]
    rcases ok_cases hs.1 with e | e | e | e <;> rw [e] at hmod ⊢ <;> simp only [by0, by1, by2, by3] at hmod ⊢ <;> omega
  · rw [Int.toNat_natCast]
    exact hp
theorem look_one {N : Nat} (hN : 1 ≤ N) {g : Ent} (hw : EntW g) (hm : mayB g = true) {o : Nat} {v : Int} (hv : InPage g o v) (ctx kind : Int) (priv : Bool) :
    lookB (oneL N g) ctx kind priv v = if (g.f4.f4 || g.f1 == ctx) = true then (if judgeOf g.f4.f0 g.f4.f1 g.f4.f2 g.f4.f5 kind priv = 0 then (IntKind.u64.wrap (g.f3 + (o : Int)), 0) else (0, judgeOf g.f4.f0 g.f4.f1 g.f4.f2 g.f4.f5 kind priv)) else (0, 2) := by
  unfold lookB
  rw [(one_find hN hw hm v ctx).1, hv.hit]
  cases hc : (g.f4.f4 || g.f1 == ctx) with
  | true =>
    rw [if_pos rfl, if_pos rfl]
    have hof : ofB g ctx kind priv v = judgeOf g.f4.f0 g.f4.f1 g.f4.f2 g.f4.f5 kind priv := by
      unfold ofB
      rw [hv.hole, if_neg (by decide), hv.hit, hc, if_pos rfl]
    unfold lookE
    rw [hof]
    split
    · have hs := may_okS hm
      unfold frameB
      rw [hs.2, decide_eq_true ⟨hs.1, hv.same⟩, if_pos (show (true && true) = true from rfl), hv.off]
    · rfl
  | false =>
    rw [if_neg (by decide), if_neg (by decide)]
    unfold lookE ofB
    rw [hv.hole, zero_hits]
    rfl
theorem look_none (N : Nat) {v : Int} (hv : holeB v = false) (ctx kind : Int) (priv : Bool) : lookB (List.replicate N none) ctx kind priv v = (0, 2) := by
  unfold lookB
  rw [(none_find N v ctx).1]
  unfold lookE ofB
  rw [hv, zero_hits]
  rfl
end Go.Proofs.Ythclbckkfgmbaaa.QTlbPlays
