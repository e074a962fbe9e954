/- Look, Forget of a page, Entries, the document's example; at whatever numbers. -/
import Derived.Test.YthclbckkfgmbaaaCp0
/- merged: CpP -/
namespace Go.Proofs.Ythclbckkfgmbaaa.QTlbPlays
open Go.RowKit Go.Proofs.YthclbckkfgmbaaaW.PrintWords Go.Proofs.YthclbckkfgmbaaaW.PrintLast Go.Proofs.YthclbckkfgmbaaaW.PrintMore
set_option linter.unusedSimpArgs false
set_option linter.unusedVariables false
/-! ### What attributes say of an access -/
def judgeOf (w p e q : Bool) (kind : Int) (priv : Bool) : Int :=
  if (p && !priv) = true then 3 else if (q && kind != 3) = true then 4 else if (kind == 1 && !w) = true then 5 else if (kind == 2 && !e) = true then 6 else 0
theorem pJudge (w p e l g q : Bool) (kind : Int) (priv : Bool) (va : Int) (k : Nat) (hk : 10 ≤ k) : fault_Judge.f k w p e l g q kind priv va = some (judgeOf w p e q kind priv) := by
  obtain ⟨k, rfl⟩ : ∃ m, k = m + 3 := ⟨k - 3, by omega⟩
  unfold fault_Judge.f judgeOf
  by_cases h1 : kind = 1
  · subst h1; cases w <;> cases p <;> cases e <;> cases q <;> cases priv <;> rfl
  · by_cases h2 : kind = 2
    · subst h2; cases w <;> cases p <;> cases e <;> cases q <;> cases priv <;> rfl
    · by_cases h3 : kind = 3
      · subst h3; cases w <;> cases p <;> cases e <;> cases q <;> cases priv <;> rfl
      · cases w <;> cases p <;> cases e <;> cases q <;> cases priv <;> simp [fault_Judge.j0, fault_Judge.j1, fault_Judge.j2, h1, h2, h3]

theorem rJudge (w p e l g q : Bool) (kind : Int) (priv : Bool) (va : Int) (k : Nat) (hk : 10 ≤ k) : lookasideref09_Judge.f k w p e l g q kind priv va = some (judgeOf w p e q kind priv) := by
  obtain ⟨k, rfl⟩ : ∃ m, k = m + 3 := ⟨k - 3, by omega⟩
  unfold lookasideref09_Judge.f judgeOf
  by_cases h1 : kind = 1
  · subst h1; cases w <;> cases p <;> cases e <;> cases q <;> cases priv <;> rfl
  · by_cases h2 : kind = 2
    · subst h2; cases w <;> cases p <;> cases e <;> cases q <;> cases priv <;> rfl
    · by_cases h3 : kind = 3
      · subst h3; cases w <;> cases p <;> cases e <;> cases q <;> cases priv <;> rfl
      · cases w <;> cases p <;> cases e <;> cases q <;> cases priv <;> simp [lookasideref09_Judge.j0, lookasideref09_Judge.j1, lookasideref09_Judge.j2, h1, h2, h3]

/-- A number's kind of access. -/
def kindOf (n : Int) : Nat := (if n < 0 then -(n + 1) else n).toNat % 4
theorem kindOf_lt (n : Int) : kindOf n < 4 := Nat.mod_lt _ (by decide)
theorem rFGood (kind : Int) (hk : (Lit.int .i64 kind).wf = true) (priv : Bool) (va : Int) (k : Nat) : lookasideref09_Good.f k kind priv va false = some ((kindOf kind : Int), priv, va) := by
  obtain ⟨h1, h2⟩ := m_i64 hk
  unfold lookasideref09_Good.f kindOf
  by_cases h : kind < 0
  · rw [if_pos h, if_neg (by decide), if_pos h]
    have e : wrap64 (-(wrap64 (kind + 1))) = -(kind + 1) := by unfold wrap64; omega
    rw [e, Int.tmod_eq_emod_of_nonneg (by omega)]
    refine congrArg some (Prod.ext ?_ rfl); omega
  · rw [if_neg h, if_neg (by decide), if_neg h, Int.tmod_eq_emod_of_nonneg (by omega)]
    refine congrArg some (Prod.ext ?_ rfl); omega


def holeB (va : Int) : Bool := decide (va.toNat / 8796093022208 ≠ 0 ∧ va.toNat / 8796093022208 ≠ 2097151)
def ofB (e : Ent) (ctx kind : Int) (priv : Bool) (va : Int) : Int := if holeB va = true then 1 else if hitsB e va ctx = true then judgeOf e.f4.f0 e.f4.f1 e.f4.f2 e.f4.f5 kind priv else 2
theorem of_ok {e : Ent} (h : EntW e) {va : Int} (hva : (Lit.int .u64 va).wf = true) (ctx kind : Int) (priv : Bool) : fault_Of.f 20 e.f0 e.f1 e.f2 e.f3 e.f4.f0 e.f4.f1 e.f4.f2 e.f4.f3 e.f4.f4 e.f4.f5 e.f5 ctx kind priv va = some (ofB e ctx kind priv va) := by
  have h2 := u64_nat hva
  have hh := pHole va.toNat h2.2
  rw [h2.1] at hh
  unfold fault_Of.f ofB
  rw [hh, Option.bind_some, hits_ok h hva ctx]
  show (if holeB va = true then _ else _) = _
  cases holeB va with
  | true => rfl
  | false =>
    rw [if_neg (by decide), if_neg (by decide), Option.bind_some]
    cases hitsB e va ctx with
    | true =>
      rw [if_pos rfl, if_pos rfl, pJudge _ _ _ _ _ _ _ _ _ 20 (by decide)]
      rfl
    | false => rw [if_neg (by decide), if_neg (by decide)]
def frameB (e : Ent) (va : Int) : Int × Bool := if (e.f5 && decide (okSize e.f0 ∧ va.toNat / bytesOf e.f0 * bytesOf e.f0 = e.f2.toNat / bytesOf e.f0 * bytesOf e.f0)) = true then (IntKind.u64.wrap (e.f3 + ((va.toNat % bytesOf e.f0 : Nat) : Int)), true) else (0, false)
theorem frame_ok {e : Ent} (h : EntW e) {va : Int} (hva : (Lit.int .u64 va).wf = true) : tte_Frame.f e.f0 e.f1 e.f2 e.f3 e.f4.f0 e.f4.f1 e.f4.f2 e.f4.f3 e.f4.f4 e.f4.f5 e.f5 va = some (frameB e va) := by
  have h1 := u64_nat h.v
  have h2 := u64_nat hva
  have hi := pIn va.toNat e.f2.toNat h2.2 h1.2 e.f0
  rw [h1.1, h2.1] at hi
  have ho := pOffset va.toNat h2.2 e.f0
  rw [h2.1] at ho
  unfold tte_Frame.f frameB
  cases hv : e.f5 with
  | false => simp
  | true =>
    rw [if_pos rfl, hi, Option.bind_some]
    by_cases c : okSize e.f0 ∧ va.toNat / bytesOf e.f0 * bytesOf e.f0 = e.f2.toNat / bytesOf e.f0 * bytesOf e.f0
    · rw [decide_eq_true c, if_pos rfl, ho, if_pos c.1, Option.bind_some]
      rfl
    · rw [decide_eq_false c, if_neg (by decide)]
      rfl
def lookE (e : Ent) (ctx kind : Int) (priv : Bool) (va : Int) : Int × Int := if ofB e ctx kind priv va = 0 then ((frameB e va).1, 0) else (0, ofB e ctx kind priv va)
def lookB (es : List (Option Ent)) (ctx kind : Int) (priv : Bool) (va : Int) : Int × Int := lookE (findE es va ctx) ctx kind priv va
theorem zE_W0 : EntW zE := ⟨(show (Lit.int .i64 0).wf = true by decide), (show (Lit.int .i64 0).wf = true by decide), (show (Lit.int .u64 0).wf = true by decide), (show (Lit.int .u64 0).wf = true by decide)⟩
theorem findE_W {es : List (Option Ent)} (h : OkL es) (va ctx : Int) : EntW (findE es va ctx) := by
  unfold findE
  split
  · cases hx : es.getD _ none with
    | none => exact zE_W0
    | some e => exact (ok_at h hx).1
  · exact zE_W0
theorem judge_two (w p e q : Bool) (kind : Int) (priv : Bool) : judgeOf w p e q kind priv ≠ 2 := by
  unfold judgeOf
  split
  · decide
  · split
    · decide
    · split
      · decide
      · split <;> decide
/-! ### One entry alone -/
def oneL (N : Nat) (g : Ent) : List (Option Ent) := (List.replicate N none).set 0 (some g)
theorem one_at {N : Nat} (hN : 1 ≤ N) (g : Ent) (j : Nat) : (oneL N g).getD j none = if j = 0 then some g else none := by
  unfold oneL
  rw [set_at _ (by rw [List.length_replicate]; omega) j]
  split
  · rfl
  · exact rep_none N j
theorem one_inv {N : Nat} (hN : 1 ≤ N) {g : Ent} (hw : EntW g) (hm : mayB g = true) : Inv (oneL N g) :=
  (inv_new N).put (by rw [List.length_replicate]; omega) hw hm (fun j b _ hx => by rw [rep_none] at hx; cases hx)
theorem none_rep {N : Nat} (hN : 1 ≤ N) : noneAt (List.replicate N (none : Option Ent)) = some 0 := by
  cases N with
  | zero => omega
  | succ n => rfl
theorem one_ins {N : Nat} (hN : 1 ≤ N) {g : Ent} (hm : mayB g = true) (pick : Int) : insOf (List.replicate N none) g pick = (0, 0, oneL N g) := by
  have hp : ∀ q, plL (List.replicate N (none : Option Ent)) q = [] := fun q => plL_none (fun j b hx => by rw [rep_none] at hx; cases hx)
  have hg : goneOf (List.replicate N none) g = List.replicate N none := ext_getD (gone_len _ g) (fun j hj => by unfold goneOf; rw [clearQ_at, rep_none])
  unfold insOf
  rw [if_neg (by simp [hm]), hp, if_neg (by simp), hg]
  unfold placeN
  rw [none_rep hN]
  rfl
theorem one_find {N : Nat} (hN : 1 ≤ N) {g : Ent} (hw : EntW g) (hm : mayB g = true) (va ctx : Int) : findE (oneL N g) va ctx = (if hitsB g va ctx = true then g else zE) ∧ findB (oneL N g) va ctx = hitsB g va ctx := by
  have h0 := one_at hN g 0
  rw [if_pos rfl] at h0
  cases hh : hitsB g va ctx with
  | true =>
    have hf := (one_inv hN hw hm).find h0 hh
    unfold findE findB
    rw [hf]
    exact ⟨by simp only []; rw [h0]; rfl, rfl⟩
  | false =>
    have hf : findOf (oneL N g) (fun e => hitsB e va ctx) = none := by
      unfold findOf
      rw [plL_none (fun j b hx => ?_)]
      · rfl
      · rw [one_at hN] at hx
        split at hx
        · cases hx; exact hh
        · cases hx
    unfold findE findB
    rw [hf]
    exact ⟨rfl, rfl⟩
theorem none_find (N : Nat) (va ctx : Int) : findE (List.replicate N none) va ctx = zE ∧ findB (List.replicate N none) va ctx = false := by
  have hf : findOf (List.replicate N none) (fun e => hitsB e va ctx) = none := by
    unfold findOf
    rw [plL_none (fun j b hx => by rw [rep_none] at hx; cases hx)]
    rfl
  unfold findE findB
  rw [hf]
  exact ⟨rfl, rfl⟩
theorem may_hole {e : Ent} (h : mayB e = true) : ¬ (e.f2.toNat / 8796093022208 ≠ 0 ∧ e.f2.toNat / 8796093022208 ≠ 2097151) := by
  unfold mayB mayOf at h
  simp at h
  omega
theorem zero_hits (va ctx : Int) : hitsB zE va ctx = false := rfl
theorem ok_8192 {s : Int} (h : okSize s) : 8192 ≤ bytesOf s := by
  rcases ok_cases h with rfl | rfl | rfl | rfl <;> decide
/-- An address of an entry's page. -/
structure InPage (g : Ent) (o : Nat) (v : Int) : Prop where
  wf : (Lit.int .u64 v).wf = true
  hole : holeB v = false
  hit : ∀ ctx, hitsB g v ctx = (g.f4.f4 || g.f1 == ctx)
  off : v.toNat % bytesOf g.f0 = o
  same : v.toNat / bytesOf g.f0 * bytesOf g.f0 = g.f2.toNat / bytesOf g.f0 * bytesOf g.f0
theorem in_page {g : Ent} (hw : EntW g) (hm : mayB g = true) (o : Nat) (ho : o < 8192) : IntKind.u64.wrap (g.f2 + (o : Int)) = ((g.f2.toNat + o : Nat) : Int) ∧ InPage g o ((g.f2.toNat + o : Nat) : Int) := by
  have hs := may_okS hm
  have hb := ok_8192 hs.1
  have hmod := may_mod hm
  obtain ⟨h1, h2, _⟩ := hits_off hw hm o (by omega)
  obtain ⟨_, hp⟩ := off_size g.f0 hs.1 g.f2.toNat o (u64_nat hw.v).2 hmod (by omega)
  refine ⟨h1, h2, ?_, fun ctx => ?_, ?_, ?_⟩
  · have hh := may_hole hm
    unfold holeB
    rw [Int.toNat_natCast]
    refine decide_eq_false ?_
    have h8 : g.f2.toNat % 8192 = 0 := by
      rcases ok_cases hs.1 with e | e | e | e <;> rw [e] at hmod <;> simp only [by0, by1, by2, by3] at hmod <;> omega
    omega
  · rw [hitsB_eq hs, Int.toNat_natCast, decide_eq_true hp, Bool.true_and]
  · rw [Int.toNat_natCast]
    rcases ok_cases hs.1 with e | e | e | e <;> rw [e] at hmod ⊢ <;> simp only [by0, by1, by2, by3] at hmod ⊢ <;> omega
  · rw [Int.toNat_natCast]
    exact hp
theorem look_one {N : Nat} (hN : 1 ≤ N) {g : Ent} (hw : EntW g) (hm : mayB g = true) {o : Nat} {v : Int} (hv : InPage g o v) (ctx kind : Int) (priv : Bool) :
    lookB (oneL N g) ctx kind priv v = if (g.f4.f4 || g.f1 == ctx) = true then (if judgeOf g.f4.f0 g.f4.f1 g.f4.f2 g.f4.f5 kind priv = 0 then (IntKind.u64.wrap (g.f3 + (o : Int)), 0) else (0, judgeOf g.f4.f0 g.f4.f1 g.f4.f2 g.f4.f5 kind priv)) else (0, 2) := by
  unfold lookB
  rw [(one_find hN hw hm v ctx).1, hv.hit]
  cases hc : (g.f4.f4 || g.f1 == ctx) with
  | true =>
    rw [if_pos rfl, if_pos rfl]
    have hof : ofB g ctx kind priv v = judgeOf g.f4.f0 g.f4.f1 g.f4.f2 g.f4.f5 kind priv := by
      unfold ofB
      rw [hv.hole, if_neg (by decide), hv.hit, hc, if_pos rfl]
    unfold lookE
    rw [hof]
    split
    · have hs := may_okS hm
      unfold frameB
      rw [hs.2, decide_eq_true ⟨hs.1, hv.same⟩, if_pos (show (true && true) = true from rfl), hv.off]
    · rfl
  | false =>
    rw [if_neg (by decide), if_neg (by decide)]
    unfold lookE ofB
    rw [hv.hole, zero_hits]
    rfl
theorem look_none (N : Nat) {v : Int} (hv : holeB v = false) (ctx kind : Int) (priv : Bool) : lookB (List.replicate N none) ctx kind priv v = (0, 2) := by
  unfold lookB
  rw [(none_find N v ctx).1]
  unfold lookE ofB
  rw [hv, zero_hits]
  rfl
end Go.Proofs.Ythclbckkfgmbaaa.QTlbPlays
namespace Go.Proofs.Ythclbckkfgmbaaa.QTlbPlays
open Go.RowKit Go.Proofs.YthclbckkfgmbaaaW.PrintWords Go.Proofs.YthclbckkfgmbaaaW.PrintLast Go.Proofs.YthclbckkfgmbaaaW.PrintMore
set_option linter.unusedSimpArgs false
set_option linter.unusedVariables false
section
set_option maxHeartbeats 1000000
set_option maxRecDepth 100000
noncomputable def look1_T : Bool × List (List Nat × List Nat) := rtab .any (opsOf Try.f36 1)
theorem look1_tab : rtab .any (opsOf Try.f36 1) = look1_T := rfl
theorem cpu_finde0 {B w0 q g p0 r0 p1 r1 e0 e1 W} (h : Cpu B w0 q g p0 r0 p1 r1 e0 e1 W) (hw : OkL e0) (va ctx : Int) (hva : (Lit.int .u64 va).wf = true) (e : Ent) (he : findE e0 va ctx = e) (b : Bool) (hb : findB e0 va ctx = b) :
    Calls Try.prog 39 #[.pointer (some ⟨q, 0, none⟩), .int .i64 0, .int .u64 va, .int .i64 ctx] W fun x W' => x = .returned (.tuple #[.agg (entA e), .bool b]) ∧ W.grownBy W' none := by
  subst he hb
  exact cpu_find0 h hw va ctx hva
theorem cpu_finde1 {B w0 q g p0 r0 p1 r1 e0 e1 W} (h : Cpu B w0 q g p0 r0 p1 r1 e0 e1 W) (hw : OkL e1) (va ctx : Int) (hva : (Lit.int .u64 va).wf = true) (e : Ent) (he : findE e1 va ctx = e) (b : Bool) (hb : findB e1 va ctx = b) :
    Calls Try.prog 39 #[.pointer (some ⟨q, 0, none⟩), .int .i64 1, .int .u64 va, .int .i64 ctx] W fun x W' => x = .returned (.tuple #[.agg (entA e), .bool b]) ∧ W.grownBy W' none := by
  subst he hb
  exact cpu_find1 h hw va ctx hva
theorem cpu_look0 {B w0 q g p0 r0 p1 r1 e0 e1 W} (h : Cpu B w0 q g p0 r0 p1 r1 e0 e1 W) (hw : OkL e0) (ctx kind : Int) (priv : Bool) (va : Int) (hva : (Lit.int .u64 va).wf = true) (hk : cpu_Unit.f kind = some 0) (pa n : Int) (hl : lookB e0 ctx kind priv va = (pa, n)) :
    Calls Try.prog 36 #[.pointer (some ⟨q, 0, none⟩), .int .i64 ctx, .agg #[.int .i64 kind, .bool priv, .int .u64 va]] W fun x W' => x = .returned (.tuple #[.int .u64 pa, .int .i64 n]) ∧ W.grownBy W' none := by
  have hu := Try.underlying26
  have hu2 := Try.underlying24
  have hu3 := Try.underlying61
  have hg0 := grown_two (World.grownBy_alloc W (.cells #[.int .i64 kind, .bool priv, .int .u64 va] 61) none) (grown_drew _ none)
  have HB5 := Aside0.mk (heap_alloc_new W (.cells #[.int .i64 kind, .bool priv, .int .u64 va] 61))
  have HM := Aside0.mk h
  have HG := Aside0.mk hg0
  have HW := Aside0.mk hw
  have HVA := Aside0.mk hva
  have HU := Aside0.mk hk
  have hEW := findE_W hw va ctx
  unfold lookB at hl
  obtain ⟨fb, hfb⟩ : ∃ b, findB e0 va ctx = b := ⟨_, rfl⟩
  obtain ⟨e, he⟩ : ∃ e, findE e0 va ctx = e := ⟨_, rfl⟩
  rw [he] at hEW hl
  have HE := Aside0.mk he
  have HFB := Aside0.mk hfb
  have HEW := Aside0.mk hEW
  unfold lookE at hl
  obtain ⟨m, hm⟩ : ∃ m, ofB e ctx kind priv va = m := ⟨_, rfl⟩
  have HOF := Aside0.mk ((of_ok hEW hva ctx kind priv).trans (congrArg some hm))
  rw [hm] at hl
  obtain ⟨fp, hfp⟩ : ∃ z, frameB e va = z := ⟨_, rfl⟩
  have HFR := Aside0.mk ((frame_ok hEW hva).trans (congrArg some hfp))
  rw [hfp] at hl
  have HL := Aside0.mk hl
  clear h hg0 hw hva hk hEW hl he hfb hm hfp
  obtain ⟨f1, f2⟩ := fp
  go_enter Try.func36, Try.ntmps36
  go_wp2_with fail
  generalize W.heap.size = h5 at HB5 ⊢
  refine start_ (n := 14) (S := fun w' => w'.heap[h5]? = some (.cells #[.int .i64 kind, .bool priv, .int .u64 va] 61 (0, 0))) (ds := []) #[false, false, false, false, false, false, false, false, false, false, false, false, false, false] (by kernel_rfl) rfl rfl HB5.out (fun hHeld => ?_)
  refine with_tab look1_tab (fun HT_ => ?_)
  refine pure_ (i := 0) (N := some 14) (v := ?_) (a' := ?_) #[true, false, false, false, false, false, false, false, false, false, false, false, false, false] rfl rfl (any_of HT_.out (by kernel_rfl)) (fun _ _ _ h => h) (Or.inl ⟨by rfl, ?_⟩) ?_ ?_
  rotate_left
  · intro w'
    go_simp
    with_reducible rfl
  rotate_left
  · simp only [Act.put, List.setIfInBounds_toArray, List.set_cons_zero, List.set_cons_succ, i64_w, i32_w]
    rfl
  refine pure_ (i := 1) (N := some 15) (v := ?_) (a' := ?_) #[true, true, false, false, false, false, false, false, false, false, false, false, false, false] rfl rfl (any_of HT_.out (by kernel_rfl)) (fun _ _ _ h => h) (Or.inl ⟨by rfl, ?_⟩) ?_ ?_
  rotate_left
  · intro w'
    go_simp
    with_reducible rfl
  rotate_left
  · simp only [Act.put, List.setIfInBounds_toArray, List.set_cons_zero, List.set_cons_succ, i64_w, i32_w]
    rfl
  refine pure_ (i := 4) (N := some 18) (v := ?_) (a' := ?_) #[true, true, false, false, true, false, false, false, false, false, false, false, false, false] rfl rfl (any_of HT_.out (by kernel_rfl)) (fun _ _ _ h => h) (Or.inl ⟨by rfl, ?_⟩) ?_ ?_
  rotate_left
  · intro w'
    go_simp
    with_reducible rfl
  rotate_left
  · simp only [Act.put, List.setIfInBounds_toArray, List.set_cons_zero, List.set_cons_succ, i64_w, i32_w]
    rfl
  refine pure_ (i := 6) (N := some 20) (v := ?_) (a' := ?_) #[true, true, false, false, true, false, true, false, false, false, false, false, false, false] rfl rfl (any_of HT_.out (by kernel_rfl)) (fun _ _ _ h => h) (Or.inl ⟨by rfl, ?_⟩) ?_ ?_
  rotate_left
  · intro w'
    go_simp
    with_reducible rfl
  rotate_left
  · simp only [Act.put, List.setIfInBounds_toArray, List.set_cons_zero, List.set_cons_succ, i64_w, i32_w]
    rfl
  refine take_ (i := 2) (N := some 16) (v := .int .i64 kind) (a' := ?_) #[true, true, true, false, true, false, true, false, false, false, false, false, false, false] rfl rfl (take_of HT_.out (by kernel_rfl)) (fun _ _ _ h => h) (Or.inl ⟨by rfl, ?_⟩) hHeld ?_ ?_
  · rintro w' s1
    obtain ⟨q0, q1, q2⟩ := cz3 s1
    go_simp
  rotate_left
  · simp only [Act.put, List.setIfInBounds_toArray, List.set_cons_zero, List.set_cons_succ, i64_w, i32_w]
    rfl
  refine take_ (i := 5) (N := some 19) (v := .int .u64 va) (a' := ?_) #[true, true, true, false, true, true, true, false, false, false, false, false, false, false] rfl rfl (take_of HT_.out (by kernel_rfl)) (fun _ _ _ h => h) (Or.inl ⟨by rfl, ?_⟩) hHeld ?_ ?_
  · rintro w' s1
    obtain ⟨q0, q1, q2⟩ := cz3 s1
    go_simp
  rotate_left
  · simp only [Act.put, List.setIfInBounds_toArray, List.set_cons_zero, List.set_cons_succ, i64_w, i32_w]
    rfl
  refine two_ (i := 3) (j := 11) (Ni := some 17) (Nj := some 8) #[true, true, true, true, true, true, true, false, false, false, false, false, false, false] #[true, true, true, false, true, true, true, false, false, false, false, true, false, false] rfl rfl rfl rfl (two_of HT_.out (by kernel_rfl)) (by decide) (by decide) (fun K hK => ?_) (fun K hK => ?_)
  · refine goes_ Try.func34 (by kernel_rfl) rfl #[.int .i64 kind] (by rfl) rfl rfl (by (try simp only [List.map_toArray, List.map_cons, List.map_nil]); first | done | rfl) ?_
    refine (cpu_Unit.calls kind 0 _ HU.out).mono ?_
    rintro x0 wn ⟨rfl, hb⟩
    have hg := drawn_grown hb
    replace HG := Aside0.mk (grown_two HG.out hg)
    have hs := blk_grown hHeld hg
    clear hg hb
    refine ⟨_, rfl, ?_⟩
    refine hK.out _ _ hs (fun hHeld => ?_)
    clear hK K
    refine norm_ (a' := ?_) ?_ ?_
    rotate_left
    · show Act.put _ (some 17) _ = _
      simp only [Act.put, List.setIfInBounds_toArray, List.set_cons_zero, List.set_cons_succ, i64_w, i32_w]
      rfl
    refine two_ (i := 7) (j := 11) (Ni := some 21) (Nj := some 8) #[true, true, true, true, true, true, true, true, false, false, false, false, false, false] #[true, true, true, true, true, true, true, false, false, false, false, true, false, false] rfl rfl rfl rfl (two_of HT_.out (by kernel_rfl)) (by decide) (by decide) (fun K hK => ?_) (fun K hK => ?_)
    · refine goes_ Try.func39 (by kernel_rfl) rfl #[.pointer (some ⟨q, 0, none⟩), .int .i64 0, .int .u64 va, .int .i64 ctx] (by rfl) rfl rfl (by (try simp only [List.map_toArray, List.map_cons, List.map_nil]); first | done | rfl) ?_
      refine (cpu_finde0 (HM.out.same HG.out) HW.out va ctx HVA.out e HE.out fb HFB.out).mono ?_
      rintro x0 wn ⟨rfl, hg⟩
      replace HG := Aside0.mk (grown_two HG.out hg)
      have hs := blk_grown hHeld hg
      clear hg
      refine ⟨_, rfl, ?_⟩
      refine hK.out _ _ hs (fun hHeld => ?_)
      clear hK K
      refine norm_ (a' := ?_) ?_ ?_
      rotate_left
      · show Act.put _ (some 21) _ = _
        simp only [Act.put, List.setIfInBounds_toArray, List.set_cons_zero, List.set_cons_succ, i64_w, i32_w]
        rfl
      refine pure_ (i := 8) (N := some 13) (v := ?_) (a' := ?_) #[true, true, true, true, true, true, true, true, true, false, false, false, false, false] rfl rfl (any_of HT_.out (by kernel_rfl)) (fun _ _ _ h => h) (Or.inl ⟨by rfl, ?_⟩) ?_ ?_
      rotate_left
      · intro w'
        go_simp
        with_reducible rfl
      rotate_left
      · simp only [Act.put, List.setIfInBounds_toArray, List.set_cons_zero, List.set_cons_succ, i64_w, i32_w]
        rfl
      refine pure_ (i := 9) (N := some 22) (v := ?_) (a' := ?_) #[true, true, true, true, true, true, true, true, true, true, false, false, false, false] rfl rfl (any_of HT_.out (by kernel_rfl)) (fun _ _ _ h => h) (Or.inl ⟨by rfl, ?_⟩) ?_ ?_
      rotate_left
      · intro w'
        go_simp
        with_reducible rfl
      rotate_left
      · simp only [Act.put, List.setIfInBounds_toArray, List.set_cons_zero, List.set_cons_succ, i64_w, i32_w]
        rfl
      refine pure_ (i := 10) (N := some 23) (v := ?_) (a' := ?_) #[true, true, true, true, true, true, true, true, true, true, true, false, false, false] rfl rfl (any_of HT_.out (by kernel_rfl)) (fun _ _ _ h => h) (Or.inl ⟨by rfl, ?_⟩) ?_ ?_
      rotate_left
      · intro w'
        go_simp
        with_reducible rfl
      rotate_left
      · simp only [Act.put, List.setIfInBounds_toArray, List.set_cons_zero, List.set_cons_succ, i64_w, i32_w]
        rfl
      refine one_ (i := 11) (N := some 8) #[true, true, true, true, true, true, true, true, true, true, true, true, false, false] rfl rfl (one_of HT_.out (by kernel_rfl)) (by decide) (fun K hK => ?_)
      refine box_step ?hg (N := 8) ?hd (cs := #[.int .i64 0, .int .i64 0, .int .u64 0, .int .u64 0, .bool false, .bool false, .bool false, .bool false, .bool false, .bool false, .bool false]) (t := 26) ?hr ?_; (case hd => rfl); (case hg => rfl); (case hr => first | (go_simp; done) | (go_simp; rfl))
      intro h8 hg8 wn hbox hb
      have HB8 := Aside0.mk hbox
      have HN8 := Aside0.mk (show W.heap.size ≤ h8 ∧ h5 ≠ h8 from ⟨by rw [hg8]; exact HG.out.size, fun e => by have := blk_lt hHeld; omega⟩)
      have hg := below_grown hb
      replace HG := Aside0.mk (grown_two HG.out hg)
      have hs := blk_grown hHeld hg
      clear hg hg8 hbox hb
      refine hK.out _ _ hs (fun hHeld => ?_)
      clear hK K
      refine norm_ (a' := ?_) ?_ ?_
      rotate_left
      · show Act.put _ (some 8) _ = _
        simp only [Act.put, List.setIfInBounds_toArray, List.set_cons_zero, List.set_cons_succ, i64_w, i32_w]
        rfl
      refine one_ (i := 12) (N := none) #[true, true, true, true, true, true, true, true, true, true, true, true, true, false] rfl rfl (one_of HT_.out (by kernel_rfl)) (by decide) (fun K hK => ?_)
      rw [if_pos (by rfl)]
      refine wp_store_row 26 (.tmp 8) (.tmp 22) rfl h8 (entA e) rfl rfl 26 #[.int .i64 0, .int .i64 0, .int .u64 0, .int .u64 0, .bool false, .bool false, .bool false, .bool false, .bool false, .bool false, .bool false] HB8.out (by kernel_rfl) rfl (by kernel_rfl) ?_
      have hb2 := setRow_heap wn h8 _ (entA e) _ _ HB8.out
      have hg2 := grown_own HG.out (grown_row wn h8 (entA e)) (fun j e => by cases e; exact HN8.out.1)
      have hs := (setRow_other wn h8 h5 (entA e) HN8.out.2).trans hHeld
      generalize World.setRow wn h8 (entA e) = wb at hb2 hg2 hs ⊢
      have HB9 := Aside0.mk hb2
      have HG9 := Aside0.mk hg2
      clear hb2 hg2 HB8 HN8 HG
      refine hK.out _ _ hs (fun hHeld => ?_)
      clear hK K
      refine norm_ (a' := ?_) ?_ ?_
      rotate_left
      · show Act.put _ none _ = _
        rfl
      refine pure_ (i := 13) (N := some 9) (v := ?_) (a' := ?_) #[true, true, true, true, true, true, true, true, true, true, true, true, true, true] rfl rfl (any_of HT_.out (by kernel_rfl)) (fun _ _ _ h => h) (Or.inl ⟨by rfl, ?_⟩) ?_ ?_
      rotate_left
      · intro w'
        go_simp
        with_reducible rfl
      rotate_left
      · simp only [Act.put, List.setIfInBounds_toArray, List.set_cons_zero, List.set_cons_succ, i64_w, i32_w]
        rfl
      refine done_ (done_of HT_.out (by kernel_rfl)) ?_
      have HZ5 := Aside0.mk hHeld
      obtain ⟨q0, q1, q2, q3, q4, q5, q6, q7, q8, q9, q10⟩ := cz11 HB9.out
      obtain ⟨z0, z1, z2⟩ := cz3 hHeld
      go_wp2_with fail
      refine (fault_Of.calls 20 e.f0 e.f1 e.f2 e.f3 e.f4.f0 e.f4.f1 e.f4.f2 e.f4.f3 e.f4.f4 e.f4.f5 e.f5 ctx kind priv va m _ HOF.out).mono ?_
      rintro x0 wo ⟨rfl, hb⟩
      have hg := below_grown hb
      replace HG9 := Aside0.mk (grown_two HG9.out hg)
      replace HB9 := Aside0.mk (blk_grown HB9.out hg)
      replace HZ5 := Aside0.mk (blk_grown HZ5.out hg)
      clear hb hg q0 q1 q2 q3 q4 q5 q6 q7 q8 q9 q10 z0 z1 z2 hHeld
      by_cases hm0 : m = 0
      · subst hm0
        obtain ⟨q0, q1, q2, q3, q4, q5, q6, q7, q8, q9, q10⟩ := cz11 HB9.out
        obtain ⟨z0, z1, z2⟩ := cz3 HZ5.out
        go_wp2_with fail
        refine (tte_Frame.calls e.f0 e.f1 e.f2 e.f3 e.f4.f0 e.f4.f1 e.f4.f2 e.f4.f3 e.f4.f4 e.f4.f5 e.f5 va f1 f2 _ HFR.out).mono ?_
        rintro x0 wf ⟨rfl, hb⟩
        have hg := below_grown hb
        replace HG9 := Aside0.mk (grown_two HG9.out hg)
        clear hb hg q0 q1 q2 q3 q4 q5 q6 q7 q8 q9 q10 z0 z1 z2
        go_wp2
        go_ret2
        have hl := HL.out
        simp only [if_true] at hl
        cases hl
        exact ⟨rfl, HG9.out⟩
      · have hmb : (m != 0) = true := by simp [hm0]
        go_wp2
        go_ret2
        have hl := HL.out
        rw [if_neg hm0] at hl
        cases hl
        exact ⟨rfl, HG9.out⟩
    · refine box_step ?hg (N := 8) ?hd (cs := #[.int .i64 0, .int .i64 0, .int .u64 0, .int .u64 0, .bool false, .bool false, .bool false, .bool false, .bool false, .bool false, .bool false]) (t := 26) ?hr ?_; (case hd => rfl); (case hg => rfl); (case hr => first | (go_simp; done) | (go_simp; rfl))
      intro h8 hg8 wn hbox hb
      have HB8 := Aside0.mk hbox
      have HN8 := Aside0.mk (show W.heap.size ≤ h8 ∧ h5 ≠ h8 from ⟨by rw [hg8]; exact HG.out.size, fun e => by have := blk_lt hHeld; omega⟩)
      have hg := below_grown hb
      replace HG := Aside0.mk (grown_two HG.out hg)
      have hs := blk_grown hHeld hg
      clear hg hg8 hbox hb
      refine hK.out _ _ hs (fun hHeld => ?_)
      clear hK K
      refine norm_ (a' := ?_) ?_ ?_
      rotate_left
      · show Act.put _ (some 8) _ = _
        simp only [Act.put, List.setIfInBounds_toArray, List.set_cons_zero, List.set_cons_succ, i64_w, i32_w]
        rfl
      refine one_ (i := 7) (N := some 21) #[true, true, true, true, true, true, true, true, false, false, false, true, false, false] rfl rfl (one_of HT_.out (by kernel_rfl)) (by decide) (fun K hK => ?_)
      refine goes_ Try.func39 (by kernel_rfl) rfl #[.pointer (some ⟨q, 0, none⟩), .int .i64 0, .int .u64 va, .int .i64 ctx] (by rfl) rfl rfl (by (try simp only [List.map_toArray, List.map_cons, List.map_nil]); first | done | rfl) ?_
      refine (cpu_finde0 (HM.out.same HG.out) HW.out va ctx HVA.out e HE.out fb HFB.out).mono ?_
      rintro x0 wn ⟨rfl, hg⟩
      replace HG := Aside0.mk (grown_two HG.out hg)
      have hs := blk_grown hHeld hg
      replace HB8 := Aside0.mk (blk_grown HB8.out hg)
      clear hg
      refine ⟨_, rfl, ?_⟩
      refine hK.out _ _ hs (fun hHeld => ?_)
      clear hK K
      refine norm_ (a' := ?_) ?_ ?_
      rotate_left
      · show Act.put _ (some 21) _ = _
        simp only [Act.put, List.setIfInBounds_toArray, List.set_cons_zero, List.set_cons_succ, i64_w, i32_w]
        rfl
      refine pure_ (i := 8) (N := some 13) (v := ?_) (a' := ?_) #[true, true, true, true, true, true, true, true, true, false, false, true, false, false] rfl rfl (any_of HT_.out (by kernel_rfl)) (fun _ _ _ h => h) (Or.inl ⟨by rfl, ?_⟩) ?_ ?_
      rotate_left
      · intro w'
        go_simp
        with_reducible rfl
      rotate_left
      · simp only [Act.put, List.setIfInBounds_toArray, List.set_cons_zero, List.set_cons_succ, i64_w, i32_w]
        rfl
      refine pure_ (i := 9) (N := some 22) (v := ?_) (a' := ?_) #[true, true, true, true, true, true, true, true, true, true, false, true, false, false] rfl rfl (any_of HT_.out (by kernel_rfl)) (fun _ _ _ h => h) (Or.inl ⟨by rfl, ?_⟩) ?_ ?_
      rotate_left
      · intro w'
        go_simp
        with_reducible rfl
      rotate_left
      · simp only [Act.put, List.setIfInBounds_toArray, List.set_cons_zero, List.set_cons_succ, i64_w, i32_w]
        rfl
      refine pure_ (i := 10) (N := some 23) (v := ?_) (a' := ?_) #[true, true, true, true, true, true, true, true, true, true, true, true, false, false] rfl rfl (any_of HT_.out (by kernel_rfl)) (fun _ _ _ h => h) (Or.inl ⟨by rfl, ?_⟩) ?_ ?_
      rotate_left
      · intro w'
        go_simp
        with_reducible rfl
      rotate_left
      · simp only [Act.put, List.setIfInBounds_toArray, List.set_cons_zero, List.set_cons_succ, i64_w, i32_w]
        rfl
      refine one_ (i := 12) (N := none) #[true, true, true, true, true, true, true, true, true, true, true, true, true, false] rfl rfl (one_of HT_.out (by kernel_rfl)) (by decide) (fun K hK => ?_)
      rw [if_pos (by rfl)]
      refine wp_store_row 26 (.tmp 8) (.tmp 22) rfl h8 (entA e) rfl rfl 26 #[.int .i64 0, .int .i64 0, .int .u64 0, .int .u64 0, .bool false, .bool false, .bool false, .bool false, .bool false, .bool false, .bool false] HB8.out (by kernel_rfl) rfl (by kernel_rfl) ?_
      have hb2 := setRow_heap wn h8 _ (entA e) _ _ HB8.out
      have hg2 := grown_own HG.out (grown_row wn h8 (entA e)) (fun j e => by cases e; exact HN8.out.1)
      have hs := (setRow_other wn h8 h5 (entA e) HN8.out.2).trans hHeld
      generalize World.setRow wn h8 (entA e) = wb at hb2 hg2 hs ⊢
      have HB9 := Aside0.mk hb2
      have HG9 := Aside0.mk hg2
      clear hb2 hg2 HB8 HN8 HG
      refine hK.out _ _ hs (fun hHeld => ?_)
      clear hK K
      refine norm_ (a' := ?_) ?_ ?_
      rotate_left
      · show Act.put _ none _ = _
        rfl
      refine pure_ (i := 13) (N := some 9) (v := ?_) (a' := ?_) #[true, true, true, true, true, true, true, true, true, true, true, true, true, true] rfl rfl (any_of HT_.out (by kernel_rfl)) (fun _ _ _ h => h) (Or.inl ⟨by rfl, ?_⟩) ?_ ?_
      rotate_left
      · intro w'
        go_simp
        with_reducible rfl
      rotate_left
      · simp only [Act.put, List.setIfInBounds_toArray, List.set_cons_zero, List.set_cons_succ, i64_w, i32_w]
        rfl
      refine done_ (done_of HT_.out (by kernel_rfl)) ?_
      have HZ5 := Aside0.mk hHeld
      obtain ⟨q0, q1, q2, q3, q4, q5, q6, q7, q8, q9, q10⟩ := cz11 HB9.out
      obtain ⟨z0, z1, z2⟩ := cz3 hHeld
      go_wp2_with fail
      refine (fault_Of.calls 20 e.f0 e.f1 e.f2 e.f3 e.f4.f0 e.f4.f1 e.f4.f2 e.f4.f3 e.f4.f4 e.f4.f5 e.f5 ctx kind priv va m _ HOF.out).mono ?_
      rintro x0 wo ⟨rfl, hb⟩
      have hg := below_grown hb
      replace HG9 := Aside0.mk (grown_two HG9.out hg)
      replace HB9 := Aside0.mk (blk_grown HB9.out hg)
      replace HZ5 := Aside0.mk (blk_grown HZ5.out hg)
      clear hb hg q0 q1 q2 q3 q4 q5 q6 q7 q8 q9 q10 z0 z1 z2 hHeld
      by_cases hm0 : m = 0
      · subst hm0
        obtain ⟨q0, q1, q2, q3, q4, q5, q6, q7, q8, q9, q10⟩ := cz11 HB9.out
        obtain ⟨z0, z1, z2⟩ := cz3 HZ5.out
        go_wp2_with fail
        refine (tte_Frame.calls e.f0 e.f1 e.f2 e.f3 e.f4.f0 e.f4.f1 e.f4.f2 e.f4.f3 e.f4.f4 e.f4.f5 e.f5 va f1 f2 _ HFR.out).mono ?_
        rintro x0 wf ⟨rfl, hb⟩
        have hg := below_grown hb
        replace HG9 := Aside0.mk (grown_two HG9.out hg)
        clear hb hg q0 q1 q2 q3 q4 q5 q6 q7 q8 q9 q10 z0 z1 z2
        go_wp2
        go_ret2
        have hl := HL.out
        simp only [if_true] at hl
        cases hl
        exact ⟨rfl, HG9.out⟩
      · have hmb : (m != 0) = true := by simp [hm0]
        go_wp2
        go_ret2
        have hl := HL.out
        rw [if_neg hm0] at hl
        cases hl
        exact ⟨rfl, HG9.out⟩
  · refine box_step ?hg (N := 8) ?hd (cs := #[.int .i64 0, .int .i64 0, .int .u64 0, .int .u64 0, .bool false, .bool false, .bool false, .bool false, .bool false, .bool false, .bool false]) (t := 26) ?hr ?_; (case hd => rfl); (case hg => rfl); (case hr => first | (go_simp; done) | (go_simp; rfl))
    intro h8 hg8 wn hbox hb
    have HB8 := Aside0.mk hbox
    have HN8 := Aside0.mk (show W.heap.size ≤ h8 ∧ h5 ≠ h8 from ⟨by rw [hg8]; exact HG.out.size, fun e => by have := blk_lt hHeld; omega⟩)
    have hg := below_grown hb
    replace HG := Aside0.mk (grown_two HG.out hg)
    have hs := blk_grown hHeld hg
    clear hg hg8 hbox hb
    refine hK.out _ _ hs (fun hHeld => ?_)
    clear hK K
    refine norm_ (a' := ?_) ?_ ?_
    rotate_left
    · show Act.put _ (some 8) _ = _
      simp only [Act.put, List.setIfInBounds_toArray, List.set_cons_zero, List.set_cons_succ, i64_w, i32_w]
      rfl
    refine one_ (i := 3) (N := some 17) #[true, true, true, true, true, true, true, false, false, false, false, true, false, false] rfl rfl (one_of HT_.out (by kernel_rfl)) (by decide) (fun K hK => ?_)
    refine goes_ Try.func34 (by kernel_rfl) rfl #[.int .i64 kind] (by rfl) rfl rfl (by (try simp only [List.map_toArray, List.map_cons, List.map_nil]); first | done | rfl) ?_
    refine (cpu_Unit.calls kind 0 _ HU.out).mono ?_
    rintro x0 wn ⟨rfl, hb⟩
    have hg := drawn_grown hb
    replace HG := Aside0.mk (grown_two HG.out hg)
    have hs := blk_grown hHeld hg
    replace HB8 := Aside0.mk (blk_grown HB8.out hg)
    clear hg hb
    refine ⟨_, rfl, ?_⟩
    refine hK.out _ _ hs (fun hHeld => ?_)
    clear hK K
    refine norm_ (a' := ?_) ?_ ?_
    rotate_left
    · show Act.put _ (some 17) _ = _
      simp only [Act.put, List.setIfInBounds_toArray, List.set_cons_zero, List.set_cons_succ, i64_w, i32_w]
      rfl
    refine one_ (i := 7) (N := some 21) #[true, true, true, true, true, true, true, true, false, false, false, true, false, false] rfl rfl (one_of HT_.out (by kernel_rfl)) (by decide) (fun K hK => ?_)
    refine goes_ Try.func39 (by kernel_rfl) rfl #[.pointer (some ⟨q, 0, none⟩), .int .i64 0, .int .u64 va, .int .i64 ctx] (by rfl) rfl rfl (by (try simp only [List.map_toArray, List.map_cons, List.map_nil]); first | done | rfl) ?_
    refine (cpu_finde0 (HM.out.same HG.out) HW.out va ctx HVA.out e HE.out fb HFB.out).mono ?_
    rintro x0 wn ⟨rfl, hg⟩
    replace HG := Aside0.mk (grown_two HG.out hg)
    have hs := blk_grown hHeld hg
    replace HB8 := Aside0.mk (blk_grown HB8.out hg)
    clear hg
    refine ⟨_, rfl, ?_⟩
    refine hK.out _ _ hs (fun hHeld => ?_)
    clear hK K
    refine norm_ (a' := ?_) ?_ ?_
    rotate_left
    · show Act.put _ (some 21) _ = _
      simp only [Act.put, List.setIfInBounds_toArray, List.set_cons_zero, List.set_cons_succ, i64_w, i32_w]
      rfl
    refine pure_ (i := 8) (N := some 13) (v := ?_) (a' := ?_) #[true, true, true, true, true, true, true, true, true, false, false, true, false, false] rfl rfl (any_of HT_.out (by kernel_rfl)) (fun _ _ _ h => h) (Or.inl ⟨by rfl, ?_⟩) ?_ ?_
    rotate_left
    · intro w'
      go_simp
      with_reducible rfl
    rotate_left
    · simp only [Act.put, List.setIfInBounds_toArray, List.set_cons_zero, List.set_cons_succ, i64_w, i32_w]
      rfl
    refine pure_ (i := 9) (N := some 22) (v := ?_) (a' := ?_) #[true, true, true, true, true, true, true, true, true, true, false, true, false, false] rfl rfl (any_of HT_.out (by kernel_rfl)) (fun _ _ _ h => h) (Or.inl ⟨by rfl, ?_⟩) ?_ ?_
    rotate_left
    · intro w'
      go_simp
      with_reducible rfl
    rotate_left
    · simp only [Act.put, List.setIfInBounds_toArray, List.set_cons_zero, List.set_cons_succ, i64_w, i32_w]
      rfl
    refine pure_ (i := 10) (N := some 23) (v := ?_) (a' := ?_) #[true, true, true, true, true, true, true, true, true, true, true, true, false, false] rfl rfl (any_of HT_.out (by kernel_rfl)) (fun _ _ _ h => h) (Or.inl ⟨by rfl, ?_⟩) ?_ ?_
    rotate_left
    · intro w'
      go_simp
      with_reducible rfl
    rotate_left
    · simp only [Act.put, List.setIfInBounds_toArray, List.set_cons_zero, List.set_cons_succ, i64_w, i32_w]
      rfl
    refine one_ (i := 12) (N := none) #[true, true, true, true, true, true, true, true, true, true, true, true, true, false] rfl rfl (one_of HT_.out (by kernel_rfl)) (by decide) (fun K hK => ?_)
    rw [if_pos (by rfl)]
    refine wp_store_row 26 (.tmp 8) (.tmp 22) rfl h8 (entA e) rfl rfl 26 #[.int .i64 0, .int .i64 0, .int .u64 0, .int .u64 0, .bool false, .bool false, .bool false, .bool false, .bool false, .bool false, .bool false] HB8.out (by kernel_rfl) rfl (by kernel_rfl) ?_
    have hb2 := setRow_heap wn h8 _ (entA e) _ _ HB8.out
    have hg2 := grown_own HG.out (grown_row wn h8 (entA e)) (fun j e => by cases e; exact HN8.out.1)
    have hs := (setRow_other wn h8 h5 (entA e) HN8.out.2).trans hHeld
    generalize World.setRow wn h8 (entA e) = wb at hb2 hg2 hs ⊢
    have HB9 := Aside0.mk hb2
    have HG9 := Aside0.mk hg2
    clear hb2 hg2 HB8 HN8 HG
    refine hK.out _ _ hs (fun hHeld => ?_)
    clear hK K
    refine norm_ (a' := ?_) ?_ ?_
    rotate_left
    · show Act.put _ none _ = _
      rfl
    refine pure_ (i := 13) (N := some 9) (v := ?_) (a' := ?_) #[true, true, true, true, true, true, true, true, true, true, true, true, true, true] rfl rfl (any_of HT_.out (by kernel_rfl)) (fun _ _ _ h => h) (Or.inl ⟨by rfl, ?_⟩) ?_ ?_
    rotate_left
    · intro w'
      go_simp
      with_reducible rfl
    rotate_left
    · simp only [Act.put, List.setIfInBounds_toArray, List.set_cons_zero, List.set_cons_succ, i64_w, i32_w]
      rfl
    refine done_ (done_of HT_.out (by kernel_rfl)) ?_
    have HZ5 := Aside0.mk hHeld
    obtain ⟨q0, q1, q2, q3, q4, q5, q6, q7, q8, q9, q10⟩ := cz11 HB9.out
    obtain ⟨z0, z1, z2⟩ := cz3 hHeld
    go_wp2_with fail
    refine (fault_Of.calls 20 e.f0 e.f1 e.f2 e.f3 e.f4.f0 e.f4.f1 e.f4.f2 e.f4.f3 e.f4.f4 e.f4.f5 e.f5 ctx kind priv va m _ HOF.out).mono ?_
    rintro x0 wo ⟨rfl, hb⟩
    have hg := below_grown hb
    replace HG9 := Aside0.mk (grown_two HG9.out hg)
    replace HB9 := Aside0.mk (blk_grown HB9.out hg)
    replace HZ5 := Aside0.mk (blk_grown HZ5.out hg)
    clear hb hg q0 q1 q2 q3 q4 q5 q6 q7 q8 q9 q10 z0 z1 z2 hHeld
    by_cases hm0 : m = 0
    · subst hm0
      obtain ⟨q0, q1, q2, q3, q4, q5, q6, q7, q8, q9, q10⟩ := cz11 HB9.out
      obtain ⟨z0, z1, z2⟩ := cz3 HZ5.out
      go_wp2_with fail
      refine (tte_Frame.calls e.f0 e.f1 e.f2 e.f3 e.f4.f0 e.f4.f1 e.f4.f2 e.f4.f3 e.f4.f4 e.f4.f5 e.f5 va f1 f2 _ HFR.out).mono ?_
      rintro x0 wf ⟨rfl, hb⟩
      have hg := below_grown hb
      replace HG9 := Aside0.mk (grown_two HG9.out hg)
      clear hb hg q0 q1 q2 q3 q4 q5 q6 q7 q8 q9 q10 z0 z1 z2
      go_wp2
      go_ret2
      have hl := HL.out
      simp only [if_true] at hl
      cases hl
      exact ⟨rfl, HG9.out⟩
    · have hmb : (m != 0) = true := by simp [hm0]
      go_wp2
      go_ret2
      have hl := HL.out
      rw [if_neg hm0] at hl
      cases hl
      exact ⟨rfl, HG9.out⟩
theorem cpu_look1 {B w0 q g p0 r0 p1 r1 e0 e1 W} (h : Cpu B w0 q g p0 r0 p1 r1 e0 e1 W) (hw : OkL e1) (ctx kind : Int) (priv : Bool) (va : Int) (hva : (Lit.int .u64 va).wf = true) (hk : cpu_Unit.f kind = some 1) (pa n : Int) (hl : lookB e1 ctx kind priv va = (pa, n)) :
    Calls Try.prog 36 #[.pointer (some ⟨q, 0, none⟩), .int .i64 ctx, .agg #[.int .i64 kind, .bool priv, .int .u64 va]] W fun x W' => x = .returned (.tuple #[.int .u64 pa, .int .i64 n]) ∧ W.grownBy W' none := by
  have hu := Try.underlying26
  have hu2 := Try.underlying24
  have hu3 := Try.underlying61
  have hg0 := grown_two (World.grownBy_alloc W (.cells #[.int .i64 kind, .bool priv, .int .u64 va] 61) none) (grown_drew _ none)
  have HB5 := Aside0.mk (heap_alloc_new W (.cells #[.int .i64 kind, .bool priv, .int .u64 va] 61))
  have HM := Aside0.mk h
  have HG := Aside0.mk hg0
  have HW := Aside0.mk hw
  have HVA := Aside0.mk hva
  have HU := Aside0.mk hk
  have hEW := findE_W hw va ctx
  unfold lookB at hl
  obtain ⟨fb, hfb⟩ : ∃ b, findB e1 va ctx = b := ⟨_, rfl⟩
  obtain ⟨e, he⟩ : ∃ e, findE e1 va ctx = e := ⟨_, rfl⟩
  rw [he] at hEW hl
  have HE := Aside0.mk he
  have HFB := Aside0.mk hfb
  have HEW := Aside0.mk hEW
  unfold lookE at hl
  obtain ⟨m, hm⟩ : ∃ m, ofB e ctx kind priv va = m := ⟨_, rfl⟩
  have HOF := Aside0.mk ((of_ok hEW hva ctx kind priv).trans (congrArg some hm))
  rw [hm] at hl
  obtain ⟨fp, hfp⟩ : ∃ z, frameB e va = z := ⟨_, rfl⟩
  have HFR := Aside0.mk ((frame_ok hEW hva).trans (congrArg some hfp))
  rw [hfp] at hl
  have HL := Aside0.mk hl
  clear h hg0 hw hva hk hEW hl he hfb hm hfp
  obtain ⟨f1, f2⟩ := fp
  go_enter Try.func36, Try.ntmps36
  go_wp2_with fail
  generalize W.heap.size = h5 at HB5 ⊢
  refine start_ (n := 14) (S := fun w' => w'.heap[h5]? = some (.cells #[.int .i64 kind, .bool priv, .int .u64 va] 61 (0, 0))) (ds := []) #[false, false, false, false, false, false, false, false, false, false, false, false, false, false] (by kernel_rfl) rfl rfl HB5.out (fun hHeld => ?_)
  refine with_tab look1_tab (fun HT_ => ?_)
  refine pure_ (i := 0) (N := some 14) (v := ?_) (a' := ?_) #[true, false, false, false, false, false, false, false, false, false, false, false, false, false] rfl rfl (any_of HT_.out (by kernel_rfl)) (fun _ _ _ h => h) (Or.inl ⟨by rfl, ?_⟩) ?_ ?_
  rotate_left
  · intro w'
    go_simp
    with_reducible rfl
  rotate_left
  · simp only [Act.put, List.setIfInBounds_toArray, List.set_cons_zero, List.set_cons_succ, i64_w, i32_w]
    rfl
  refine pure_ (i := 1) (N := some 15) (v := ?_) (a' := ?_) #[true, true, false, false, false, false, false, false, false, false, false, false, false, false] rfl rfl (any_of HT_.out (by kernel_rfl)) (fun _ _ _ h => h) (Or.inl ⟨by rfl, ?_⟩) ?_ ?_
  rotate_left
  · intro w'
    go_simp
    with_reducible rfl
  rotate_left
  · simp only [Act.put, List.setIfInBounds_toArray, List.set_cons_zero, List.set_cons_succ, i64_w, i32_w]
    rfl
  refine pure_ (i := 4) (N := some 18) (v := ?_) (a' := ?_) #[true, true, false, false, true, false, false, false, false, false, false, false, false, false] rfl rfl (any_of HT_.out (by kernel_rfl)) (fun _ _ _ h => h) (Or.inl ⟨by rfl, ?_⟩) ?_ ?_
  rotate_left
  · intro w'
    go_simp
    with_reducible rfl
  rotate_left
  · simp only [Act.put, List.setIfInBounds_toArray, List.set_cons_zero, List.set_cons_succ, i64_w, i32_w]
    rfl
  refine pure_ (i := 6) (N := some 20) (v := ?_) (a' := ?_) #[true, true, false, false, true, false, true, false, false, false, false, false, false, false] rfl rfl (any_of HT_.out (by kernel_rfl)) (fun _ _ _ h => h) (Or.inl ⟨by rfl, ?_⟩) ?_ ?_
  rotate_left
  · intro w'
    go_simp
    with_reducible rfl
  rotate_left
  · simp only [Act.put, List.setIfInBounds_toArray, List.set_cons_zero, List.set_cons_succ, i64_w, i32_w]
    rfl
  refine take_ (i := 2) (N := some 16) (v := .int .i64 kind) (a' := ?_) #[true, true, true, false, true, false, true, false, false, false, false, false, false, false] rfl rfl (take_of HT_.out (by kernel_rfl)) (fun _ _ _ h => h) (Or.inl ⟨by rfl, ?_⟩) hHeld ?_ ?_
  · rintro w' s1
    obtain ⟨q0, q1, q2⟩ := cz3 s1
    go_simp
  rotate_left
  · simp only [Act.put, List.setIfInBounds_toArray, List.set_cons_zero, List.set_cons_succ, i64_w, i32_w]
    rfl
  refine take_ (i := 5) (N := some 19) (v := .int .u64 va) (a' := ?_) #[true, true, true, false, true, true, true, false, false, false, false, false, false, false] rfl rfl (take_of HT_.out (by kernel_rfl)) (fun _ _ _ h => h) (Or.inl ⟨by rfl, ?_⟩) hHeld ?_ ?_
  · rintro w' s1
    obtain ⟨q0, q1, q2⟩ := cz3 s1
    go_simp
  rotate_left
  · simp only [Act.put, List.setIfInBounds_toArray, List.set_cons_zero, List.set_cons_succ, i64_w, i32_w]
    rfl
  refine two_ (i := 3) (j := 11) (Ni := some 17) (Nj := some 8) #[true, true, true, true, true, true, true, false, false, false, false, false, false, false] #[true, true, true, false, true, true, true, false, false, false, false, true, false, false] rfl rfl rfl rfl (two_of HT_.out (by kernel_rfl)) (by decide) (by decide) (fun K hK => ?_) (fun K hK => ?_)
  · refine goes_ Try.func34 (by kernel_rfl) rfl #[.int .i64 kind] (by rfl) rfl rfl (by (try simp only [List.map_toArray, List.map_cons, List.map_nil]); first | done | rfl) ?_
    refine (cpu_Unit.calls kind 1 _ HU.out).mono ?_
    rintro x0 wn ⟨rfl, hb⟩
    have hg := drawn_grown hb
    replace HG := Aside0.mk (grown_two HG.out hg)
    have hs := blk_grown hHeld hg
    clear hg hb
    refine ⟨_, rfl, ?_⟩
    refine hK.out _ _ hs (fun hHeld => ?_)
    clear hK K
    refine norm_ (a' := ?_) ?_ ?_
    rotate_left
    · show Act.put _ (some 17) _ = _
      simp only [Act.put, List.setIfInBounds_toArray, List.set_cons_zero, List.set_cons_succ, i64_w, i32_w]
      rfl
    refine two_ (i := 7) (j := 11) (Ni := some 21) (Nj := some 8) #[true, true, true, true, true, true, true, true, false, false, false, false, false, false] #[true, true, true, true, true, true, true, false, false, false, false, true, false, false] rfl rfl rfl rfl (two_of HT_.out (by kernel_rfl)) (by decide) (by decide) (fun K hK => ?_) (fun K hK => ?_)
    · refine goes_ Try.func39 (by kernel_rfl) rfl #[.pointer (some ⟨q, 0, none⟩), .int .i64 1, .int .u64 va, .int .i64 ctx] (by rfl) rfl rfl (by (try simp only [List.map_toArray, List.map_cons, List.map_nil]); first | done | rfl) ?_
      refine (cpu_finde1 (HM.out.same HG.out) HW.out va ctx HVA.out e HE.out fb HFB.out).mono ?_
      rintro x0 wn ⟨rfl, hg⟩
      replace HG := Aside0.mk (grown_two HG.out hg)
      have hs := blk_grown hHeld hg
      clear hg
      refine ⟨_, rfl, ?_⟩
      refine hK.out _ _ hs (fun hHeld => ?_)
      clear hK K
      refine norm_ (a' := ?_) ?_ ?_
      rotate_left
      · show Act.put _ (some 21) _ = _
        simp only [Act.put, List.setIfInBounds_toArray, List.set_cons_zero, List.set_cons_succ, i64_w, i32_w]
        rfl
      refine pure_ (i := 8) (N := some 13) (v := ?_) (a' := ?_) #[true, true, true, true, true, true, true, true, true, false, false, false, false, false] rfl rfl (any_of HT_.out (by kernel_rfl)) (fun _ _ _ h => h) (Or.inl ⟨by rfl, ?_⟩) ?_ ?_
      rotate_left
      · intro w'
        go_simp
        with_reducible rfl
      rotate_left
      · simp only [Act.put, List.setIfInBounds_toArray, List.set_cons_zero, List.set_cons_succ, i64_w, i32_w]
        rfl
      refine pure_ (i := 9) (N := some 22) (v := ?_) (a' := ?_) #[true, true, true, true, true, true, true, true, true, true, false, false, false, false] rfl rfl (any_of HT_.out (by kernel_rfl)) (fun _ _ _ h => h) (Or.inl ⟨by rfl, ?_⟩) ?_ ?_
      rotate_left
      · intro w'
        go_simp
        with_reducible rfl
      rotate_left
      · simp only [Act.put, List.setIfInBounds_toArray, List.set_cons_zero, List.set_cons_succ, i64_w, i32_w]
        rfl
      refine pure_ (i := 10) (N := some 23) (v := ?_) (a' := ?_) #[true, true, true, true, true, true, true, true, true, true, true, false, false, false] rfl rfl (any_of HT_.out (by kernel_rfl)) (fun _ _ _ h => h) (Or.inl ⟨by rfl, ?_⟩) ?_ ?_
      rotate_left
      · intro w'
        go_simp
        with_reducible rfl
      rotate_left
      · simp only [Act.put, List.setIfInBounds_toArray, List.set_cons_zero, List.set_cons_succ, i64_w, i32_w]
        rfl
      refine one_ (i := 11) (N := some 8) #[true, true, true, true, true, true, true, true, true, true, true, true, false, false] rfl rfl (one_of HT_.out (by kernel_rfl)) (by decide) (fun K hK => ?_)
      refine box_step ?hg (N := 8) ?hd (cs := #[.int .i64 0, .int .i64 0, .int .u64 0, .int .u64 0, .bool false, .bool false, .bool false, .bool false, .bool false, .bool false, .bool false]) (t := 26) ?hr ?_; (case hd => rfl); (case hg => rfl); (case hr => first | (go_simp; done) | (go_simp; rfl))
      intro h8 hg8 wn hbox hb
      have HB8 := Aside0.mk hbox
      have HN8 := Aside0.mk (show W.heap.size ≤ h8 ∧ h5 ≠ h8 from ⟨by rw [hg8]; exact HG.out.size, fun e => by have := blk_lt hHeld; omega⟩)
      have hg := below_grown hb
      replace HG := Aside0.mk (grown_two HG.out hg)
      have hs := blk_grown hHeld hg
      clear hg hg8 hbox hb
      refine hK.out _ _ hs (fun hHeld => ?_)
      clear hK K
      refine norm_ (a' := ?_) ?_ ?_
      rotate_left
      · show Act.put _ (some 8) _ = _
        simp only [Act.put, List.setIfInBounds_toArray, List.set_cons_zero, List.set_cons_succ, i64_w, i32_w]
        rfl
      refine one_ (i := 12) (N := none) #[true, true, true, true, true, true, true, true, true, true, true, true, true, false] rfl rfl (one_of HT_.out (by kernel_rfl)) (by decide) (fun K hK => ?_)
      rw [if_pos (by rfl)]
      refine wp_store_row 26 (.tmp 8) (.tmp 22) rfl h8 (entA e) rfl rfl 26 #[.int .i64 0, .int .i64 0, .int .u64 0, .int .u64 0, .bool false, .bool false, .bool false, .bool false, .bool false, .bool false, .bool false] HB8.out (by kernel_rfl) rfl (by kernel_rfl) ?_
      have hb2 := setRow_heap wn h8 _ (entA e) _ _ HB8.out
      have hg2 := grown_own HG.out (grown_row wn h8 (entA e)) (fun j e => by cases e; exact HN8.out.1)
      have hs := (setRow_other wn h8 h5 (entA e) HN8.out.2).trans hHeld
      generalize World.setRow wn h8 (entA e) = wb at hb2 hg2 hs ⊢
      have HB9 := Aside0.mk hb2
      have HG9 := Aside0.mk hg2
      clear hb2 hg2 HB8 HN8 HG
      refine hK.out _ _ hs (fun hHeld => ?_)
      clear hK K
      refine norm_ (a' := ?_) ?_ ?_
      rotate_left
      · show Act.put _ none _ = _
        rfl
      refine pure_ (i := 13) (N := some 9) (v := ?_) (a' := ?_) #[true, true, true, true, true, true, true, true, true, true, true, true, true, true] rfl rfl (any_of HT_.out (by kernel_rfl)) (fun _ _ _ h => h) (Or.inl ⟨by rfl, ?_⟩) ?_ ?_
      rotate_left
      · intro w'
        go_simp
        with_reducible rfl
      rotate_left
      · simp only [Act.put, List.setIfInBounds_toArray, List.set_cons_zero, List.set_cons_succ, i64_w, i32_w]
        rfl
      refine done_ (done_of HT_.out (by kernel_rfl)) ?_
      have HZ5 := Aside0.mk hHeld
      obtain ⟨q0, q1, q2, q3, q4, q5, q6, q7, q8, q9, q10⟩ := cz11 HB9.out
      obtain ⟨z0, z1, z2⟩ := cz3 hHeld
      go_wp2_with fail
      refine (fault_Of.calls 20 e.f0 e.f1 e.f2 e.f3 e.f4.f0 e.f4.f1 e.f4.f2 e.f4.f3 e.f4.f4 e.f4.f5 e.f5 ctx kind priv va m _ HOF.out).mono ?_
      rintro x0 wo ⟨rfl, hb⟩
      have hg := below_grown hb
      replace HG9 := Aside0.mk (grown_two HG9.out hg)
      replace HB9 := Aside0.mk (blk_grown HB9.out hg)
      replace HZ5 := Aside0.mk (blk_grown HZ5.out hg)
      clear hb hg q0 q1 q2 q3 q4 q5 q6 q7 q8 q9 q10 z0 z1 z2 hHeld
      by_cases hm0 : m = 0
      · subst hm0
        obtain ⟨q0, q1, q2, q3, q4, q5, q6, q7, q8, q9, q10⟩ := cz11 HB9.out
        obtain ⟨z0, z1, z2⟩ := cz3 HZ5.out
        go_wp2_with fail
        refine (tte_Frame.calls e.f0 e.f1 e.f2 e.f3 e.f4.f0 e.f4.f1 e.f4.f2 e.f4.f3 e.f4.f4 e.f4.f5 e.f5 va f1 f2 _ HFR.out).mono ?_
        rintro x0 wf ⟨rfl, hb⟩
        have hg := below_grown hb
        replace HG9 := Aside0.mk (grown_two HG9.out hg)
        clear hb hg q0 q1 q2 q3 q4 q5 q6 q7 q8 q9 q10 z0 z1 z2
        go_wp2
        go_ret2
        have hl := HL.out
        simp only [if_true] at hl
        cases hl
        exact ⟨rfl, HG9.out⟩
      · have hmb : (m != 0) = true := by simp [hm0]
        go_wp2
        go_ret2
        have hl := HL.out
        rw [if_neg hm0] at hl
        cases hl
        exact ⟨rfl, HG9.out⟩
    · refine box_step ?hg (N := 8) ?hd (cs := #[.int .i64 0, .int .i64 0, .int .u64 0, .int .u64 0, .bool false, .bool false, .bool false, .bool false, .bool false, .bool false, .bool false]) (t := 26) ?hr ?_; (case hd => rfl); (case hg => rfl); (case hr => first | (go_simp; done) | (go_simp; rfl))
      intro h8 hg8 wn hbox hb
      have HB8 := Aside0.mk hbox
      have HN8 := Aside0.mk (show W.heap.size ≤ h8 ∧ h5 ≠ h8 from ⟨by rw [hg8]; exact HG.out.size, fun e => by have := blk_lt hHeld; omega⟩)
      have hg := below_grown hb
      replace HG := Aside0.mk (grown_two HG.out hg)
      have hs := blk_grown hHeld hg
      clear hg hg8 hbox hb
      refine hK.out _ _ hs (fun hHeld => ?_)
      clear hK K
      refine norm_ (a' := ?_) ?_ ?_
      rotate_left
      · show Act.put _ (some 8) _ = _
        simp only [Act.put, List.setIfInBounds_toArray, List.set_cons_zero, List.set_cons_succ, i64_w, i32_w]
        rfl
      refine one_ (i := 7) (N := some 21) #[true, true, true, true, true, true, true, true, false, false, false, true, false, false] rfl rfl (one_of HT_.out (by kernel_rfl)) (by decide) (fun K hK => ?_)
      refine goes_ Try.func39 (by kernel_rfl) rfl #[.pointer (some ⟨q, 0, none⟩), .int .i64 1, .int .u64 va, .int .i64 ctx] (by rfl) rfl rfl (by (try simp only [List.map_toArray, List.map_cons, List.map_nil]); first | done | rfl) ?_
      refine (cpu_finde1 (HM.out.same HG.out) HW.out va ctx HVA.out e HE.out fb HFB.out).mono ?_
      rintro x0 wn ⟨rfl, hg⟩
      replace HG := Aside0.mk (grown_two HG.out hg)
      have hs := blk_grown hHeld hg
      replace HB8 := Aside0.mk (blk_grown HB8.out hg)
      clear hg
      refine ⟨_, rfl, ?_⟩
      refine hK.out _ _ hs (fun hHeld => ?_)
      clear hK K
      refine norm_ (a' := ?_) ?_ ?_
      rotate_left
      · show Act.put _ (some 21) _ = _
        simp only [Act.put, List.setIfInBounds_toArray, List.set_cons_zero, List.set_cons_succ, i64_w, i32_w]
        rfl
      refine pure_ (i := 8) (N := some 13) (v := ?_) (a' := ?_) #[true, true, true, true, true, true, true, true, true, false, false, true, false, false] rfl rfl (any_of HT_.out (by kernel_rfl)) (fun _ _ _ h => h) (Or.inl ⟨by rfl, ?_⟩) ?_ ?_
      rotate_left
      · intro w'
        go_simp
        with_reducible rfl
      rotate_left
      · simp only [Act.put, List.setIfInBounds_toArray, List.set_cons_zero, List.set_cons_succ, i64_w, i32_w]
        rfl
      refine pure_ (i := 9) (N := some 22) (v := ?_) (a' := ?_) #[true, true, true, true, true, true, true, true, true, true, false, true, false, false] rfl rfl (any_of HT_.out (by kernel_rfl)) (fun _ _ _ h => h) (Or.inl ⟨by rfl, ?_⟩) ?_ ?_
      rotate_left
      · intro w'
        go_simp
        with_reducible rfl
      rotate_left
      · simp only [Act.put, List.setIfInBounds_toArray, List.set_cons_zero, List.set_cons_succ, i64_w, i32_w]
        rfl
      refine pure_ (i := 10) (N := some 23) (v := ?_) (a' := ?_) #[true, true, true, true, true, true, true, true, true, true, true, true, false, false] rfl rfl (any_of HT_.out (by kernel_rfl)) (fun _ _ _ h => h) (Or.inl ⟨by rfl, ?_⟩) ?_ ?_
      rotate_left
      · intro w'
        go_simp
        with_reducible rfl
      rotate_left
      · simp only [Act.put, List.setIfInBounds_toArray, List.set_cons_zero, List.set_cons_succ, i64_w, i32_w]
        rfl
      refine one_ (i := 12) (N := none) #[true, true, true, true, true, true, true, true, true, true, true, true, true, false] rfl rfl (one_of HT_.out (by kernel_rfl)) (by decide) (fun K hK => ?_)
      rw [if_pos (by rfl)]
      refine wp_store_row 26 (.tmp 8) (.tmp 22) rfl h8 (entA e) rfl rfl 26 #[.int .i64 0, .int .i64 0, .int .u64 0, .int .u64 0, .bool false, .bool false, .bool false, .bool false, .bool false, .bool false, .bool false] HB8.out (by kernel_rfl) rfl (by kernel_rfl) ?_
      have hb2 := setRow_heap wn h8 _ (entA e) _ _ HB8.out
      have hg2 := grown_own HG.out (grown_row wn h8 (entA e)) (fun j e => by cases e; exact HN8.out.1)
      have hs := (setRow_other wn h8 h5 (entA e) HN8.out.2).trans hHeld
      generalize World.setRow wn h8 (entA e) = wb at hb2 hg2 hs ⊢
      have HB9 := Aside0.mk hb2
      have HG9 := Aside0.mk hg2
      clear hb2 hg2 HB8 HN8 HG
      refine hK.out _ _ hs (fun hHeld => ?_)
      clear hK K
      refine norm_ (a' := ?_) ?_ ?_
      rotate_left
      · show Act.put _ none _ = _
        rfl
      refine pure_ (i := 13) (N := some 9) (v := ?_) (a' := ?_) #[true, true, true, true, true, true, true, true, true, true, true, true, true, true] rfl rfl (any_of HT_.out (by kernel_rfl)) (fun _ _ _ h => h) (Or.inl ⟨by rfl, ?_⟩) ?_ ?_
      rotate_left
      · intro w'
        go_simp
        with_reducible rfl
      rotate_left
      · simp only [Act.put, List.setIfInBounds_toArray, List.set_cons_zero, List.set_cons_succ, i64_w, i32_w]
        rfl
      refine done_ (done_of HT_.out (by kernel_rfl)) ?_
      have HZ5 := Aside0.mk hHeld
      obtain ⟨q0, q1, q2, q3, q4, q5, q6, q7, q8, q9, q10⟩ := cz11 HB9.out
      obtain ⟨z0, z1, z2⟩ := cz3 hHeld
      go_wp2_with fail
      refine (fault_Of.calls 20 e.f0 e.f1 e.f2 e.f3 e.f4.f0 e.f4.f1 e.f4.f2 e.f4.f3 e.f4.f4 e.f4.f5 e.f5 ctx kind priv va m _ HOF.out).mono ?_
      rintro x0 wo ⟨rfl, hb⟩
      have hg := below_grown hb
      replace HG9 := Aside0.mk (grown_two HG9.out hg)
      replace HB9 := Aside0.mk (blk_grown HB9.out hg)
      replace HZ5 := Aside0.mk (blk_grown HZ5.out hg)
      clear hb hg q0 q1 q2 q3 q4 q5 q6 q7 q8 q9 q10 z0 z1 z2 hHeld
      by_cases hm0 : m = 0
      · subst hm0
        obtain ⟨q0, q1, q2, q3, q4, q5, q6, q7, q8, q9, q10⟩ := cz11 HB9.out
        obtain ⟨z0, z1, z2⟩ := cz3 HZ5.out
        go_wp2_with fail
        refine (tte_Frame.calls e.f0 e.f1 e.f2 e.f3 e.f4.f0 e.f4.f1 e.f4.f2 e.f4.f3 e.f4.f4 e.f4.f5 e.f5 va f1 f2 _ HFR.out).mono ?_
        rintro x0 wf ⟨rfl, hb⟩
        have hg := below_grown hb
        replace HG9 := Aside0.mk (grown_two HG9.out hg)
        clear hb hg q0 q1 q2 q3 q4 q5 q6 q7 q8 q9 q10 z0 z1 z2
        go_wp2
        go_ret2
        have hl := HL.out
        simp only [if_true] at hl
        cases hl
        exact ⟨rfl, HG9.out⟩
      · have hmb : (m != 0) = true := by simp [hm0]
        go_wp2
        go_ret2
        have hl := HL.out
        rw [if_neg hm0] at hl
        cases hl
        exact ⟨rfl, HG9.out⟩
  · refine box_step ?hg (N := 8) ?hd (cs := #[.int .i64 0, .int .i64 0, .int .u64 0, .int .u64 0, .bool false, .bool false, .bool false, .bool false, .bool false, .bool false, .bool false]) (t := 26) ?hr ?_; (case hd => rfl); (case hg => rfl); (case hr => first | (go_simp; done) | (go_simp; rfl))
    intro h8 hg8 wn hbox hb
    have HB8 := Aside0.mk hbox
    have HN8 := Aside0.mk (show W.heap.size ≤ h8 ∧ h5 ≠ h8 from ⟨by rw [hg8]; exact HG.out.size, fun e => by have := blk_lt hHeld; omega⟩)
    have hg := below_grown hb
    replace HG := Aside0.mk (grown_two HG.out hg)
    have hs := blk_grown hHeld hg
    clear hg hg8 hbox hb
    refine hK.out _ _ hs (fun hHeld => ?_)
    clear hK K
    refine norm_ (a' := ?_) ?_ ?_
    rotate_left
    · show Act.put _ (some 8) _ = _
      simp only [Act.put, List.setIfInBounds_toArray, List.set_cons_zero, List.set_cons_succ, i64_w, i32_w]
      rfl
    refine one_ (i := 3) (N := some 17) #[true, true, true, true, true, true, true, false, false, false, false, true, false, false] rfl rfl (one_of HT_.out (by kernel_rfl)) (by decide) (fun K hK => ?_)
    refine goes_ Try.func34 (by kernel_rfl) rfl #[.int .i64 kind] (by rfl) rfl rfl (by (try simp only [List.map_toArray, List.map_cons, List.map_nil]); first | done | rfl) ?_
    refine (cpu_Unit.calls kind 1 _ HU.out).mono ?_
    rintro x0 wn ⟨rfl, hb⟩
    have hg := drawn_grown hb
    replace HG := Aside0.mk (grown_two HG.out hg)
    have hs := blk_grown hHeld hg
    replace HB8 := Aside0.mk (blk_grown HB8.out hg)
    clear hg hb
    refine ⟨_, rfl, ?_⟩
    refine hK.out _ _ hs (fun hHeld => ?_)
    clear hK K
    refine norm_ (a' := ?_) ?_ ?_
    rotate_left
    · show Act.put _ (some 17) _ = _
      simp only [Act.put, List.setIfInBounds_toArray, List.set_cons_zero, List.set_cons_succ, i64_w, i32_w]
      rfl
    refine one_ (i := 7) (N := some 21) #[true, true, true, true, true, true, true, true, false, false, false, true, false, false] rfl rfl (one_of HT_.out (by kernel_rfl)) (by decide) (fun K hK => ?_)
    refine goes_ Try.func39 (by kernel_rfl) rfl #[.pointer (some ⟨q, 0, none⟩), .int .i64 1, .int .u64 va, .int .i64 ctx] (by rfl) rfl rfl (by (try simp only [List.map_toArray, List.map_cons, List.map_nil]); first | done | rfl) ?_
    refine (cpu_finde1 (HM.out.same HG.out) HW.out va ctx HVA.out e HE.out fb HFB.out).mono ?_
    rintro x0 wn ⟨rfl, hg⟩
    replace HG := Aside0.mk (grown_two HG.out hg)
    have hs := blk_grown hHeld hg
    replace HB8 := Aside0.mk (blk_grown HB8.out hg)
    clear hg
    refine ⟨_, rfl, ?_⟩
    refine hK.out _ _ hs (fun hHeld => ?_)
    clear hK K
    refine norm_ (a' := ?_) ?_ ?_
    rotate_left
    · show Act.put _ (some 21) _ = _
      simp only [Act.put, List.setIfInBounds_toArray, List.set_cons_zero, List.set_cons_succ, i64_w, i32_w]
      rfl
    refine pure_ (i := 8) (N := some 13) (v := ?_) (a' := ?_) #[true, true, true, true, true, true, true, true, true, false, false, true, false, false] rfl rfl (any_of HT_.out (by kernel_rfl)) (fun _ _ _ h => h) (Or.inl ⟨by rfl, ?_⟩) ?_ ?_
    rotate_left
    · intro w'
      go_simp
      with_reducible rfl
    rotate_left
    · simp only [Act.put, List.setIfInBounds_toArray, List.set_cons_zero, List.set_cons_succ, i64_w, i32_w]
      rfl
    refine pure_ (i := 9) (N := some 22) (v := ?_) (a' := ?_) #[true, true, true, true, true, true, true, true, true, true, false, true, false, false] rfl rfl (any_of HT_.out (by kernel_rfl)) (fun _ _ _ h => h) (Or.inl ⟨by rfl, ?_⟩) ?_ ?_
    rotate_left
    · intro w'
      go_simp
      with_reducible rfl
    rotate_left
    · simp only [Act.put, List.setIfInBounds_toArray, List.set_cons_zero, List.set_cons_succ, i64_w, i32_w]
      rfl
    refine pure_ (i := 10) (N := some 23) (v := ?_) (a' := ?_) #[true, true, true, true, true, true, true, true, true, true, true, true, false, false] rfl rfl (any_of HT_.out (by kernel_rfl)) (fun _ _ _ h => h) (Or.inl ⟨by rfl, ?_⟩) ?_ ?_
    rotate_left
    · intro w'
      go_simp
      with_reducible rfl
    rotate_left
    · simp only [Act.put, List.setIfInBounds_toArray, List.set_cons_zero, List.set_cons_succ, i64_w, i32_w]
      rfl
    refine one_ (i := 12) (N := none) #[true, true, true, true, true, true, true, true, true, true, true, true, true, false] rfl rfl (one_of HT_.out (by kernel_rfl)) (by decide) (fun K hK => ?_)
    rw [if_pos (by rfl)]
    refine wp_store_row 26 (.tmp 8) (.tmp 22) rfl h8 (entA e) rfl rfl 26 #[.int .i64 0, .int .i64 0, .int .u64 0, .int .u64 0, .bool false, .bool false, .bool false, .bool false, .bool false, .bool false, .bool false] HB8.out (by kernel_rfl) rfl (by kernel_rfl) ?_
    have hb2 := setRow_heap wn h8 _ (entA e) _ _ HB8.out
    have hg2 := grown_own HG.out (grown_row wn h8 (entA e)) (fun j e => by cases e; exact HN8.out.1)
    have hs := (setRow_other wn h8 h5 (entA e) HN8.out.2).trans hHeld
    generalize World.setRow wn h8 (entA e) = wb at hb2 hg2 hs ⊢
    have HB9 := Aside0.mk hb2
    have HG9 := Aside0.mk hg2
    clear hb2 hg2 HB8 HN8 HG
    refine hK.out _ _ hs (fun hHeld => ?_)
    clear hK K
    refine norm_ (a' := ?_) ?_ ?_
    rotate_left
    · show Act.put _ none _ = _
      rfl
    refine pure_ (i := 13) (N := some 9) (v := ?_) (a' := ?_) #[true, true, true, true, true, true, true, true, true, true, true, true, true, true] rfl rfl (any_of HT_.out (by kernel_rfl)) (fun _ _ _ h => h) (Or.inl ⟨by rfl, ?_⟩) ?_ ?_
    rotate_left
    · intro w'
      go_simp
      with_reducible rfl
    rotate_left
    · simp only [Act.put, List.setIfInBounds_toArray, List.set_cons_zero, List.set_cons_succ, i64_w, i32_w]
      rfl
    refine done_ (done_of HT_.out (by kernel_rfl)) ?_
    have HZ5 := Aside0.mk hHeld
    obtain ⟨q0, q1, q2, q3, q4, q5, q6, q7, q8, q9, q10⟩ := cz11 HB9.out
    obtain ⟨z0, z1, z2⟩ := cz3 hHeld
    go_wp2_with fail
    refine (fault_Of.calls 20 e.f0 e.f1 e.f2 e.f3 e.f4.f0 e.f4.f1 e.f4.f2 e.f4.f3 e.f4.f4 e.f4.f5 e.f5 ctx kind priv va m _ HOF.out).mono ?_
    rintro x0 wo ⟨rfl, hb⟩
    have hg := below_grown hb
    replace HG9 := Aside0.mk (grown_two HG9.out hg)
    replace HB9 := Aside0.mk (blk_grown HB9.out hg)
    replace HZ5 := Aside0.mk (blk_grown HZ5.out hg)
    clear hb hg q0 q1 q2 q3 q4 q5 q6 q7 q8 q9 q10 z0 z1 z2 hHeld
    by_cases hm0 : m = 0
    · subst hm0
      obtain ⟨q0, q1, q2, q3, q4, q5, q6, q7, q8, q9, q10⟩ := cz11 HB9.out
      obtain ⟨z0, z1, z2⟩ := cz3 HZ5.out
      go_wp2_with fail
      refine (tte_Frame.calls e.f0 e.f1 e.f2 e.f3 e.f4.f0 e.f4.f1 e.f4.f2 e.f4.f3 e.f4.f4 e.f4.f5 e.f5 va f1 f2 _ HFR.out).mono ?_
      rintro x0 wf ⟨rfl, hb⟩
      have hg := below_grown hb
      replace HG9 := Aside0.mk (grown_two HG9.out hg)
      clear hb hg q0 q1 q2 q3 q4 q5 q6 q7 q8 q9 q10 z0 z1 z2
      go_wp2
      go_ret2
      have hl := HL.out
      simp only [if_true] at hl
      cases hl
      exact ⟨rfl, HG9.out⟩
    · have hmb : (m != 0) = true := by simp [hm0]
      go_wp2
      go_ret2
      have hl := HL.out
      rw [if_neg hm0] at hl
      cases hl
      exact ⟨rfl, HG9.out⟩
theorem cpu_entries0 {B w0 q g p0 r0 p1 r1 e0 e1 W} (h : Cpu B w0 q g p0 r0 p1 r1 e0 e1 W) :
    Calls Try.prog 41 #[.pointer (some ⟨q, 0, none⟩), .int .i64 0] W fun x W' => (∃ v0 : Value, x = .returned v0 ∧ Kd.R k26 26 W' W.heap.size (fun _ => True) v0 (listOf e0)) ∧ W.grownBy W' none := by
  have HM := Aside0.mk h
  clear h
  go_enter Try.func41, Try.ntmps41
  go_wp2_with fail
  refine (cpu_is.calls 0 true _ rfl).mono ?_
  rintro x0 w1 ⟨rfl, hb⟩
  have hg := drawn_grown hb
  replace HM := Aside0.mk (HM.out.same hg)
  have HG := Aside0.mk hg
  clear hg hb
  obtain ⟨d0, d1, d2⟩ := cz3 HM.out.row
  go_wp2_with fail
  refine (tl_list HM.out.a).mono ?_
  rintro x0 w2 ⟨⟨v0, rfl, hR⟩, hg⟩
  have HR := Aside0.mk (Kd.R_lower hR HG.out.size)
  replace HG := Aside0.mk (grown_two HG.out hg)
  clear hR hg
  go_wp2
  go_ret
  exact ⟨⟨v0, rfl, HR.out⟩, HG.out⟩
theorem cpu_entries1 {B w0 q g p0 r0 p1 r1 e0 e1 W} (h : Cpu B w0 q g p0 r0 p1 r1 e0 e1 W) :
    Calls Try.prog 41 #[.pointer (some ⟨q, 0, none⟩), .int .i64 1] W fun x W' => (∃ v0 : Value, x = .returned v0 ∧ Kd.R k26 26 W' W.heap.size (fun _ => True) v0 (listOf e1)) ∧ W.grownBy W' none := by
  have HM := Aside0.mk h
  clear h
  go_enter Try.func41, Try.ntmps41
  go_wp2_with fail
  refine (cpu_is.calls 1 true _ rfl).mono ?_
  rintro x0 w1 ⟨rfl, hb⟩
  have hg := drawn_grown hb
  replace HM := Aside0.mk (HM.out.same hg)
  have HG := Aside0.mk hg
  clear hg hb
  obtain ⟨d0, d1, d2⟩ := cz3 HM.out.row
  go_wp2_with fail
  refine (tl_list HM.out.b).mono ?_
  rintro x0 w2 ⟨⟨v0, rfl, hR⟩, hg⟩
  have HR := Aside0.mk (Kd.R_lower hR HG.out.size)
  replace HG := Aside0.mk (grown_two HG.out hg)
  clear hR hg
  go_wp2
  go_ret
  exact ⟨⟨v0, rfl, HR.out⟩, HG.out⟩
/-- All but two blocks is as it was. -/
structure Grown2 (W W' : World) (a b : Nat) : Prop where
  size : W.heap.size ≤ W'.heap.size
  block : ∀ i, i < W.heap.size → i ≠ a → i ≠ b → W'.heap[i]? = W.heap[i]?
theorem Grown2.refl (W : World) (a b : Nat) : Grown2 W W a b := ⟨Nat.le_refl _, fun _ _ _ _ => rfl⟩
theorem Grown2.by {W W1 W2 : World} {a b : Nat} {row : Option Nat} (h : Grown2 W W1 a b) (hg : W1.grownBy W2 row) (hr : ∀ k, row = some k → k = a ∨ k = b) : Grown2 W W2 a b :=
  ⟨Nat.le_trans h.size hg.size, fun i hi h1 h2 => (hg.block i (Nat.lt_of_lt_of_le hi h.size) (fun e => by rcases hr i e.symm with r | r; exact h1 r; exact h2 r)).trans (h.block i hi h1 h2)⟩
/-- How far a processor's TLBs are cleared. -/
inductive Fg (e0 e1 : List (Option Ent)) (qq : Ent → Bool) : Nat → Int → List (Option Ent) → List (Option Ent) → Prop where
  | zero : Fg e0 e1 qq 0 0 e0 e1
  | one : Fg e0 e1 qq 1 ((plL e0 qq).length : Nat) (clearQ e0 qq) e1
  | two : Fg e0 e1 qq 2 (((plL e0 qq).length : Nat) + ((plL e1 qq).length : Nat) : Int) (clearQ e0 qq) (clearQ e1 qq)
theorem cpu_forget_page {B w0 q g p0 r0 p1 r1 e0 e1 W} (h : Cpu B w0 q g p0 r0 p1 r1 e0 e1 W) (hw0 : OkL e0) (hw1 : OkL e1) (va ctx : Int) (hva : (Lit.int .u64 va).wf = true) :
    Calls Try.prog 40 #[.pointer (some ⟨q, 0, none⟩), .agg #[.int .i64 0, .int .i64 ctx, .int .u64 va]] W fun x W' => x = .returned (.int .i64 (((plL e0 (fun e => hitsB e va ctx)).length : Nat) + ((plL e1 (fun e => hitsB e va ctx)).length : Nat) : Int)) ∧ Cpu B w0 q g p0 r0 p1 r1 (clearQ e0 (fun e => hitsB e va ctx)) (clearQ e1 (fun e => hitsB e va ctx)) W' ∧ Grown2 W W' r0 r1 := by
  have hu := Try.underlying74
  have hg0 := World.grownBy_alloc W (.cells #[.int .i64 0, .int .i64 ctx, .int .u64 va] 74) none
  have HB3 := Aside0.mk (heap_alloc_new W (.cells #[.int .i64 0, .int .i64 ctx, .int .u64 va] 74))
  have HM := Aside0.mk (h.same hg0)
  have HG := Aside0.mk ((Grown2.refl W r0 r1).by hg0 (fun _ e => by cases e))
  have HW0 := Aside0.mk hw0
  have HW1 := Aside0.mk hw1
  have HVA := Aside0.mk hva
  have hn0 := Nat.le_trans (plL_len e0 (fun e => hitsB e va ctx)) h.a.len
  have hn1 := Nat.le_trans (plL_len e1 (fun e => hitsB e va ctx)) h.b.len
  have HNE := Aside0.mk (And.intro (show W.heap.size ≠ r0 from fun e => by have := h.a.rlt; omega) (show W.heap.size ≠ r1 from fun e => by have := h.b.rlt; omega))
  clear h hg0 hw0 hw1 hva
  have hi0 : ∀ w, (Instr.index 79 (.agg #[.pointer (some ⟨p0, 0, none⟩), .pointer (some ⟨p1, 0, none⟩)]) (.int .i64 0)).run Try.prog w = .ok (.pointer (some ⟨p0, 0, none⟩)) w := fun _ => by kernel_rfl
  have hi1 : ∀ w, (Instr.index 79 (.agg #[.pointer (some ⟨p0, 0, none⟩), .pointer (some ⟨p1, 0, none⟩)]) (.int .i64 1)).run Try.prog w = .ok (.pointer (some ⟨p1, 0, none⟩)) w := fun _ => by kernel_rfl
  obtain ⟨d0, d1, d2⟩ := cz3 HM.out.row
  go_enter Try.func40, Try.ntmps40
  go_wp2_with fail
  generalize W.heap.size = h3 at HB3 HNE ⊢
  clear d0 d1 d2
  go_loopw [5, 12] (fun v5 v12 wr => ∃ (k : Nat) (n : Int) (f0 f1 : List (Option Ent)), v12 = .int .i64 k ∧ v5 = .int .i64 n ∧ Aside0 (Fg e0 e1 (fun e => hitsB e va ctx) k n f0 f1) ∧ Aside0 (Cpu B w0 q g p0 r0 p1 r1 f0 f1 wr) ∧ Aside0 (Grown2 W wr r0 r1) ∧ Aside0 (wr.heap[h3]? = some (.cells #[.int .i64 0, .int .i64 ctx, .int .u64 va] 74 (0, 0)))) (fun _ v12 _ => 2 - (intOf v12).toNat)
  case atStart => exact ⟨0, 0, e0, e1, rfl, rfl, ⟨.zero⟩, HM, HG, HB3⟩
  case round =>
    clear HM HG HB3
    obtain ⟨k, n, f0, f1, rfl, rfl, HF, HM, HG, HB3⟩ := hrel
    have hf := HF.out
    clear HF
    cases hf with
    | zero =>
      obtain ⟨z0, z1, z2⟩ := cz3 HB3.out
      go_wp2_with fail
      refine (tl_dpage HM.out.a HW0.out va ctx HVA.out).mono ?_
      rintro x0 w1 ⟨rfl, hM, hg⟩
      replace HB3 := Aside0.mk ((hg.block h3 (blk_lt HB3.out) (fun e => HNE.out.1 (Option.some.inj e))).trans HB3.out)
      replace HG := Aside0.mk (HG.out.by hg (fun _ e => .inl (Option.some.inj e).symm))
      replace HM := Aside0.mk (HM.out.setA hM hg)
      clear hM hg z0 z1 z2
      go_wp2_with fail
      go_roundw
      case rel => exact ⟨1, _, _, _, rfl, by first | rfl | simp, ⟨.one⟩, HM, HG, HB3⟩
      case measure => simp [intOf]
    | one =>
      obtain ⟨z0, z1, z2⟩ := cz3 HB3.out
      go_wp2_with fail
      refine (tl_dpage HM.out.b HW1.out va ctx HVA.out).mono ?_
      rintro x0 w1 ⟨rfl, hM, hg⟩
      replace HB3 := Aside0.mk ((hg.block h3 (blk_lt HB3.out) (fun e => HNE.out.2 (Option.some.inj e))).trans HB3.out)
      replace HG := Aside0.mk (HG.out.by hg (fun _ e => .inr (Option.some.inj e).symm))
      replace HM := Aside0.mk (HM.out.setB hM hg)
      clear hM hg z0 z1 z2
      go_wp2_with fail
      go_roundw
      case rel => exact ⟨2, _, _, _, rfl, rfl, ⟨.two⟩, HM, HG, HB3⟩
      case measure => simp [intOf]
    | two =>
      go_wp2_with fail
      go_ret
      exact ⟨rfl, HM.out, HG.out⟩
theorem cpu_forget_ctx {B w0 q g p0 r0 p1 r1 e0 e1 W} (h : Cpu B w0 q g p0 r0 p1 r1 e0 e1 W) (hw0 : OkL e0) (hw1 : OkL e1) (va ctx : Int) (hva : (Lit.int .u64 va).wf = true) :
    Calls Try.prog 40 #[.pointer (some ⟨q, 0, none⟩), .agg #[.int .i64 1, .int .i64 ctx, .int .u64 va]] W fun x W' => x = .returned (.int .i64 (((plL e0 (ctxB ctx)).length : Nat) + ((plL e1 (ctxB ctx)).length : Nat) : Int)) ∧ Cpu B w0 q g p0 r0 p1 r1 (clearQ e0 (ctxB ctx)) (clearQ e1 (ctxB ctx)) W' ∧ Grown2 W W' r0 r1 := by
  have hu := Try.underlying74
  have hg0 := World.grownBy_alloc W (.cells #[.int .i64 1, .int .i64 ctx, .int .u64 va] 74) none
  have HB3 := Aside0.mk (heap_alloc_new W (.cells #[.int .i64 1, .int .i64 ctx, .int .u64 va] 74))
  have HM := Aside0.mk (h.same hg0)
  have HG := Aside0.mk ((Grown2.refl W r0 r1).by hg0 (fun _ e => by cases e))
  have HW0 := Aside0.mk hw0
  have HW1 := Aside0.mk hw1
  have HVA := Aside0.mk hva
  have hn0 := Nat.le_trans (plL_len e0 (ctxB ctx)) h.a.len
  have hn1 := Nat.le_trans (plL_len e1 (ctxB ctx)) h.b.len
  have HNE := Aside0.mk (And.intro (show W.heap.size ≠ r0 from fun e => by have := h.a.rlt; omega) (show W.heap.size ≠ r1 from fun e => by have := h.b.rlt; omega))
  clear h hg0 hw0 hw1 hva
  have hi0 : ∀ w, (Instr.index 79 (.agg #[.pointer (some ⟨p0, 0, none⟩), .pointer (some ⟨p1, 0, none⟩)]) (.int .i64 0)).run Try.prog w = .ok (.pointer (some ⟨p0, 0, none⟩)) w := fun _ => by kernel_rfl
  have hi1 : ∀ w, (Instr.index 79 (.agg #[.pointer (some ⟨p0, 0, none⟩), .pointer (some ⟨p1, 0, none⟩)]) (.int .i64 1)).run Try.prog w = .ok (.pointer (some ⟨p1, 0, none⟩)) w := fun _ => by kernel_rfl
  obtain ⟨d0, d1, d2⟩ := cz3 HM.out.row
  go_enter Try.func40, Try.ntmps40
  go_wp2_with fail
  generalize W.heap.size = h3 at HB3 HNE ⊢
  clear d0 d1 d2
  go_loopw [5, 12] (fun v5 v12 wr => ∃ (k : Nat) (n : Int) (f0 f1 : List (Option Ent)), v12 = .int .i64 k ∧ v5 = .int .i64 n ∧ Aside0 (Fg e0 e1 (ctxB ctx) k n f0 f1) ∧ Aside0 (Cpu B w0 q g p0 r0 p1 r1 f0 f1 wr) ∧ Aside0 (Grown2 W wr r0 r1) ∧ Aside0 (wr.heap[h3]? = some (.cells #[.int .i64 1, .int .i64 ctx, .int .u64 va] 74 (0, 0)))) (fun _ v12 _ => 2 - (intOf v12).toNat)
  case atStart => exact ⟨0, 0, e0, e1, rfl, rfl, ⟨.zero⟩, HM, HG, HB3⟩
  case round =>
    clear HM HG HB3
    obtain ⟨k, n, f0, f1, rfl, rfl, HF, HM, HG, HB3⟩ := hrel
    have hf := HF.out
    clear HF
    cases hf with
    | zero =>
      obtain ⟨z0, z1, z2⟩ := cz3 HB3.out
      go_wp2_with fail
      refine (tl_dctx HM.out.a ctx).mono ?_
      rintro x0 w1 ⟨rfl, hM, hg⟩
      replace HB3 := Aside0.mk ((hg.block h3 (blk_lt HB3.out) (fun e => HNE.out.1 (Option.some.inj e))).trans HB3.out)
      replace HG := Aside0.mk (HG.out.by hg (fun _ e => .inl (Option.some.inj e).symm))
      replace HM := Aside0.mk (HM.out.setA hM hg)
      clear hM hg z0 z1 z2
      go_wp2_with fail
      go_roundw
      case rel => exact ⟨1, _, _, _, rfl, by first | rfl | simp, ⟨.one⟩, HM, HG, HB3⟩
      case measure => simp [intOf]
    | one =>
      obtain ⟨z0, z1, z2⟩ := cz3 HB3.out
      go_wp2_with fail
      refine (tl_dctx HM.out.b ctx).mono ?_
      rintro x0 w1 ⟨rfl, hM, hg⟩
      replace HB3 := Aside0.mk ((hg.block h3 (blk_lt HB3.out) (fun e => HNE.out.2 (Option.some.inj e))).trans HB3.out)
      replace HG := Aside0.mk (HG.out.by hg (fun _ e => .inr (Option.some.inj e).symm))
      replace HM := Aside0.mk (HM.out.setB hM hg)
      clear hM hg z0 z1 z2
      go_wp2_with fail
      go_roundw
      case rel => exact ⟨2, _, _, _, rfl, rfl, ⟨.two⟩, HM, HG, HB3⟩
      case measure => simp [intOf]
    | two =>
      go_wp2_with fail
      go_ret
      exact ⟨rfl, HM.out, HG.out⟩
def lvP : Ent := ⟨0, 1, 8192, 16384, ⟨false, false, false, false, false, false⟩, true⟩
theorem lvPW : EntW lvP := ⟨(show (Lit.int .i64 0).wf = true by decide), (show (Lit.int .i64 1).wf = true by decide), (show (Lit.int .u64 8192).wf = true by decide), (show (Lit.int .u64 16384).wf = true by decide)⟩
theorem lvPm : mayB lvP = true := by decide
theorem lives17 (W : World) : Calls Try.prog 38 #[] W fun x W' => x = .returned (.bool true) ∧ W.grownBy W' none := by
  have hs4 : slotsOf 4 = 4 := by decide
  have hin := in_page lvPW lvPm 8 (by decide)
  have HIN := Aside0.mk (show InPage lvP 8 8200 from hin.2)
  have HL1 := Aside0.mk (show lookB (oneL 4 lvP) 1 0 false 8200 = (16392, 0) by rw [look_one (by decide) lvPW lvPm HIN.out]; rfl)
  have HL2 := Aside0.mk (look_none 4 HIN.out.hole 1 2 false)
  clear hin
  have HS4 := Aside0.mk hs4
  clear hs4
  go_enter Try.func38, Try.ntmps38
  go_wp2_with fail
  refine (cpu_new (Below.refl W.heap.size W) (Nat.le_refl _) 4).mono ?_
  rintro x0 w1 ⟨q, g, p0, r0, p1, r1, N, rfl, hN, hN1, hM, hg⟩
  obtain rfl : N = 4 := hN.trans HS4.out
  have HM := Aside0.mk hM
  clear hN hN1 hM hg
  go_wp2_with fail
  refine (cpu_insert1 HM.out (inv_new 4).ok lvP lvPW 0 (by decide) 0 0 (oneL 4 lvP) (one_ins (by decide) lvPm 0)).mono ?_
  rintro x0 w2 ⟨rfl, hM, hg⟩
  replace HM := Aside0.mk hM
  clear hM hg
  go_wp2_with fail
  refine (cpu_look1 HM.out (one_inv (by decide) lvPW lvPm).ok 1 0 false 8200 (by decide) rfl _ _ HL1.out).mono ?_
  rintro x0 w3 ⟨rfl, hg⟩
  replace HM := Aside0.mk (HM.out.same hg)
  clear hg
  go_wp2_with fail
  refine (cpu_look0 HM.out (inv_new 4).ok 1 2 false 8200 (by decide) rfl _ _ HL2.out).mono ?_
  rintro x0 w4 ⟨rfl, hg⟩
  replace HM := Aside0.mk (HM.out.same hg)
  clear hg
  go_wp2_with fail
  refine (cpu_Unit.calls 2 0 _ rfl).mono ?_
  rintro x0 w5 ⟨rfl, hb⟩
  replace HM := Aside0.mk (HM.out.same (drawn_grown hb))
  clear hb
  go_wp2_with fail
  go_ret
  exact ⟨rfl, below_grown HM.out.a.below⟩
end
end Go.Proofs.Ythclbckkfgmbaaa.QTlbPlays
