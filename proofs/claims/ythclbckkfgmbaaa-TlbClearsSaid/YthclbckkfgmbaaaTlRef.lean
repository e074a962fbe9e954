/- The document's TLB, told of places: Insert; plain lists; no conditions. -/
import Derived.Test.YthclbckkfgmbaaaTl13
import Derived.Test.YthclbckkfgmbaaaQTlbPlaysx7
namespace Go.Proofs.Ythclbckkfgmbaaa.QTlbPlays
open Go.RowKit Go.Proofs.YthclbckkfgmbaaaW.PrintWords Go.Proofs.YthclbckkfgmbaaaW.PrintLast Go.Proofs.YthclbckkfgmbaaaW.PrintMore
set_option linter.unusedSimpArgs false
set_option linter.unusedVariables false
theorem rHole_l (a : Nat) (ha : a < 18446744073709551616) (d : Nat) : ∀ (i k : Nat), i + d = 64 → 44 ≤ i → 100 + d < k →
    lookasideref02_Hole.l0 k (a : Int) (i : Int) = some (decide (¬ (a / 2 ^ i = (if a / 8796093022208 % 2 = 1 then 2 ^ d - 1 else 0)))) := by
  induction d with
  | zero =>
    intro i k hi h44 hk
    obtain ⟨k, rfl⟩ : ∃ m, k = m + 1 := ⟨k - 1, by omega⟩
    obtain rfl : i = 64 := by omega
    simp only [lookasideref02_Hole.l0]
    rw [if_neg (by omega)]
    have : a / 2 ^ 64 = 0 := Nat.div_eq_of_lt ha
    simp [this]
  | succ d ih =>
    intro i k hi h44 hk
    obtain ⟨k, rfl⟩ : ∃ m, k = m + 1 := ⟨k - 1, by omega⟩
    simp only [lookasideref02_Hole.l0]
    have b1 := rBit a i k ha (by omega) (by omega)
    have b2 := rBit a 43 k ha (by omega) (by omega)
    have h43 : ((43 : Nat) : Int) = 43 := rfl
    rw [h43] at b2
    simp only [Nat.reducePow] at b2
    rw [if_pos (by omega), b1, b2]
    simp only [Option.bind_some]
    have e2 : wrap64 ((i : Int) + 1) = ((i + 1 : Nat) : Int) := by
      have := m_w64 (i + 1) (by omega); simpa using this
    have hp : a / 2 ^ (i + 1) = a / 2 ^ i / 2 := by rw [Nat.pow_succ, Nat.div_div_eq_div_mul]
    have hd : 2 ^ (d + 1) = 2 * 2 ^ d := by rw [Nat.pow_succ, Nat.mul_comm]
    have h0 : 0 < 2 ^ d := Nat.two_pow_pos d
    rw [e2, ih (i + 1) k (by omega) (by omega) (by omega), hp, hd]
    generalize a / 2 ^ i = X
    generalize 2 ^ d = D at h0
    by_cases hb : a / 8796093022208 % 2 = 1
    · simp only [hb, if_true]
      by_cases hx : X % 2 = 1
      · rw [if_pos (by omega)]; congr 1; rw [decide_eq_decide]; omega
      · rw [if_neg (by omega)]; symm; simp; omega
    · have hb0 : a / 8796093022208 % 2 = 0 := by omega
      simp only [hb0]
      by_cases hx : X % 2 = 0
      · rw [if_pos (by omega)]; congr 1; rw [decide_eq_decide]; simp; omega
      · rw [if_neg (by omega)]; symm; simp; omega
theorem rHole (a : Nat) (ha : a < 18446744073709551616) (k : Nat) (hk : 200 ≤ k) : lookasideref02_Hole.f k (a : Int) = some (decide (a / 8796093022208 ≠ 0 ∧ a / 8796093022208 ≠ 2097151)) := by
  have := rHole_l a ha 20 44 k rfl (by omega) (by omega)
  have h44 : ((44 : Nat) : Int) = 44 := rfl
  rw [h44] at this
  simp only [Nat.reducePow] at this
  unfold lookasideref02_Hole.f
  rw [this]
  congr 1; rw [decide_eq_decide]
  split <;> omega

theorem rTMay (s c : Int) (va pa : Nat) (w p x l g q v : Bool) (hva : va < 18446744073709551616) (k : Nat) (hk : 210 ≤ k) : lookasideref03_May.f k s c (va : Int) (pa : Int) w p x l g q v = some (mayOf s c va pa g v) := by
  obtain ⟨k, rfl⟩ : ∃ m, k = m + 1 := ⟨k - 1, by omega⟩
  unfold lookasideref03_May.f mayOf
  rw [rMay, rHole va hva (k + 1) (by omega)]
  generalize decide (va / 8796093022208 ≠ 0 ∧ va / 8796093022208 ≠ 2097151) = d1
  have hf : lookasideref03_May.j0 (k + 1) true s c (va : Int) (pa : Int) w p x l g q v = some false := by rw [lookasideref03_May.j0, if_pos rfl]
  cases v
  · simp [hf]
  · by_cases h : okSize s
    · have hb := bytes_pos h
      have hj : ∀ b, lookasideref03_May.j0 (k + 1) b s c (va : Int) (pa : Int) w p x l g q true = some (!b && (decide (va % bytesOf s = 0) && (decide (pa < 2199023255552) && decide (pa % bytesOf s = 0)))) := by
        intro b
        rw [lookasideref03_May.j0, rBytes]
        cases b
        · simp only [Option.bind_some, Bool.false_eq_true, if_false]
          rw [if_neg (by omega), m_tmod, m_tmod]
          by_cases z1 : va % bytesOf s = 0
          · rw [if_pos (by omega)]
            by_cases z2 : pa % bytesOf s = 0
            · rw [if_pos (by omega)]; simp [z1, z2]; omega
            · rw [if_neg (by omega)]; simp [z2]
          · rw [if_neg (by omega)]; simp [z1]
        · simp
      simp only [h, decide_true, Option.bind_some, if_true, Bool.true_and, hj]
      by_cases h1 : c < 0
      · rw [if_pos h1]; have : ¬ 0 ≤ c := by omega
        simp [this]
      · rw [if_neg h1]
        have h1' : 0 ≤ c := by omega
        by_cases h2 : c > 8191
        · rw [if_pos h2]; have : ¬ c ≤ 8191 := by omega
          simp [this]
        · rw [if_neg h2]
          have h2' : c ≤ 8191 := by omega
          cases d1 <;> cases g <;> simp [h1', h2']
    · simp [h, hf]


theorem rmay_ok {e : Ent} (h : EntW e) (k : Nat) (hk : 210 ≤ k) : lookasideref03_May.f k e.f0 e.f1 e.f2 e.f3 e.f4.f0 e.f4.f1 e.f4.f2 e.f4.f3 e.f4.f4 e.f4.f5 e.f5 = some (mayB e) := by
  have h1 := u64_nat h.v
  have h2 := u64_nat h.p
  have := rTMay e.f0 e.f1 e.f2.toNat e.f3.toNat e.f4.f0 e.f4.f1 e.f4.f2 e.f4.f3 e.f4.f4 e.f4.f5 e.f5 h1.2 k hk
  rw [h1.1, h2.1] at this
  exact this
/-- The document's list of a TLB's places. -/
def refL (es : List (Option Ent)) : List Ent := es.map (fun o => o.getD zE)
theorem ref_len (es : List (Option Ent)) : (refL es).length = es.length := by simp [refL]
theorem ref_rd (es : List (Option Ent)) (i : Nat) : rd_T26 (refL es) (i : Int) = (es.getD i none).getD zE := by
  unfold rd_T26 refL
  rw [Int.toNat_natCast]
  by_cases h : i < es.length
  · simp [List.getD, h]
  · simp [List.getD, h]; rfl
theorem ref_set (es : List (Option Ent)) (i : Nat) (x : Option Ent) : refL (es.set i x) = (refL es).set i (x.getD zE) := by simp [refL, List.map_set]
theorem zE_W : EntW zE := ⟨(show (Lit.int .i64 0).wf = true by decide), (show (Lit.int .i64 0).wf = true by decide), (show (Lit.int .u64 0).wf = true by decide), (show (Lit.int .u64 0).wf = true by decide)⟩
theorem ref_W {es : List (Option Ent)} (h : OkL es) (i : Nat) : EntW ((es.getD i none).getD zE) := by
  cases hx : es.getD i none with
  | none => exact zE_W
  | some e => exact (ok_at h hx).1
theorem w64s (i : Nat) (h : i ≤ 64) : wrap64 ((i : Int) + 1) = ((i + 1 : Nat) : Int) := by unfold wrap64; omega
theorem with_f {l : List Ent} (i : Nat) (hi : i < l.length) (hl : l.length ≤ 64) (e : Ent) : lookasideref06_with.f l (i : Int) e.f0 e.f1 e.f2 e.f3 e.f4.f0 e.f4.f1 e.f4.f2 e.f4.f3 e.f4.f4 e.f4.f5 e.f5 = some (l.set i e) := by
  unfold lookasideref06_with.f
  rw [if_pos (by simp; omega), Option.bind_some, List.nil_append, if_pos (by omega), if_pos (by omega), Int.toNat_natCast]
theorem with_z {l : List Ent} (i : Nat) (hi : i < l.length) (hl : l.length ≤ 64) : lookasideref06_with.f l (i : Int) 0 0 0 0 false false false false false false false = some (l.set i zE) := with_f i hi hl zE
theorem ins_l0 {es : List (Option Ent)} (h : OkL es) (hl : es.length ≤ 64) {e : Ent} (he : EntW e) (pick : Int) (R : Option (List Ent × Int × Int)) (hR : ∀ k, 300 ≤ k → lookasideref06_Insert.l1 k (refL es) pick (refL (goneOf es e)) [] 0 e.f0 e.f1 e.f2 e.f3 e.f4.f0 e.f4.f1 e.f4.f2 e.f4.f3 e.f4.f4 e.f4.f5 e.f5 = R) :
    ∀ (m i k : Nat), i + m = es.length → 2 * m + 400 ≤ k → (∀ j, j < i → ∀ b, es.getD j none = some b → againstQ e b = true → lockB b = false) → lookasideref06_Insert.l0 k (refL es) pick (refL (setAll es (plTo es (againstQ e) i))) (i : Int) e.f0 e.f1 e.f2 e.f3 e.f4.f0 e.f4.f1 e.f4.f2 e.f4.f3 e.f4.f4 e.f4.f5 e.f5 = if (plL es (againstQ e)).any (lockAt es) = true then some (refL es, 0, 7) else R := by
  intro m
  induction m with
  | zero =>
    intro i k hi hk hno
    obtain rfl : i = es.length := by omega
    obtain ⟨k, rfl⟩ : ∃ n, k = n + 1 := ⟨k - 1, by omega⟩
    rw [lookasideref06_Insert.l0, if_neg (by rw [ref_len]; omega)]
    rw [show plTo es (againstQ e) es.length = plL es (againstQ e) from rfl, setAll_clear, if_neg]
    · exact hR k (by omega)
    · have := any_lock (es := es) (q := againstQ e) (fun j b hx hq => hno j (lt_of_getD hx) b hx hq)
      rw [this]; simp
  | succ m ih =>
    intro i k hi hk hno
    obtain ⟨k, rfl⟩ : ∃ n, k = n + 1 + 1 := ⟨k - 2, by omega⟩
    have hi' : i < es.length := by omega
    rw [lookasideref06_Insert.l0, if_pos (by rw [ref_len]; omega), if_pos (by omega), ref_rd, rparts_ok he (ref_W h i) (k + 1) (by omega), Option.bind_some]
    have hS := plTo_succ es (againstQ e) i
    cases hx : es.getD i none with
    | none =>
      rw [hx] at hS
      simp only [List.append_nil] at hS
      rw [if_neg (show ¬ (((none : Option Ent).getD zE).f5 = true) by decide), lookasideref06_Insert.j1, if_pos rfl, w64s i (by omega), ← hS]
      refine ih (i + 1) k (by omega) (by omega) (fun j hj b hb hq => ?_)
      by_cases c : j = i
      · subst c; rw [hx] at hb; cases hb
      · exact hno j (by omega) b hb hq
    | some b =>
      rw [hx] at hS
      simp only at hS
      have hb5 : ((some b).getD zE).f5 = true := (may_okS (ok_at h hx).2).2
      rw [if_pos hb5, Option.getD_some, lookasideref06_Insert.j1]
      cases hp : partsB e b with
      | true =>
        have hq : againstQ e b = false := by unfold againstQ; rw [hp]; rfl
        rw [hq] at hS
        simp only [Bool.false_eq_true, if_false, List.append_nil] at hS
        rw [if_pos rfl, w64s i (by omega), ← hS]
        refine ih (i + 1) k (by omega) (by omega) (fun j hj b' hb hq' => ?_)
        by_cases c : j = i
        · subst c; rw [hx] at hb; cases hb; rw [hq] at hq'; cases hq'
        · exact hno j (by omega) b' hb hq'
      | false =>
        have hq : againstQ e b = true := by unfold againstQ; rw [hp]; rfl
        rw [hq] at hS
        simp only [if_true] at hS
        rw [if_neg (by decide), if_pos (by omega), if_pos (by rw [ref_len]; omega), ref_rd, hx, Option.getD_some]
        cases hlk : lockB b with
        | true =>
          rw [if_pos (show b.f4.f3 = true from hlk), if_pos]
          exact List.any_eq_true.2 ⟨i, mem_plL.2 ⟨b, hx, hq⟩, by rw [lockAt_of hx, hlk]⟩
        | false =>
          have hlk' : ¬ (b.f4.f3 = true) := by unfold lockB at hlk; rw [hlk]; decide
          rw [if_neg hlk', with_z i (by rw [ref_len, setAll_len]; omega) (by rw [ref_len, setAll_len]; omega), Option.bind_some, w64s i (by omega)]
          rw [show (refL (setAll es (plTo es (againstQ e) i))).set i zE = refL (setAll es (plTo es (againstQ e) (i + 1))) by rw [hS, setAll_snoc, ref_set]; rfl]
          refine ih (i + 1) k (by omega) (by omega) (fun j hj b' hb hq' => ?_)
          by_cases c : j = i
          · subst c; rw [hx] at hb; cases hb; exact hlk
          · exact hno j (by omega) b' hb hq'
def insEnd (x0 : List Ent) (g : List (Option Ent)) (e : Ent) (pick : Int) : List Ent × Int × Int := match placeN g pick with
  | none => (x0, 0, 7)
  | some j => (refL (g.set j (some e)), (j : Int), 0)
theorem none_none {g : List (Option Ent)} (h : ∀ j, j < g.length → g.getD j none ≠ none) : noneAt g = none := by
  unfold noneAt
  rw [List.findIdx?_eq_none_iff]
  intro x hx
  obtain ⟨j, hj, rfl⟩ := List.getElem_of_mem hx
  have := h j hj
  simp [List.getD, hj] at this
  cases hx : g[j] with
  | none => exact absurd hx this
  | some e => rfl
theorem none_some {g : List (Option Ent)} {i : Nat} (hi : i < g.length) (hx : g.getD i none = none) (h : ∀ j, j < i → g.getD j none ≠ none) : noneAt g = some i := by
  unfold noneAt
  rw [List.findIdx?_eq_some_iff_getElem]
  refine ⟨hi, ?_, fun j hj => ?_⟩
  · simp [List.getD, hi] at hx
    simp [hx]
  · have := h j hj
    simp [List.getD, Nat.lt_trans hj hi] at this
    simpa using this
theorem rd_cast (l : List Nat) (j : Nat) : Go.Proofs.YthclbckkfgmbaaaW.PrintWords.rd (l.map (fun n : Nat => (n : Int))) (j : Int) = ((l.getD j 0 : Nat) : Int) := by
  unfold Go.Proofs.YthclbckkfgmbaaaW.PrintWords.rd
  rw [Int.toNat_natCast]
  by_cases h : j < l.length
  · simp [List.getD, h]
  · simp [List.getD, h]
theorem ins_l1 {x0 : List Ent} {g : List (Option Ent)} (h : OkL g) (hl : g.length ≤ 64) (e : Ent) {pick : Int} (hp : (Lit.int .i64 pick).wf = true) :
    ∀ (m i k : Nat), i + m = g.length → m + 5 ≤ k → (∀ j, j < i → g.getD j none ≠ none) → lookasideref06_Insert.l1 k x0 pick (refL g) ((plTo g openB i).map (fun n : Nat => (n : Int))) (i : Int) e.f0 e.f1 e.f2 e.f3 e.f4.f0 e.f4.f1 e.f4.f2 e.f4.f3 e.f4.f4 e.f4.f5 e.f5 = some (insEnd x0 g e pick) := by
  intro m
  induction m with
  | zero =>
    intro i k hi hk hno
    obtain rfl : i = g.length := by omega
    obtain ⟨k, rfl⟩ : ∃ n, k = n + 1 := ⟨k - 1, by omega⟩
    obtain ⟨hp1, hp2⟩ := wf_range hp
    have hne : noneAt g = none := none_none hno
    have hE : insEnd x0 g e pick = if (plL g openB).length = 0 then (x0, 0, 7) else (refL (g.set ((plL g openB).getD (pickN pick % (plL g openB).length) 0) (some e)), (((plL g openB).getD (pickN pick % (plL g openB).length) 0 : Nat) : Int), 0) := by
      unfold insEnd placeN
      rw [hne]
      by_cases c : (plL g openB).length = 0
      · simp only [if_pos c]
      · simp only [if_neg c]
    rw [lookasideref06_Insert.l1, if_neg (by rw [ref_len]; omega), hE]
    rw [show plTo g openB g.length = plL g openB from rfl]
    by_cases c : (plL g openB).length = 0
    · rw [if_pos (by rw [List.length_map]; omega), if_pos c]
    · have hm : (plL g openB).getD (pickN pick % (plL g openB).length) 0 ∈ plL g openB := by
        have hlt := Nat.mod_lt (pickN pick) (Nat.pos_of_ne_zero c)
        simp [List.getD, hlt]
      have hjl := (plL_spec hm).1
      have hlt := Nat.mod_lt (pickN pick) (Nat.pos_of_ne_zero c)
      rw [if_neg (by rw [List.length_map]; omega), if_neg c]
      have key : ∀ q : Int, q = (pickN pick : Int) → (if 0 ≤ (Int.tmod q (((plL g openB).map (fun n : Nat => (n : Int))).length : Int)) then (if (Int.tmod q (((plL g openB).map (fun n : Nat => (n : Int))).length : Int)) < (((plL g openB).map (fun n : Nat => (n : Int))).length : Int) then ((lookasideref06_with.f (refL g) (Go.Proofs.YthclbckkfgmbaaaW.PrintWords.rd ((plL g openB).map (fun n : Nat => (n : Int))) (Int.tmod q (((plL g openB).map (fun n : Nat => (n : Int))).length : Int))) e.f0 e.f1 e.f2 e.f3 e.f4.f0 e.f4.f1 e.f4.f2 e.f4.f3 e.f4.f4 e.f4.f5 e.f5).bind fun t204 => (some (t204, Go.Proofs.YthclbckkfgmbaaaW.PrintWords.rd ((plL g openB).map (fun n : Nat => (n : Int))) (Int.tmod q (((plL g openB).map (fun n : Nat => (n : Int))).length : Int)), (0 : Int)))) else (none)) else (none)) = some (refL (g.set ((plL g openB).getD (pickN pick % (plL g openB).length) 0) (some e)), (((plL g openB).getD (pickN pick % (plL g openB).length) 0 : Nat) : Int), 0) := by
        intro q hq
        subst hq
        rw [List.length_map, show Int.tmod ((pickN pick : Nat) : Int) ((plL g openB).length : Int) = ((pickN pick % (plL g openB).length : Nat) : Int) from rfl, if_pos (by omega), if_pos (by omega), rd_cast, with_f _ (by rw [ref_len]; exact hjl) (by rw [ref_len]; exact hl) e, Option.bind_some, ref_set]
        rfl
      by_cases hn : pick < 0
      · rw [if_pos hn]
        exact key _ (by unfold pickN; rw [if_pos hn]; unfold wrap64; omega)
      · rw [if_neg hn]
        exact key _ (by unfold pickN; rw [if_neg hn]; omega)
  | succ m ih =>
    intro i k hi hk hno
    obtain ⟨k, rfl⟩ : ∃ n, k = n + 1 := ⟨k - 1, by omega⟩
    have hi' : i < g.length := by omega
    rw [lookasideref06_Insert.l1, if_pos (by rw [ref_len]; omega), if_pos (by omega), ref_rd]
    have hS := plTo_succ g openB i
    have hpl := plTo_len g openB i
    cases hx : g.getD i none with
    | none =>
      rw [if_neg (show ¬ (((none : Option Ent).getD zE).f5 = true) by decide), with_f i (by rw [ref_len]; exact hi') (by rw [ref_len]; exact hl) e, Option.bind_some]
      unfold insEnd placeN
      rw [none_some hi' hx hno]
      simp only
      rw [ref_set]
      rfl
    | some b =>
      rw [hx] at hS
      simp only at hS
      have hb5 : ((some b).getD zE).f5 = true := (may_okS (ok_at h hx).2).2
      have hno2 : ∀ j, j < i + 1 → g.getD j none ≠ none := fun j hj => by
        by_cases c : j = i
        · subst c; rw [hx]; simp
        · exact hno j (by omega)
      rw [if_pos hb5, Option.getD_some]
      cases hlk : b.f4.f3 with
      | true =>
        have ho : openB b = false := by unfold openB; rw [hlk]; rfl
        rw [ho] at hS
        simp only [Bool.false_eq_true, if_false, List.append_nil] at hS
        rw [if_pos rfl, w64s i (by omega), ← hS]
        exact ih (i + 1) k (by omega) (by omega) hno2
      | false =>
        have ho : openB b = true := by unfold openB; rw [hlk]; rfl
        rw [ho] at hS
        simp only [if_true] at hS
        rw [if_neg (by decide), if_pos (by rw [List.length_map]; omega), w64s i (by omega)]
        rw [show (plTo g openB i).map (fun n : Nat => (n : Int)) ++ [(i : Int)] = (plTo g openB (i + 1)).map (fun n : Nat => (n : Int)) by rw [hS, List.map_append]; rfl]
        exact ih (i + 1) k (by omega) (by omega) hno2
theorem gone_full {es : List (Option Ent)} {e : Ent} {pick : Int} (h1 : 1 ≤ es.length) (h : placeN (goneOf es e) pick = none) : goneOf es e = es := by
  have hne : noneAt (goneOf es e) = none := by
    unfold placeN at h
    split at h
    · cases h
    · assumption
  refine ext_getD (gone_len es e) (fun i hi => ?_)
  obtain ⟨b, hb⟩ := none_all hne hi
  rw [hb, (gone_parts hb).1]
/-- The document's Insert leaves what the TLB's leaves, and tells what it tells. -/
theorem ref_insert {es : List (Option Ent)} (h : OkL es) (hl : es.length ≤ 64) (h1 : 1 ≤ es.length) {e : Ent} (he : EntW e) {pick : Int} (hp : (Lit.int .i64 pick).wf = true) : lookasideref06_Insert.f 1000 (refL es) e.f0 e.f1 e.f2 e.f3 e.f4.f0 e.f4.f1 e.f4.f2 e.f4.f3 e.f4.f4 e.f4.f5 e.f5 pick = some (refL (insOf es e pick).2.2, (insOf es e pick).1, (insOf es e pick).2.1) := by
  unfold lookasideref06_Insert.f
  rw [rmay_ok he 1000 (by decide), Option.bind_some]
  cases hm : mayB e with
  | false =>
    rw [if_neg (by decide)]
    unfold insOf
    rw [if_pos hm]
  | true =>
    rw [if_pos rfl]
    have hg : OkL (goneOf es e) := okl_of fun i b hx => ok_at h (gone_parts hx).1
    have h0 := ins_l0 h hl he pick (some (insEnd (refL es) (goneOf es e) e pick)) (fun k hk => ins_l1 hg (by rw [gone_len]; exact hl) e hp _ 0 k (Nat.zero_add _) (by rw [gone_len]; omega) (fun j hj => absurd hj (Nat.not_lt_zero _))) es.length 0 1000 (Nat.zero_add _) (by omega) (fun j hj => absurd hj (Nat.not_lt_zero _))
    refine h0.trans ?_
    have hmn : ¬ (mayB e = false) := by rw [hm]; decide
    unfold insOf
    simp only [if_neg hmn]
    cases ha : (plL es (againstQ e)).any (lockAt es) with
    | true => simp only [if_true]
    | false =>
      simp only [Bool.false_eq_true, if_false]
      unfold insEnd
      cases hpl : placeN (goneOf es e) pick with
      | none => simp only [gone_full h1 hpl]
      | some j => rfl
end Go.Proofs.Ythclbckkfgmbaaa.QTlbPlays
