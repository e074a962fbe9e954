/- The document's TLB, told of places: New, Put, Demap, Clear, Find; plain lists; no conditions. -/
import Derived.Test.YthclbckkfgmbaaaTl13
import Derived.Test.YthclbckkfgmbaaaQTlbPlaysx7
import Derived.Test.YthclbckkfgmbaaaQTlbPlaysx8
import Derived.Test.YthclbckkfgmbaaaQTlbPlaysx9
/- merged: TlRef -/
namespace Go.Proofs.Ythclbckkfgmbaaa.QTlbPlays
open Go.RowKit Go.Proofs.YthclbckkfgmbaaaW.PrintWords Go.Proofs.YthclbckkfgmbaaaW.PrintLast Go.Proofs.YthclbckkfgmbaaaW.PrintMore
set_option linter.unusedSimpArgs false
set_option linter.unusedVariables false
theorem rHole_l (a : Nat) (ha : a < 18446744073709551616) (d : Nat) : ∀ (i k : Nat), i + d = 64 → 44 ≤ i → 100 + d < k →
    lookasideref02_Hole.l0 k (a : Int) (i : Int) = some (decide (¬ (a / 2 ^ i = (if a / 8796093022208 % 2 = 1 then 2 ^ d - 1 else 0)))) := by
  induction d with
  | zero =>
    intro i k hi h44 hk
    obtain ⟨k, rfl⟩ : ∃ m, k = m + 1 := ⟨k - 1, by omega⟩
    obtain rfl : i = 64 := by omega
    simp only [lookasideref02_Hole.l0]
    rw [if_neg (by omega)]
    have : a / 2 ^ 64 = 0 := Nat.div_eq_of_lt ha
    simp [this]
  | succ d ih =>
    intro i k hi h44 hk
    obtain ⟨k, rfl⟩ : ∃ m, k = m + 1 := ⟨k - 1, by omega⟩
    simp only [lookasideref02_Hole.l0]
    have b1 := rBit a i k ha (by omega) (by omega)
    have b2 := rBit a 43 k ha (by omega) (by omega)
    have h43 : ((43 : Nat) : Int) = 43 := rfl
    rw [h43] at b2
    simp only [Nat.reducePow] at b2
    rw [if_pos (by omega), b1, b2]
    simp only [Option.bind_some]
    have e2 : wrap64 ((i : Int) + 1) = ((i + 1 : Nat) : Int) := by
      have := m_w64 (i + 1) (by omega); simpa using this
    have hp : a / 2 ^ (i + 1) = a / 2 ^ i / 2 := by rw [Nat.pow_succ, Nat.div_div_eq_div_mul]
    have hd : 2 ^ (d + 1) = 2 * 2 ^ d := by rw [Nat.pow_succ, Nat.mul_comm]
    have h0 : 0 < 2 ^ d := Nat.two_pow_pos d
    rw [e2, ih (i + 1) k (by omega) (by omega) (by omega), hp, hd]
    generalize a / 2 ^ i = X
    generalize 2 ^ d = D at h0
    by_cases hb : a / 8796093022208 % 2 = 1
    · simp only [hb, if_true]
      by_cases hx : X % 2 = 1
      · rw [if_pos (by omega)]; congr 1; rw [decide_eq_decide]; omega
      · rw [if_neg (by omega)]; symm; simp; omega
    · have hb0 : a / 8796093022208 % 2 = 0 := by omega
      simp only [hb0]
      by_cases hx : X % 2 = 0
      · rw [if_pos (by omega)]; congr 1; rw [decide_eq_decide]; simp; omega
      · rw [if_neg (by omega)]; symm; simp; omega
theorem rHole (a : Nat) (ha : a < 18446744073709551616) (k : Nat) (hk : 200 ≤ k) : lookasideref02_Hole.f k (a : Int) = some (decide (a / 8796093022208 ≠ 0 ∧ a / 8796093022208 ≠ 2097151)) := by
  have := rHole_l a ha 20 44 k rfl (by omega) (by omega)
  have h44 : ((44 : Nat) : Int) = 44 := rfl
  rw [h44] at this
  simp only [Nat.reducePow] at this
  unfold lookasideref02_Hole.f
  rw [this]
  congr 1; rw [decide_eq_decide]
  split <;> omega

theorem rTMay (s c : Int) (va pa : Nat) (w p x l g q v : Bool) (hva : va < 18446744073709551616) (k : Nat) (hk : 210 ≤ k) : lookasideref03_May.f k s c (va : Int) (pa : Int) w p x l g q v = some (mayOf s c va pa g v) := by
  obtain ⟨k, rfl⟩ : ∃ m, k = m + 1 := ⟨k - 1, by omega⟩
  unfold lookasideref03_May.f mayOf
  rw [rMay, rHole va hva (k + 1) (by omega)]
  generalize decide (va / 8796093022208 ≠ 0 ∧ va / 8796093022208 ≠ 2097151) = d1
  have hf : lookasideref03_May.j0 (k + 1) true s c (va : Int) (pa : Int) w p x l g q v = some false := by rw [lookasideref03_May.j0, if_pos rfl]
  cases v
  · simp [hf]
  · by_cases h : okSize s
    · have hb := bytes_pos h
      have hj : ∀ b, lookasideref03_May.j0 (k + 1) b s c (va : Int) (pa : Int) w p x l g q true = some (!b && (decide (va % bytesOf s = 0) && (decide (pa < 2199023255552) && decide (pa % bytesOf s = 0)))) := by
        intro b
        rw [lookasideref03_May.j0, rBytes]
        cases b
        · simp only [Option.bind_some, Bool.false_eq_true, if_false]
          rw [if_neg (by omega), m_tmod, m_tmod]
          by_cases z1 : va % bytesOf s = 0
          · rw [if_pos (by omega)]
            by_cases z2 : pa % bytesOf s = 0
            · rw [if_pos (by omega)]; simp [z1, z2]; omega
            · rw [if_neg (by omega)]; simp [z2]
          · rw [if_neg (by omega)]; simp [z1]
        · simp
      simp only [h, decide_true, Option.bind_some, if_true, Bool.true_and, hj]
      by_cases h1 : c < 0
      · rw [if_pos h1]; have : ¬ 0 ≤ c := by omega
        simp [this]
      · rw [if_neg h1]
        have h1' : 0 ≤ c := by omega
        by_cases h2 : c > 8191
        · rw [if_pos h2]; have : ¬ c ≤ 8191 := by omega
          simp [this]
        · rw [if_neg h2]
          have h2' : c ≤ 8191 := by omega
          cases d1 <;> cases g <;> simp [h1', h2']
    · simp [h, hf]


theorem rmay_ok {e : Ent} (h : EntW e) (k : Nat) (hk : 210 ≤ k) : lookasideref03_May.f k e.f0 e.f1 e.f2 e.f3 e.f4.f0 e.f4.f1 e.f4.f2 e.f4.f3 e.f4.f4 e.f4.f5 e.f5 = some (mayB e) := by
  have h1 := u64_nat h.v
  have h2 := u64_nat h.p
  have := rTMay e.f0 e.f1 e.f2.toNat e.f3.toNat e.f4.f0 e.f4.f1 e.f4.f2 e.f4.f3 e.f4.f4 e.f4.f5 e.f5 h1.2 k hk
  rw [h1.1, h2.1] at this
  exact this
/-- The document's list of a TLB's places. -/
def refL (es : List (Option Ent)) : List Ent := es.map (fun o => o.getD zE)
theorem ref_len (es : List (Option Ent)) : (refL es).length = es.length := by simp [refL]
theorem ref_rd (es : List (Option Ent)) (i : Nat) : rd_T26 (refL es) (i : Int) = (es.getD i none).getD zE := by
  unfold rd_T26 refL
  rw [Int.toNat_natCast]
  by_cases h : i < es.length
  · simp [List.getD, h]
  · simp [List.getD, h]; rfl
theorem ref_set (es : List (Option Ent)) (i : Nat) (x : Option Ent) : refL (es.set i x) = (refL es).set i (x.getD zE) := by simp [refL, List.map_set]
theorem zE_W : EntW zE := ⟨(show (Lit.int .i64 0).wf = true by decide), (show (Lit.int .i64 0).wf = true by decide), (show (Lit.int .u64 0).wf = true by decide), (show (Lit.int .u64 0).wf = true by decide)⟩
theorem ref_W {es : List (Option Ent)} (h : OkL es) (i : Nat) : EntW ((es.getD i none).getD zE) := by
  cases hx : es.getD i none with
  | none => exact zE_W
  | some e => exact (ok_at h hx).1
theorem w64s (i : Nat) (h : i ≤ 64) : wrap64 ((i : Int) + 1) = ((i + 1 : Nat) : Int) := by unfold wrap64; omega
theorem with_f {l : List Ent} (i : Nat) (hi : i < l.length) (hl : l.length ≤ 64) (e : Ent) : lookasideref06_with.f l (i : Int) e.f0 e.f1 e.f2 e.f3 e.f4.f0 e.f4.f1 e.f4.f2 e.f4.f3 e.f4.f4 e.f4.f5 e.f5 = some (l.set i e) := by
  unfold lookasideref06_with.f
  rw [if_pos (by simp; omega), Option.bind_some, List.nil_append, if_pos (by omega), if_pos (by omega), Int.toNat_natCast]
theorem with_z {l : List Ent} (i : Nat) (hi : i < l.length) (hl : l.length ≤ 64) : lookasideref06_with.f l (i : Int) 0 0 0 0 false false false false false false false = some (l.set i zE) := with_f i hi hl zE
theorem ins_l0 {es : List (Option Ent)} (h : OkL es) (hl : es.length ≤ 64) {e : Ent} (he : EntW e) (pick : Int) (R : Option (List Ent × Int × Int)) (hR : ∀ k, 300 ≤ k → lookasideref06_Insert.l1 k (refL es) pick (refL (goneOf es e)) [] 0 e.f0 e.f1 e.f2 e.f3 e.f4.f0 e.f4.f1 e.f4.f2 e.f4.f3 e.f4.f4 e.f4.f5 e.f5 = R) :
    ∀ (m i k : Nat), i + m = es.length → 2 * m + 400 ≤ k → (∀ j, j < i → ∀ b, es.getD j none = some b → againstQ e b = true → lockB b = false) → lookasideref06_Insert.l0 k (refL es) pick (refL (setAll es (plTo es (againstQ e) i))) (i : Int) e.f0 e.f1 e.f2 e.f3 e.f4.f0 e.f4.f1 e.f4.f2 e.f4.f3 e.f4.f4 e.f4.f5 e.f5 = if (plL es (againstQ e)).any (lockAt es) = true then some (refL es, 0, 7) else R := by
  intro m
  induction m with
  | zero =>
    intro i k hi hk hno
    obtain rfl : i = es.length := by omega
    obtain ⟨k, rfl⟩ : ∃ n, k = n + 1 := ⟨k - 1, by omega⟩
    rw [lookasideref06_Insert.l0, if_neg (by rw [ref_len]; omega)]
    rw [show plTo es (againstQ e) es.length = plL es (againstQ e) from rfl, setAll_clear, if_neg]
    · exact hR k (by omega)
    · have := any_lock (es := es) (q := againstQ e) (fun j b hx hq => hno j (lt_of_getD hx) b hx hq)
      rw [this]; simp
  | succ m ih =>
    intro i k hi hk hno
    obtain ⟨k, rfl⟩ : ∃ n, k = n + 1 + 1 := ⟨k - 2, by omega⟩
    have hi' : i < es.length := by omega
    rw [lookasideref06_Insert.l0, if_pos (by rw [ref_len]; omega), if_pos (by omega), ref_rd, rparts_ok he (ref_W h i) (k + 1) (by omega), Option.bind_some]
    have hS := plTo_succ es (againstQ e) i
    cases hx : es.getD i none with
    | none =>
      rw [hx] at hS
      simp only [List.append_nil] at hS
      rw [if_neg (show ¬ (((none : Option Ent).getD zE).f5 = true) by decide), lookasideref06_Insert.j1, if_pos rfl, w64s i (by omega), ← hS]
      refine ih (i + 1) k (by omega) (by omega) (fun j hj b hb hq => ?_)
      by_cases c : j = i
      · subst c; rw [hx] at hb; cases hb
      · exact hno j (by omega) b hb hq
    | some b =>
      rw [hx] at hS
      simp only at hS
      have hb5 : ((some b).getD zE).f5 = true := (may_okS (ok_at h hx).2).2
      rw [if_pos hb5, Option.getD_some, lookasideref06_Insert.j1]
      cases hp : partsB e b with
      | true =>
        have hq : againstQ e b = false := by unfold againstQ; rw [hp]; rfl
        rw [hq] at hS
        simp only [Bool.false_eq_true, if_false, List.append_nil] at hS
        rw [if_pos rfl, w64s i (by omega), ← hS]
        refine ih (i + 1) k (by omega) (by omega) (fun j hj b' hb hq' => ?_)
        by_cases c : j = i
        · subst c; rw [hx] at hb; cases hb; rw [hq] at hq'; cases hq'
        · exact hno j (by omega) b' hb hq'
      | false =>
        have hq : againstQ e b = true := by unfold againstQ; rw [hp]; rfl
        rw [hq] at hS
        simp only [if_true] at hS
        rw [if_neg (by decide), if_pos (by omega), if_pos (by rw [ref_len]; omega), ref_rd, hx, Option.getD_some]
        cases hlk : lockB b with
        | true =>
          rw [if_pos (show b.f4.f3 = true from hlk), if_pos]
          exact List.any_eq_true.2 ⟨i, mem_plL.2 ⟨b, hx, hq⟩, by rw [lockAt_of hx, hlk]⟩
        | false =>
          have hlk' : ¬ (b.f4.f3 = true) := by unfold lockB at hlk; rw [hlk]; decide
          rw [if_neg hlk', with_z i (by rw [ref_len, setAll_len]; omega) (by rw [ref_len, setAll_len]; omega), Option.bind_some, w64s i (by omega)]
          rw [show (refL (setAll es (plTo es (againstQ e) i))).set i zE = refL (setAll es (plTo es (againstQ e) (i + 1))) by rw [hS, setAll_snoc, ref_set]; rfl]
          refine ih (i + 1) k (by omega) (by omega) (fun j hj b' hb hq' => ?_)
          by_cases c : j = i
          · subst c; rw [hx] at hb; cases hb; exact hlk
          · exact hno j (by omega) b' hb hq'
def insEnd (x0 : List Ent) (g : List (Option Ent)) (e : Ent) (pick : Int) : List Ent × Int × Int := match placeN g pick with
  | none => (x0, 0, 7)
  | some j => (refL (g.set j (some e)), (j : Int), 0)
theorem none_none {g : List (Option Ent)} (h : ∀ j, j < g.length → g.getD j none ≠ none) : noneAt g = none := by
  unfold noneAt
  rw [List.findIdx?_eq_none_iff]
  intro x hx
  obtain ⟨j, hj, rfl⟩ := List.getElem_of_mem hx
  have := h j hj
  simp [List.getD, hj] at this
  cases hx : g[j] with
  | none => exact absurd hx this
  | some e => rfl
theorem none_some {g : List (Option Ent)} {i : Nat} (hi : i < g.length) (hx : g.getD i none = none) (h : ∀ j, j < i → g.getD j none ≠ none) : noneAt g = some i := by
  unfold noneAt
  rw [List.findIdx?_eq_some_iff_getElem]
  refine ⟨hi, ?_, fun j hj => ?_⟩
  · simp [List.getD, hi] at hx
    simp [hx]
  · have := h j hj
    simp [List.getD, Nat.lt_trans hj hi] at this
    simpa using this
theorem rd_cast (l : List Nat) (j : Nat) : Go.Proofs.YthclbckkfgmbaaaW.PrintWords.rd (l.map (fun n : Nat => (n : Int))) (j : Int) = ((l.getD j 0 : Nat) : Int) := by
  unfold Go.Proofs.YthclbckkfgmbaaaW.PrintWords.rd
  rw [Int.toNat_natCast]
  by_cases h : j < l.length
  · simp [List.getD, h]
  · simp [List.getD, h]
theorem ins_l1 {x0 : List Ent} {g : List (Option Ent)} (h : OkL g) (hl : g.length ≤ 64) (e : Ent) {pick : Int} (hp : (Lit.int .i64 pick).wf = true) :
    ∀ (m i k : Nat), i + m = g.length → m + 5 ≤ k → (∀ j, j < i → g.getD j none ≠ none) → lookasideref06_Insert.l1 k x0 pick (refL g) ((plTo g openB i).map (fun n : Nat => (n : Int))) (i : Int) e.f0 e.f1 e.f2 e.f3 e.f4.f0 e.f4.f1 e.f4.f2 e.f4.f3 e.f4.f4 e.f4.f5 e.f5 = some (insEnd x0 g e pick) := by
  intro m
  induction m with
  | zero =>
    intro i k hi hk hno
    obtain rfl : i = g.length := by omega
    obtain ⟨k, rfl⟩ : ∃ n, k = n + 1 := ⟨k - 1, by omega⟩
    obtain ⟨hp1, hp2⟩ := wf_range hp
    have hne : noneAt g = none := none_none hno
    have hE : insEnd x0 g e pick = if (plL g openB).length = 0 then (x0, 0, 7) else (refL (g.set ((plL g openB).getD (pickN pick % (plL g openB).length) 0) (some e)), (((plL g openB).getD (pickN pick % (plL g openB).length) 0 : Nat) : Int), 0) := by
      unfold insEnd placeN
      rw [hne]
      by_cases c : (plL g openB).length = 0
      · simp only [if_pos c]
      · simp only [if_neg c]
    rw [lookasideref06_Insert.l1, if_neg (by rw [ref_len]; omega), hE]
    rw [show plTo g openB g.length = plL g openB from rfl]
    by_cases c : (plL g openB).length = 0
    · rw [if_pos (by rw [List.length_map]; omega), if_pos c]
    · have hm : (plL g openB).getD (pickN pick % (plL g openB).length) 0 ∈ plL g openB := by
        have hlt := Nat.mod_lt (pickN pick) (Nat.pos_of_ne_zero c)
        simp [List.getD, hlt]
      have hjl := (plL_spec hm).1
      have hlt := Nat.mod_lt (pickN pick) (Nat.pos_of_ne_zero c)
      rw [if_neg (by rw [List.length_map]; omega), if_neg c]
      have key : ∀ q : Int, q = (pickN pick : Int) → (if 0 ≤ (Int.tmod q (((plL g openB).map (fun n : Nat => (n : Int))).length : Int)) then (if (Int.tmod q (((plL g openB).map (fun n : Nat => (n : Int))).length : Int)) < (((plL g openB).map (fun n : Nat => (n : Int))).length : Int) then ((lookasideref06_with.f (refL g) (Go.Proofs.YthclbckkfgmbaaaW.PrintWords.rd ((plL g openB).map (fun n : Nat => (n : Int))) (Int.tmod q (((plL g openB).map (fun n : Nat => (n : Int))).length : Int))) e.f0 e.f1 e.f2 e.f3 e.f4.f0 e.f4.f1 e.f4.f2 e.f4.f3 e.f4.f4 e.f4.f5 e.f5).bind fun t204 => (some (t204, Go.Proofs.YthclbckkfgmbaaaW.PrintWords.rd ((plL g openB).map (fun n : Nat => (n : Int))) (Int.tmod q (((plL g openB).map (fun n : Nat => (n : Int))).length : Int)), (0 : Int)))) else (none)) else (none)) = some (refL (g.set ((plL g openB).getD (pickN pick % (plL g openB).length) 0) (some e)), (((plL g openB).getD (pickN pick % (plL g openB).length) 0 : Nat) : Int), 0) := by
        intro q hq
        subst hq
        rw [List.length_map, show Int.tmod ((pickN pick : Nat) : Int) ((plL g openB).length : Int) = ((pickN pick % (plL g openB).length : Nat) : Int) from rfl, if_pos (by omega), if_pos (by omega), rd_cast, with_f _ (by rw [ref_len]; exact hjl) (by rw [ref_len]; exact hl) e, Option.bind_some, ref_set]
        rfl
      by_cases hn : pick < 0
      · rw [if_pos hn]
        exact key _ (by unfold pickN; rw [if_pos hn]; unfold wrap64; omega)
      · rw [if_neg hn]
        exact key _ (by unfold pickN; rw [if_neg hn]; omega)
  | succ m ih =>
    intro i k hi hk hno
    obtain ⟨k, rfl⟩ : ∃ n, k = n + 1 := ⟨k - 1, by omega⟩
    have hi' : i < g.length := by omega
    rw [lookasideref06_Insert.l1, if_pos (by rw [ref_len]; omega), if_pos (by omega), ref_rd]
    have hS := plTo_succ g openB i
    have hpl := plTo_len g openB i
    cases hx : g.getD i none with
    | none =>
      rw [if_neg (show ¬ (((none : Option Ent).getD zE).f5 = true) by decide), with_f i (by rw [ref_len]; exact hi') (by rw [ref_len]; exact hl) e, Option.bind_some]
      unfold insEnd placeN
      rw [none_some hi' hx hno]
      simp only
      rw [ref_set]
      rfl
    | some b =>
      rw [hx] at hS
      simp only at hS
      have hb5 : ((some b).getD zE).f5 = true := (may_okS (ok_at h hx).2).2
      have hno2 : ∀ j, j < i + 1 → g.getD j none ≠ none := fun j hj => by
        by_cases c : j = i
        · subst c; rw [hx]; simp
        · exact hno j (by omega)
      rw [if_pos hb5, Option.getD_some]
      cases hlk : b.f4.f3 with
      | true =>
        have ho : openB b = false := by unfold openB; rw [hlk]; rfl
        rw [ho] at hS
        simp only [Bool.false_eq_true, if_false, List.append_nil] at hS
        rw [if_pos rfl, w64s i (by omega), ← hS]
        exact ih (i + 1) k (by omega) (by omega) hno2
      | false =>
        have ho : openB b = true := by unfold openB; rw [hlk]; rfl
        rw [ho] at hS
        simp only [if_true] at hS
        rw [if_neg (by decide), if_pos (by rw [List.length_map]; omega), w64s i (by omega)]
        rw [show (plTo g openB i).map (fun n : Nat => (n : Int)) ++ [(i : Int)] = (plTo g openB (i + 1)).map (fun n : Nat => (n : Int)) by rw [hS, List.map_append]; rfl]
        exact ih (i + 1) k (by omega) (by omega) hno2
theorem gone_full {es : List (Option Ent)} {e : Ent} {pick : Int} (h1 : 1 ≤ es.length) (h : placeN (goneOf es e) pick = none) : goneOf es e = es := by
  have hne : noneAt (goneOf es e) = none := by
    unfold placeN at h
    split at h
    · cases h
    · assumption
  refine ext_getD (gone_len es e) (fun i hi => ?_)
  obtain ⟨b, hb⟩ := none_all hne hi
  rw [hb, (gone_parts hb).1]
/-- The document's Insert leaves what the TLB's leaves, and tells what it tells. -/
theorem ref_insert {es : List (Option Ent)} (h : OkL es) (hl : es.length ≤ 64) (h1 : 1 ≤ es.length) {e : Ent} (he : EntW e) {pick : Int} (hp : (Lit.int .i64 pick).wf = true) : lookasideref06_Insert.f 1000 (refL es) e.f0 e.f1 e.f2 e.f3 e.f4.f0 e.f4.f1 e.f4.f2 e.f4.f3 e.f4.f4 e.f4.f5 e.f5 pick = some (refL (insOf es e pick).2.2, (insOf es e pick).1, (insOf es e pick).2.1) := by
  unfold lookasideref06_Insert.f
  rw [rmay_ok he 1000 (by decide), Option.bind_some]
  cases hm : mayB e with
  | false =>
    rw [if_neg (by decide)]
    unfold insOf
    rw [if_pos hm]
  | true =>
    rw [if_pos rfl]
    have hg : OkL (goneOf es e) := okl_of fun i b hx => ok_at h (gone_parts hx).1
    have h0 := ins_l0 h hl he pick (some (insEnd (refL es) (goneOf es e) e pick)) (fun k hk => ins_l1 hg (by rw [gone_len]; exact hl) e hp _ 0 k (Nat.zero_add _) (by rw [gone_len]; omega) (fun j hj => absurd hj (Nat.not_lt_zero _))) es.length 0 1000 (Nat.zero_add _) (by omega) (fun j hj => absurd hj (Nat.not_lt_zero _))
    refine h0.trans ?_
    have hmn : ¬ (mayB e = false) := by rw [hm]; decide
    unfold insOf
    simp only [if_neg hmn]
    cases ha : (plL es (againstQ e)).any (lockAt es) with
    | true => simp only [if_true]
    | false =>
      simp only [Bool.false_eq_true, if_false]
      unfold insEnd
      cases hpl : placeN (goneOf es e) pick with
      | none => simp only [gone_full h1 hpl]
      | some j => rfl
end Go.Proofs.Ythclbckkfgmbaaa.QTlbPlays
namespace Go.Proofs.Ythclbckkfgmbaaa.QTlbPlays
open Go.RowKit Go.Proofs.YthclbckkfgmbaaaW.PrintWords Go.Proofs.YthclbckkfgmbaaaW.PrintLast Go.Proofs.YthclbckkfgmbaaaW.PrintMore
set_option linter.unusedSimpArgs false
set_option linter.unusedVariables false
def isAt (es : List (Option Ent)) (q : Ent → Bool) (i : Nat) : Bool := match es.getD i none with | some e => q e | none => false
theorem plTo_is (es : List (Option Ent)) (q : Ent → Bool) (i : Nat) : plTo es q (i + 1) = plTo es q i ++ (if isAt es q i = true then [i] else []) := by
  rw [plTo_succ]
  unfold isAt
  cases es.getD i none with
  | none => rfl
  | some e => rfl
theorem refL_new (n : Int) : lookasideref06_New.f n = some (refL (List.replicate (slotsOf n) none)) := by
  have hb := slots_b n
  unfold lookasideref06_New.f
  rw [if_pos (by omega), if_pos (by omega)]
  unfold refL slotsOf
  rw [List.map_replicate]
  rfl
theorem put_l0 {es : List (Option Ent)} (h : OkL es) (hl : es.length ≤ 64) {e : Ent} (he : EntW e) (a : Nat) (ha : a < es.length) :
    ∀ (m i k : Nat), i + m = es.length → m + 200 ≤ k → (∀ j, j < i → ∀ b, es.getD j none = some b → againstQ e b = true → j = a) → lookasideref06_Put.l0 k (refL es) (a : Int) (i : Int) e.f0 e.f1 e.f2 e.f3 e.f4.f0 e.f4.f1 e.f4.f2 e.f4.f3 e.f4.f4 e.f4.f5 e.f5 = if (plL es (againstQ e)).any (fun i => !decide ((i : Int) = (a : Int))) = true then some (refL es, 9) else some (refL (es.set a (some e)), 0) := by
  intro m
  induction m with
  | zero =>
    intro i k hi hk hno
    obtain rfl : i = es.length := by omega
    obtain ⟨k, rfl⟩ : ∃ n, k = n + 1 := ⟨k - 1, by omega⟩
    rw [lookasideref06_Put.l0, if_neg (by rw [ref_len]; omega), with_f a (by rw [ref_len]; exact ha) (by rw [ref_len]; exact hl) e, Option.bind_some, if_neg]
    · rw [ref_set]; rfl
    · rw [Bool.not_eq_true, List.any_eq_false]
      intro j hj
      obtain ⟨b, hx, hq⟩ := mem_plL.1 hj
      have := hno j (lt_of_getD hx) b hx hq
      subst this
      simp
  | succ m ih =>
    intro i k hi hk hno
    obtain ⟨k, rfl⟩ : ∃ n, k = n + 1 := ⟨k - 1, by omega⟩
    have hi' : i < es.length := by omega
    rw [lookasideref06_Put.l0, if_pos (by rw [ref_len]; omega), if_pos (by omega), ref_rd, rparts_ok he (ref_W h i) k (by omega), Option.bind_some]
    have next := fun hn => ih (i + 1) k (by omega) (by omega) hn
    by_cases hia : i = a
    · subst hia
      rw [if_pos rfl, w64s i (by omega)]
      exact next (fun j hj b hb hq => by
        by_cases c : j = i
        · exact c
        · exact hno j (by omega) b hb hq)
    · rw [if_neg (by omega)]
      cases hx : es.getD i none with
      | none =>
        rw [if_neg (show ¬ (((none : Option Ent).getD zE).f5 = true) by decide), w64s i (by omega)]
        exact next (fun j hj b hb hq => by
          by_cases c : j = i
          · subst c; rw [hx] at hb; cases hb
          · exact hno j (by omega) b hb hq)
      | some b =>
        have hb5 : ((some b).getD zE).f5 = true := (may_okS (ok_at h hx).2).2
        rw [if_pos hb5, Option.getD_some]
        cases hp : partsB e b with
        | true =>
          rw [if_pos rfl, w64s i (by omega)]
          exact next (fun j hj b' hb hq => by
            by_cases c : j = i
            · subst c; rw [hx] at hb; cases hb; unfold againstQ at hq; rw [hp] at hq; cases hq
            · exact hno j (by omega) b' hb hq)
        | false =>
          rw [if_neg (by decide), if_pos]
          refine List.any_eq_true.2 ⟨i, mem_plL.2 ⟨b, hx, by unfold againstQ; rw [hp]; rfl⟩, ?_⟩
          simp
          omega
theorem ref_put {es : List (Option Ent)} (h : OkL es) (hl : es.length ≤ 64) {e : Ent} (he : EntW e) (a : Int) : lookasideref06_Put.f 1000 (refL es) a e.f0 e.f1 e.f2 e.f3 e.f4.f0 e.f4.f1 e.f4.f2 e.f4.f3 e.f4.f4 e.f4.f5 e.f5 = some (refL (putOf es a e).2, (putOf es a e).1) := by
  unfold lookasideref06_Put.f
  rw [rmay_ok he 1000 (by decide), Option.bind_some]
  cases hm : mayB e with
  | false =>
    rw [if_neg (by decide)]
    unfold putOf
    rw [if_pos hm]
  | true =>
    have hmn : ¬ (mayB e = false) := by rw [hm]; decide
    rw [if_pos rfl]
    unfold putOf
    simp only [if_neg hmn]
    by_cases ha0 : a < 0
    · rw [if_pos ha0, lookasideref06_Put.j0, if_pos rfl]
      have hi : inB es a = false := by unfold inB; exact decide_eq_false (by omega)
      simp only [hi, if_true]
    · rw [if_neg ha0]
      by_cases ha1 : a < (es.length : Int)
      · have hi : inB es a = true := by unfold inB; exact decide_eq_true ⟨by omega, ha1⟩
        obtain ⟨n, rfl⟩ := Int.eq_ofNat_of_zero_le (Int.not_lt.1 ha0)
        rw [show decide ((n : Int) ≥ ((refL es).length : Int)) = false from decide_eq_false (by rw [ref_len]; omega), lookasideref06_Put.j0, if_neg (by decide)]
        simp only [hi, Bool.true_eq_false, if_false]
        have := put_l0 h hl he n (by omega) es.length 0 999 (Nat.zero_add _) (by omega) (fun j hj => absurd hj (Nat.not_lt_zero _))
        refine this.trans ?_
        cases (plL es (againstQ e)).any (fun i => !decide ((i : Int) = (n : Int))) with
        | true => simp only [if_true]
        | false => simp only [Bool.false_eq_true, if_false, Int.toNat_natCast]
      · have hi : inB es a = false := by unfold inB; exact decide_eq_false (by omega)
        rw [show decide (a ≥ ((refL es).length : Int)) = true from decide_eq_true (by rw [ref_len]; omega), lookasideref06_Put.j0, if_pos rfl]
        simp only [hi, if_true]
theorem dem_l0 {es : List (Option Ent)} (hl : es.length ≤ 64) (kd va ctx : Int) (q : Ent → Bool) (hstep : ∀ (i k : Nat) (out : List Ent) (n : Int), i < es.length → out.length = es.length → lookasideref06_Demap.l0 (k + 2) (refL es) kd va ctx out n (i : Int) = if isAt es q i = true then lookasideref06_Demap.l0 k (refL es) kd va ctx (out.set i zE) (wrap64 (n + 1)) (wrap64 ((i : Int) + 1)) else lookasideref06_Demap.l0 k (refL es) kd va ctx out n (wrap64 ((i : Int) + 1))) :
    ∀ (m i k : Nat), i + m = es.length → 2 * m + 5 ≤ k → lookasideref06_Demap.l0 k (refL es) kd va ctx (refL (setAll es (plTo es q i))) ((plTo es q i).length : Int) (i : Int) = some (refL (clearQ es q), ((plL es q).length : Int)) := by
  intro m
  induction m with
  | zero =>
    intro i k hi hk
    obtain rfl : i = es.length := by omega
    obtain ⟨k, rfl⟩ : ∃ n, k = n + 1 := ⟨k - 1, by omega⟩
    rw [lookasideref06_Demap.l0, if_neg (by rw [ref_len]; omega), show plTo es q es.length = plL es q from rfl, setAll_clear]
  | succ m ih =>
    intro i k hi hk
    obtain ⟨k, rfl⟩ : ∃ n, k = n + 2 := ⟨k - 2, by omega⟩
    rw [hstep i k _ _ (by omega) (by rw [ref_len, setAll_len]), w64s i (by omega)]
    have hS := plTo_is es q i
    have hpl := plTo_len es q i
    cases hq : isAt es q i with
    | true =>
      rw [hq] at hS
      simp only [if_true] at hS ⊢
      have e1 : wrap64 (((plTo es q i).length : Int) + 1) = ((plTo es q (i + 1)).length : Int) := by rw [hS, List.length_append]; unfold wrap64; simp; omega
      rw [e1, show (refL (setAll es (plTo es q i))).set i zE = refL (setAll es (plTo es q (i + 1))) by rw [hS, setAll_snoc, ref_set]; rfl]
      exact ih (i + 1) k (by omega) (by omega)
    | false =>
      rw [hq] at hS
      simp only [Bool.false_eq_true, if_false, List.append_nil] at hS ⊢
      rw [← hS]
      exact ih (i + 1) k (by omega) (by omega)
theorem dem_f {es : List (Option Ent)} (hl : es.length ≤ 64) (kd va ctx : Int) (q : Ent → Bool) (hstep : ∀ (i k : Nat) (out : List Ent) (n : Int), i < es.length → out.length = es.length → lookasideref06_Demap.l0 (k + 2) (refL es) kd va ctx out n (i : Int) = if isAt es q i = true then lookasideref06_Demap.l0 k (refL es) kd va ctx (out.set i zE) (wrap64 (n + 1)) (wrap64 ((i : Int) + 1)) else lookasideref06_Demap.l0 k (refL es) kd va ctx out n (wrap64 ((i : Int) + 1))) : lookasideref06_Demap.f 1000 (refL es) kd va ctx = some (refL (clearQ es q), ((plL es q).length : Int)) := by
  have := dem_l0 hl kd va ctx q hstep es.length 0 1000 (Nat.zero_add _) (by omega)
  exact this
theorem hits_none (va ctx : Int) : hitsB ((none : Option Ent).getD zE) va ctx = false := rfl
theorem ref_demap0 {es : List (Option Ent)} (h : OkL es) (hl : es.length ≤ 64) {va : Int} (hva : (Lit.int .u64 va).wf = true) (ctx : Int) : lookasideref06_Demap.f 1000 (refL es) 0 va ctx = some (refL (clearQ es (fun e => hitsB e va ctx)), ((plL es (fun e => hitsB e va ctx)).length : Int)) := by
  refine dem_f hl 0 va ctx _ (fun i k out n hi ho => ?_)
  rw [lookasideref06_Demap.l0, if_pos (by rw [ref_len]; omega), if_pos (by omega), ref_rd, rhits_ok (ref_W h i) hva ctx, Option.bind_some, if_neg (by decide), lookasideref06_Demap.j1, if_neg (by decide), with_z i (by omega) (by omega), Option.bind_some]
  unfold isAt
  cases hx : es.getD i none with
  | none => rw [hits_none]
  | some b => rw [Option.getD_some]
theorem ref_demap1 {es : List (Option Ent)} (h : OkL es) (hl : es.length ≤ 64) (ctx : Int) : lookasideref06_Demap.f 1000 (refL es) 1 0 ctx = some (refL (clearQ es (ctxB ctx)), ((plL es (ctxB ctx)).length : Int)) := by
  refine dem_f hl 1 0 ctx _ (fun i k out n hi ho => ?_)
  rw [lookasideref06_Demap.l0, if_pos (by rw [ref_len]; omega), if_pos (by omega), ref_rd, rhits_ok (ref_W h i) (by decide) ctx, Option.bind_some, if_pos rfl]
  have hj : ∀ b, lookasideref06_Demap.j1 (k + 1) (refL es) 1 0 ctx out n (i : Int) b = if b = true then lookasideref06_Demap.l0 k (refL es) 1 0 ctx (out.set i zE) (wrap64 (n + 1)) (wrap64 ((i : Int) + 1)) else lookasideref06_Demap.l0 k (refL es) 1 0 ctx out n (wrap64 ((i : Int) + 1)) := fun b => by
    rw [lookasideref06_Demap.j1, if_neg (by decide), with_z i (by omega) (by omega), Option.bind_some]
  rw [hj, hj]
  unfold isAt
  cases hx : es.getD i none with
  | none => rfl
  | some b =>
    have hb5 : b.f5 = true := (may_okS (ok_at h hx).2).2
    rw [Option.getD_some, if_pos hb5]
    unfold ctxB
    cases hg : b.f4.f4 <;> simp [hg]
theorem ref_demap2 {es : List (Option Ent)} (h : OkL es) (hl : es.length ≤ 64) : lookasideref06_Demap.f 1000 (refL es) 2 0 0 = some (refL (clearQ es openB), ((plL es openB).length : Int)) := by
  refine dem_f hl 2 0 0 _ (fun i k out n hi ho => ?_)
  rw [lookasideref06_Demap.l0, if_pos (by rw [ref_len]; omega), if_pos (by omega), ref_rd, rhits_ok (ref_W h i) (by decide) 0, Option.bind_some, if_neg (by decide), lookasideref06_Demap.j1, if_pos rfl, if_pos (by omega), if_pos (by rw [ref_len]; omega), ref_rd, with_z i (by omega) (by omega), Option.bind_some]
  unfold isAt
  cases hx : es.getD i none with
  | none => rfl
  | some b =>
    have hb5 : b.f5 = true := (may_okS (ok_at h hx).2).2
    rw [Option.getD_some, if_pos hb5]
    unfold openB
    cases hg : b.f4.f3 <;> simp [hg]
theorem ref_clear {es : List (Option Ent)} (h : OkL es) (hl : es.length ≤ 64) (a : Int) : lookasideref06_Clear.f (refL es) a = some (refL (clearAt es a), (atOf es a).isSome) := by
  unfold lookasideref06_Clear.f clearAt
  by_cases ha0 : a < 0
  · have hn : atOf es a = none := by unfold atOf; rw [if_neg (by omega)]
    rw [if_pos ha0, hn]; rfl
  · rw [if_neg ha0]
    by_cases ha1 : a < (es.length : Int)
    · obtain ⟨n, rfl⟩ := Int.eq_ofNat_of_zero_le (Int.not_lt.1 ha0)
      have hn : atOf es (n : Int) = es.getD n none := by unfold atOf; rw [if_pos ⟨by omega, ha1⟩, Int.toNat_natCast]
      rw [if_neg (by rw [ref_len]; omega), if_pos (by omega), if_pos (by rw [ref_len]; omega), ref_rd, with_z n (by rw [ref_len]; omega) (by rw [ref_len]; omega), Option.bind_some, hn, Int.toNat_natCast]
      cases hx : es.getD n none with
      | none => rfl
      | some b =>
        have hb5 : b.f5 = true := (may_okS (ok_at h hx).2).2
        rw [Option.getD_some, if_pos hb5]
        simp only [Option.isSome_some, if_true]
        rw [ref_set]
        rfl
    · have hn : atOf es a = none := by unfold atOf; rw [if_neg (by omega)]
      rw [if_pos (by rw [ref_len]; omega), hn]; rfl
theorem find_l0 {es : List (Option Ent)} (h : OkL es) (hl : es.length ≤ 64) {va : Int} (hva : (Lit.int .u64 va).wf = true) (ctx : Int) :
    ∀ (m i k : Nat), i + m = es.length → m + 5 ≤ k → (∀ j, j < i → isAt es (fun e => hitsB e va ctx) j = false) → lookasideref06_Find.l0 k (refL es) va ctx (i : Int) = some (optV (findOf es (fun e => hitsB e va ctx))) := by
  have hF : findOf es (fun e => hitsB e va ctx) = (List.range es.length).find? (isAt es (fun e => hitsB e va ctx)) := by
    unfold findOf plL plTo
    rw [List.head?_filter]
    rfl
  intro m
  induction m with
  | zero =>
    intro i k hi hk hno
    obtain rfl : i = es.length := by omega
    obtain ⟨k, rfl⟩ : ∃ n, k = n + 1 := ⟨k - 1, by omega⟩
    rw [lookasideref06_Find.l0, if_neg (by rw [ref_len]; omega), hF, List.find?_range_eq_none.2 (fun j hj => by rw [hno j hj]; rfl)]
    rfl
  | succ m ih =>
    intro i k hi hk hno
    obtain ⟨k, rfl⟩ : ∃ n, k = n + 1 := ⟨k - 1, by omega⟩
    have hi' : i < es.length := by omega
    rw [lookasideref06_Find.l0, if_pos (by rw [ref_len]; omega), if_pos (by omega), ref_rd, rhits_ok (ref_W h i) hva ctx, Option.bind_some]
    have hq : hitsB ((es.getD i none).getD zE) va ctx = isAt es (fun e => hitsB e va ctx) i := by
      unfold isAt
      cases es.getD i none with
      | none => rfl
      | some b => rfl
    rw [hq]
    cases hi2 : isAt es (fun e => hitsB e va ctx) i with
    | true =>
      rw [if_pos rfl, hF, (List.find?_range_eq_some (i := i)).2 ⟨hi2, by simpa using hi', fun j hj => by rw [hno j hj]; rfl⟩]
      rfl
    | false =>
      rw [if_neg (by decide), w64s i (by omega)]
      exact ih (i + 1) k (by omega) (by omega) (fun j hj => by
        by_cases c : j = i
        · subst c; exact hi2
        · exact hno j (by omega))
theorem ref_find {es : List (Option Ent)} (h : OkL es) (hl : es.length ≤ 64) {va : Int} (hva : (Lit.int .u64 va).wf = true) (ctx : Int) : lookasideref06_Find.f 1000 (refL es) va ctx = some (optV (findOf es (fun e => hitsB e va ctx))) :=
  find_l0 h hl hva ctx es.length 0 1000 (Nat.zero_add _) (by omega) (fun j hj => absurd hj (Nat.not_lt_zero _))
end Go.Proofs.Ythclbckkfgmbaaa.QTlbPlays
