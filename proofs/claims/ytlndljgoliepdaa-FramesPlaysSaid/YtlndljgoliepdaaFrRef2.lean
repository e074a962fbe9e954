/- The document's frames, plainly (Give, Is, Longest, Same, how many are free); no conditions. -/
import Derived.Test.YtlndljgoliepdaaFrRef
namespace Go.Proofs.Ytlndljgoliepdaa.QFramesPlays
open Go.RowKit Go.Proofs.YtlndljgoliepdaaW.PrintWords Go.Proofs.YtlndljgoliepdaaW.PrintLast Go.Proofs.YtlndljgoliepdaaW.PrintMore
set_option linter.unusedSimpArgs false
set_option linter.unusedVariables false
section
set_option maxRecDepth 100000
theorem give_l (N a n : Int) (L : List Int) (hl : L.length ≤ 1000000) (hw : wrap64 (a + n) = a + n) : ∀ (m i k had : Nat) (acc : List Int), i + m = L.length → m + 1 ≤ k → acc.length ≤ i → had ≤ i →
    lookasideref05_Give.l0 k a n acc (had : Int) (i : Int) N L = some (if ((had + (L.drop i).countP (hit a n) : Nat) : Int) < n then (N, L, 11) else (N, acc ++ (L.drop i).filter (fun x => !hit a n x), 0)) := by
  intro m
  induction m with
  | zero =>
    intro i k had acc hi hk ha hh
    obtain ⟨k, rfl⟩ : ∃ q, k = q + 1 := ⟨k - 1, by omega⟩
    simp only [lookasideref05_Give.l0]
    rw [if_neg (by omega), List.drop_of_length_le (by omega)]
    simp
    split <;> rfl
  | succ m ih =>
    intro i k had acc hi hk ha hh
    obtain ⟨k, rfl⟩ : ∃ q, k = q + 1 := ⟨k - 1, by omega⟩
    have hlt : i < L.length := by omega
    simp only [lookasideref05_Give.l0]
    rw [if_pos (by omega), if_pos (by omega), rd_nat L hlt, hw, wi1 i (by omega), wi1 had (by omega), List.drop_eq_getElem_cons hlt, List.countP_cons, List.filter_cons, if_pos (show acc.length < 17592186044416 by omega)]
    have e1 := ih (i + 1) k (had + 1) acc (by omega) (by omega) (by omega) (by omega)
    have e2 := ih (i + 1) k had (acc ++ [L[i]]) (by omega) (by omega) (by simp; omega) (by omega)
    generalize L[i] = x at e2 ⊢
    by_cases h1 : x ≥ a
    · rw [if_pos h1]
      by_cases h2 : x < a + n
      · have hq : hit a n x = true := decide_eq_true ⟨h1, h2⟩
        rw [if_pos h2, e1, hq]
        simp only [Bool.not_true, Bool.false_eq_true, ↓reduceIte]
        rw [show had + (List.countP (hit a n) (List.drop (i + 1) L) + 1) = had + 1 + List.countP (hit a n) (List.drop (i + 1) L) by omega]
      · have hq : hit a n x = false := decide_eq_false (fun q : a ≤ x ∧ x < a + n => h2 q.2)
        rw [if_neg h2, e2, hq]
        simp
    · have hq : hit a n x = false := decide_eq_false (fun q : a ≤ x ∧ x < a + n => h1 q.1)
      rw [if_neg h1, e2, hq]
      simp
theorem hit_yes {a n : Nat} {x : Int} (h : (a : Int) ≤ x ∧ x < ((a + n : Nat) : Int)) : hit a n x = true := decide_eq_true ⟨h.1, by omega⟩
theorem hit_no {a n : Nat} {x : Int} (h : ¬ ((a : Int) ≤ x ∧ x < ((a + n : Nat) : Int))) : hit a n x = false := decide_eq_false (fun q : (a : Int) ≤ x ∧ x < (a : Int) + n => h ⟨q.1, by omega⟩)
theorem give_tk {ts : List Bool} (hl : ts.length ≤ 65536) (a n : Int) : lookasideref05_Give.f 200000 (ts.length : Int) (tk ts) a n = some ((ts.length : Int), tk (giveOf ts a n).2, (giveOf ts a n).1) := by
  have hln := tk_len ts
  unfold lookasideref05_Give.f giveOf
  by_cases h1 : n < 1
  · rw [if_pos h1, if_pos h1]
  · rw [if_neg h1, if_neg h1]
    by_cases h2 : 0 ≤ a ∧ n ≤ (ts.length : Int) ∧ a ≤ (ts.length : Int) - n
    · have hin : inOf ts a n = true := by unfold inOf; rw [decide_eq_true_iff]; omega
      obtain ⟨A, rfl⟩ : ∃ A : Nat, a = A := ⟨a.toNat, by omega⟩
      obtain ⟨M, rfl⟩ : ∃ M : Nat, n = M := ⟨n.toNat, by omega⟩
      have hA : A + M ≤ ts.length := by omega
      rw [if_neg (by omega), if_neg (by omega), show wrap64 ((ts.length : Int) - M) = (ts.length : Int) - M by unfold wrap64; omega, decide_eq_false (by omega : ¬ (A : Int) > (ts.length : Int) - M), hin, if_pos rfl, Int.toNat_natCast, Int.toNat_natCast]
      show lookasideref05_Give.j0 (199999 + 1) _ _ _ _ _ = _
      simp only [lookasideref05_Give.j0]
      rw [if_neg (by decide)]
      have hg := give_l (ts.length : Int) A M (tk ts) (by omega) (by unfold wrap64; omega) (tk ts).length 0 199999 0 [] (by omega) (by omega) (by simp) (by omega)
      refine hg.trans ?_
      rw [List.drop_zero, Nat.zero_add, List.nil_append]
      have hc : (tk ts).countP (hit A M) = (tkFrom ts A M).length := by
        rw [tk_split ts hA, List.countP_append, List.countP_append]
        have c1 : (tkFrom ts 0 A).countP (hit A M) = 0 := List.countP_eq_zero.2 (fun x hx => by rw [hit_no (by have := tkFrom_rng hx; omega)]; decide)
        have c2 : (tkFrom ts A M).countP (hit A M) = (tkFrom ts A M).length := List.countP_eq_length.2 (fun x hx => hit_yes (tkFrom_rng hx))
        have c3 : (tkFrom ts (A + M) (ts.length - (A + M))).countP (hit A M) = 0 := List.countP_eq_zero.2 (fun x hx => by rw [hit_no (by have := tkFrom_rng hx; omega)]; decide)
        omega
      have hf : (tk ts).filter (fun x => !hit A M x) = tk (setN ts A false M) := by
        rw [tk_set ts false hA, tk_split ts hA, List.filter_append, List.filter_append, if_neg (by decide)]
        congr 1
        · exact List.filter_eq_self.2 (fun x hx => by rw [hit_no (by have := tkFrom_rng hx; omega)]; rfl)
        · congr 1
          · exact List.filter_eq_nil_iff.2 (fun x hx => by rw [hit_yes (tkFrom_rng hx)]; decide)
          · exact List.filter_eq_self.2 (fun x hx => by rw [hit_no (by have := tkFrom_rng hx; omega)]; rfl)
      rw [hc, hf]
      by_cases ha : AllIn ts A M
      · rw [if_pos ha, tkFrom_up M A ha, up_len, if_neg (by omega)]
      · rw [if_neg ha, if_pos]
        have := tkFrom_len ts M A
        by_cases e : (tkFrom ts A M).length = M
        · exact absurd (tkFrom_full M A e) ha
        · omega
    · have hin : inOf ts a n = false := by unfold inOf; rw [decide_eq_false_iff_not]; omega
      rw [hin]
      simp only [Bool.false_eq_true, ↓reduceIte]
      by_cases c1 : a < 0
      · rw [if_pos c1]; rfl
      · rw [if_neg c1]
        by_cases c2 : n > (ts.length : Int)
        · rw [if_pos c2]; rfl
        · rw [if_neg c2, show wrap64 ((ts.length : Int) - n) = (ts.length : Int) - n by unfold wrap64; omega, decide_eq_true (by omega : a > (ts.length : Int) - n)]
          rfl
theorem is_l (N a : Int) (L : List Int) (hl : L.length ≤ 1000000) : ∀ (m i k : Nat), i + m = L.length → m + 1 ≤ k → lookasideref05_Is.l0 k a (i : Int) N L = some (decide (a ∈ L.drop i)) := by
  intro m
  induction m with
  | zero =>
    intro i k hi hk
    obtain ⟨k, rfl⟩ : ∃ q, k = q + 1 := ⟨k - 1, by omega⟩
    simp only [lookasideref05_Is.l0]
    rw [if_neg (by omega), List.drop_of_length_le (by omega)]
    simp
  | succ m ih =>
    intro i k hi hk
    obtain ⟨k, rfl⟩ : ∃ q, k = q + 1 := ⟨k - 1, by omega⟩
    have hlt : i < L.length := by omega
    simp only [lookasideref05_Is.l0]
    rw [if_pos (by omega), if_pos (by omega), rd_nat L hlt, wi1 i (by omega), ih (i + 1) k (by omega) (by omega), List.drop_eq_getElem_cons hlt]
    generalize L[i] = x
    by_cases h : x = a
    · rw [if_pos h]; simp [h]
    · rw [if_neg h]; simp [Ne.symm h]
theorem isR_tk {ts : List Bool} (hl : ts.length ≤ 65536) (a : Int) : lookasideref05_Is.f 200000 (ts.length : Int) (tk ts) a = some (isOf ts a) := by
  have hln := tk_len ts
  refine (is_l _ a (tk ts) (by omega) (tk ts).length 0 200000 (Nat.zero_add _) (by omega)).trans ?_
  rw [List.drop_zero]
  congr 1
  rw [Bool.eq_iff_iff, decide_eq_true_iff]
  unfold isOf
  rw [Bool.and_eq_true, decide_eq_true_iff]
  refine (tkFrom_mem ts _ _ _).trans ⟨?_, ?_⟩
  · rintro ⟨j, rfl, _, h2, h3⟩
    exact ⟨by omega, by simpa using h3⟩
  · rintro ⟨h1, h2⟩
    exact ⟨a.toNat, by omega, by omega, by omega, h2⟩
theorem long_l {ts : List Bool} (hl : ts.length ≤ 65536) : ∀ (d i k kk b c : Nat), i + d = ts.length → (tk ts).drop kk = tkFrom ts i d → kk ≤ (tk ts).length → LongTo ts i (max b c) c → b ≤ i → d + 4 ≤ k →
    ∃ R : Nat, lookasideref05_Longest.l0 k (b : Int) ((i : Int) - c - 1) (kk : Int) (ts.length : Int) (tk ts) = some (R : Int) ∧ LongOf ts R := by
  have hln := tk_len ts
  intro d
  induction d with
  | zero =>
    intro i k kk b c hi hd hkl h hb hk
    obtain ⟨k, rfl⟩ : ∃ q, k = q + 1 + 1 := ⟨k - 2, by omega⟩
    obtain rfl : i = ts.length := by omega
    have hkk : kk = (tk ts).length := by
      have := congrArg List.length hd
      simp [tkFrom] at this
      omega
    have hc := h.le
    refine ⟨max b c, ?_, h.long⟩
    simp only [lookasideref05_Longest.l0]
    rw [if_pos (by omega), if_neg (by omega), wi1 kk (by omega), if_neg (by omega)]
    congr 1
    rw [show wrap64 ((ts.length : Int) - ((ts.length : Int) - c - 1)) = (c : Int) + 1 by unfold wrap64; omega, show wrap64 ((c : Int) + 1 - 1) = (c : Int) by unfold wrap64; omega]
    unfold mx
    split <;> omega
  | succ d ih =>
    intro i k kk b c hi hd hkl h hb hk
    have hc := h.le
    rw [tkFrom_succ] at hd
    cases e : ts.getD i false with
    | false =>
      rw [e, if_neg (by decide)] at hd
      have h2 := h.open (by omega) e
      have e3 : max (max b c) (c + 1) = max b (c + 1) := by omega
      rw [e3] at h2
      have := ih (i + 1) k kk b (c + 1) (by omega) hd hkl h2 (by omega) (by omega)
      rwa [show ((i + 1 : Nat) : Int) - ((c + 1 : Nat) : Int) - 1 = (i : Int) - c - 1 by omega] at this
    | true =>
      rw [e, if_pos rfl] at hd
      obtain ⟨k, rfl⟩ : ∃ q, k = q + 1 := ⟨k - 1, by omega⟩
      have hlt : kk < (tk ts).length := by
        have := congrArg List.length hd
        simp at this
        omega
      rw [List.drop_eq_getElem_cons hlt] at hd
      injection hd with hd1 hd2
      simp only [lookasideref05_Longest.l0]
      rw [if_pos (by omega), if_pos (by omega), if_pos (by omega), rd_nat _ hlt, hd1, wi1 kk (by omega), show wrap64 ((i : Int) - ((i : Int) - c - 1)) = (c : Int) + 1 by unfold wrap64; omega, show wrap64 ((c : Int) + 1 - 1) = (c : Int) by unfold wrap64; omega, show mx (b : Int) (c : Int) = ((max b c : Nat) : Int) by unfold mx; split <;> omega]
      have h2 := h.taken e
      have := ih (i + 1) k (kk + 1) (max b c) 0 (by omega) hd2 (by omega) (by simpa using h2) (by omega) (by omega)
      rwa [show ((i + 1 : Nat) : Int) - ((0 : Nat) : Int) - 1 = (i : Int) by omega] at this
theorem longR_tk {ts : List Bool} (hl : ts.length ≤ 65536) (L : Nat) (hL : LongOf ts L) : lookasideref05_Longest.f 200000 (ts.length : Int) (tk ts) = some (L : Int) := by
  obtain ⟨R, h1, h2⟩ := long_l hl ts.length 0 200000 0 0 0 (by omega) (by rw [List.drop_zero]; rfl) (by omega) (by simpa using LongTo.start ts) (by omega) (by omega)
  rw [long_eq hL h2]
  exact h1
theorem sameL (xs : List Int) (hx : xs.length ≤ 1000000) (d : Nat) : ∀ (i k : Nat), i + d = xs.length → d < k → lookasideref02_Same.l0 k xs xs (i : Int) = some true := by
  induction d with
  | zero =>
    intro i k hi hk
    obtain ⟨k, rfl⟩ : ∃ m, k = m + 1 := ⟨k - 1, by omega⟩
    simp only [lookasideref02_Same.l0]
    rw [if_neg (by omega)]
  | succ d ih =>
    intro i k hi hk
    obtain ⟨k, rfl⟩ : ∃ m, k = m + 1 := ⟨k - 1, by omega⟩
    simp only [lookasideref02_Same.l0]
    rw [if_pos (by omega), if_pos (by omega), if_pos (by omega), if_pos True.intro, wi1 i (by omega), ih (i + 1) k (by omega) (by omega)]
theorem same_tk {ts : List Bool} (hl : ts.length ≤ 65536) : lookasideref02_Same.f 200000 (tk ts) (tk ts) = some true := by
  have hln := tk_len ts
  unfold lookasideref02_Same.f
  rw [if_pos rfl]
  exact sameL (tk ts) (by omega) (tk ts).length 0 200000 (by omega) (by omega)
theorem cnt_from (ts : List Bool) : ∀ (d i : Nat), i + d = ts.length → (ts.drop i).count false + (tkFrom ts i d).length = d := by
  intro d
  induction d with
  | zero => intro i hi; rw [List.drop_of_length_le (by omega)]; rfl
  | succ d ih =>
    intro i hi
    have hlt : i < ts.length := by omega
    have := ih (i + 1) (by omega)
    rw [List.drop_eq_getElem_cons hlt, tkFrom_succ, List.count_cons]
    have e : ts.getD i false = ts[i] := by simp [hlt]
    rw [e]
    cases ts[i] <;> simp <;> omega
theorem cnt_tk (ts : List Bool) : cnt ts = (ts.length : Int) - ((tk ts).length : Int) := by
  have := cnt_from ts ts.length 0 (by omega)
  rw [List.drop_zero] at this
  unfold cnt tk
  omega
theorem refTake_0 (N : Int) (L : List Int) (size : Int) (hr : runOf size = 0) : lookasideref05_Take.f 400000 N L size = some (N, L, 0, 1) := by
  unfold lookasideref05_Take.f
  rw [ref_run, Option.bind_some, if_pos hr]
theorem refTake_n {N : Int} {L : List Int} {size n : Int} {x : Int × List Int × Int × Int} (hr : runOf size = n) (hn : n ≠ 0) (h : lookasideref05_take.f 400000 N L n n = some x) : lookasideref05_Take.f 400000 N L size = some x := by
  unfold lookasideref05_Take.f
  rw [ref_run, Option.bind_some, hr, if_neg hn, h]
  rfl
theorem refMany_0 (N : Int) (L : List Int) (n : Int) (hr : n < 1) : lookasideref05_TakeMany.f 400000 N L n = some (N, L, 0, 1) := by
  unfold lookasideref05_TakeMany.f
  rw [if_pos hr]
theorem refMany_n {N : Int} {L : List Int} {n : Int} {x : Int × List Int × Int × Int} (hn : ¬ n < 1) (h : lookasideref05_take.f 400000 N L n 1 = some x) : lookasideref05_TakeMany.f 400000 N L n = some x := by
  unfold lookasideref05_TakeMany.f
  rw [if_neg hn, h]
  rfl
theorem first_uniq {ts : List Bool} {n each x y : Nat} (h : First ts n each x) (h' : First ts n each y) : x = y := by
  obtain ⟨j, rfl, _, hf, hno⟩ := h
  obtain ⟨j', rfl, _, hf', hno'⟩ := h'
  rcases Nat.lt_trichotomy j j' with c | c | c
  · exact absurd hf (hno' j c)
  · rw [c]
  · exact absurd hf' (hno j' c)
end
end Go.Proofs.Ytlndljgoliepdaa.QFramesPlays
