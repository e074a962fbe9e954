/- The document's frames, plainly: what each function answers over the rising list of those that are taken; no conditions. -/
import Derived.Test.YtlndljgoliepdaaFr8
import Derived.Test.YtlndljgoliepdaaQFramesPlaysx2
import Derived.Test.YtlndljgoliepdaaQFramesPlaysx3
namespace Go.Proofs.Ytlndljgoliepdaa.QFramesPlays
open Go.RowKit Go.Proofs.YtlndljgoliepdaaW.PrintWords Go.Proofs.YtlndljgoliepdaaW.PrintLast Go.Proofs.YtlndljgoliepdaaW.PrintMore
set_option linter.unusedSimpArgs false
set_option linter.unusedVariables false
section
set_option maxRecDepth 100000
theorem wi1 (i : Nat) (h : i < 4611686018427387904) : wrap64 ((i : Int) + 1) = ((i + 1 : Nat) : Int) := by unfold wrap64; omega
theorem rd_nat (l : List Int) {i : Nat} (h : i < l.length) : Go.Proofs.YtlndljgoliepdaaW.PrintWords.rd l (i : Int) = l[i] := by
  unfold Go.Proofs.YtlndljgoliepdaaW.PrintWords.rd
  simp [h]
/-- Is one of so many from one on? -/
def hit (a n x : Int) : Bool := decide (a ≤ x ∧ x < a + n)
theorem none_l (N a n : Int) (L : List Int) (hl : L.length ≤ 1000000) (hw : wrap64 (a + n) = a + n) : ∀ (m i k : Nat), i + m = L.length → m + 1 ≤ k → lookasideref05_none.l0 k a n (i : Int) N L = some ((L.drop i).all (fun x => !hit a n x)) := by
  intro m
  induction m with
  | zero =>
    intro i k hi hk
    obtain ⟨k, rfl⟩ : ∃ q, k = q + 1 := ⟨k - 1, by omega⟩
    simp only [lookasideref05_none.l0]
    rw [if_neg (by omega), List.drop_of_length_le (by omega)]
    rfl
  | succ m ih =>
    intro i k hi hk
    obtain ⟨k, rfl⟩ : ∃ q, k = q + 1 := ⟨k - 1, by omega⟩
    have hlt : i < L.length := by omega
    simp only [lookasideref05_none.l0]
    rw [if_pos (by omega), if_pos (by omega), rd_nat L hlt, hw, wi1 i (by omega), ih (i + 1) k (by omega) (by omega), List.drop_eq_getElem_cons hlt, List.all_cons]
    generalize L[i] = x
    unfold hit
    by_cases h1 : x ≥ a
    · rw [if_pos h1]
      by_cases h2 : x < a + n
      · rw [if_pos h2, decide_eq_true (show a ≤ x ∧ x < a + n from ⟨h1, h2⟩)]; rfl
      · rw [if_neg h2, decide_eq_false (fun q : a ≤ x ∧ x < a + n => h2 q.2)]; rfl
    · rw [if_neg h1, decide_eq_false (fun q : a ≤ x ∧ x < a + n => h1 q.1)]; rfl
theorem none_f (N a n : Int) (L : List Int) (hl : L.length ≤ 1000000) (hw : wrap64 (a + n) = a + n) {k : Nat} (hk : L.length + 1 ≤ k) : lookasideref05_none.f k N L a n = some (L.all (fun x => !hit a n x)) := none_l N a n L hl hw L.length 0 k (Nat.zero_add _) hk
/-- So many from one on. -/
def up : Nat → Nat → List Int
  | _, 0 => []
  | i, d + 1 => (i : Int) :: up (i + 1) d
theorem up_len (d : Nat) : ∀ i, (up i d).length = d := by
  induction d with
  | zero => intro i; rfl
  | succ d ih => intro i; simp [up, ih]
theorem put_l1 (N : Int) (a n : Nat) (l1 l2 : List Int) (hb : a ≤ 1000000 ∧ n ≤ 1000000 ∧ l1.length ≤ 1000000 ∧ l2.length ≤ 1000000) : ∀ (j i k : Nat) (acc : List Int), i + j = n → acc.length ≤ 1000000 + i → j + 1 ≤ k → lookasideref05_put.l1 k (a : Int) (n : Int) acc (l1.length : Int) (i : Int) N (l1 ++ l2) = some (N, acc ++ up (a + i) j ++ l2) := by
  intro j
  induction j with
  | zero =>
    intro i k acc hi ha hk
    obtain ⟨k, rfl⟩ : ∃ q, k = q + 1 := ⟨k - 1, by omega⟩
    simp only [lookasideref05_put.l1]
    rw [if_neg (by omega), if_pos (by omega), if_pos (by simp; omega), Int.toNat_natCast, List.drop_left, if_pos (by omega)]
    simp [up]
  | succ j ih =>
    intro i k acc hi ha hk
    obtain ⟨k, rfl⟩ : ∃ q, k = q + 1 := ⟨k - 1, by omega⟩
    simp only [lookasideref05_put.l1]
    rw [if_pos (by omega), if_pos (by omega), wi1 i (by omega), show wrap64 ((a : Int) + (i : Int)) = ((a + i : Nat) : Int) by unfold wrap64; omega, ih (i + 1) k _ (by omega) (by simp; omega) (by omega)]
    simp [up, Nat.add_assoc]
theorem put_l0 (N : Int) (a n : Nat) (l1 l2 : List Int) (hb : a ≤ 1000000 ∧ n ≤ 1000000 ∧ l1.length ≤ 1000000 ∧ l2.length ≤ 1000000) (h1 : ∀ x ∈ l1, x < (a : Int)) (h2 : ∀ x ∈ l2, (a : Int) ≤ x) : ∀ (m i k : Nat), i + m = l1.length → m + n + 3 ≤ k → lookasideref05_put.l0 k (a : Int) (n : Int) (l1.take i) (i : Int) N (l1 ++ l2) = some (N, l1 ++ up a n ++ l2) := by
  intro m
  induction m with
  | zero =>
    intro i k hi hk
    obtain ⟨k, rfl⟩ : ∃ q, k = q + 1 + 1 := ⟨k - 2, by omega⟩
    obtain rfl : i = l1.length := by omega
    have hj : lookasideref05_put.j1 (k + 1) (a : Int) (n : Int) (l1.take l1.length) (l1.length : Int) N (l1 ++ l2) = some (N, l1 ++ up a n ++ l2) := by
      simp only [lookasideref05_put.j1]
      rw [List.take_length]
      exact put_l1 N a n l1 l2 hb n 0 k l1 (by omega) (by omega) (by omega)
    simp only [lookasideref05_put.l0]
    by_cases c : ((l1.length : Nat) : Int) < ((l1 ++ l2).length : Int)
    · rw [if_pos c, if_pos (by omega)]
      have hlt : l1.length < (l1 ++ l2).length := by omega
      rw [rd_nat _ hlt]
      have hx : (l1 ++ l2)[l1.length] ∈ l2 := by
        rw [List.getElem_append_right (Nat.le_refl _)]
        exact List.getElem_mem _
      rw [if_neg (by have := h2 _ hx; omega)]
      exact hj
    · rw [if_neg c]
      exact hj
  | succ m ih =>
    intro i k hi hk
    obtain ⟨k, rfl⟩ : ∃ q, k = q + 1 := ⟨k - 1, by omega⟩
    have hlt : i < (l1 ++ l2).length := by simp; omega
    simp only [lookasideref05_put.l0]
    rw [if_pos (by omega), if_pos (by omega), rd_nat _ hlt]
    have e : (l1 ++ l2)[i] = l1[i]'(by omega) := List.getElem_append_left (by omega)
    rw [e, if_pos (h1 _ (List.getElem_mem _)), if_pos (by simp; omega), wi1 i (by omega), ← List.take_succ_eq_append_getElem (by omega)]
    exact ih (i + 1) k (by omega) (by omega)
theorem put_f (N : Int) (a n : Nat) (l1 l2 : List Int) (hb : a ≤ 1000000 ∧ n ≤ 1000000 ∧ l1.length ≤ 1000000 ∧ l2.length ≤ 1000000) (h1 : ∀ x ∈ l1, x < (a : Int)) (h2 : ∀ x ∈ l2, (a : Int) ≤ x) {k : Nat} (hk : l1.length + n + 3 ≤ k) : lookasideref05_put.f k N (l1 ++ l2) (a : Int) (n : Int) = some (N, l1 ++ up a n ++ l2) := put_l0 N a n l1 l2 hb h1 h2 l1.length 0 k (Nat.zero_add _) hk
/-! ### Of those that are taken -/
theorem tkFrom_succ (ts : List Bool) (i d : Nat) : tkFrom ts i (d + 1) = if ts.getD i false then (i : Int) :: tkFrom ts (i + 1) d else tkFrom ts (i + 1) d := rfl
theorem tkFrom_app (ts : List Bool) (d e : Nat) : ∀ i, tkFrom ts i (d + e) = tkFrom ts i d ++ tkFrom ts (i + d) e := by
  induction d with
  | zero => intro i; simp [tkFrom]
  | succ d ih =>
    intro i
    rw [show d + 1 + e = (d + e) + 1 by omega]
    rw [tkFrom_succ, tkFrom_succ, ih (i + 1), show i + 1 + d = i + (d + 1) by omega]
    split
    · simp
    · rfl
theorem tkFrom_congr {ts us : List Bool} (d : Nat) : ∀ i, (∀ j, i ≤ j → j < i + d → ts.getD j false = us.getD j false) → tkFrom ts i d = tkFrom us i d := by
  induction d with
  | zero => intro i _; rfl
  | succ d ih =>
    intro i h
    unfold tkFrom
    rw [h i (Nat.le_refl _) (by omega), ih (i + 1) (fun j h1 h2 => h j (by omega) (by omega))]
theorem tkFrom_none {ts : List Bool} (d : Nat) : ∀ i, (∀ j, j < d → ts.getD (i + j) false = false) → tkFrom ts i d = [] := by
  induction d with
  | zero => intro i _; rfl
  | succ d ih =>
    intro i h
    rw [tkFrom_succ, if_neg (by rw [show ts.getD i false = false from h 0 (by omega)]; decide), ih (i + 1) (fun j hj => by rw [show i + 1 + j = i + (j + 1) by omega]; exact h (j + 1) (by omega))]
theorem tkFrom_up {ts : List Bool} (d : Nat) : ∀ i, (∀ j, j < d → ts.getD (i + j) false = true) → tkFrom ts i d = up i d := by
  induction d with
  | zero => intro i _; rfl
  | succ d ih =>
    intro i h
    rw [tkFrom_succ, if_pos (show ts.getD i false = true from h 0 (by omega))]
    unfold up
    rw [ih (i + 1) (fun j hj => by rw [show i + 1 + j = i + (j + 1) by omega]; exact h (j + 1) (by omega))]
theorem tkFrom_full {ts : List Bool} (d : Nat) : ∀ i, (tkFrom ts i d).length = d → ∀ j, j < d → ts.getD (i + j) false = true := by
  induction d with
  | zero => intro i _ j hj; omega
  | succ d ih =>
    intro i h j hj
    have hl := tkFrom_len ts d (i + 1)
    unfold tkFrom at h
    split at h
    · rename_i h0
      cases j with
      | zero => exact h0
      | succ j =>
        rw [show i + (j + 1) = i + 1 + j by omega]
        exact ih (i + 1) (by simpa using h) j (by omega)
    · omega
theorem tk_split (ts : List Bool) {a n : Nat} (h : a + n ≤ ts.length) : tk ts = tkFrom ts 0 a ++ (tkFrom ts a n ++ tkFrom ts (a + n) (ts.length - (a + n))) := by
  unfold tk
  have e1 := tkFrom_app ts a (ts.length - a) 0
  have e2 := tkFrom_app ts n (ts.length - (a + n)) a
  rw [show a + (ts.length - a) = ts.length by omega, Nat.zero_add] at e1
  rw [show n + (ts.length - (a + n)) = ts.length - a by omega] at e2
  rw [e1, e2]
theorem tk_set (ts : List Bool) (b : Bool) {a n : Nat} (h : a + n ≤ ts.length) : tk (setN ts a b n) = tkFrom ts 0 a ++ ((if b then up a n else []) ++ tkFrom ts (a + n) (ts.length - (a + n))) := by
  have hl := setN_len ts a b n
  rw [tk_split (setN ts a b n) (by rw [hl]; exact h), hl]
  congr 1
  · exact tkFrom_congr a 0 (fun j _ hj => by rw [setN_at ts a b n j h, if_neg (by omega)])
  · congr 1
    · cases b with
      | true => rw [if_pos rfl]; exact tkFrom_up n a (fun j hj => by rw [setN_at ts a true n _ h, if_pos (by omega)])
      | false => rw [if_neg (by decide)]; exact tkFrom_none n a (fun j hj => by rw [setN_at ts a false n _ h, if_pos (by omega)])
    · exact tkFrom_congr _ _ (fun j h1 _ => by rw [setN_at ts a b n j h, if_neg (by omega)])
theorem tkFrom_rng {ts : List Bool} {i d : Nat} {x : Int} (h : x ∈ tkFrom ts i d) : (i : Int) ≤ x ∧ x < (i + d : Nat) := by
  obtain ⟨j, rfl, h1, h2, _⟩ := (tkFrom_mem ts d i x).1 h
  omega
theorem tk_len (ts : List Bool) : (tk ts).length ≤ ts.length := tkFrom_len ts _ _
theorem none_tk {ts : List Bool} (hl : ts.length ≤ 65536) {a n : Nat} (h : a + n ≤ ts.length) (N : Int) {k : Nat} (hk : ts.length + 1 ≤ k) : lookasideref05_none.f k N (tk ts) (a : Int) (n : Int) = some (decide (∀ j, j < n → ts.getD (a + j) false = false)) := by
  have hln := tk_len ts
  rw [none_f N a n (tk ts) (by omega) (by unfold wrap64; omega) (by omega)]
  congr 1
  rw [Bool.eq_iff_iff, List.all_eq_true, decide_eq_true_iff]
  constructor
  · intro hh j hj
    cases hb : ts.getD (a + j) false with
    | false => rfl
    | true =>
      exfalso
      have hm : ((a + j : Nat) : Int) ∈ tk ts := (tkFrom_mem ts _ _ _).2 ⟨a + j, rfl, by omega, by omega, hb⟩
      have := hh _ hm
      unfold hit at this
      rw [decide_eq_true (show (a : Int) ≤ ((a + j : Nat) : Int) ∧ ((a + j : Nat) : Int) < (a : Int) + n by omega)] at this
      cases this
  · intro hh x hx
    obtain ⟨j, rfl, _, h2, h3⟩ := (tkFrom_mem ts _ _ _).1 hx
    unfold hit
    rw [decide_eq_false (fun q : (a : Int) ≤ (j : Int) ∧ (j : Int) < (a : Int) + n => by
      have := hh (j - a) (by omega)
      rw [show a + (j - a) = j by omega, h3] at this
      cases this)]
    rfl
theorem put_tk {ts : List Bool} (hl : ts.length ≤ 65536) {a n : Nat} (h : a + n ≤ ts.length) (hf : ∀ j, j < n → ts.getD (a + j) false = false) (N : Int) {k : Nat} (hk : ts.length + n + 3 ≤ k) : lookasideref05_put.f k N (tk ts) (a : Int) (n : Int) = some (N, tk (setN ts a true n)) := by
  have l1 := tkFrom_len ts a 0
  have l2 := tkFrom_len ts (ts.length - (a + n)) (a + n)
  rw [tk_set ts true h, if_pos rfl, tk_split ts h, tkFrom_none n a hf, List.nil_append, put_f N a n _ _ ⟨by omega, by omega, by omega, by omega⟩ (fun x hx => by have := tkFrom_rng hx; omega) (fun x hx => by have := tkFrom_rng hx; omega) (by omega), List.append_assoc]
theorem freeIn_iff {ts : List Bool} {a n : Nat} (h : a + n ≤ ts.length) : FreeIn ts a n ↔ ∀ j, j < n → ts.getD (a + j) false = false := ⟨fun q j hj => (q j hj).2, fun q j hj => ⟨by omega, q j hj⟩⟩
/-! ### taking -/
theorem take_yes {ts : List Bool} (hl : ts.length ≤ 65536) {n each x : Nat} (hn : 1 ≤ n) (he : 1 ≤ each) (he2 : each ≤ 70000) (hF : First ts n each x) : ∀ (e j k : Nat), x = (j + e) * each → 2 * e + 140000 ≤ k → (∀ j', j' < j + e → ¬ FreeIn ts (j' * each) n) → lookasideref05_take.l0 k (n : Int) (each : Int) ((j * each : Nat) : Int) (ts.length : Int) (tk ts) = some ((ts.length : Int), tk (setN ts x true n), (x : Int), 0) := by
  obtain ⟨_, _, hxl, hxf, _⟩ := hF
  intro e
  induction e with
  | zero =>
    intro j k hx hk hno
    obtain ⟨k, rfl⟩ : ∃ q, k = q + 1 + 1 := ⟨k - 2, by omega⟩
    rw [Nat.add_zero] at hx
    rw [← hx]
    simp only [lookasideref05_take.l0, lookasideref05_take.j1]
    rw [if_pos (by omega), show wrap64 ((ts.length : Int) - n) = (ts.length : Int) - n by unfold wrap64; omega, decide_eq_true (show (x : Int) ≤ (ts.length : Int) - n by omega), if_pos rfl, none_tk hl hxl _ (by omega), Option.bind_some, decide_eq_true ((freeIn_iff hxl).1 hxf), if_pos rfl, put_tk hl hxl ((freeIn_iff hxl).1 hxf) _ (by omega), Option.bind_some]
  | succ e ih =>
    intro j k hx hk hno
    obtain ⟨k, rfl⟩ : ∃ q, k = q + 1 + 1 := ⟨k - 2, by omega⟩
    have hle : j * each + each ≤ x := by
      rw [hx, ← Nat.succ_mul]
      exact Nat.mul_le_mul_right _ (by omega)
    have hjl : j * each + n ≤ ts.length := by omega
    have hnf : ¬ ∀ i, i < n → ts.getD (j * each + i) false = false := fun q => hno j (by omega) ((freeIn_iff hjl).2 q)
    simp only [lookasideref05_take.l0, lookasideref05_take.j1]
    rw [if_pos (by omega), show wrap64 ((ts.length : Int) - n) = (ts.length : Int) - n by unfold wrap64; omega, decide_eq_true (show ((j * each : Nat) : Int) ≤ (ts.length : Int) - n by omega), if_pos rfl, none_tk hl hjl _ (by omega), Option.bind_some, decide_eq_false hnf, if_neg (by decide), show wrap64 (((j * each : Nat) : Int) + (each : Int)) = (((j + 1) * each : Nat) : Int) by rw [Nat.succ_mul]; unfold wrap64; omega]
    exact ih (j + 1) k (by rw [hx]; congr 1; omega) (by omega) (fun j' hj' => hno j' (by omega))
theorem take_no {ts : List Bool} (hl : ts.length ≤ 65536) (n : Int) {each : Nat} (hn : 1 ≤ n) (he : 1 ≤ each) (he2 : each ≤ 70000) (hno : ∀ j, ((j * each : Nat) : Int) + n ≤ ts.length → ¬ FreeIn ts (j * each) n.toNat) : ∀ (d j k : Nat), j + d = ts.length + 1 → 2 * d + 140002 ≤ k → (j * each ≤ ts.length + 70000) → lookasideref05_take.l0 k n (each : Int) ((j * each : Nat) : Int) (ts.length : Int) (tk ts) = some ((ts.length : Int), tk ts, 0, 6) := by
  intro d
  induction d with
  | zero =>
    intro j k hj hk hm
    obtain ⟨k, rfl⟩ : ∃ q, k = q + 1 + 1 := ⟨k - 2, by omega⟩
    have hje : j ≤ j * each := Nat.le_mul_of_pos_right _ he
    simp only [lookasideref05_take.l0, lookasideref05_take.j1]
    by_cases c : n ≤ (ts.length : Int)
    · rw [if_pos c, show wrap64 ((ts.length : Int) - n) = (ts.length : Int) - n by unfold wrap64; omega, decide_eq_false (by omega : ¬ ((j * each : Nat) : Int) ≤ (ts.length : Int) - n), if_neg (by decide)]
    · rw [if_neg c, if_neg (by decide)]
  | succ d ih =>
    intro j k hj hk hm
    obtain ⟨k, rfl⟩ : ∃ q, k = q + 1 + 1 := ⟨k - 2, by omega⟩
    simp only [lookasideref05_take.l0, lookasideref05_take.j1]
    by_cases c : n ≤ (ts.length : Int)
    · rw [if_pos c, show wrap64 ((ts.length : Int) - n) = (ts.length : Int) - n by unfold wrap64; omega]
      by_cases c2 : ((j * each : Nat) : Int) ≤ (ts.length : Int) - n
      · obtain ⟨m, rfl⟩ : ∃ m : Nat, n = m := ⟨n.toNat, by omega⟩
        have hjl : j * each + m ≤ ts.length := by omega
        have hnf : ¬ ∀ i, i < m → ts.getD (j * each + i) false = false := fun q => hno j (by omega) ((freeIn_iff hjl).2 (by simpa using q))
        rw [decide_eq_true c2, if_pos rfl, none_tk hl hjl _ (by omega), Option.bind_some, decide_eq_false hnf, if_neg (by decide), show wrap64 (((j * each : Nat) : Int) + (each : Int)) = (((j + 1) * each : Nat) : Int) by rw [Nat.succ_mul]; unfold wrap64; omega]
        exact ih (j + 1) k (by omega) (by omega) (by rw [Nat.succ_mul]; omega)
      · rw [decide_eq_false c2, if_neg (by decide)]
    · rw [if_neg c, if_neg (by decide)]
theorem take_first {ts : List Bool} (hl : ts.length ≤ 65536) {n each x : Nat} (hn : 1 ≤ n) (he : 1 ≤ each) (he2 : each ≤ 70000) (hF : First ts n each x) : lookasideref05_take.f 400000 (ts.length : Int) (tk ts) (n : Int) (each : Int) = some ((ts.length : Int), tk (setN ts x true n), (x : Int), 0) := by
  have hF' := hF
  obtain ⟨j, hx, hxl, hxf, hno⟩ := hF
  have hje : j ≤ j * each := Nat.le_mul_of_pos_right _ he
  have := take_yes hl hn he he2 hF' j 0 400000 (by rw [hx, Nat.zero_add]) (by omega) (fun j' hj' => hno j' (by omega))
  rwa [Nat.zero_mul] at this
theorem take_none {ts : List Bool} (hl : ts.length ≤ 65536) (n : Int) {each : Nat} (hn : 1 ≤ n) (he : 1 ≤ each) (he2 : each ≤ 70000) (hno : ∀ j, ((j * each : Nat) : Int) + n ≤ ts.length → ¬ FreeIn ts (j * each) n.toNat) : lookasideref05_take.f 400000 (ts.length : Int) (tk ts) n (each : Int) = some ((ts.length : Int), tk ts, 0, 6) := by
  have := take_no hl n hn he he2 hno (ts.length + 1) 0 400000 (by omega) (by omega) (by omega)
  rwa [Nat.zero_mul] at this
end
end Go.Proofs.Ytlndljgoliepdaa.QFramesPlays
