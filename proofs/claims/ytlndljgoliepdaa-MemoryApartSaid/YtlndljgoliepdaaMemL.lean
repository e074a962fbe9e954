/- The document's bytes in a list, and a memory's map, byte by byte: plain facts; no conditions. -/
import Derived.Test.YtlndljgoliepdaaMem3
import Derived.Test.YtlndljgoliepdaaQMemoryApartx2
namespace Go.Proofs.Ytlndljgoliepdaa.Mem
open Go.RowKit Go.Maps Go.Proofs.YtlndljgoliepdaaW.PrintWords Go.Proofs.YtlndljgoliepdaaW.PrintLast Go.Proofs.YtlndljgoliepdaaW.PrintMore Go.Proofs.Ytlndljgoliepdaa.QMemoryApart
set_option linter.unusedSimpArgs false
set_option linter.unusedVariables false
abbrev Bt := S106
def getL : List Bt → Int → Int
  | [], _ => 0
  | b :: l, a => if b.f0 = a then b.f1 else getL l a
theorem getL_cons (b : Bt) (l : List Bt) (a : Int) : getL (b :: l) a = if b.f0 = a then b.f1 else getL l a := rfl
def putL (l : List Bt) (a b : Int) : List Bt := l.filter (fun x => !(x.f0 == a)) ++ (if b = 0 then [] else [⟨a, b⟩])
def clrL (l : List Bt) (a n : Int) : List Bt := l.filter (fun x => !(decide (a ≤ x.f0 ∧ x.f0 - a < n)))
structure RefL (sz : Int) (f : Int → Int) (l : List Bt) : Prop where
  nd : l.Pairwise (fun x y => x.f0 ≠ y.f0)
  rng : ∀ b ∈ l, 0 ≤ b.f0 ∧ b.f0 < sz ∧ 0 < b.f1 ∧ b.f1 < 256
  get : ∀ a, 0 ≤ a → a < sz → getL l a = f a
theorem getL_none {l : List Bt} {a : Int} (h : ∀ b ∈ l, b.f0 ≠ a) : getL l a = 0 := by
  induction l with
  | nil => rfl
  | cons b l ih =>
    rw [getL_cons, if_neg (h b List.mem_cons_self)]
    exact ih (fun x hx => h x (List.mem_cons_of_mem _ hx))
theorem getL_append (l m : List Bt) (a : Int) : getL (l ++ m) a = if ∃ b ∈ l, b.f0 = a then getL l a else getL m a := by
  induction l with
  | nil => simp
  | cons b l ih =>
    rw [List.cons_append, getL_cons, getL_cons]
    by_cases e : b.f0 = a
    · rw [if_pos e, if_pos ⟨b, List.mem_cons_self, e⟩, if_pos e]
    · rw [if_neg e, ih]
      by_cases h : ∃ x ∈ l, x.f0 = a
      · obtain ⟨x, hx, hxa⟩ := h
        rw [if_pos ⟨x, hx, hxa⟩, if_pos ⟨x, List.mem_cons_of_mem _ hx, hxa⟩, if_neg e]
      · rw [if_neg h, if_neg]
        rintro ⟨x, hx, hxa⟩
        rcases List.mem_cons.1 hx with rfl | hx
        · exact e hxa
        · exact h ⟨x, hx, hxa⟩
theorem getL_keep {l : List Bt} {a : Int} {p : Bt → Bool} (h : ∀ b ∈ l, b.f0 = a → p b = true) : getL (l.filter p) a = getL l a := by
  induction l with
  | nil => rfl
  | cons b l ih =>
    have ih' := ih (fun x hx => h x (List.mem_cons_of_mem _ hx))
    by_cases e : b.f0 = a
    · rw [List.filter_cons_of_pos (h b List.mem_cons_self e)]
      rw [getL_cons, getL_cons, if_pos e, if_pos e]
    · cases hp : p b with
      | true =>
        rw [List.filter_cons_of_pos hp]
        rw [getL_cons, getL_cons, if_neg e, if_neg e, ih']
      | false =>
        rw [List.filter_cons_of_neg (by rw [hp]; decide), ih', getL_cons, if_neg e]
theorem put_get (l : List Bt) (a b c : Int) : getL (putL l a b) c = if c = a then b else getL l c := by
  unfold putL
  rw [getL_append]
  by_cases e : c = a
  · subst e
    rw [if_pos rfl, if_neg]
    · by_cases hb : b = 0
      · rw [if_pos hb, hb]; rfl
      · rw [if_neg hb, getL_cons, if_pos rfl]
    · rintro ⟨x, hx, hxa⟩
      have := (List.mem_filter.1 hx).2
      simp [hxa] at this
  · rw [if_neg e]
    have hk : getL (l.filter (fun x => !(x.f0 == a))) c = getL l c := getL_keep (fun x _ hx => by simp [hx, e])
    split
    · exact hk
    · rename_i hn
      have : getL l c = 0 := by
        rw [← hk]
        exact getL_none (fun x hx hxc => hn ⟨x, hx, hxc⟩)
      rw [this]
      split
      · rfl
      · rw [getL_cons, if_neg (fun h => e h.symm)]
        rfl
theorem clr_get (l : List Bt) (a n c : Int) : getL (clrL l a n) c = if a ≤ c ∧ c - a < n then 0 else getL l c := by
  unfold clrL
  split
  · rename_i h
    refine getL_none (fun x hx hxc => ?_)
    have := (List.mem_filter.1 hx).2
    rw [hxc] at this
    simp [h.1, h.2] at this
  · rename_i h
    exact getL_keep (fun x _ hx => by rw [hx]; simp only [decide_eq_false h]; rfl)
theorem RefL.put {sz : Int} {f : Int → Int} {l : List Bt} (h : RefL sz f l) {a b : Int} (ha : 0 ≤ a ∧ a < sz) (hb : 0 ≤ b ∧ b < 256) : RefL sz (fun t => if t = a then b else f t) (putL l a b) := by
  refine ⟨?_, ?_, fun t h0 h1 => by rw [put_get]; split; rfl; exact h.get t h0 h1⟩
  · unfold putL
    rw [List.pairwise_append]
    refine ⟨h.nd.filter _, ?_, fun x hx y hy => ?_⟩
    · split
      · exact List.Pairwise.nil
      · exact List.pairwise_singleton _ _
    · split at hy
      · cases hy
      · rw [List.mem_singleton] at hy
        subst hy
        have := (List.mem_filter.1 hx).2
        simpa using this
  · intro x hx
    unfold putL at hx
    rcases List.mem_append.1 hx with hx | hx
    · exact h.rng x (List.mem_filter.1 hx).1
    · split at hx
      · cases hx
      · rename_i hb0
        rw [List.mem_singleton] at hx
        subst hx
        exact ⟨ha.1, ha.2, show 0 < b by omega, hb.2⟩
theorem RefL.clr {sz : Int} {f : Int → Int} {l : List Bt} (h : RefL sz f l) (a n : Int) : RefL sz (fun t => if a ≤ t ∧ t - a < n then 0 else f t) (clrL l a n) := by
  refine ⟨h.nd.filter _, fun x hx => h.rng x (List.mem_filter.1 hx).1, fun t h0 h1 => ?_⟩
  rw [clr_get]
  split
  · rfl
  · exact h.get t h0 h1
theorem RefL.eq {sz : Int} {f g : Int → Int} {l : List Bt} (h : RefL sz f l) (e : ∀ a, 0 ≤ a → a < sz → f a = g a) : RefL sz g l := ⟨h.nd, h.rng, fun a h0 h1 => (h.get a h0 h1).trans (e a h0 h1)⟩
theorem put_len (l : List Bt) (a b : Int) : (putL l a b).length ≤ l.length + 1 := by
  unfold putL
  rw [List.length_append]
  have := List.length_filter_le (fun x : Bt => !(x.f0 == a)) l
  split <;> simp <;> omega
theorem clr_len (l : List Bt) (a n : Int) : (clrL l a n).length ≤ l.length := List.length_filter_le _ _
/-! ### The document's functions, told -/
theorem rd_at (l : List Bt) {i : Nat} (h : i < l.length) : rd_T106 l (i : Int) = l[i] := by
  unfold rd_T106
  rw [Int.toNat_natCast]
  simp [List.getD, h]
theorem wi (i : Nat) (h : i < 4611686018427387904) : wrap64 ((i : Int) + 1) = ((i + 1 : Nat) : Int) := by unfold wrap64; omega
theorem put_l (sz a b : Int) (l : List Bt) (hl : l.length ≤ 1000000000) : ∀ (m i k : Nat), i + m = l.length → m + 1 ≤ k → lookasideref04_Put.l0 k a b ((l.take i).filter (fun x => !(x.f0 == a))) (i : Int) sz l = some (sz, putL l a b) := by
  intro m
  induction m with
  | zero =>
    intro i k hi hk
    obtain rfl : i = l.length := by omega
    obtain ⟨k, rfl⟩ : ∃ n, k = n + 1 := ⟨k - 1, by omega⟩
    have hfl := List.length_filter_le (fun x : Bt => !(x.f0 == a)) l
    rw [lookasideref04_Put.l0, if_neg (by omega), List.take_length]
    unfold putL
    by_cases hb : b = 0
    · rw [if_pos hb, if_pos hb, List.append_nil]
    · rw [if_neg hb, if_neg hb, if_pos (Nat.lt_of_le_of_lt (List.length_filter_le _ _) (by omega))]
  | succ m ih =>
    intro i k hi hk
    obtain ⟨k, rfl⟩ : ∃ n, k = n + 1 := ⟨k - 1, by omega⟩
    have hi' : i < l.length := by omega
    have hfl := List.length_filter_le (fun x : Bt => !(x.f0 == a)) (l.take i)
    have htk : (l.take i).length ≤ i := List.length_take_le _ _
    rw [lookasideref04_Put.l0, if_pos (by omega), if_pos (by omega), rd_at l hi', wi i (by omega)]
    have hs := ih (i + 1) k (by omega) (by omega)
    rw [List.take_succ_eq_append_getElem hi', List.filter_append] at hs
    by_cases e : l[i].f0 = a
    · rw [if_pos e]
      rw [List.filter_cons_of_neg (by simp [e]), List.filter_nil, List.append_nil] at hs
      exact hs
    · rw [if_neg e, if_pos (Nat.lt_of_le_of_lt (Nat.le_trans (List.length_filter_le _ _) (List.length_take_le _ _)) (by omega))]
      rw [List.filter_cons_of_pos (by simp [e]), List.filter_nil] at hs
      exact hs
theorem put_f (sz a b : Int) (l : List Bt) (hl : l.length ≤ 1000000000) {k : Nat} (hk : l.length + 1 ≤ k) : lookasideref04_Put.f k sz l a b = some (sz, putL l a b) := put_l sz a b l hl l.length 0 k (Nat.zero_add _) hk
theorem get_l (sz a : Int) (l : List Bt) (hl : l.length ≤ 1000000000) : ∀ (m i k : Nat), i + m = l.length → m + 1 ≤ k → lookasideref04_Get.l0 k a (i : Int) sz l = some (getL (l.drop i) a) := by
  intro m
  induction m with
  | zero =>
    intro i k hi hk
    obtain rfl : i = l.length := by omega
    obtain ⟨k, rfl⟩ : ∃ n, k = n + 1 := ⟨k - 1, by omega⟩
    rw [lookasideref04_Get.l0, if_neg (by omega), List.drop_length]
    rfl
  | succ m ih =>
    intro i k hi hk
    obtain ⟨k, rfl⟩ : ∃ n, k = n + 1 := ⟨k - 1, by omega⟩
    have hi' : i < l.length := by omega
    rw [lookasideref04_Get.l0, if_pos (by omega), if_pos (by omega), rd_at l hi', wi i (by omega), List.drop_eq_getElem_cons hi']
    rw [getL_cons]
    by_cases e : l[i].f0 = a
    · rw [if_pos e, if_pos e]
    · rw [if_neg e, if_neg e]
      exact ih (i + 1) k (by omega) (by omega)
theorem get_f (sz a : Int) (l : List Bt) (hl : l.length ≤ 1000000000) {k : Nat} (hk : l.length + 1 ≤ k) : lookasideref04_Get.f k sz l a = some (getL l a) := get_l sz a l hl l.length 0 k (Nat.zero_add _) hk
theorem clr_l (sz a n : Int) (l : List Bt) (hl : l.length ≤ 1000000000) (ha : 0 ≤ a) (hr : ∀ b ∈ l, 0 ≤ b.f0 ∧ b.f0 < 18446744073709551616) : ∀ (m i k : Nat), i + m = l.length → m + 1 ≤ k → lookasideref04_Clear.l0 k a n (clrL (l.take i) a n) (i : Int) sz l = some (sz, clrL l a n) := by
  intro m
  induction m with
  | zero =>
    intro i k hi hk
    obtain rfl : i = l.length := by omega
    obtain ⟨k, rfl⟩ : ∃ n, k = n + 1 := ⟨k - 1, by omega⟩
    rw [lookasideref04_Clear.l0, if_neg (by omega), List.take_length]
  | succ m ih =>
    intro i k hi hk
    obtain ⟨k, rfl⟩ : ∃ n, k = n + 1 := ⟨k - 1, by omega⟩
    have hi' : i < l.length := by omega
    have hfl := clr_len (l.take i) a n
    have htk : (l.take i).length ≤ i := List.length_take_le _ _
    have hb := hr l[i] (List.getElem_mem hi')
    rw [lookasideref04_Clear.l0, if_pos (by omega), if_pos (by omega), rd_at l hi', wi i (by omega)]
    have hs := ih (i + 1) k (by omega) (by omega)
    unfold clrL at hs hfl ⊢
    rw [List.take_succ_eq_append_getElem hi', List.filter_append] at hs
    by_cases e : l[i].f0 < a
    · rw [if_pos e, if_pos (by omega)]
      rw [List.filter_cons_of_pos (by simp; omega), List.filter_nil] at hs
      exact hs
    · have hw : IntKind.u64.wrap (l[i].f0 - a) = l[i].f0 - a := by rw [IntKind.wrap_u64]; omega
      rw [if_neg e, hw]
      by_cases e2 : l[i].f0 - a ≥ n
      · rw [if_pos e2, if_pos (by omega)]
        rw [List.filter_cons_of_pos (by simp; omega), List.filter_nil] at hs
        exact hs
      · rw [if_neg e2]
        rw [List.filter_cons_of_neg (by simp; omega), List.filter_nil, List.append_nil] at hs
        exact hs
theorem clr_f (sz a n : Int) (l : List Bt) (hl : l.length ≤ 1000000000) (ha : 0 ≤ a) (hr : ∀ b ∈ l, 0 ≤ b.f0 ∧ b.f0 < 18446744073709551616) {k : Nat} (hk : l.length + 1 ≤ k) : lookasideref04_Clear.f k sz l a n = some (sz, clrL l a n) := clr_l sz a n l hl ha hr l.length 0 k (Nat.zero_add _) hk
/-! ### Words -/
theorem byte_word {D : DataW Unit} (h : IsMap D) {a w : Int} (ha : a % 8 = 0) (t : Int) (ht : 0 ≤ t) : byteAt (st D (a / 8) w) t = if a ≤ t ∧ t - a < 8 then bt w (t - a).toNat else byteAt D t := by
  unfold byteAt
  by_cases e : t / 8 = a / 8
  · rw [e, rd_st_same h, if_pos (by omega)]
    unfold bt
    have e1 : ((7 - t % 8) * 8).toNat = (7 - (t - a).toNat) * 8 := by omega
    rw [e1]
  · rw [rd_st_other e, if_neg (by omega)]
theorem word_l (sz : Int) (l : List Bt) {D : DataW Unit} (hl : l.length ≤ 1000000000) {a w : Int} (ha : a % 8 = 0) (h0 : 0 ≤ a) (h1 : a + 8 ≤ sz) (hz : sz ≤ 2199023255552) (hR : RefL sz (byteAt D) l) (hw : (Lit.int .u64 w).wf = true) (hD : rd D (a / 8) = w) : ∀ (m i k : Nat), i + m = 8 → l.length + m + 2 ≤ k → lookasideref04_Word.l0 k a (pre w i) (i : Int) sz l = some w := by
  intro m
  induction m with
  | zero =>
    intro i k hi hk
    obtain rfl : i = 8 := by omega
    obtain ⟨k, rfl⟩ : ∃ n, k = n + 1 := ⟨k - 1, by omega⟩
    rw [lookasideref04_Word.l0, if_neg (by omega), pre_eight]
  | succ m ih =>
    intro i k hi hk
    obtain ⟨k, rfl⟩ : ∃ n, k = n + 1 := ⟨k - 1, by omega⟩
    have hi8 : i < 8 := by omega
    have e1 : IntKind.u64.wrap (a + (i : Int)) = a + (i : Int) := by rw [IntKind.wrap_u64]; omega
    have e2 : IntKind.u64.wrap ((i : Int) + 1) = ((i + 1 : Nat) : Int) := by rw [IntKind.wrap_u64]; omega
    rw [lookasideref04_Word.l0, if_pos (by omega), e1, get_f sz _ l hl (by omega), Option.bind_some, hR.get _ (by omega) (by omega), byte_at_i ha hi8 hD, pre_step hw hi8, e2]
    exact ih (i + 1) k (by omega) (by omega)
theorem word_f (sz : Int) (l : List Bt) {D : DataW Unit} (hl : l.length ≤ 1000000000) {a w : Int} (ha : a % 8 = 0) (h0 : 0 ≤ a) (h1 : a + 8 ≤ sz) (hz : sz ≤ 2199023255552) (hR : RefL sz (byteAt D) l) (hw : (Lit.int .u64 w).wf = true) (hD : rd D (a / 8) = w) {k : Nat} (hk : l.length + 10 ≤ k) : lookasideref04_Word.f k sz l a = some w := by
  unfold lookasideref04_Word.f
  have := word_l sz l hl ha h0 h1 hz hR hw hD 8 0 k (Nat.zero_add _) hk
  rwa [← pre_zero hw] at this
theorem bt_step {w : Int} (hw : (Lit.int .u64 w).wf = true) (i : Nat) (hi : i < 8) : (Int.tmod (w / 2 ^ ((7 - i) * 8)) 256) % 256 = bt w i ∧ IntKind.u64.wrap (Int.tdiv (w / 2 ^ ((7 - i) * 8)) 256) = w / 2 ^ ((8 - i) * 8) := by
  obtain ⟨h0, h1⟩ := u64_b hw
  obtain ⟨X, rfl⟩ := Int.eq_ofNat_of_zero_le h0
  have hq : ((X : Int) / 2 ^ ((7 - i) * 8)) = ((X / 2 ^ ((7 - i) * 8) : Nat) : Int) := by simp
  have hle : X / 2 ^ ((7 - i) * 8) ≤ X := Nat.div_le_self _ _
  constructor
  · unfold bt
    rw [hq]
    have e : Int.tmod ((X / 2 ^ ((7 - i) * 8) : Nat) : Int) 256 = ((X / 2 ^ ((7 - i) * 8) % 256 : Nat) : Int) := rfl
    rw [e]
    omega
  · rw [hq]
    have e : Int.tdiv ((X / 2 ^ ((7 - i) * 8) : Nat) : Int) 256 = ((X / 2 ^ ((7 - i) * 8) / 256 : Nat) : Int) := rfl
    have e3 : 2 ^ ((7 - i) * 8) * 256 = 2 ^ ((8 - i) * 8) := by
      rw [show (256 : Nat) = 2 ^ 8 from rfl, ← Nat.pow_add]
      congr 1
      omega
    rw [e, Nat.div_div_eq_div_mul, e3, IntKind.wrap_u64]
    have hq2 : ((X : Int) / 2 ^ ((8 - i) * 8)) = ((X / 2 ^ ((8 - i) * 8) : Nat) : Int) := by simp
    have hle2 : X / 2 ^ ((8 - i) * 8) ≤ X := Nat.div_le_self _ _
    rw [hq2]
    generalize X / 2 ^ ((8 - i) * 8) = Y at hle2 ⊢
    omega
/-- The last j bytes of a word, put. -/
def putsF (f : Int → Int) (a w : Int) (j : Nat) (t : Int) : Int := if a + j ≤ t ∧ t < a + 8 then bt w (t - a).toNat else f t
theorem puts_l (sz : Int) {f : Int → Int} {a w : Int} (ha : a % 8 = 0) (h0 : 0 ≤ a) (h1 : a + 8 ≤ sz) (hz : sz ≤ 2199023255552) (hw : (Lit.int .u64 w).wf = true) : ∀ (j k : Nat) (l : List Bt), j ≤ 8 → l.length + j ≤ 1000000000 → RefL sz (putsF f a w j) l → l.length + 2 * j + 2 ≤ k → ∃ l', lookasideref04_PutWord.l0 k a (w / 2 ^ ((8 - j) * 8)) (j : Int) sz l = some (sz, l') ∧ RefL sz (putsF f a w 0) l' ∧ l'.length ≤ l.length + j := by
  intro j
  induction j with
  | zero =>
    intro k l _ _ hR hk
    obtain ⟨k, rfl⟩ : ∃ n, k = n + 1 := ⟨k - 1, by omega⟩
    exact ⟨l, by rw [lookasideref04_PutWord.l0, if_neg (by omega)], hR, Nat.le_refl _⟩
  | succ j ih =>
    intro k l hj hl hR hk
    obtain ⟨k, rfl⟩ : ∃ n, k = n + 1 := ⟨k - 1, by omega⟩
    have e1 : IntKind.u64.wrap (IntKind.u64.wrap (a + ((j + 1 : Nat) : Int)) - 1) = a + (j : Int) := by simp only [IntKind.wrap_u64]; omega
    have e2 : IntKind.u64.wrap (((j + 1 : Nat) : Int) - 1) = (j : Int) := by rw [IntKind.wrap_u64]; omega
    obtain ⟨b1, b2⟩ := bt_step hw j (by omega)
    have e3 : (8 - (j + 1)) * 8 = (7 - j) * 8 := by omega
    have hbt : 0 ≤ bt w j ∧ bt w j < 256 := ⟨Int.emod_nonneg _ (by decide), Int.emod_lt_of_pos _ (by decide)⟩
    have hlen := put_len l (a + (j : Int)) (bt w j)
    obtain ⟨l', hl', hR', hlen'⟩ := ih k (putL l (a + (j : Int)) (bt w j)) (by omega) (by omega) ((hR.put ⟨by omega, by omega⟩ hbt).eq (fun t h0 h1 => by
      unfold putsF
      by_cases e : t = a + (j : Int)
      · subst e
        rw [if_pos rfl, if_pos (by omega), show (a + (j : Int) - a).toNat = j by omega]
      · rw [if_neg e]
        by_cases c : a + ((j + 1 : Nat) : Int) ≤ t ∧ t < a + 8
        · rw [if_pos c, if_pos (by omega)]
        · rw [if_neg c, if_neg (by omega)])) (by omega)
    refine ⟨l', ?_, hR', by omega⟩
    rw [lookasideref04_PutWord.l0, if_pos (by omega), e3, b1, b2, e1, e2, put_f sz _ _ l (by omega) (by omega), Option.bind_some]
    exact hl'
theorem puts_f (sz : Int) {D : DataW Unit} (hD : IsMap D) {a w : Int} (ha : a % 8 = 0) (h0 : 0 ≤ a) (h1 : a + 8 ≤ sz) (hz : sz ≤ 2199023255552) (hw : (Lit.int .u64 w).wf = true) (l : List Bt) (hl : l.length ≤ 900000000) (hR : RefL sz (byteAt D) l) {k : Nat} (hk : l.length + 18 ≤ k) : ∃ l', lookasideref04_PutWord.f k sz l a w = some (sz, l') ∧ RefL sz (byteAt (st D (a / 8) w)) l' ∧ l'.length ≤ l.length + 8 := by
  obtain ⟨l', e, hR', hn⟩ := puts_l sz (f := byteAt D) ha h0 h1 hz hw 8 k l (Nat.le_refl _) (by omega) (hR.eq (fun t _ _ => by unfold putsF; rw [if_neg (by omega)])) (by omega)
  refine ⟨l', ?_, hR'.eq (fun t t0 _ => ?_), hn⟩
  · unfold lookasideref04_PutWord.f
    simpa using e
  · rw [byte_word hD ha t t0]
    unfold putsF
    by_cases c : a ≤ t ∧ t - a < 8
    · rw [if_pos c, if_pos (by omega)]
    · rw [if_neg c, if_neg (by omega)]
/-! ### Copies -/
def cpF (g f : Int → Int) (s t n q : Int) : Int := if t ≤ q ∧ q - t < n then g (q - t + s) else f q
theorem copy_l (sz : Int) {f : Int → Int} {s t n : Int} (l : List Bt) (hl : l.length ≤ 400000000) (hs : 0 ≤ s) (ht : 0 ≤ t) (hts : n ≤ 0 ∨ t + n ≤ sz) (hz : sz ≤ 2199023255552) (hR : RefL sz f l) : ∀ (m i k : Nat) (o : List Bt), i + m = l.length → o.length ≤ l.length + i → RefL sz (cpF (getL (l.take i)) f s t n) o → 3 * l.length + 3 + m ≤ k → ∃ l', lookasideref04_Copy.l0 k s t n (i : Int) sz l sz o = some (sz, l') ∧ RefL sz (cpF (getL l) f s t n) l' ∧ l'.length ≤ 2 * l.length := by
  intro m
  induction m with
  | zero =>
    intro i k o hi ho hO hk
    obtain rfl : i = l.length := by omega
    obtain ⟨k, rfl⟩ : ∃ n, k = n + 1 := ⟨k - 1, by omega⟩
    rw [List.take_length] at hO
    exact ⟨o, by rw [lookasideref04_Copy.l0, if_neg (by omega)], hO, by omega⟩
  | succ m ih =>
    intro i k o hi ho hO hk
    obtain ⟨k, rfl⟩ : ∃ n, k = n + 1 := ⟨k - 1, by omega⟩
    have hi' : i < l.length := by omega
    obtain ⟨hb0, hb1, hb2, hb3⟩ := hR.rng l[i] (List.getElem_mem hi')
    have hnew : ∀ x ∈ l.take i, x.f0 ≠ l[i].f0 := fun x hx => by
      have hnd := hR.nd
      rw [← List.take_append_drop i l, List.pairwise_append] at hnd
      exact hnd.2.2 x hx l[i] (by rw [List.drop_eq_getElem_cons hi']; exact List.mem_cons_self)
    have hget : ∀ c, getL (l.take (i + 1)) c = if c = l[i].f0 then l[i].f1 else getL (l.take i) c := fun c => by
      rw [List.take_succ_eq_append_getElem hi', getL_append]
      by_cases e : c = l[i].f0
      · rw [if_pos e, if_neg (fun ⟨x, hx, hxc⟩ => hnew x hx (hxc.trans e))]
        rw [getL_cons, if_pos e.symm]
      · rw [if_neg e]
        split
        · rfl
        · rename_i hn
          rw [getL_none (l := l.take i) (fun x hx hxc => hn ⟨x, hx, hxc⟩)]
          rw [getL_cons, if_neg (fun h => e h.symm)]
          rfl
    rw [lookasideref04_Copy.l0, if_pos (by omega), if_pos (by omega), rd_at l hi', wi i (by omega)]
    by_cases c1 : l[i].f0 ≥ s
    · have hw : IntKind.u64.wrap (l[i].f0 - s) = l[i].f0 - s := by rw [IntKind.wrap_u64]; omega
      rw [if_pos c1, hw]
      by_cases c2 : l[i].f0 - s < n
      · have hw2 : IntKind.u64.wrap (IntKind.u64.wrap (t + l[i].f0) - s) = t + l[i].f0 - s := by simp only [IntKind.wrap_u64]; omega
        have hplen := put_len o (t + l[i].f0 - s) l[i].f1
        rw [if_pos c2, hw2, put_f sz _ _ o (by omega) (by omega), Option.bind_some]
        refine ih (i + 1) k (putL o (t + l[i].f0 - s) l[i].f1) (by omega) (by omega) ((hO.put ⟨by omega, by omega⟩ ⟨by omega, hb3⟩).eq (fun q q0 q1 => ?_)) (by omega)
        unfold cpF
        by_cases e : q = t + l[i].f0 - s
        · rw [if_pos e, if_pos (by omega), hget, if_pos (by omega)]
        · rw [if_neg e]
          split
          · rw [hget, if_neg (by omega)]
          · rfl
      · rw [if_neg c2]
        refine ih (i + 1) k o (by omega) (by omega) (hO.eq (fun q q0 q1 => ?_)) (by omega)
        unfold cpF
        split
        · rw [hget, if_neg (by omega)]
        · rfl
    · rw [if_neg c1]
      refine ih (i + 1) k o (by omega) (by omega) (hO.eq (fun q q0 q1 => ?_)) (by omega)
      unfold cpF
      split
      · rw [hget, if_neg (by omega)]
      · rfl
theorem copy_f (sz : Int) {f : Int → Int} {s t n : Int} (l : List Bt) (hl : l.length ≤ 400000000) (hs : 0 ≤ s) (ht : 0 ≤ t) (hts : n ≤ 0 ∨ t + n ≤ sz) (hss : n ≤ 0 ∨ s + n ≤ sz) (hz : sz ≤ 2199023255552) (hR : RefL sz f l) {k : Nat} (hk : 5 * l.length + 10 ≤ k) : ∃ l', lookasideref04_Copy.f k sz l s t n = some (sz, l') ∧ RefL sz (cpF f f s t n) l' ∧ l'.length ≤ 2 * l.length := by
  have hcl := clr_len l t n
  obtain ⟨l', e, hR', hn⟩ := copy_l sz l hl hs ht hts hz hR l.length 0 k (clrL l t n) (Nat.zero_add _) (by omega) ((hR.clr t n).eq (fun q _ _ => by unfold cpF; rfl)) (by omega)
  refine ⟨l', ?_, hR'.eq (fun q q0 q1 => ?_), hn⟩
  · unfold lookasideref04_Copy.f
    rw [clr_f sz t n l (by omega) ht (fun b hb => by have := hR.rng b hb; omega) (by omega), Option.bind_some]
    exact e
  · unfold cpF
    split
    · exact hR.get _ (by omega) (by omega)
    · rfl
/-! ### How many words there can be -/
theorem few : ∀ (n : Nat) (l : List Nat), l.Pairwise (· ≠ ·) → (∀ x ∈ l, x < n) → l.length ≤ n
  | 0, [], _, _ => Nat.le_refl _
  | 0, x :: l, _, h => absurd (h x List.mem_cons_self) (Nat.not_lt_zero _)
  | n + 1, l, hp, h => by
    have h1 := few n (l.filter (fun x => !(x == n))) (hp.filter _) (fun x hx => by
      have h2 := List.mem_filter.1 hx
      have := h x h2.1
      have h3 : x ≠ n := by simpa using h2.2
      omega)
    have h4 : l.length ≤ (l.filter (fun x => !(x == n))).length + 1 := by
      clear h1 h
      induction l with
      | nil => simp
      | cons a l ih =>
        rw [List.pairwise_cons] at hp
        by_cases e : a = n
        · subst e
          rw [List.filter_cons_of_neg (by simp), List.filter_eq_self.2 (fun x hx => by simpa using (hp.1 x hx).symm)]
          simp
        · rw [List.filter_cons_of_pos (by simpa using e)]
          simpa using ih hp.2
    omega
theorem key_of {P : Program} {k : TypeId} {q : IntKind} (hk : P.underlying k = some (.int q)) {v : Value} {kl : Lit} (h : keyOf P k v = some kl) : ∃ z : Int, kl = .int q z := by
  simp only [keyOf, hk] at h
  cases v <;> simp [mapKey, hk] at h
  obtain ⟨_, rfl⟩ := h
  exact ⟨_, rfl⟩
theorem key_int {v : Value} {kl : Lit} (h : keyOf Try.prog 22 v = some kl) : ∃ z : Int, kl = .int .u64 z := key_of Try.underlying22 h
set_option maxRecDepth 100000 in
theorem word_zero {D : DataW Unit} (hw : ∀ q, (Lit.int .u64 (rd D q)).wf = true) {q : Int} (hz : ∀ j : Nat, j < 8 → byteAt D (q * 8 + j) = 0) : rd D q = 0 := by
  obtain ⟨h0, h1⟩ := u64_b (hw q)
  have e : ∀ j : Nat, j < 8 → rd D q / 2 ^ ((7 - j) * 8) % 256 = 0 := fun j hj => by
    have := hz j hj
    unfold byteAt at this
    rw [show (q * 8 + (j : Int)) / 8 = q by omega, show ((7 - (q * 8 + (j : Int)) % 8) * 8).toNat = (7 - j) * 8 by omega] at this
    exact this
  have e0 := e 0 (by decide); have e1 := e 1 (by decide); have e2 := e 2 (by decide); have e3 := e 3 (by decide)
  have e4 := e 4 (by decide); have e5 := e 5 (by decide); have e6 := e 6 (by decide); have e7 := e 7 (by decide)
  generalize rd D q = x at *
  clear e hz
  simp only [Nat.reduceSub, Nat.reduceMul, Int.reducePow, Nat.reducePow] at e0 e1 e2 e3 e4 e5 e6 e7
  have a7 : x % 256 = 0 := by omega
  have a6 : x % 65536 = 0 := by omega
  have a5 : x % 16777216 = 0 := by omega
  have a4 : x % 4294967296 = 0 := by omega
  have a3 : x % 1099511627776 = 0 := by omega
  have a2 : x % 281474976710656 = 0 := by omega
  have a1 : x % 72057594037927936 = 0 := by omega
  have a0 : x % 18446744073709551616 = 0 := by omega
  omega
theorem size_few {B w0 p mb sz n D W} (h : Mem B w0 p mb sz n D W) (hG : Good D) (N : Nat) (hi : ∀ t, ((N * 8 : Nat) : Int) ≤ t → byteAt D t = 0) : Maps.size D ≤ N := by
  obtain ⟨es, clock, hb, F, hs, hD⟩ := h.own
  obtain ⟨L, hL, hpw⟩ := hG.clean.1
  have hkey : ∀ p ∈ L, ∃ z : Int, p.1 = .int .u64 z := fun p hp => by
    have e : L = (es.toList.map (Go.WideElems.rg Try.prog 22 (plainElem Try.prog 22))).foldr DataW.insert [] := by
      rw [hL] at hD
      injection hD
    rw [e] at hp
    have hp2 := (Go.WideShapes.sorted_perm _).mem_iff.1 hp
    obtain ⟨x, hx, rfl⟩ := List.mem_map.1 hp2
    obtain ⟨y, hy⟩ := F.reads x hx
    rw [Go.WideElems.rg_of hy]
    exact key_int (Go.WideElems.rd_key hy)
  have hval : ∀ p ∈ L, ∀ z : Int, p.1 = .int .u64 z → 0 ≤ z ∧ z < N := fun p hp z hz => by
    have hh : has D (.int .u64 z) = true := by
      rw [hL, has_eq, List.any_eq_true]
      exact ⟨p, hp, by rw [hz, same_int]; simp⟩
    rw [hG.clean.2 z] at hh
    have hne : rd D z ≠ 0 := by simpa using hh
    have hlow := hG.low z hne
    refine ⟨hlow.1, ?_⟩
    by_cases c : z < N
    · exact c
    · exact absurd (word_zero hG.wf (fun j hj => hi _ (by omega))) hne
  have hlen : Maps.size D = (L.map (fun p => match p.1 with | .int _ z => z.toNat | _ => 0)).length := by rw [hL]; simp [size_eq]
  rw [hlen]
  refine few N _ ?_ (fun x hx => ?_)
  · rw [List.pairwise_map]
    refine List.Pairwise.imp_of_mem (fun {p q} hp hq hne => ?_) hpw
    obtain ⟨z, hz⟩ := hkey p hp
    obtain ⟨y, hy⟩ := hkey q hq
    have hz0 := hval p hp z hz
    have hy0 := hval q hq y hy
    rw [hz, hy] at hne ⊢
    intro e
    have e' : z.toNat = y.toNat := e
    exact hne (by rw [show z = y by omega])
  · obtain ⟨p, hp, rfl⟩ := List.mem_map.1 hx
    obtain ⟨z, hz⟩ := hkey p hp
    have := hval p hp z hz
    rw [hz]
    show z.toNat < N
    omega
end Go.Proofs.Ytlndljgoliepdaa.Mem
