/- The document's words of a TSB's places, kept in a list; plainly. -/
import Derived.Test.YtjnffegjpkbjmaaPureTsb
import Derived.Test.YtjnffegjpkbjmaaQTsbPlaysx23
import Derived.Test.YtjnffegjpkbjmaaQTsbPlaysx25
/- merged: YtjnffegjpkbjmaaTsP2 -/
set_option linter.unusedVariables false
set_option linter.unusedSimpArgs false
namespace Go.Proofs.Ytjnffegjpkbjmaa.Pure
open Go.RowKit Go.Proofs.Ytjnffegjpkbjmaa.QTsbPlays Go.Proofs.YtjnffegjpkbjmaaW.PrintWords Go.Proofs.YtjnffegjpkbjmaaW.PrintLast Go.Proofs.YtjnffegjpkbjmaaW.PrintMore
theorem rHits (s c pa ctx : Int) (va A : Nat) (w p x l g q v : Bool) (hva : va < 18446744073709551616) (hA : A < 18446744073709551616) : lookasideref03_Hits.f s c (va : Int) pa w p x l g q v (A : Int) ctx = some (hitsOf s c va g v A ctx) := by
 unfold lookasideref03_Hits.f hitsOf
 rw [rMay, rBase A hA, rBase va hva]
 cases v
 ·simp
 ·by_cases h : okSize s
  ·simp only [h, decide_true, Option.bind_some, if_true, Bool.true_and]
   by_cases e : A / bytesOf s * bytesOf s = va / bytesOf s * bytesOf s
   ·rw [if_pos (congrArg (fun z : Nat => (z : Int)) e), decide_eq_true e]; cases g <;> rfl
   ·rw [if_neg (fun z => e (Int.ofNat_inj.mp z)), decide_eq_false e]; rfl
  ·simp [h]
theorem GE.ok.rhits {e : GE} (h : e.ok) {A : Nat} (hA : A < 18446744073709551616) (ctx : Int) : lookasideref03_Hits.f (e.s : Int) (e.c : Int) (e.v : Int) (e.p : Int) e.w e.pr e.x e.l e.g e.q true (A : Int) ctx = some (e.hit A ctx) := by
 rw [rHits _ _ _ _ _ _ _ _ _ _ _ _ _ h.hv hA]
 unfold hitsOf GE.hit
 rw [base_self _ _ h.vm, decide_eq_true h.os]
 simp only [Bool.true_and]
end Go.Proofs.Ytjnffegjpkbjmaa.Pure
set_option linter.unusedVariables false
set_option linter.unusedSimpArgs false
namespace Go.Proofs.Ytjnffegjpkbjmaa.Pure
open Go.RowKit Go.Proofs.Ytjnffegjpkbjmaa.QTsbPlays Go.Proofs.YtjnffegjpkbjmaaW.PrintWords Go.Proofs.YtjnffegjpkbjmaaW.PrintLast Go.Proofs.YtjnffegjpkbjmaaW.PrintMore
theorem rTag (a : Nat) (ha : a < 18446744073709551616) : lookasideref02_Tag.f (a : Int) = some ((a / 4194304 % 4194304 : Nat) : Int) := by
 unfold lookasideref02_Tag.f
 have e : IntKind.u64.wrap (Int.tdiv (a : Int) 4194304) = ((a / 4194304 : Nat) : Int) := by
  show IntKind.u64.wrap ((a / 4194304 : Nat) : Int) = _
  rw [IntKind.wrap_u64]; omega
 rw [e]; rfl
theorem rbit_l (d : Nat) : ∀ (i n v k : Nat), i + d = n → n ≤ 63 → v * 2 ^ d < 18446744073709551616 → d < k → lookasideref03_bit.l0 k (n : Int) (v : Int) (i : Int) = some ((v * 2 ^ d : Nat) : Int) := by
 induction d with
 | zero =>
  intro i n v k hi hn hv hk
  obtain ⟨k, rfl⟩ : ∃ m, k = m + 1 := ⟨k - 1, by omega⟩
  rw [lookasideref03_bit.l0, if_neg (by omega)]; simp
 | succ d ih =>
  intro i n v k hi hn hv hk
  obtain ⟨k, rfl⟩ : ∃ m, k = m + 1 := ⟨k - 1, by omega⟩
  have e2 : wrap64 ((i : Int) + 1) = ((i + 1 : Nat) : Int) := by
   have := m_w64 (i + 1) (by omega); simpa using this
  have hd : 1 ≤ 2 ^ d := Nat.two_pow_pos d
  have hv' : 2 * v * 2 ^ d < 18446744073709551616 := by rw [Nat.pow_succ] at hv; rw [Nat.mul_comm 2 v, Nat.mul_assoc, Nat.mul_comm 2]; exact hv
  have h2v : 2 * v < 18446744073709551616 := Nat.lt_of_le_of_lt (Nat.le_mul_of_pos_right _ hd) hv'
  have e1 : IntKind.u64.wrap (2 * (v : Int)) = ((2 * v : Nat) : Int) := by
   have := m_wu (2 * v) h2v; simpa using this
  rw [lookasideref03_bit.l0, if_pos (by omega), e1, e2, ih (i + 1) n (2 * v) k (by omega) hn hv' (by omega)]
  refine congrArg (fun z : Nat => some (z : Int)) ?_
  rw [Nat.pow_succ, Nat.mul_comm 2 v, Nat.mul_assoc, Nat.mul_comm 2]
theorem rbit (b : Bool) (n k : Nat) (hn : n ≤ 63) (hk : 80 ≤ k) : lookasideref03_bit.f k b (n : Int) = some ((b2n b * 2 ^ n : Nat) : Int) := by
 obtain ⟨k, rfl⟩ : ∃ m, k = m + 1 := ⟨k - 1, by omega⟩
 have hp : 2 ^ n < 18446744073709551616 := Nat.lt_of_le_of_lt (Nat.pow_le_pow_right (by decide) hn) (by decide)
 unfold lookasideref03_bit.f
 cases b
 ·rw [if_neg (by decide), lookasideref03_bit.j0]
  have := rbit_l n 0 n 0 k (by omega) hn (by omega) (by omega)
  rw [show ((0 : Nat) : Int) = 0 from rfl] at this
  rw [this]; rfl
 ·rw [if_pos rfl, lookasideref03_bit.j0]
  have := rbit_l n 0 n 1 k (by omega) hn (by omega) (by omega)
  rw [show ((0 : Nat) : Int) = 0 from rfl, show ((1 : Nat) : Int) = 1 from rfl] at this
  rw [this]; rfl
theorem rTTag (s c va pa : Nat) (w p x l g q v : Bool) (hva : va < 18446744073709551616) (hc : c < 8192) (k : Nat) (hk : 80 ≤ k) : lookasideref03_Tag.f k (s : Int) (c : Int) (va : Int) (pa : Int) w p x l g q v = some (tagOf c va g : Int) := by
 unfold lookasideref03_Tag.f tagOf
 have h := rbit g 63 k (by omega) hk
 rw [show ((63 : Nat) : Int) = 63 from rfl, show (2 : Nat) ^ 63 = 9223372036854775808 from rfl] at h
 rw [h, Option.bind_some, rTag va hva, Option.bind_some, m_wu c (by omega)]
 have hb := b2n_lt g
 have ht : va / 4194304 % 4194304 < 4194304 := Nat.mod_lt _ (by decide)
 generalize b2n g = b at hb
 generalize va / 4194304 % 4194304 = t at ht
 refine congrArg some ?_
 rw [IntKind.wrap_u64, IntKind.wrap_u64, IntKind.wrap_u64]; omega
theorem rData (s c va pa : Nat) (w p x l g q v : Bool) (hs : s < 4) (hpa : pa < 2199023255552) (k : Nat) (hk : 80 ≤ k) : lookasideref03_Data.f k (s : Int) (c : Int) (va : Int) (pa : Int) w p x l g q v = some ((dataOf s pa w p x l g q % 18446744073709551616 : Nat) : Int) := by
 unfold lookasideref03_Data.f dataOf
 have h63 := rbit true 63 k (by omega) hk
 have h61 := rbit true 61 k (by omega) hk
 have h60 := rbit q 60 k (by omega) hk
 have h6 := rbit l 6 k (by omega) hk
 have h3 := rbit x 3 k (by omega) hk
 have h2 := rbit p 2 k (by omega) hk
 have h1 := rbit w 1 k (by omega) hk
 have h0 := rbit g 0 k (by omega) hk
 rw [show ((63 : Nat) : Int) = 63 from rfl, show b2n true * (2 : Nat) ^ 63 = 9223372036854775808 from rfl] at h63
 rw [show ((61 : Nat) : Int) = 61 from rfl, show b2n true * (2 : Nat) ^ 61 = 2305843009213693952 from rfl] at h61
 rw [show ((60 : Nat) : Int) = 60 from rfl, show (2 : Nat) ^ 60 = 1152921504606846976 from rfl] at h60
 rw [show ((6 : Nat) : Int) = 6 from rfl, show (2 : Nat) ^ 6 = 64 from rfl] at h6
 rw [show ((3 : Nat) : Int) = 3 from rfl, show (2 : Nat) ^ 3 = 8 from rfl] at h3
 rw [show ((2 : Nat) : Int) = 2 from rfl, show (2 : Nat) ^ 2 = 4 from rfl] at h2
 rw [show ((1 : Nat) : Int) = 1 from rfl, show (2 : Nat) ^ 1 = 2 from rfl] at h1
 rw [show ((0 : Nat) : Int) = 0 from rfl, show (2 : Nat) ^ 0 = 1 from rfl] at h0
 rw [h63, Option.bind_some, h61, Option.bind_some, h60, Option.bind_some, h6, Option.bind_some, h3, Option.bind_some, h2, Option.bind_some, h1, Option.bind_some, h0, Option.bind_some, m_wu s (by omega)]
 have bw := b2n_lt w
 have bp := b2n_lt p
 have bx := b2n_lt x
 have bl := b2n_lt l
 have bg := b2n_lt g
 have bq := b2n_lt q
 generalize b2n w = w' at bw
 generalize b2n p = p' at bp
 generalize b2n x = x' at bx
 generalize b2n l = l' at bl
 generalize b2n g = g' at bg
 generalize b2n q = q' at bq
 refine congrArg some ?_
 simp only [IntKind.wrap_u64]
 omega
theorem GE.ok.rtagF {e : GE} (h : e.ok) : lookasideref03_Tag.f 500 (e.s : Int) (e.c : Int) (e.v : Int) (e.p : Int) e.w e.pr e.x e.l e.g e.q true = some (e.tag : Int) := rTTag _ _ _ _ _ _ _ _ _ _ _ h.hv h.hc 500 (by decide)
theorem GE.ok.rdataF {e : GE} (h : e.ok) : lookasideref03_Data.f 500 (e.s : Int) (e.c : Int) (e.v : Int) (e.p : Int) e.w e.pr e.x e.l e.g e.q true = some (e.data : Int) := by
 rw [rData _ _ _ _ _ _ _ _ _ _ _ h.hs h.hp 500 (by decide)]
 rw [show dataOf e.s e.p e.w e.pr e.x e.l e.g e.q = e.data from rfl, Nat.mod_eq_of_lt h.data_lt]
abbrev WS := S122
/-- A place's words. -/
def gW : List WS → Int → Int × Int
 | [], _ => (9223372036854775807, 0)
 | b :: l, a => if b.f0 = a then (b.f1, b.f2) else gW l a
theorem gW_cons (b : WS) (l : List WS) (a : Int) : gW (b :: l) a = if b.f0 = a then (b.f1, b.f2) else gW l a := rfl
/-- A place has words. -/
def pW (l : List WS) (a t d : Int) : List WS := l.filter (fun x => !(x.f0 == a)) ++ (if t = 9223372036854775807 ∧ d = 0 then [] else [⟨a, t, d⟩])
theorem rd_atW (l : List WS) {i : Nat} (h : i < l.length) : rd_T122 l (i : Int) = l[i] := by
 unfold rd_T122
 rw [Int.toNat_natCast]
 simp [List.getD, h]
theorem wiW (i : Nat) (h : i < 4611686018427387904) : wrap64 ((i : Int) + 1) = ((i + 1 : Nat) : Int) := by unfold wrap64; omega
theorem badf : lookasideref10_Bad.f = some 9223372036854775807 := rfl
theorem pW_l (S N a t d : Int) (l : List WS) (hl : l.length ≤ 1000000000) : ∀ (m i k : Nat), i + m = l.length → m + 1 ≤ k → lookasideref10_put.l0 k ((l.take i).filter (fun x => !(x.f0 == a))) (i : Int) S N l a t d = some (S, N, pW l a t d) := by
 intro m
 induction m with
 | zero =>
  intro i k hi hk
  obtain rfl : i = l.length := by omega
  obtain ⟨k, rfl⟩ : ∃ n, k = n + 1 := ⟨k - 1, by omega⟩
  have hlt : (l.filter (fun x => !(x.f0 == a))).length < 5864062014805 := Nat.lt_of_le_of_lt (List.length_filter_le _ _) (by omega)
  rw [lookasideref10_put.l0, if_neg (by omega), List.take_length, badf, Option.bind_some]
  unfold pW
  by_cases ht : t = 9223372036854775807
  ·rw [if_pos ht]
   by_cases hd : d = 0
   ·rw [if_pos hd, if_pos ⟨ht, hd⟩, List.append_nil]
   ·rw [if_neg hd, if_pos hlt, if_neg (fun h => hd h.2)]
  ·rw [if_neg ht, if_pos hlt, if_neg (fun h => ht h.1)]
 | succ m ih =>
  intro i k hi hk
  obtain ⟨k, rfl⟩ : ∃ n, k = n + 1 := ⟨k - 1, by omega⟩
  have hi' : i < l.length := by omega
  rw [lookasideref10_put.l0, if_pos (by omega), if_pos (by omega), rd_atW l hi', wiW i (by omega)]
  have hs := ih (i + 1) k (by omega) (by omega)
  rw [List.take_succ_eq_append_getElem hi', List.filter_append] at hs
  by_cases e : l[i].f0 = a
  ·rw [if_pos e]
   rw [List.filter_cons_of_neg (by simp [e]), List.filter_nil, List.append_nil] at hs
   exact hs
  ·rw [if_neg e, if_pos (Nat.lt_of_le_of_lt (Nat.le_trans (List.length_filter_le _ _) (List.length_take_le _ _)) (by omega))]
   rw [List.filter_cons_of_pos (by simp [e]), List.filter_nil] at hs
   exact hs
theorem pW_f (S N a t d : Int) (l : List WS) (hl : l.length ≤ 1000000000) {k : Nat} (hk : l.length + 1 ≤ k) : lookasideref10_put.f k S N l a t d = some (S, N, pW l a t d) := pW_l S N a t d l hl l.length 0 k (Nat.zero_add _) hk
theorem gW_l (S N a : Int) (l : List WS) (hl : l.length ≤ 1000000000) : ∀ (m i k : Nat), i + m = l.length → m + 1 ≤ k → lookasideref10_Get.l0 k a (i : Int) S N l = some (a, (gW (l.drop i) a).1, (gW (l.drop i) a).2) := by
 intro m
 induction m with
 | zero =>
  intro i k hi hk
  obtain rfl : i = l.length := by omega
  obtain ⟨k, rfl⟩ : ∃ n, k = n + 1 := ⟨k - 1, by omega⟩
  rw [lookasideref10_Get.l0, if_neg (by omega), List.drop_length, badf, Option.bind_some]
  rfl
 | succ m ih =>
  intro i k hi hk
  obtain ⟨k, rfl⟩ : ∃ n, k = n + 1 := ⟨k - 1, by omega⟩
  have hi' : i < l.length := by omega
  rw [lookasideref10_Get.l0, if_pos (by omega), if_pos (by omega), rd_atW l hi', wiW i (by omega), List.drop_eq_getElem_cons hi']
  rw [gW_cons]
  by_cases e : l[i].f0 = a
  ·rw [if_pos e, if_pos e, e]
  ·rw [if_neg e, if_neg e]
   exact ih (i + 1) k (by omega) (by omega)
theorem gW_f (S N a : Int) (l : List WS) (hl : l.length ≤ 1000000000) {k : Nat} (hk : l.length + 1 ≤ k) : lookasideref10_Get.f k S N l a = some (a, (gW l a).1, (gW l a).2) := gW_l S N a l hl l.length 0 k (Nat.zero_add _) hk
theorem plc_f (va : Nat) (hva : va < 18446744073709551616) (s N : Nat) (hs : s < 4) (h1 : 1 ≤ N) (hN : N ≤ 70000) (l : List WS) : lookasideref10_place.f (s : Int) (N : Int) l (va : Int) = some (plcOf N (s : Int) va : Int) := by
 have hos : okSize (s : Int) := by unfold okSize; omega
 have hB := bytes_pos hos
 unfold lookasideref10_place.f plcOf
 rw [rBytes, Option.bind_some, if_neg (by omega), m_wu N (by omega), if_neg (by omega), m_tdiv, m_wu _ (Nat.lt_of_le_of_lt (Nat.div_le_self _ _) hva), m_tmod]
 have hl : va / bytesOf (s : Int) % N < N := Nat.mod_lt _ (by omega)
 rw [m_w64 _ (by omega)]
theorem pW_len (l : List WS) (a t d : Int) : (pW l a t d).length ≤ l.length + 1 := by
 unfold pW
 rw [List.length_append]
 have := List.length_filter_le (fun x : WS => !(x.f0 == a)) l
 split
 ·simp; omega
 ·simp; omega
end Go.Proofs.Ytjnffegjpkbjmaa.Pure
-- halved
