/- What the document makes of a TSB's words: Lock, PutTag, PutData. -/
import Derived.Test.YtjnffegjpkbjmaaGreatTsP2
import Derived.Test.YtjnffegjpkbjmaaGreatQTsbPlaysx25
import Derived.Test.YtjnffegjpkbjmaaGreatTsList
/- merged: YtjnffegjpkbjmaaGreatTsP4 -/
set_option linter.unusedVariables false
set_option linter.unusedSimpArgs false
namespace Go.Proofs.YtjnffegjpkbjmaaGreat.Pure
open Go.RowKit Go.Proofs.YtjnffegjpkbjmaaGreat.QTsbPlays Go.Proofs.YtjnffegjpkbjmaaGreatW.PrintWords Go.Proofs.YtjnffegjpkbjmaaGreatW.PrintLast Go.Proofs.YtjnffegjpkbjmaaGreatW.PrintMore
theorem rTag (a : Nat) (ha : a < 18446744073709551616) : lookasideref02_Tag.f (a : Int) = some ((a / 4194304 % 4194304 : Nat) : Int) := by
  unfold lookasideref02_Tag.f
  have e : IntKind.u64.wrap (Int.tdiv (a : Int) 4194304) = ((a / 4194304 : Nat) : Int) := by
    show IntKind.u64.wrap ((a / 4194304 : Nat) : Int) = _
    rw [IntKind.wrap_u64]; omega
  rw [e]; rfl
theorem rbit_l (d : Nat) : ∀ (i n v k : Nat), i + d = n → n ≤ 63 → v * 2 ^ d < 18446744073709551616 → d < k → lookasideref03_bit.l0 k (n : Int) (v : Int) (i : Int) = some ((v * 2 ^ d : Nat) : Int) := by
  induction d with
  | zero =>
    intro i n v k hi hn hv hk
    obtain ⟨k, rfl⟩ : ∃ m, k = m + 1 := ⟨k - 1, by omega⟩
    rw [lookasideref03_bit.l0, if_neg (by omega)]; simp
  | succ d ih =>
    intro i n v k hi hn hv hk
    obtain ⟨k, rfl⟩ : ∃ m, k = m + 1 := ⟨k - 1, by omega⟩
    have e2 : wrap64 ((i : Int) + 1) = ((i + 1 : Nat) : Int) := by
      have := m_w64 (i + 1) (by omega); simpa using this
    have hd : 1 ≤ 2 ^ d := Nat.two_pow_pos d
    have hv' : 2 * v * 2 ^ d < 18446744073709551616 := by rw [Nat.pow_succ] at hv; rw [Nat.mul_comm 2 v, Nat.mul_assoc, Nat.mul_comm 2]; exact hv
    have h2v : 2 * v < 18446744073709551616 := Nat.lt_of_le_of_lt (Nat.le_mul_of_pos_right _ hd) hv'
    have e1 : IntKind.u64.wrap (2 * (v : Int)) = ((2 * v : Nat) : Int) := by
      have := m_wu (2 * v) h2v; simpa using this
    rw [lookasideref03_bit.l0, if_pos (by omega), e1, e2, ih (i + 1) n (2 * v) k (by omega) hn hv' (by omega)]
    refine congrArg (fun z : Nat => some (z : Int)) ?_
    rw [Nat.pow_succ, Nat.mul_comm 2 v, Nat.mul_assoc, Nat.mul_comm 2]
theorem rbit (b : Bool) (n k : Nat) (hn : n ≤ 63) (hk : 80 ≤ k) : lookasideref03_bit.f k b (n : Int) = some ((b2n b * 2 ^ n : Nat) : Int) := by
  obtain ⟨k, rfl⟩ : ∃ m, k = m + 1 := ⟨k - 1, by omega⟩
  have hp : 2 ^ n < 18446744073709551616 := Nat.lt_of_le_of_lt (Nat.pow_le_pow_right (by decide) hn) (by decide)
  unfold lookasideref03_bit.f
  cases b
  · rw [if_neg (by decide), lookasideref03_bit.j0]
    have := rbit_l n 0 n 0 k (by omega) hn (by omega) (by omega)
    rw [show ((0 : Nat) : Int) = 0 from rfl] at this
    rw [this]; rfl
  · rw [if_pos rfl, lookasideref03_bit.j0]
    have := rbit_l n 0 n 1 k (by omega) hn (by omega) (by omega)
    rw [show ((0 : Nat) : Int) = 0 from rfl, show ((1 : Nat) : Int) = 1 from rfl] at this
    rw [this]; rfl
theorem rTTag (s c va pa : Nat) (w p x l g q v : Bool) (hva : va < 18446744073709551616) (hc : c < 8192) (k : Nat) (hk : 80 ≤ k) : lookasideref03_Tag.f k (s : Int) (c : Int) (va : Int) (pa : Int) w p x l g q v = some (tagOf c va g : Int) := by
  unfold lookasideref03_Tag.f tagOf
  have h := rbit g 63 k (by omega) hk
  rw [show ((63 : Nat) : Int) = 63 from rfl, show (2 : Nat) ^ 63 = 9223372036854775808 from rfl] at h
  rw [h, Option.bind_some, rTag va hva, Option.bind_some, m_wu c (by omega)]
  have hb := b2n_lt g
  have ht : va / 4194304 % 4194304 < 4194304 := Nat.mod_lt _ (by decide)
  generalize b2n g = b at hb
  generalize va / 4194304 % 4194304 = t at ht
  refine congrArg some ?_
  rw [IntKind.wrap_u64, IntKind.wrap_u64, IntKind.wrap_u64]; omega
theorem rData (s c va pa : Nat) (w p x l g q v : Bool) (hs : s < 4) (hpa : pa < 2199023255552) (k : Nat) (hk : 80 ≤ k) : lookasideref03_Data.f k (s : Int) (c : Int) (va : Int) (pa : Int) w p x l g q v = some ((dataOf s pa w p x l g q % 18446744073709551616 : Nat) : Int) := by
  unfold lookasideref03_Data.f dataOf
  have h63 := rbit true 63 k (by omega) hk
  have h61 := rbit true 61 k (by omega) hk
  have h60 := rbit q 60 k (by omega) hk
  have h6 := rbit l 6 k (by omega) hk
  have h3 := rbit x 3 k (by omega) hk
  have h2 := rbit p 2 k (by omega) hk
  have h1 := rbit w 1 k (by omega) hk
  have h0 := rbit g 0 k (by omega) hk
  rw [show ((63 : Nat) : Int) = 63 from rfl, show b2n true * (2 : Nat) ^ 63 = 9223372036854775808 from rfl] at h63
  rw [show ((61 : Nat) : Int) = 61 from rfl, show b2n true * (2 : Nat) ^ 61 = 2305843009213693952 from rfl] at h61
  rw [show ((60 : Nat) : Int) = 60 from rfl, show (2 : Nat) ^ 60 = 1152921504606846976 from rfl] at h60
  rw [show ((6 : Nat) : Int) = 6 from rfl, show (2 : Nat) ^ 6 = 64 from rfl] at h6
  rw [show ((3 : Nat) : Int) = 3 from rfl, show (2 : Nat) ^ 3 = 8 from rfl] at h3
  rw [show ((2 : Nat) : Int) = 2 from rfl, show (2 : Nat) ^ 2 = 4 from rfl] at h2
  rw [show ((1 : Nat) : Int) = 1 from rfl, show (2 : Nat) ^ 1 = 2 from rfl] at h1
  rw [show ((0 : Nat) : Int) = 0 from rfl, show (2 : Nat) ^ 0 = 1 from rfl] at h0
  rw [h63, Option.bind_some, h61, Option.bind_some, h60, Option.bind_some, h6, Option.bind_some, h3, Option.bind_some, h2, Option.bind_some, h1, Option.bind_some, h0, Option.bind_some, m_wu s (by omega)]
  have bw := b2n_lt w
  have bp := b2n_lt p
  have bx := b2n_lt x
  have bl := b2n_lt l
  have bg := b2n_lt g
  have bq := b2n_lt q
  generalize b2n w = w' at bw
  generalize b2n p = p' at bp
  generalize b2n x = x' at bx
  generalize b2n l = l' at bl
  generalize b2n g = g' at bg
  generalize b2n q = q' at bq
  refine congrArg some ?_
  simp only [IntKind.wrap_u64]
  omega
theorem GE.ok.rtagF {e : GE} (h : e.ok) : lookasideref03_Tag.f 500 (e.s : Int) (e.c : Int) (e.v : Int) (e.p : Int) e.w e.pr e.x e.l e.g e.q true = some (e.tag : Int) := rTTag _ _ _ _ _ _ _ _ _ _ _ h.hv h.hc 500 (by decide)
theorem GE.ok.rdataF {e : GE} (h : e.ok) : lookasideref03_Data.f 500 (e.s : Int) (e.c : Int) (e.v : Int) (e.p : Int) e.w e.pr e.x e.l e.g e.q true = some (e.data : Int) := by
  rw [rData _ _ _ _ _ _ _ _ _ _ _ h.hs h.hp 500 (by decide)]
  rw [show dataOf e.s e.p e.w e.pr e.x e.l e.g e.q = e.data from rfl, Nat.mod_eq_of_lt h.data_lt]
abbrev WS := S141
/-- A place's words. -/
def gW : List WS → Int → Int × Int
  | [], _ => (9223372036854775807, 0)
  | b :: l, a => if b.f0 = a then (b.f1, b.f2) else gW l a
theorem gW_cons (b : WS) (l : List WS) (a : Int) : gW (b :: l) a = if b.f0 = a then (b.f1, b.f2) else gW l a := rfl
/-- A place has words. -/
def pW (l : List WS) (a t d : Int) : List WS := l.filter (fun x => !(x.f0 == a)) ++ (if t = 9223372036854775807 ∧ d = 0 then [] else [⟨a, t, d⟩])
theorem rd_atW (l : List WS) {i : Nat} (h : i < l.length) : rd_T141 l (i : Int) = l[i] := by
  unfold rd_T141
  rw [Int.toNat_natCast]
  simp [List.getD, h]
theorem wiW (i : Nat) (h : i < 4611686018427387904) : wrap64 ((i : Int) + 1) = ((i + 1 : Nat) : Int) := by unfold wrap64; omega
theorem badf : lookasideref10_Bad.f = some 9223372036854775807 := rfl
theorem pW_l (S N a t d : Int) (l : List WS) (hl : l.length ≤ 1000000000) : ∀ (m i k : Nat), i + m = l.length → m + 1 ≤ k → lookasideref10_put.l0 k ((l.take i).filter (fun x => !(x.f0 == a))) (i : Int) S N l a t d = some (S, N, pW l a t d) := by
  intro m
  induction m with
  | zero =>
    intro i k hi hk
    obtain rfl : i = l.length := by omega
    obtain ⟨k, rfl⟩ : ∃ n, k = n + 1 := ⟨k - 1, by omega⟩
    have hlt : (l.filter (fun x => !(x.f0 == a))).length < 5864062014805 := Nat.lt_of_le_of_lt (List.length_filter_le _ _) (by omega)
    rw [lookasideref10_put.l0, if_neg (by omega), List.take_length, badf, Option.bind_some]
    unfold pW
    by_cases ht : t = 9223372036854775807
    · rw [if_pos ht]
      by_cases hd : d = 0
      · rw [if_pos hd, if_pos ⟨ht, hd⟩, List.append_nil]
      · rw [if_neg hd, if_pos hlt, if_neg (fun h => hd h.2)]
    · rw [if_neg ht, if_pos hlt, if_neg (fun h => ht h.1)]
  | succ m ih =>
    intro i k hi hk
    obtain ⟨k, rfl⟩ : ∃ n, k = n + 1 := ⟨k - 1, by omega⟩
    have hi' : i < l.length := by omega
    rw [lookasideref10_put.l0, if_pos (by omega), if_pos (by omega), rd_atW l hi', wiW i (by omega)]
    have hs := ih (i + 1) k (by omega) (by omega)
    rw [List.take_succ_eq_append_getElem hi', List.filter_append] at hs
    by_cases e : l[i].f0 = a
    · rw [if_pos e]
      rw [List.filter_cons_of_neg (by simp [e]), List.filter_nil, List.append_nil] at hs
      exact hs
    · rw [if_neg e, if_pos (Nat.lt_of_le_of_lt (Nat.le_trans (List.length_filter_le _ _) (List.length_take_le _ _)) (by omega))]
      rw [List.filter_cons_of_pos (by simp [e]), List.filter_nil] at hs
      exact hs
theorem pW_f (S N a t d : Int) (l : List WS) (hl : l.length ≤ 1000000000) {k : Nat} (hk : l.length + 1 ≤ k) : lookasideref10_put.f k S N l a t d = some (S, N, pW l a t d) := pW_l S N a t d l hl l.length 0 k (Nat.zero_add _) hk
theorem gW_l (S N a : Int) (l : List WS) (hl : l.length ≤ 1000000000) : ∀ (m i k : Nat), i + m = l.length → m + 1 ≤ k → lookasideref10_Get.l0 k a (i : Int) S N l = some (a, (gW (l.drop i) a).1, (gW (l.drop i) a).2) := by
  intro m
  induction m with
  | zero =>
    intro i k hi hk
    obtain rfl : i = l.length := by omega
    obtain ⟨k, rfl⟩ : ∃ n, k = n + 1 := ⟨k - 1, by omega⟩
    rw [lookasideref10_Get.l0, if_neg (by omega), List.drop_length, badf, Option.bind_some]
    rfl
  | succ m ih =>
    intro i k hi hk
    obtain ⟨k, rfl⟩ : ∃ n, k = n + 1 := ⟨k - 1, by omega⟩
    have hi' : i < l.length := by omega
    rw [lookasideref10_Get.l0, if_pos (by omega), if_pos (by omega), rd_atW l hi', wiW i (by omega), List.drop_eq_getElem_cons hi']
    rw [gW_cons]
    by_cases e : l[i].f0 = a
    · rw [if_pos e, if_pos e, e]
    · rw [if_neg e, if_neg e]
      exact ih (i + 1) k (by omega) (by omega)
theorem gW_f (S N a : Int) (l : List WS) (hl : l.length ≤ 1000000000) {k : Nat} (hk : l.length + 1 ≤ k) : lookasideref10_Get.f k S N l a = some (a, (gW l a).1, (gW l a).2) := gW_l S N a l hl l.length 0 k (Nat.zero_add _) hk
theorem plc_f (va : Nat) (hva : va < 18446744073709551616) (s N : Nat) (hs : s < 4) (h1 : 1 ≤ N) (hN : N ≤ 70000) (l : List WS) : lookasideref10_place.f (s : Int) (N : Int) l (va : Int) = some (plcOf N (s : Int) va : Int) := by
  have hos : okSize (s : Int) := by unfold okSize; omega
  have hB := bytes_pos hos
  unfold lookasideref10_place.f plcOf
  rw [rBytes, Option.bind_some, if_neg (by omega), m_wu N (by omega), if_neg (by omega), m_tdiv, m_wu _ (Nat.lt_of_le_of_lt (Nat.div_le_self _ _) hva), m_tmod]
  have hl : va / bytesOf (s : Int) % N < N := Nat.mod_lt _ (by omega)
  rw [m_w64 _ (by omega)]
theorem pW_len (l : List WS) (a t d : Int) : (pW l a t d).length ≤ l.length + 1 := by
  unfold pW
  rw [List.length_append]
  have := List.length_filter_le (fun x : WS => !(x.f0 == a)) l
  split
  · simp; omega
  · simp; omega
end Go.Proofs.YtjnffegjpkbjmaaGreat.Pure
namespace Go.Proofs.YtjnffegjpkbjmaaGreat.Mem
open Go.RowKit Go.Maps Go.Proofs.YtjnffegjpkbjmaaGreatW.PrintWords Go.Proofs.YtjnffegjpkbjmaaGreatW.PrintLast Go.Proofs.YtjnffegjpkbjmaaGreatW.PrintMore Go.Proofs.YtjnffegjpkbjmaaGreat.QTsbPlays Go.Proofs.YtjnffegjpkbjmaaGreat.Pure
set_option linter.unusedSimpArgs false
set_option linter.unusedVariables false
section
set_option maxHeartbeats 2000000
set_option maxRecDepth 100000
noncomputable def rlock1_T : Bool × List (List Nat × List Nat) := rtab .any (opsOf Tryz.f62 1)
theorem rlock1_tab : rtab .any (opsOf Tryz.f62 1) = rlock1_T := rfl
theorem rlock_calls {s N : Nat} (hs : s < 4) (h1 : 1 ≤ N) (hN : N ≤ 4096) {A : Option Addr} {c : Nat} {l : List WS} (va : Nat) (hva : va < 18446744073709551616) {W : World} (hC : Kd.C k141 W A l.length l) (hc : l.length ≤ c) (hl : l.length ≤ 1000000) :
    Calls Tryz.prog 62 #[.agg #[.int .i64 (s : Int), .int .i64 (N : Int), .slice A l.length c], .int .u64 (va : Int)] W fun e W' => ∃ v, e = .returned (.agg #[.int .i64 (s : Int), .int .i64 (N : Int), v]) ∧ Kd.R k141 141 W' W.heap.size (fun _ => True) v (pW l (plcOf N (s : Int) va : Int) 9223372036854775807 (gW l (plcOf N (s : Int) va : Int)).2) ∧ W.grownBy W' none := by
  have hu := Tryz.underlying64
  have hu2 := Tryz.underlying141
  have HC0 := Aside0.mk hC
  have HCC := Aside0.mk hc
  obtain ⟨i, hi⟩ : ∃ i, i = plcOf N (s : Int) va := ⟨_, rfl⟩
  have HPL := Aside0.mk (show lookasideref10_place.f (s : Int) (N : Int) l (va : Int) = some (i : Int) from by rw [hi]; exact plc_f va hva s N hs h1 (by omega) l)
  obtain ⟨t0, ht0⟩ : ∃ t, t = (gW l (i : Int)).1 := ⟨_, rfl⟩
  obtain ⟨d0, hd0⟩ : ∃ d, d = (gW l (i : Int)).2 := ⟨_, rfl⟩
  have HGT := Aside0.mk (show lookasideref10_Get.f (l.length + 1) (s : Int) (N : Int) l (i : Int) = some ((i : Int), t0, d0) by rw [ht0, hd0]; exact gW_f _ _ _ l (by omega) (Nat.le_refl _))
  rw [← hi]
  have HPT := Aside0.mk (show lookasideref10_put.f (l.length + 1) (s : Int) (N : Int) l (i : Int) 9223372036854775807 d0 = some ((s : Int), (N : Int), pW l (i : Int) 9223372036854775807 (gW l (i : Int)).2) from by rw [← hd0]; exact pW_f _ _ _ _ _ l (by omega) (Nat.le_refl _))
  have hgb0 := World.grownBy_alloc (W) (.cells #[.int .i64 (s : Int), .int .i64 (N : Int), .slice A l.length c] 64) none
  have hb2 := heap_alloc_new (W) (.cells #[.int .i64 (s : Int), .int .i64 (N : Int), .slice A l.length c] 64)
  have hgb1 := World.grownBy_alloc ((W).alloc (.cells #[.int .i64 (s : Int), .int .i64 (N : Int), .slice A l.length c] 64)) (.cells #[.int .i64 0, .int .i64 0, .slice none 0 0] 64) none
  have hb4 := heap_alloc_new ((W).alloc (.cells #[.int .i64 (s : Int), .int .i64 (N : Int), .slice A l.length c] 64)) (.cells #[.int .i64 0, .int .i64 0, .slice none 0 0] 64)
  have hz1 : ((W).alloc (.cells #[.int .i64 (s : Int), .int .i64 (N : Int), .slice A l.length c] 64)).heap.size = W.heap.size + 1 := by simp only [World.size_alloc]
  rw [hz1] at hb4
  have HG := Aside0.mk (grown_two hgb0 hgb1)
  have HB2 := Aside0.mk (blk_grown (hb2) hgb1)
  have HB4 := Aside0.mk (hb4)
  clear hgb0 hgb1 hb2 hb4 hz1 hC hc
  go_enter Tryz.func62, Tryz.ntmps62
  go_wp2_with fail
  obtain ⟨h2, hh0⟩ : ∃ z, z = W.heap.size := ⟨_, rfl⟩
  obtain ⟨h4, hh1⟩ : ∃ z, z = W.heap.size + 1 := ⟨_, rfl⟩
  rw [← hh0] at HB2
  rw [← hh1] at HB4
  rw [← hh1, ← hh0]
  have HH := Aside0.mk (And.intro hh0 hh1)
  clear hh0 hh1 ht0 hd0 hi
  have hg := grown_drew (((W).alloc (.cells #[.int .i64 (s : Int), .int .i64 (N : Int), .slice A l.length c] 64)).alloc (.cells #[.int .i64 0, .int .i64 0, .slice none 0 0] 64)) none
  replace HB2 := Aside0.mk (blk_grown HB2.out hg)
  replace HB4 := Aside0.mk (blk_grown HB4.out hg)
  replace HG := Aside0.mk (grown_two HG.out hg)
  clear hg
  refine start_ (n := 7) (S := fun w' => w'.heap[h2]? = some (.cells #[.int .i64 (s : Int), .int .i64 (N : Int), .slice A l.length c] 64 (0, 0))) (ds := []) #[false, false, false, false, false, false, false] (by kernel_rfl) rfl rfl HB2.out (fun hHeld => ?_)
  refine with_tab rlock1_tab (fun HT_ => ?_)
  refine pure_ (i := 2) (N := some 8) (v := ?_) (a' := ?_) #[false, false, true, false, false, false, false] rfl rfl (any_of HT_.out (by kernel_rfl)) (fun _ _ _ h => h) (Or.inl ⟨by rfl, ?_⟩) ?_ ?_
  rotate_left
  · intro w'
    go_simp
    with_reducible rfl
  rotate_left
  · simp only [ap_]
    rfl
  refine take_ (i := 0) (N := some 6) (v := .agg #[.int .i64 (s : Int), .int .i64 (N : Int), .slice A l.length c]) (a' := ?_) #[true, false, true, false, false, false, false] rfl rfl (take_of HT_.out (by kernel_rfl)) (fun _ _ _ h => h) (Or.inl ⟨by rfl, ?_⟩) hHeld ?_ ?_
  · rintro w' s1
    obtain ⟨q0, q1, q2⟩ := cz3q s1
    go_simp
  rotate_left
  · simp only [ap_]
    rfl
  refine take_ (i := 1) (N := some 7) (v := .agg #[.int .i64 (s : Int), .int .i64 (N : Int), .slice A l.length c]) (a' := ?_) #[true, true, true, false, false, false, false] rfl rfl (take_of HT_.out (by kernel_rfl)) (fun _ _ _ h => h) (Or.inl ⟨by rfl, ?_⟩) hHeld ?_ ?_
  · rintro w' s1
    obtain ⟨q0, q1, q2⟩ := cz3q s1
    go_simp
  rotate_left
  · simp only [ap_]
    rfl
  refine two_ (i := 3) (j := 5) (Ni := some 9) (Nj := some 5) #[true, true, true, true, false, false, false] #[true, true, true, false, false, true, false] rfl rfl rfl rfl (two_of HT_.out (by kernel_rfl)) (by decide) (by decide) (fun K hK => ?_) (fun K hK => ?_)
  focus
    refine goes_ Tryz.func92 (by kernel_rfl) rfl #[.agg #[.int .i64 (s : Int), .int .i64 (N : Int), .slice A l.length c], .int .u64 (va : Int)] (by rfl) rfl rfl (by (try simp only [List.map_toArray, List.map_cons, List.map_nil]); first | done | rfl) ?_
    refine (lookasideref10_place.calls _ _ A c l _ _ _ (Kd.C_below HC0.out (below_of_grown HG.out)) HCC.out HPL.out).mono ?_
    rintro x0 wn ⟨rfl, hb⟩
    have hg := below_grown hb
    replace HG := Aside0.mk (grown_two HG.out hg)
    replace HB2 := Aside0.mk (blk_grown HB2.out hg)
    replace HB4 := Aside0.mk (blk_grown HB4.out hg)
    have hs : wn.heap[h2]? = some (.cells #[.int .i64 (s : Int), .int .i64 (N : Int), .slice A l.length c] 64 (0, 0)) := blk_grown hHeld hg
    clear hg hb
    refine ⟨_, rfl, ?_⟩
    refine hK.out _ _ hs (fun hHeld => ?_)
    clear hK K
    refine norm_ (a' := ?_) ?_ ?_
    rotate_left
    · show Act.put _ (some 9) _ = _
      simp only [ap_]
      rfl
    refine two_ (i := 4) (j := 5) (Ni := some 10) (Nj := some 5) #[true, true, true, true, true, false, false] #[true, true, true, true, false, true, false] rfl rfl rfl rfl (two_of HT_.out (by kernel_rfl)) (by decide) (by decide) (fun K hK => ?_) (fun K hK => ?_)
    focus
      refine goes_ Tryz.func91 (by kernel_rfl) rfl #[.agg #[.int .i64 (s : Int), .int .i64 (N : Int), .slice A l.length c], .int .i64 (i : Int)] (by rfl) rfl rfl (by (try simp only [List.map_toArray, List.map_cons, List.map_nil]); first | done | rfl) ?_
      refine (lookasideref10_Get.calls (l.length + 1) _ _ A c l _ _ _ _ _ (Kd.C_below HC0.out (below_of_grown HG.out)) HCC.out HGT.out).mono ?_
      rintro x0 wn ⟨rfl, hb⟩
      have hg := below_grown hb
      replace HG := Aside0.mk (grown_two HG.out hg)
      replace HB2 := Aside0.mk (blk_grown HB2.out hg)
      replace HB4 := Aside0.mk (blk_grown HB4.out hg)
      have hs : wn.heap[h2]? = some (.cells #[.int .i64 (s : Int), .int .i64 (N : Int), .slice A l.length c] 64 (0, 0)) := blk_grown hHeld hg
      clear hg hb
      refine ⟨_, rfl, ?_⟩
      refine hK.out _ _ hs (fun hHeld => ?_)
      clear hK K
      refine norm_ (a' := ?_) ?_ ?_
      rotate_left
      · show Act.put _ (some 10) _ = _
        simp only [ap_]
        rfl
      refine one_ (i := 5) (N := some 5) #[true, true, true, true, true, true, false] rfl rfl (one_of HT_.out (by kernel_rfl)) (by decide) (fun K hK => ?_)
      refine box_step ?hg (N := 5) ?hd (cs := #[.int .i64 0, .int .u64 0, .int .u64 0]) (t := 141) ?hr ?_; (case hd => rfl); (case hg => rfl); (case hr => first | (go_simp; done) | (go_simp; rfl))
      intro h5 hg5 wn hbox hb
      have HB5 := Aside0.mk hbox
      have HN5 := Aside0.mk (show W.heap.size ≤ h5 ∧ h2 ≠ h5 ∧ h4 ≠ h5 from ⟨by rw [hg5]; exact HG.out.size, fun e => by have := blk_lt HB2.out; omega, fun e => by have := blk_lt HB4.out; omega⟩)
      have hg := below_grown hb
      replace HG := Aside0.mk (grown_two HG.out hg)
      replace HB2 := Aside0.mk (blk_grown HB2.out hg)
      replace HB4 := Aside0.mk (blk_grown HB4.out hg)
      have hs : wn.heap[h2]? = some (.cells #[.int .i64 (s : Int), .int .i64 (N : Int), .slice A l.length c] 64 (0, 0)) := blk_grown hHeld hg
      clear hg hg5 hbox hb
      refine hK.out _ _ hs (fun hHeld => ?_)
      clear hK K
      refine norm_ (a' := ?_) ?_ ?_
      rotate_left
      · show Act.put _ (some 5) _ = _
        simp only [ap_]
        rfl
      refine one_ (i := 6) (N := none) #[true, true, true, true, true, true, true] rfl rfl (one_of HT_.out (by kernel_rfl)) (by decide) (fun K hK => ?_)
      rw [if_pos (by rfl)]
      refine wp_store_row 141 (.tmp 5) (.tmp 10) rfl h5 #[.int .i64 (i : Int), .int .u64 t0, .int .u64 d0] rfl rfl 141 #[.int .i64 0, .int .u64 0, .int .u64 0] HB5.out (by kernel_rfl) rfl (by kernel_rfl) ?_
      have hb2 := setRow_heap wn h5 _ #[.int .i64 (i : Int), .int .u64 t0, .int .u64 d0] _ _ HB5.out
      have hgr := grown_row wn h5 #[.int .i64 (i : Int), .int .u64 t0, .int .u64 d0]
      replace HG := Aside0.mk (grown_loc HG.out hgr HN5.out.1)
      replace HB2 := Aside0.mk ((hgr.block h2 (blk_lt HB2.out) (fun e => HN5.out.2.1 (Option.some.inj e))).trans HB2.out)
      replace HB4 := Aside0.mk ((hgr.block h4 (blk_lt HB4.out) (fun e => HN5.out.2.2 (Option.some.inj e))).trans HB4.out)
      have hs : (World.setRow wn h5 #[.int .i64 (i : Int), .int .u64 t0, .int .u64 d0]).heap[h2]? = some (.cells #[.int .i64 (s : Int), .int .i64 (N : Int), .slice A l.length c] 64 (0, 0)) := HB2.out
      generalize World.setRow wn h5 #[.int .i64 (i : Int), .int .u64 t0, .int .u64 d0] = wb at hb2 hs HG HB2 HB4 ⊢
      replace HB5 := Aside0.mk hb2
      clear hgr hb2
      refine hK.out _ _ hs (fun hHeld => ?_)
      clear hK K
      refine norm_ (a' := ?_) ?_ ?_
      rotate_left
      · show Act.put _ none _ = _
        rfl
      refine done_ (done_of HT_.out (by kernel_rfl)) ?_
    rotate_left
    focus
      refine box_step ?hg (N := 5) ?hd (cs := #[.int .i64 0, .int .u64 0, .int .u64 0]) (t := 141) ?hr ?_; (case hd => rfl); (case hg => rfl); (case hr => first | (go_simp; done) | (go_simp; rfl))
      intro h5 hg5 wn hbox hb
      have HB5 := Aside0.mk hbox
      have HN5 := Aside0.mk (show W.heap.size ≤ h5 ∧ h2 ≠ h5 ∧ h4 ≠ h5 from ⟨by rw [hg5]; exact HG.out.size, fun e => by have := blk_lt HB2.out; omega, fun e => by have := blk_lt HB4.out; omega⟩)
      have hg := below_grown hb
      replace HG := Aside0.mk (grown_two HG.out hg)
      replace HB2 := Aside0.mk (blk_grown HB2.out hg)
      replace HB4 := Aside0.mk (blk_grown HB4.out hg)
      have hs : wn.heap[h2]? = some (.cells #[.int .i64 (s : Int), .int .i64 (N : Int), .slice A l.length c] 64 (0, 0)) := blk_grown hHeld hg
      clear hg hg5 hbox hb
      refine hK.out _ _ hs (fun hHeld => ?_)
      clear hK K
      refine norm_ (a' := ?_) ?_ ?_
      rotate_left
      · show Act.put _ (some 5) _ = _
        simp only [ap_]
        rfl
      refine one_ (i := 4) (N := some 10) #[true, true, true, true, true, true, false] rfl rfl (one_of HT_.out (by kernel_rfl)) (by decide) (fun K hK => ?_)
      refine goes_ Tryz.func91 (by kernel_rfl) rfl #[.agg #[.int .i64 (s : Int), .int .i64 (N : Int), .slice A l.length c], .int .i64 (i : Int)] (by rfl) rfl rfl (by (try simp only [List.map_toArray, List.map_cons, List.map_nil]); first | done | rfl) ?_
      refine (lookasideref10_Get.calls (l.length + 1) _ _ A c l _ _ _ _ _ (Kd.C_below HC0.out (below_of_grown HG.out)) HCC.out HGT.out).mono ?_
      rintro x0 wn ⟨rfl, hb⟩
      have hg := below_grown hb
      replace HG := Aside0.mk (grown_two HG.out hg)
      replace HB2 := Aside0.mk (blk_grown HB2.out hg)
      replace HB4 := Aside0.mk (blk_grown HB4.out hg)
      have hs : wn.heap[h2]? = some (.cells #[.int .i64 (s : Int), .int .i64 (N : Int), .slice A l.length c] 64 (0, 0)) := blk_grown hHeld hg
      replace HB5 := Aside0.mk (blk_grown HB5.out hg)
      clear hg hb
      refine ⟨_, rfl, ?_⟩
      refine hK.out _ _ hs (fun hHeld => ?_)
      clear hK K
      refine norm_ (a' := ?_) ?_ ?_
      rotate_left
      · show Act.put _ (some 10) _ = _
        simp only [ap_]
        rfl
      refine one_ (i := 6) (N := none) #[true, true, true, true, true, true, true] rfl rfl (one_of HT_.out (by kernel_rfl)) (by decide) (fun K hK => ?_)
      rw [if_pos (by rfl)]
      refine wp_store_row 141 (.tmp 5) (.tmp 10) rfl h5 #[.int .i64 (i : Int), .int .u64 t0, .int .u64 d0] rfl rfl 141 #[.int .i64 0, .int .u64 0, .int .u64 0] HB5.out (by kernel_rfl) rfl (by kernel_rfl) ?_
      have hb2 := setRow_heap wn h5 _ #[.int .i64 (i : Int), .int .u64 t0, .int .u64 d0] _ _ HB5.out
      have hgr := grown_row wn h5 #[.int .i64 (i : Int), .int .u64 t0, .int .u64 d0]
      replace HG := Aside0.mk (grown_loc HG.out hgr HN5.out.1)
      replace HB2 := Aside0.mk ((hgr.block h2 (blk_lt HB2.out) (fun e => HN5.out.2.1 (Option.some.inj e))).trans HB2.out)
      replace HB4 := Aside0.mk ((hgr.block h4 (blk_lt HB4.out) (fun e => HN5.out.2.2 (Option.some.inj e))).trans HB4.out)
      have hs : (World.setRow wn h5 #[.int .i64 (i : Int), .int .u64 t0, .int .u64 d0]).heap[h2]? = some (.cells #[.int .i64 (s : Int), .int .i64 (N : Int), .slice A l.length c] 64 (0, 0)) := HB2.out
      generalize World.setRow wn h5 #[.int .i64 (i : Int), .int .u64 t0, .int .u64 d0] = wb at hb2 hs HG HB2 HB4 ⊢
      replace HB5 := Aside0.mk hb2
      clear hgr hb2
      refine hK.out _ _ hs (fun hHeld => ?_)
      clear hK K
      refine norm_ (a' := ?_) ?_ ?_
      rotate_left
      · show Act.put _ none _ = _
        rfl
      refine done_ (done_of HT_.out (by kernel_rfl)) ?_
  rotate_left 2
  focus
    refine box_step ?hg (N := 5) ?hd (cs := #[.int .i64 0, .int .u64 0, .int .u64 0]) (t := 141) ?hr ?_; (case hd => rfl); (case hg => rfl); (case hr => first | (go_simp; done) | (go_simp; rfl))
    intro h5 hg5 wn hbox hb
    have HB5 := Aside0.mk hbox
    have HN5 := Aside0.mk (show W.heap.size ≤ h5 ∧ h2 ≠ h5 ∧ h4 ≠ h5 from ⟨by rw [hg5]; exact HG.out.size, fun e => by have := blk_lt HB2.out; omega, fun e => by have := blk_lt HB4.out; omega⟩)
    have hg := below_grown hb
    replace HG := Aside0.mk (grown_two HG.out hg)
    replace HB2 := Aside0.mk (blk_grown HB2.out hg)
    replace HB4 := Aside0.mk (blk_grown HB4.out hg)
    have hs : wn.heap[h2]? = some (.cells #[.int .i64 (s : Int), .int .i64 (N : Int), .slice A l.length c] 64 (0, 0)) := blk_grown hHeld hg
    clear hg hg5 hbox hb
    refine hK.out _ _ hs (fun hHeld => ?_)
    clear hK K
    refine norm_ (a' := ?_) ?_ ?_
    rotate_left
    · show Act.put _ (some 5) _ = _
      simp only [ap_]
      rfl
    refine one_ (i := 3) (N := some 9) #[true, true, true, true, false, true, false] rfl rfl (one_of HT_.out (by kernel_rfl)) (by decide) (fun K hK => ?_)
    refine goes_ Tryz.func92 (by kernel_rfl) rfl #[.agg #[.int .i64 (s : Int), .int .i64 (N : Int), .slice A l.length c], .int .u64 (va : Int)] (by rfl) rfl rfl (by (try simp only [List.map_toArray, List.map_cons, List.map_nil]); first | done | rfl) ?_
    refine (lookasideref10_place.calls _ _ A c l _ _ _ (Kd.C_below HC0.out (below_of_grown HG.out)) HCC.out HPL.out).mono ?_
    rintro x0 wn ⟨rfl, hb⟩
    have hg := below_grown hb
    replace HG := Aside0.mk (grown_two HG.out hg)
    replace HB2 := Aside0.mk (blk_grown HB2.out hg)
    replace HB4 := Aside0.mk (blk_grown HB4.out hg)
    have hs : wn.heap[h2]? = some (.cells #[.int .i64 (s : Int), .int .i64 (N : Int), .slice A l.length c] 64 (0, 0)) := blk_grown hHeld hg
    replace HB5 := Aside0.mk (blk_grown HB5.out hg)
    clear hg hb
    refine ⟨_, rfl, ?_⟩
    refine hK.out _ _ hs (fun hHeld => ?_)
    clear hK K
    refine norm_ (a' := ?_) ?_ ?_
    rotate_left
    · show Act.put _ (some 9) _ = _
      simp only [ap_]
      rfl
    refine one_ (i := 4) (N := some 10) #[true, true, true, true, true, true, false] rfl rfl (one_of HT_.out (by kernel_rfl)) (by decide) (fun K hK => ?_)
    refine goes_ Tryz.func91 (by kernel_rfl) rfl #[.agg #[.int .i64 (s : Int), .int .i64 (N : Int), .slice A l.length c], .int .i64 (i : Int)] (by rfl) rfl rfl (by (try simp only [List.map_toArray, List.map_cons, List.map_nil]); first | done | rfl) ?_
    refine (lookasideref10_Get.calls (l.length + 1) _ _ A c l _ _ _ _ _ (Kd.C_below HC0.out (below_of_grown HG.out)) HCC.out HGT.out).mono ?_
    rintro x0 wn ⟨rfl, hb⟩
    have hg := below_grown hb
    replace HG := Aside0.mk (grown_two HG.out hg)
    replace HB2 := Aside0.mk (blk_grown HB2.out hg)
    replace HB4 := Aside0.mk (blk_grown HB4.out hg)
    have hs : wn.heap[h2]? = some (.cells #[.int .i64 (s : Int), .int .i64 (N : Int), .slice A l.length c] 64 (0, 0)) := blk_grown hHeld hg
    replace HB5 := Aside0.mk (blk_grown HB5.out hg)
    clear hg hb
    refine ⟨_, rfl, ?_⟩
    refine hK.out _ _ hs (fun hHeld => ?_)
    clear hK K
    refine norm_ (a' := ?_) ?_ ?_
    rotate_left
    · show Act.put _ (some 10) _ = _
      simp only [ap_]
      rfl
    refine one_ (i := 6) (N := none) #[true, true, true, true, true, true, true] rfl rfl (one_of HT_.out (by kernel_rfl)) (by decide) (fun K hK => ?_)
    rw [if_pos (by rfl)]
    refine wp_store_row 141 (.tmp 5) (.tmp 10) rfl h5 #[.int .i64 (i : Int), .int .u64 t0, .int .u64 d0] rfl rfl 141 #[.int .i64 0, .int .u64 0, .int .u64 0] HB5.out (by kernel_rfl) rfl (by kernel_rfl) ?_
    have hb2 := setRow_heap wn h5 _ #[.int .i64 (i : Int), .int .u64 t0, .int .u64 d0] _ _ HB5.out
    have hgr := grown_row wn h5 #[.int .i64 (i : Int), .int .u64 t0, .int .u64 d0]
    replace HG := Aside0.mk (grown_loc HG.out hgr HN5.out.1)
    replace HB2 := Aside0.mk ((hgr.block h2 (blk_lt HB2.out) (fun e => HN5.out.2.1 (Option.some.inj e))).trans HB2.out)
    replace HB4 := Aside0.mk ((hgr.block h4 (blk_lt HB4.out) (fun e => HN5.out.2.2 (Option.some.inj e))).trans HB4.out)
    have hs : (World.setRow wn h5 #[.int .i64 (i : Int), .int .u64 t0, .int .u64 d0]).heap[h2]? = some (.cells #[.int .i64 (s : Int), .int .i64 (N : Int), .slice A l.length c] 64 (0, 0)) := HB2.out
    generalize World.setRow wn h5 #[.int .i64 (i : Int), .int .u64 t0, .int .u64 d0] = wb at hb2 hs HG HB2 HB4 ⊢
    replace HB5 := Aside0.mk hb2
    clear hgr hb2
    refine hK.out _ _ hs (fun hHeld => ?_)
    clear hK K
    refine norm_ (a' := ?_) ?_ ?_
    rotate_left
    · show Act.put _ none _ = _
      rfl
    refine done_ (done_of HT_.out (by kernel_rfl)) ?_
  all_goals
    clear hHeld
    go_upto_region 3 with (go_at_call 96; refine (lookasideref10_Bad.calls _ _ badf).mono ?_; rintro e wm ⟨rfl, hd⟩; have hg := drawn_grown hd; replace HG := Aside0.mk (grown_two HG.out hg); replace HB2 := Aside0.mk (blk_grown HB2.out hg); replace HB4 := Aside0.mk (blk_grown HB4.out hg); replace HB5 := Aside0.mk (blk_grown HB5.out hg); have zf := blk_frozen HB5.out 1; obtain ⟨u0, u1, u2⟩ := cz3q HB5.out; clear hg hd)
    clear zf u0 u1 u2
    have hgc := grown_cellq wm ⟨h5, 1, none⟩ (.int .u64 9223372036854775807)
    have hk5 : ∀ k, some h5 = some k → ∃ cs, wm.heap[k]? = some (.cells cs 141 (0, 0)) := fun k e => by cases e; exact ⟨_, HB5.out⟩
    have hb5 : (wm.setCell ⟨h5, 1, none⟩ (.int .u64 9223372036854775807)).heap[h5]? = some (.cells #[.int .i64 (i : Int), .int .u64 9223372036854775807, .int .u64 d0] 141 (0, 0)) := blk_put HB5.out 1 (.int .u64 9223372036854775807) rfl
    replace HB2 := Aside0.mk (blk_keptR HB2.out hgc hk5 (by decide))
    replace HB4 := Aside0.mk (blk_keptR HB4.out hgc hk5 (by decide))
    replace HG := Aside0.mk (below_grownW HG.out hgc (fun k e => by obtain rfl : h5 = k := Option.some.inj e; exact HN5.out.1))
    generalize wm.setCell ⟨h5, 1, none⟩ (.int .u64 9223372036854775807) = wq at hb5 HB2 HB4 HG ⊢
    replace HB5 := Aside0.mk hb5
    clear hgc hk5 hb5
    obtain ⟨q0, q1, q2⟩ := cz3q HB2.out
    obtain ⟨u0, u1, u2⟩ := cz3q HB5.out
    go_wp2_with fail
    refine (lookasideref10_put.calls (l.length + 1) _ _ A c l _ _ _ _ _ _ _ (Kd.C_below HC0.out (below_of_grown HG.out)) HCC.out HPT.out).mono ?_
    rintro x0 wr ⟨v2, rfl, hR, hb⟩
    obtain ⟨A2, c2, rfl⟩ := Kd.R_slice hR
    have hg := below_grown hb
    have HR := Aside0.mk (Kd.R_lower hR HG.out.size)
    replace HG := Aside0.mk (grown_two HG.out hg)
    replace HB4 := Aside0.mk (blk_grown HB4.out hg)
    have HLN := Aside0.mk (show True from trivial)
    clear hR hb hg q0 q1 q2 u0 u1 u2
    go_wp2_with (first | ((with_reducible refine gate_store (t := 64) (p := 4) rfl ?_); refine wpList_store_row rfl 64 (.tmp 4) (.tmp 15) rfl h4 #[.int .i64 (s : Int), .int .i64 (N : Int), .slice A2 (pW l (i : Int) 9223372036854775807 (gW l (i : Int)).2).length c2] rfl rfl 64 _ HB4.out (by kernel_rfl) rfl (by kernel_rfl) ?_; have SHB4 := Aside0.mk (setRow_heap _ h4 _ #[.int .i64 (s : Int), .int .i64 (N : Int), .slice A2 (pW l (i : Int) 9223372036854775807 (gW l (i : Int)).2).length c2] _ _ HB4.out); have THB4 := Aside0.mk (grown_row wr h4 #[.int .i64 (s : Int), .int .i64 (N : Int), .slice A2 (pW l (i : Int) 9223372036854775807 (gW l (i : Int)).2).length c2])))
    replace HR := Aside0.mk (Kd.R_mono (ok' := fun _ => True) (Kd.R_grown (Kd.R_types HR.out HB4.out (by decide)) THB4.out (fun k hk e => hk.2 (Option.some.inj e))) (fun _ _ => trivial))
    replace HG := Aside0.mk (grown_loc HG.out THB4.out (by have := HH.out; omega))
    obtain ⟨q0, q1, q2⟩ := cz3q SHB4.out
    exact bodyPost_ret (v := .agg #[.int .i64 (s : Int), .int .i64 (N : Int), .slice A2 (pW l (i : Int) 9223372036854775807 (gW l (i : Int)).2).length c2]) (by simp [results, Tryz.f62, go_sem, q0, q1, q2]) rfl ⟨_, rfl, HR.out, HG.out⟩
noncomputable def rputtag1_T : Bool × List (List Nat × List Nat) := rtab .any (opsOf Tryz.f60 1)
theorem rputtag1_tab : rtab .any (opsOf Tryz.f60 1) = rputtag1_T := rfl
theorem rputtag_calls {s N : Nat} (hs : s < 4) (h1 : 1 ≤ N) (hN : N ≤ 4096) {A : Option Addr} {c : Nat} {l : List WS} (g : GE) (hgo : g.ok) (hgs : g.s = s) {W : World} (hC : Kd.C k141 W A l.length l) (hc : l.length ≤ c) (hl : l.length ≤ 1000000) :
    Calls Tryz.prog 60 #[.agg #[.int .i64 (s : Int), .int .i64 (N : Int), .slice A l.length c], .agg (geA g)] W fun e W' => ∃ v, e = .returned (.agg #[.int .i64 (s : Int), .int .i64 (N : Int), v]) ∧ Kd.R k141 141 W' W.heap.size (fun _ => True) v (pW l (plcOf N (s : Int) g.v : Int) (g.tag : Int) (gW l (plcOf N (s : Int) g.v : Int)).2) ∧ W.grownBy W' none := by
  have hu := Tryz.underlying64
  have hu2 := Tryz.underlying141
  have hu3 := Tryz.underlying41
  have HC0 := Aside0.mk hC
  have HCC := Aside0.mk hc
  obtain ⟨i, hi⟩ : ∃ i, i = plcOf N (s : Int) g.v := ⟨_, rfl⟩
  have HPL := Aside0.mk (show lookasideref10_place.f (s : Int) (N : Int) l (g.v : Int) = some (i : Int) from by rw [hi]; exact plc_f g.v hgo.hv s N hs h1 (by omega) l)
  obtain ⟨t0, ht0⟩ : ∃ t, t = (gW l (i : Int)).1 := ⟨_, rfl⟩
  obtain ⟨d0, hd0⟩ : ∃ d, d = (gW l (i : Int)).2 := ⟨_, rfl⟩
  have HGT := Aside0.mk (show lookasideref10_Get.f (l.length + 1) (s : Int) (N : Int) l (i : Int) = some ((i : Int), t0, d0) by rw [ht0, hd0]; exact gW_f _ _ _ l (by omega) (Nat.le_refl _))
  rw [← hi]
  have HEF := Aside0.mk (show lookasideref03_Tag.f 500 (g.s : Int) (g.c : Int) (g.v : Int) (g.p : Int) g.w g.pr g.x g.l g.g g.q true = some (g.tag : Int) from hgo.rtagF)
  have HGS := Aside0.mk (And.intro hgo hgs)
  clear hgo hgs
  have HPT := Aside0.mk (show lookasideref10_put.f (l.length + 1) (s : Int) (N : Int) l (i : Int) (g.tag : Int) d0 = some ((s : Int), (N : Int), pW l (i : Int) (g.tag : Int) (gW l (i : Int)).2) from by rw [← hd0]; exact pW_f _ _ _ _ _ l (by omega) (Nat.le_refl _))
  have hgb0 := World.grownBy_alloc (W) (.cells #[.int .i64 (s : Int), .int .i64 (N : Int), .slice A l.length c] 64) none
  have hb2 := heap_alloc_new (W) (.cells #[.int .i64 (s : Int), .int .i64 (N : Int), .slice A l.length c] 64)
  have hgb1 := World.grownBy_alloc ((W).alloc (.cells #[.int .i64 (s : Int), .int .i64 (N : Int), .slice A l.length c] 64)) (.cells (geA g) 41) none
  have hb3 := heap_alloc_new ((W).alloc (.cells #[.int .i64 (s : Int), .int .i64 (N : Int), .slice A l.length c] 64)) (.cells (geA g) 41)
  have hz1 : ((W).alloc (.cells #[.int .i64 (s : Int), .int .i64 (N : Int), .slice A l.length c] 64)).heap.size = W.heap.size + 1 := by simp only [World.size_alloc]
  rw [hz1] at hb3
  have hgb2 := World.grownBy_alloc (((W).alloc (.cells #[.int .i64 (s : Int), .int .i64 (N : Int), .slice A l.length c] 64)).alloc (.cells (geA g) 41)) (.cells #[.int .i64 0, .int .i64 0, .slice none 0 0] 64) none
  have hb4 := heap_alloc_new (((W).alloc (.cells #[.int .i64 (s : Int), .int .i64 (N : Int), .slice A l.length c] 64)).alloc (.cells (geA g) 41)) (.cells #[.int .i64 0, .int .i64 0, .slice none 0 0] 64)
  have hz2 : (((W).alloc (.cells #[.int .i64 (s : Int), .int .i64 (N : Int), .slice A l.length c] 64)).alloc (.cells (geA g) 41)).heap.size = W.heap.size + 2 := by simp only [World.size_alloc]
  rw [hz2] at hb4
  have HG := Aside0.mk (grown_two (grown_two hgb0 hgb1) hgb2)
  have HB2 := Aside0.mk (blk_grown (blk_grown (hb2) hgb1) hgb2)
  have HB3 := Aside0.mk (blk_grown (hb3) hgb2)
  have HB4 := Aside0.mk (hb4)
  clear hgb0 hgb1 hgb2 hb2 hb3 hb4 hz1 hz2 hC hc
  go_enter Tryz.func60, Tryz.ntmps60
  go_wp2_with fail
  obtain ⟨h2, hh0⟩ : ∃ z, z = W.heap.size := ⟨_, rfl⟩
  obtain ⟨h3, hh1⟩ : ∃ z, z = W.heap.size + 1 := ⟨_, rfl⟩
  obtain ⟨h4, hh2⟩ : ∃ z, z = W.heap.size + 2 := ⟨_, rfl⟩
  rw [← hh0] at HB2
  rw [← hh1] at HB3
  rw [← hh2] at HB4
  rw [← hh2, ← hh1, ← hh0]
  have HH := Aside0.mk (And.intro hh0 (And.intro hh1 hh2))
  clear hh0 hh1 hh2 ht0 hd0 hi
  have hg := grown_drew ((((W).alloc (.cells #[.int .i64 (s : Int), .int .i64 (N : Int), .slice A l.length c] 64)).alloc (.cells (geA g) 41)).alloc (.cells #[.int .i64 0, .int .i64 0, .slice none 0 0] 64)) none
  replace HB2 := Aside0.mk (blk_grown HB2.out hg)
  replace HB3 := Aside0.mk (blk_grown HB3.out hg)
  replace HB4 := Aside0.mk (blk_grown HB4.out hg)
  replace HG := Aside0.mk (grown_two HG.out hg)
  clear hg
  refine start_ (n := 8) (S := fun w' => w'.heap[h2]? = some (.cells #[.int .i64 (s : Int), .int .i64 (N : Int), .slice A l.length c] 64 (0, 0)) ∧ w'.heap[h3]? = some (.cells (geA g) 41 (0, 0))) (ds := []) #[false, false, false, false, false, false, false, false] (by kernel_rfl) rfl rfl ⟨HB2.out, HB3.out⟩ (fun hHeld => ?_)
  refine with_tab rputtag1_tab (fun HT_ => ?_)
  refine pure_ (i := 2) (N := some 8) (v := ?_) (a' := ?_) #[false, false, true, false, false, false, false, false] rfl rfl (any_of HT_.out (by kernel_rfl)) (fun _ _ _ h => h) (Or.inl ⟨by rfl, ?_⟩) ?_ ?_
  rotate_left
  · intro w'
    go_simp
    with_reducible rfl
  rotate_left
  · simp only [ap_]
    rfl
  refine take_ (i := 0) (N := some 6) (v := .agg #[.int .i64 (s : Int), .int .i64 (N : Int), .slice A l.length c]) (a' := ?_) #[true, false, true, false, false, false, false, false] rfl rfl (take_of HT_.out (by kernel_rfl)) (fun _ _ _ h => h) (Or.inl ⟨by rfl, ?_⟩) hHeld ?_ ?_
  · rintro w' ⟨s1, s2⟩
    obtain ⟨q0, q1, q2⟩ := cz3q s1
    go_simp
  rotate_left
  · simp only [ap_]
    rfl
  refine take_ (i := 1) (N := some 7) (v := .agg #[.int .i64 (s : Int), .int .i64 (N : Int), .slice A l.length c]) (a' := ?_) #[true, true, true, false, false, false, false, false] rfl rfl (take_of HT_.out (by kernel_rfl)) (fun _ _ _ h => h) (Or.inl ⟨by rfl, ?_⟩) hHeld ?_ ?_
  · rintro w' ⟨s1, s2⟩
    obtain ⟨q0, q1, q2⟩ := cz3q s1
    go_simp
  rotate_left
  · simp only [ap_]
    rfl
  refine take_ (i := 3) (N := some 9) (v := .int .u64 (g.v : Int)) (a' := ?_) #[true, true, true, true, false, false, false, false] rfl rfl (take_of HT_.out (by kernel_rfl)) (fun _ _ _ h => h) (Or.inl ⟨by rfl, ?_⟩) hHeld ?_ ?_
  · rintro w' ⟨s1, s2⟩
    obtain ⟨z0, z1, z2, z3, z4, z5, z6, z7, z8, z9, z10⟩ := tte_Read.cz11 s2
    go_simp
  rotate_left
  · simp only [ap_]
    rfl
  refine two_ (i := 4) (j := 6) (Ni := some 10) (Nj := some 5) #[true, true, true, true, true, false, false, false] #[true, true, true, true, false, false, true, false] rfl rfl rfl rfl (two_of HT_.out (by kernel_rfl)) (by decide) (by decide) (fun K hK => ?_) (fun K hK => ?_)
  focus
    refine goes_ Tryz.func92 (by kernel_rfl) rfl #[.agg #[.int .i64 (s : Int), .int .i64 (N : Int), .slice A l.length c], .int .u64 (g.v : Int)] (by rfl) rfl rfl (by (try simp only [List.map_toArray, List.map_cons, List.map_nil]); first | done | rfl) ?_
    refine (lookasideref10_place.calls _ _ A c l _ _ _ (Kd.C_below HC0.out (below_of_grown HG.out)) HCC.out HPL.out).mono ?_
    rintro x0 wn ⟨rfl, hb⟩
    have hg := below_grown hb
    replace HG := Aside0.mk (grown_two HG.out hg)
    replace HB2 := Aside0.mk (blk_grown HB2.out hg)
    replace HB4 := Aside0.mk (blk_grown HB4.out hg)
    replace HB3 := Aside0.mk (blk_grown HB3.out hg)
    have hs : wn.heap[h2]? = some (.cells #[.int .i64 (s : Int), .int .i64 (N : Int), .slice A l.length c] 64 (0, 0)) ∧ wn.heap[h3]? = some (.cells (geA g) 41 (0, 0)) := ⟨blk_grown hHeld.1 hg, blk_grown hHeld.2 hg⟩
    clear hg hb
    refine ⟨_, rfl, ?_⟩
    refine hK.out _ _ hs (fun hHeld => ?_)
    clear hK K
    refine norm_ (a' := ?_) ?_ ?_
    rotate_left
    · show Act.put _ (some 10) _ = _
      simp only [ap_]
      rfl
    refine two_ (i := 5) (j := 6) (Ni := some 11) (Nj := some 5) #[true, true, true, true, true, true, false, false] #[true, true, true, true, true, false, true, false] rfl rfl rfl rfl (two_of HT_.out (by kernel_rfl)) (by decide) (by decide) (fun K hK => ?_) (fun K hK => ?_)
    focus
      refine goes_ Tryz.func91 (by kernel_rfl) rfl #[.agg #[.int .i64 (s : Int), .int .i64 (N : Int), .slice A l.length c], .int .i64 (i : Int)] (by rfl) rfl rfl (by (try simp only [List.map_toArray, List.map_cons, List.map_nil]); first | done | rfl) ?_
      refine (lookasideref10_Get.calls (l.length + 1) _ _ A c l _ _ _ _ _ (Kd.C_below HC0.out (below_of_grown HG.out)) HCC.out HGT.out).mono ?_
      rintro x0 wn ⟨rfl, hb⟩
      have hg := below_grown hb
      replace HG := Aside0.mk (grown_two HG.out hg)
      replace HB2 := Aside0.mk (blk_grown HB2.out hg)
      replace HB4 := Aside0.mk (blk_grown HB4.out hg)
      replace HB3 := Aside0.mk (blk_grown HB3.out hg)
      have hs : wn.heap[h2]? = some (.cells #[.int .i64 (s : Int), .int .i64 (N : Int), .slice A l.length c] 64 (0, 0)) ∧ wn.heap[h3]? = some (.cells (geA g) 41 (0, 0)) := ⟨blk_grown hHeld.1 hg, blk_grown hHeld.2 hg⟩
      clear hg hb
      refine ⟨_, rfl, ?_⟩
      refine hK.out _ _ hs (fun hHeld => ?_)
      clear hK K
      refine norm_ (a' := ?_) ?_ ?_
      rotate_left
      · show Act.put _ (some 11) _ = _
        simp only [ap_]
        rfl
      refine one_ (i := 6) (N := some 5) #[true, true, true, true, true, true, true, false] rfl rfl (one_of HT_.out (by kernel_rfl)) (by decide) (fun K hK => ?_)
      refine box_step ?hg (N := 5) ?hd (cs := #[.int .i64 0, .int .u64 0, .int .u64 0]) (t := 141) ?hr ?_; (case hd => rfl); (case hg => rfl); (case hr => first | (go_simp; done) | (go_simp; rfl))
      intro h5 hg5 wn hbox hb
      have HB5 := Aside0.mk hbox
      have HN5 := Aside0.mk (show W.heap.size ≤ h5 ∧ h2 ≠ h5 ∧ h4 ≠ h5 ∧ h3 ≠ h5 from ⟨by rw [hg5]; exact HG.out.size, fun e => by have := blk_lt HB2.out; omega, fun e => by have := blk_lt HB4.out; omega, fun e => by have := blk_lt HB3.out; omega⟩)
      have hg := below_grown hb
      replace HG := Aside0.mk (grown_two HG.out hg)
      replace HB2 := Aside0.mk (blk_grown HB2.out hg)
      replace HB4 := Aside0.mk (blk_grown HB4.out hg)
      replace HB3 := Aside0.mk (blk_grown HB3.out hg)
      have hs : wn.heap[h2]? = some (.cells #[.int .i64 (s : Int), .int .i64 (N : Int), .slice A l.length c] 64 (0, 0)) ∧ wn.heap[h3]? = some (.cells (geA g) 41 (0, 0)) := ⟨blk_grown hHeld.1 hg, blk_grown hHeld.2 hg⟩
      clear hg hg5 hbox hb
      refine hK.out _ _ hs (fun hHeld => ?_)
      clear hK K
      refine norm_ (a' := ?_) ?_ ?_
      rotate_left
      · show Act.put _ (some 5) _ = _
        simp only [ap_]
        rfl
      refine one_ (i := 7) (N := none) #[true, true, true, true, true, true, true, true] rfl rfl (one_of HT_.out (by kernel_rfl)) (by decide) (fun K hK => ?_)
      rw [if_pos (by rfl)]
      refine wp_store_row 141 (.tmp 5) (.tmp 11) rfl h5 #[.int .i64 (i : Int), .int .u64 t0, .int .u64 d0] rfl rfl 141 #[.int .i64 0, .int .u64 0, .int .u64 0] HB5.out (by kernel_rfl) rfl (by kernel_rfl) ?_
      have hb2 := setRow_heap wn h5 _ #[.int .i64 (i : Int), .int .u64 t0, .int .u64 d0] _ _ HB5.out
      have hgr := grown_row wn h5 #[.int .i64 (i : Int), .int .u64 t0, .int .u64 d0]
      replace HG := Aside0.mk (grown_loc HG.out hgr HN5.out.1)
      replace HB2 := Aside0.mk ((hgr.block h2 (blk_lt HB2.out) (fun e => HN5.out.2.1 (Option.some.inj e))).trans HB2.out)
      replace HB4 := Aside0.mk ((hgr.block h4 (blk_lt HB4.out) (fun e => HN5.out.2.2.1 (Option.some.inj e))).trans HB4.out)
      replace HB3 := Aside0.mk ((hgr.block h3 (blk_lt HB3.out) (fun e => HN5.out.2.2.2 (Option.some.inj e))).trans HB3.out)
      have hs : (World.setRow wn h5 #[.int .i64 (i : Int), .int .u64 t0, .int .u64 d0]).heap[h2]? = some (.cells #[.int .i64 (s : Int), .int .i64 (N : Int), .slice A l.length c] 64 (0, 0)) ∧ (World.setRow wn h5 #[.int .i64 (i : Int), .int .u64 t0, .int .u64 d0]).heap[h3]? = some (.cells (geA g) 41 (0, 0)) := ⟨HB2.out, HB3.out⟩
      generalize World.setRow wn h5 #[.int .i64 (i : Int), .int .u64 t0, .int .u64 d0] = wb at hb2 hs HG HB2 HB4 HB3 ⊢
      replace HB5 := Aside0.mk hb2
      clear hgr hb2
      refine hK.out _ _ hs (fun hHeld => ?_)
      clear hK K
      refine norm_ (a' := ?_) ?_ ?_
      rotate_left
      · show Act.put _ none _ = _
        rfl
      refine done_ (done_of HT_.out (by kernel_rfl)) ?_
    rotate_left
    focus
      refine box_step ?hg (N := 5) ?hd (cs := #[.int .i64 0, .int .u64 0, .int .u64 0]) (t := 141) ?hr ?_; (case hd => rfl); (case hg => rfl); (case hr => first | (go_simp; done) | (go_simp; rfl))
      intro h5 hg5 wn hbox hb
      have HB5 := Aside0.mk hbox
      have HN5 := Aside0.mk (show W.heap.size ≤ h5 ∧ h2 ≠ h5 ∧ h4 ≠ h5 ∧ h3 ≠ h5 from ⟨by rw [hg5]; exact HG.out.size, fun e => by have := blk_lt HB2.out; omega, fun e => by have := blk_lt HB4.out; omega, fun e => by have := blk_lt HB3.out; omega⟩)
      have hg := below_grown hb
      replace HG := Aside0.mk (grown_two HG.out hg)
      replace HB2 := Aside0.mk (blk_grown HB2.out hg)
      replace HB4 := Aside0.mk (blk_grown HB4.out hg)
      replace HB3 := Aside0.mk (blk_grown HB3.out hg)
      have hs : wn.heap[h2]? = some (.cells #[.int .i64 (s : Int), .int .i64 (N : Int), .slice A l.length c] 64 (0, 0)) ∧ wn.heap[h3]? = some (.cells (geA g) 41 (0, 0)) := ⟨blk_grown hHeld.1 hg, blk_grown hHeld.2 hg⟩
      clear hg hg5 hbox hb
      refine hK.out _ _ hs (fun hHeld => ?_)
      clear hK K
      refine norm_ (a' := ?_) ?_ ?_
      rotate_left
      · show Act.put _ (some 5) _ = _
        simp only [ap_]
        rfl
      refine one_ (i := 5) (N := some 11) #[true, true, true, true, true, true, true, false] rfl rfl (one_of HT_.out (by kernel_rfl)) (by decide) (fun K hK => ?_)
      refine goes_ Tryz.func91 (by kernel_rfl) rfl #[.agg #[.int .i64 (s : Int), .int .i64 (N : Int), .slice A l.length c], .int .i64 (i : Int)] (by rfl) rfl rfl (by (try simp only [List.map_toArray, List.map_cons, List.map_nil]); first | done | rfl) ?_
      refine (lookasideref10_Get.calls (l.length + 1) _ _ A c l _ _ _ _ _ (Kd.C_below HC0.out (below_of_grown HG.out)) HCC.out HGT.out).mono ?_
      rintro x0 wn ⟨rfl, hb⟩
      have hg := below_grown hb
      replace HG := Aside0.mk (grown_two HG.out hg)
      replace HB2 := Aside0.mk (blk_grown HB2.out hg)
      replace HB4 := Aside0.mk (blk_grown HB4.out hg)
      replace HB3 := Aside0.mk (blk_grown HB3.out hg)
      have hs : wn.heap[h2]? = some (.cells #[.int .i64 (s : Int), .int .i64 (N : Int), .slice A l.length c] 64 (0, 0)) ∧ wn.heap[h3]? = some (.cells (geA g) 41 (0, 0)) := ⟨blk_grown hHeld.1 hg, blk_grown hHeld.2 hg⟩
      replace HB5 := Aside0.mk (blk_grown HB5.out hg)
      clear hg hb
      refine ⟨_, rfl, ?_⟩
      refine hK.out _ _ hs (fun hHeld => ?_)
      clear hK K
      refine norm_ (a' := ?_) ?_ ?_
      rotate_left
      · show Act.put _ (some 11) _ = _
        simp only [ap_]
        rfl
      refine one_ (i := 7) (N := none) #[true, true, true, true, true, true, true, true] rfl rfl (one_of HT_.out (by kernel_rfl)) (by decide) (fun K hK => ?_)
      rw [if_pos (by rfl)]
      refine wp_store_row 141 (.tmp 5) (.tmp 11) rfl h5 #[.int .i64 (i : Int), .int .u64 t0, .int .u64 d0] rfl rfl 141 #[.int .i64 0, .int .u64 0, .int .u64 0] HB5.out (by kernel_rfl) rfl (by kernel_rfl) ?_
      have hb2 := setRow_heap wn h5 _ #[.int .i64 (i : Int), .int .u64 t0, .int .u64 d0] _ _ HB5.out
      have hgr := grown_row wn h5 #[.int .i64 (i : Int), .int .u64 t0, .int .u64 d0]
      replace HG := Aside0.mk (grown_loc HG.out hgr HN5.out.1)
      replace HB2 := Aside0.mk ((hgr.block h2 (blk_lt HB2.out) (fun e => HN5.out.2.1 (Option.some.inj e))).trans HB2.out)
      replace HB4 := Aside0.mk ((hgr.block h4 (blk_lt HB4.out) (fun e => HN5.out.2.2.1 (Option.some.inj e))).trans HB4.out)
      replace HB3 := Aside0.mk ((hgr.block h3 (blk_lt HB3.out) (fun e => HN5.out.2.2.2 (Option.some.inj e))).trans HB3.out)
      have hs : (World.setRow wn h5 #[.int .i64 (i : Int), .int .u64 t0, .int .u64 d0]).heap[h2]? = some (.cells #[.int .i64 (s : Int), .int .i64 (N : Int), .slice A l.length c] 64 (0, 0)) ∧ (World.setRow wn h5 #[.int .i64 (i : Int), .int .u64 t0, .int .u64 d0]).heap[h3]? = some (.cells (geA g) 41 (0, 0)) := ⟨HB2.out, HB3.out⟩
      generalize World.setRow wn h5 #[.int .i64 (i : Int), .int .u64 t0, .int .u64 d0] = wb at hb2 hs HG HB2 HB4 HB3 ⊢
      replace HB5 := Aside0.mk hb2
      clear hgr hb2
      refine hK.out _ _ hs (fun hHeld => ?_)
      clear hK K
      refine norm_ (a' := ?_) ?_ ?_
      rotate_left
      · show Act.put _ none _ = _
        rfl
      refine done_ (done_of HT_.out (by kernel_rfl)) ?_
  rotate_left 2
  focus
    refine box_step ?hg (N := 5) ?hd (cs := #[.int .i64 0, .int .u64 0, .int .u64 0]) (t := 141) ?hr ?_; (case hd => rfl); (case hg => rfl); (case hr => first | (go_simp; done) | (go_simp; rfl))
    intro h5 hg5 wn hbox hb
    have HB5 := Aside0.mk hbox
    have HN5 := Aside0.mk (show W.heap.size ≤ h5 ∧ h2 ≠ h5 ∧ h4 ≠ h5 ∧ h3 ≠ h5 from ⟨by rw [hg5]; exact HG.out.size, fun e => by have := blk_lt HB2.out; omega, fun e => by have := blk_lt HB4.out; omega, fun e => by have := blk_lt HB3.out; omega⟩)
    have hg := below_grown hb
    replace HG := Aside0.mk (grown_two HG.out hg)
    replace HB2 := Aside0.mk (blk_grown HB2.out hg)
    replace HB4 := Aside0.mk (blk_grown HB4.out hg)
    replace HB3 := Aside0.mk (blk_grown HB3.out hg)
    have hs : wn.heap[h2]? = some (.cells #[.int .i64 (s : Int), .int .i64 (N : Int), .slice A l.length c] 64 (0, 0)) ∧ wn.heap[h3]? = some (.cells (geA g) 41 (0, 0)) := ⟨blk_grown hHeld.1 hg, blk_grown hHeld.2 hg⟩
    clear hg hg5 hbox hb
    refine hK.out _ _ hs (fun hHeld => ?_)
    clear hK K
    refine norm_ (a' := ?_) ?_ ?_
    rotate_left
    · show Act.put _ (some 5) _ = _
      simp only [ap_]
      rfl
    refine one_ (i := 4) (N := some 10) #[true, true, true, true, true, false, true, false] rfl rfl (one_of HT_.out (by kernel_rfl)) (by decide) (fun K hK => ?_)
    refine goes_ Tryz.func92 (by kernel_rfl) rfl #[.agg #[.int .i64 (s : Int), .int .i64 (N : Int), .slice A l.length c], .int .u64 (g.v : Int)] (by rfl) rfl rfl (by (try simp only [List.map_toArray, List.map_cons, List.map_nil]); first | done | rfl) ?_
    refine (lookasideref10_place.calls _ _ A c l _ _ _ (Kd.C_below HC0.out (below_of_grown HG.out)) HCC.out HPL.out).mono ?_
    rintro x0 wn ⟨rfl, hb⟩
    have hg := below_grown hb
    replace HG := Aside0.mk (grown_two HG.out hg)
    replace HB2 := Aside0.mk (blk_grown HB2.out hg)
    replace HB4 := Aside0.mk (blk_grown HB4.out hg)
    replace HB3 := Aside0.mk (blk_grown HB3.out hg)
    have hs : wn.heap[h2]? = some (.cells #[.int .i64 (s : Int), .int .i64 (N : Int), .slice A l.length c] 64 (0, 0)) ∧ wn.heap[h3]? = some (.cells (geA g) 41 (0, 0)) := ⟨blk_grown hHeld.1 hg, blk_grown hHeld.2 hg⟩
    replace HB5 := Aside0.mk (blk_grown HB5.out hg)
    clear hg hb
    refine ⟨_, rfl, ?_⟩
    refine hK.out _ _ hs (fun hHeld => ?_)
    clear hK K
    refine norm_ (a' := ?_) ?_ ?_
    rotate_left
    · show Act.put _ (some 10) _ = _
      simp only [ap_]
      rfl
    refine one_ (i := 5) (N := some 11) #[true, true, true, true, true, true, true, false] rfl rfl (one_of HT_.out (by kernel_rfl)) (by decide) (fun K hK => ?_)
    refine goes_ Tryz.func91 (by kernel_rfl) rfl #[.agg #[.int .i64 (s : Int), .int .i64 (N : Int), .slice A l.length c], .int .i64 (i : Int)] (by rfl) rfl rfl (by (try simp only [List.map_toArray, List.map_cons, List.map_nil]); first | done | rfl) ?_
    refine (lookasideref10_Get.calls (l.length + 1) _ _ A c l _ _ _ _ _ (Kd.C_below HC0.out (below_of_grown HG.out)) HCC.out HGT.out).mono ?_
    rintro x0 wn ⟨rfl, hb⟩
    have hg := below_grown hb
    replace HG := Aside0.mk (grown_two HG.out hg)
    replace HB2 := Aside0.mk (blk_grown HB2.out hg)
    replace HB4 := Aside0.mk (blk_grown HB4.out hg)
    replace HB3 := Aside0.mk (blk_grown HB3.out hg)
    have hs : wn.heap[h2]? = some (.cells #[.int .i64 (s : Int), .int .i64 (N : Int), .slice A l.length c] 64 (0, 0)) ∧ wn.heap[h3]? = some (.cells (geA g) 41 (0, 0)) := ⟨blk_grown hHeld.1 hg, blk_grown hHeld.2 hg⟩
    replace HB5 := Aside0.mk (blk_grown HB5.out hg)
    clear hg hb
    refine ⟨_, rfl, ?_⟩
    refine hK.out _ _ hs (fun hHeld => ?_)
    clear hK K
    refine norm_ (a' := ?_) ?_ ?_
    rotate_left
    · show Act.put _ (some 11) _ = _
      simp only [ap_]
      rfl
    refine one_ (i := 7) (N := none) #[true, true, true, true, true, true, true, true] rfl rfl (one_of HT_.out (by kernel_rfl)) (by decide) (fun K hK => ?_)
    rw [if_pos (by rfl)]
    refine wp_store_row 141 (.tmp 5) (.tmp 11) rfl h5 #[.int .i64 (i : Int), .int .u64 t0, .int .u64 d0] rfl rfl 141 #[.int .i64 0, .int .u64 0, .int .u64 0] HB5.out (by kernel_rfl) rfl (by kernel_rfl) ?_
    have hb2 := setRow_heap wn h5 _ #[.int .i64 (i : Int), .int .u64 t0, .int .u64 d0] _ _ HB5.out
    have hgr := grown_row wn h5 #[.int .i64 (i : Int), .int .u64 t0, .int .u64 d0]
    replace HG := Aside0.mk (grown_loc HG.out hgr HN5.out.1)
    replace HB2 := Aside0.mk ((hgr.block h2 (blk_lt HB2.out) (fun e => HN5.out.2.1 (Option.some.inj e))).trans HB2.out)
    replace HB4 := Aside0.mk ((hgr.block h4 (blk_lt HB4.out) (fun e => HN5.out.2.2.1 (Option.some.inj e))).trans HB4.out)
    replace HB3 := Aside0.mk ((hgr.block h3 (blk_lt HB3.out) (fun e => HN5.out.2.2.2 (Option.some.inj e))).trans HB3.out)
    have hs : (World.setRow wn h5 #[.int .i64 (i : Int), .int .u64 t0, .int .u64 d0]).heap[h2]? = some (.cells #[.int .i64 (s : Int), .int .i64 (N : Int), .slice A l.length c] 64 (0, 0)) ∧ (World.setRow wn h5 #[.int .i64 (i : Int), .int .u64 t0, .int .u64 d0]).heap[h3]? = some (.cells (geA g) 41 (0, 0)) := ⟨HB2.out, HB3.out⟩
    generalize World.setRow wn h5 #[.int .i64 (i : Int), .int .u64 t0, .int .u64 d0] = wb at hb2 hs HG HB2 HB4 HB3 ⊢
    replace HB5 := Aside0.mk hb2
    clear hgr hb2
    refine hK.out _ _ hs (fun hHeld => ?_)
    clear hK K
    refine norm_ (a' := ?_) ?_ ?_
    rotate_left
    · show Act.put _ none _ = _
      rfl
    refine done_ (done_of HT_.out (by kernel_rfl)) ?_
  all_goals
    have hz3 := tte_Read.cz11 HB3.out
    obtain ⟨z0, z1, z2, z3, z4, z5, z6, z7, z8, z9, z10⟩ := hz3
    clear hHeld
    go_upto_region 3 with (go_at_call 93; refine (lookasideref03_Tag.calls 500 _ _ _ _ _ _ _ _ _ _ _ _ _ HEF.out).mono ?_; rintro e wm ⟨rfl, hb⟩; have hg := below_grown hb; replace HG := Aside0.mk (grown_two HG.out hg); replace HB2 := Aside0.mk (blk_grown HB2.out hg); replace HB4 := Aside0.mk (blk_grown HB4.out hg); replace HB5 := Aside0.mk (blk_grown HB5.out hg); obtain ⟨u0, u1, u2⟩ := cz3q HB5.out; have zf := blk_frozen HB5.out 1; clear hg hb)
    clear zf u0 u1 u2 z0 z1 z2 z3 z4 z5 z6 z7 z8 z9 z10
    have hgc := grown_cellq wm ⟨h5, 1, none⟩ (.int .u64 (g.tag : Int))
    have hk5 : ∀ k, some h5 = some k → ∃ cs, wm.heap[k]? = some (.cells cs 141 (0, 0)) := fun k e => by cases e; exact ⟨_, HB5.out⟩
    have hb5 : (wm.setCell ⟨h5, 1, none⟩ (.int .u64 (g.tag : Int))).heap[h5]? = some (.cells #[.int .i64 (i : Int), .int .u64 (g.tag : Int), .int .u64 d0] 141 (0, 0)) := blk_put HB5.out 1 (.int .u64 (g.tag : Int)) rfl
    replace HB2 := Aside0.mk (blk_keptR HB2.out hgc hk5 (by decide))
    replace HB4 := Aside0.mk (blk_keptR HB4.out hgc hk5 (by decide))
    replace HG := Aside0.mk (below_grownW HG.out hgc (fun k e => by obtain rfl : h5 = k := Option.some.inj e; exact HN5.out.1))
    generalize wm.setCell ⟨h5, 1, none⟩ (.int .u64 (g.tag : Int)) = wq at hb5 HB2 HB4 HG ⊢
    replace HB5 := Aside0.mk hb5
    clear hgc hk5 hb5
    obtain ⟨q0, q1, q2⟩ := cz3q HB2.out
    obtain ⟨u0, u1, u2⟩ := cz3q HB5.out
    go_wp2_with fail
    refine (lookasideref10_put.calls (l.length + 1) _ _ A c l _ _ _ _ _ _ _ (Kd.C_below HC0.out (below_of_grown HG.out)) HCC.out HPT.out).mono ?_
    rintro x0 wr ⟨v2, rfl, hR, hb⟩
    obtain ⟨A2, c2, rfl⟩ := Kd.R_slice hR
    have hg := below_grown hb
    have HR := Aside0.mk (Kd.R_lower hR HG.out.size)
    replace HG := Aside0.mk (grown_two HG.out hg)
    replace HB4 := Aside0.mk (blk_grown HB4.out hg)
    have HLN := Aside0.mk (show True from trivial)
    clear hR hb hg q0 q1 q2 u0 u1 u2
    go_wp2_with (first | ((with_reducible refine gate_store (t := 64) (p := 4) rfl ?_); refine wpList_store_row rfl 64 (.tmp 4) (.tmp 17) rfl h4 #[.int .i64 (s : Int), .int .i64 (N : Int), .slice A2 (pW l (i : Int) (g.tag : Int) (gW l (i : Int)).2).length c2] rfl rfl 64 _ HB4.out (by kernel_rfl) rfl (by kernel_rfl) ?_; have SHB4 := Aside0.mk (setRow_heap _ h4 _ #[.int .i64 (s : Int), .int .i64 (N : Int), .slice A2 (pW l (i : Int) (g.tag : Int) (gW l (i : Int)).2).length c2] _ _ HB4.out); have THB4 := Aside0.mk (grown_row wr h4 #[.int .i64 (s : Int), .int .i64 (N : Int), .slice A2 (pW l (i : Int) (g.tag : Int) (gW l (i : Int)).2).length c2])))
    replace HR := Aside0.mk (Kd.R_mono (ok' := fun _ => True) (Kd.R_grown (Kd.R_types HR.out HB4.out (by decide)) THB4.out (fun k hk e => hk.2 (Option.some.inj e))) (fun _ _ => trivial))
    replace HG := Aside0.mk (grown_loc HG.out THB4.out (by have := HH.out; omega))
    obtain ⟨q0, q1, q2⟩ := cz3q SHB4.out
    exact bodyPost_ret (v := .agg #[.int .i64 (s : Int), .int .i64 (N : Int), .slice A2 (pW l (i : Int) (g.tag : Int) (gW l (i : Int)).2).length c2]) (by simp [results, Tryz.f60, go_sem, q0, q1, q2]) rfl ⟨_, rfl, HR.out, HG.out⟩
noncomputable def rputdata1_T : Bool × List (List Nat × List Nat) := rtab .any (opsOf Tryz.f61 1)
theorem rputdata1_tab : rtab .any (opsOf Tryz.f61 1) = rputdata1_T := rfl
theorem rputdata_calls {s N : Nat} (hs : s < 4) (h1 : 1 ≤ N) (hN : N ≤ 4096) {A : Option Addr} {c : Nat} {l : List WS} (g : GE) (hgo : g.ok) (hgs : g.s = s) {W : World} (hC : Kd.C k141 W A l.length l) (hc : l.length ≤ c) (hl : l.length ≤ 1000000) :
    Calls Tryz.prog 61 #[.agg #[.int .i64 (s : Int), .int .i64 (N : Int), .slice A l.length c], .agg (geA g)] W fun e W' => ∃ v, e = .returned (.agg #[.int .i64 (s : Int), .int .i64 (N : Int), v]) ∧ Kd.R k141 141 W' W.heap.size (fun _ => True) v (pW l (plcOf N (s : Int) g.v : Int) (gW l (plcOf N (s : Int) g.v : Int)).1 (g.data : Int)) ∧ W.grownBy W' none := by
  have hu := Tryz.underlying64
  have hu2 := Tryz.underlying141
  have hu3 := Tryz.underlying41
  have HC0 := Aside0.mk hC
  have HCC := Aside0.mk hc
  obtain ⟨i, hi⟩ : ∃ i, i = plcOf N (s : Int) g.v := ⟨_, rfl⟩
  have HPL := Aside0.mk (show lookasideref10_place.f (s : Int) (N : Int) l (g.v : Int) = some (i : Int) from by rw [hi]; exact plc_f g.v hgo.hv s N hs h1 (by omega) l)
  obtain ⟨t0, ht0⟩ : ∃ t, t = (gW l (i : Int)).1 := ⟨_, rfl⟩
  obtain ⟨d0, hd0⟩ : ∃ d, d = (gW l (i : Int)).2 := ⟨_, rfl⟩
  have HGT := Aside0.mk (show lookasideref10_Get.f (l.length + 1) (s : Int) (N : Int) l (i : Int) = some ((i : Int), t0, d0) by rw [ht0, hd0]; exact gW_f _ _ _ l (by omega) (Nat.le_refl _))
  rw [← hi]
  have HEF := Aside0.mk (show lookasideref03_Data.f 500 (g.s : Int) (g.c : Int) (g.v : Int) (g.p : Int) g.w g.pr g.x g.l g.g g.q true = some (g.data : Int) from hgo.rdataF)
  have HGS := Aside0.mk (And.intro hgo hgs)
  clear hgo hgs
  have HPT := Aside0.mk (show lookasideref10_put.f (l.length + 1) (s : Int) (N : Int) l (i : Int) t0 (g.data : Int) = some ((s : Int), (N : Int), pW l (i : Int) (gW l (i : Int)).1 (g.data : Int)) from by rw [← ht0]; exact pW_f _ _ _ _ _ l (by omega) (Nat.le_refl _))
  have hgb0 := World.grownBy_alloc (W) (.cells #[.int .i64 (s : Int), .int .i64 (N : Int), .slice A l.length c] 64) none
  have hb2 := heap_alloc_new (W) (.cells #[.int .i64 (s : Int), .int .i64 (N : Int), .slice A l.length c] 64)
  have hgb1 := World.grownBy_alloc ((W).alloc (.cells #[.int .i64 (s : Int), .int .i64 (N : Int), .slice A l.length c] 64)) (.cells (geA g) 41) none
  have hb3 := heap_alloc_new ((W).alloc (.cells #[.int .i64 (s : Int), .int .i64 (N : Int), .slice A l.length c] 64)) (.cells (geA g) 41)
  have hz1 : ((W).alloc (.cells #[.int .i64 (s : Int), .int .i64 (N : Int), .slice A l.length c] 64)).heap.size = W.heap.size + 1 := by simp only [World.size_alloc]
  rw [hz1] at hb3
  have hgb2 := World.grownBy_alloc (((W).alloc (.cells #[.int .i64 (s : Int), .int .i64 (N : Int), .slice A l.length c] 64)).alloc (.cells (geA g) 41)) (.cells #[.int .i64 0, .int .i64 0, .slice none 0 0] 64) none
  have hb4 := heap_alloc_new (((W).alloc (.cells #[.int .i64 (s : Int), .int .i64 (N : Int), .slice A l.length c] 64)).alloc (.cells (geA g) 41)) (.cells #[.int .i64 0, .int .i64 0, .slice none 0 0] 64)
  have hz2 : (((W).alloc (.cells #[.int .i64 (s : Int), .int .i64 (N : Int), .slice A l.length c] 64)).alloc (.cells (geA g) 41)).heap.size = W.heap.size + 2 := by simp only [World.size_alloc]
  rw [hz2] at hb4
  have HG := Aside0.mk (grown_two (grown_two hgb0 hgb1) hgb2)
  have HB2 := Aside0.mk (blk_grown (blk_grown (hb2) hgb1) hgb2)
  have HB3 := Aside0.mk (blk_grown (hb3) hgb2)
  have HB4 := Aside0.mk (hb4)
  clear hgb0 hgb1 hgb2 hb2 hb3 hb4 hz1 hz2 hC hc
  go_enter Tryz.func61, Tryz.ntmps61
  go_wp2_with fail
  obtain ⟨h2, hh0⟩ : ∃ z, z = W.heap.size := ⟨_, rfl⟩
  obtain ⟨h3, hh1⟩ : ∃ z, z = W.heap.size + 1 := ⟨_, rfl⟩
  obtain ⟨h4, hh2⟩ : ∃ z, z = W.heap.size + 2 := ⟨_, rfl⟩
  rw [← hh0] at HB2
  rw [← hh1] at HB3
  rw [← hh2] at HB4
  rw [← hh2, ← hh1, ← hh0]
  have HH := Aside0.mk (And.intro hh0 (And.intro hh1 hh2))
  clear hh0 hh1 hh2 ht0 hd0 hi
  have hg := grown_drew ((((W).alloc (.cells #[.int .i64 (s : Int), .int .i64 (N : Int), .slice A l.length c] 64)).alloc (.cells (geA g) 41)).alloc (.cells #[.int .i64 0, .int .i64 0, .slice none 0 0] 64)) none
  replace HB2 := Aside0.mk (blk_grown HB2.out hg)
  replace HB3 := Aside0.mk (blk_grown HB3.out hg)
  replace HB4 := Aside0.mk (blk_grown HB4.out hg)
  replace HG := Aside0.mk (grown_two HG.out hg)
  clear hg
  refine start_ (n := 8) (S := fun w' => w'.heap[h2]? = some (.cells #[.int .i64 (s : Int), .int .i64 (N : Int), .slice A l.length c] 64 (0, 0)) ∧ w'.heap[h3]? = some (.cells (geA g) 41 (0, 0))) (ds := []) #[false, false, false, false, false, false, false, false] (by kernel_rfl) rfl rfl ⟨HB2.out, HB3.out⟩ (fun hHeld => ?_)
  refine with_tab rputdata1_tab (fun HT_ => ?_)
  refine pure_ (i := 2) (N := some 8) (v := ?_) (a' := ?_) #[false, false, true, false, false, false, false, false] rfl rfl (any_of HT_.out (by kernel_rfl)) (fun _ _ _ h => h) (Or.inl ⟨by rfl, ?_⟩) ?_ ?_
  rotate_left
  · intro w'
    go_simp
    with_reducible rfl
  rotate_left
  · simp only [ap_]
    rfl
  refine take_ (i := 0) (N := some 6) (v := .agg #[.int .i64 (s : Int), .int .i64 (N : Int), .slice A l.length c]) (a' := ?_) #[true, false, true, false, false, false, false, false] rfl rfl (take_of HT_.out (by kernel_rfl)) (fun _ _ _ h => h) (Or.inl ⟨by rfl, ?_⟩) hHeld ?_ ?_
  · rintro w' ⟨s1, s2⟩
    obtain ⟨q0, q1, q2⟩ := cz3q s1
    go_simp
  rotate_left
  · simp only [ap_]
    rfl
  refine take_ (i := 1) (N := some 7) (v := .agg #[.int .i64 (s : Int), .int .i64 (N : Int), .slice A l.length c]) (a' := ?_) #[true, true, true, false, false, false, false, false] rfl rfl (take_of HT_.out (by kernel_rfl)) (fun _ _ _ h => h) (Or.inl ⟨by rfl, ?_⟩) hHeld ?_ ?_
  · rintro w' ⟨s1, s2⟩
    obtain ⟨q0, q1, q2⟩ := cz3q s1
    go_simp
  rotate_left
  · simp only [ap_]
    rfl
  refine take_ (i := 3) (N := some 9) (v := .int .u64 (g.v : Int)) (a' := ?_) #[true, true, true, true, false, false, false, false] rfl rfl (take_of HT_.out (by kernel_rfl)) (fun _ _ _ h => h) (Or.inl ⟨by rfl, ?_⟩) hHeld ?_ ?_
  · rintro w' ⟨s1, s2⟩
    obtain ⟨z0, z1, z2, z3, z4, z5, z6, z7, z8, z9, z10⟩ := tte_Read.cz11 s2
    go_simp
  rotate_left
  · simp only [ap_]
    rfl
  refine two_ (i := 4) (j := 6) (Ni := some 10) (Nj := some 5) #[true, true, true, true, true, false, false, false] #[true, true, true, true, false, false, true, false] rfl rfl rfl rfl (two_of HT_.out (by kernel_rfl)) (by decide) (by decide) (fun K hK => ?_) (fun K hK => ?_)
  focus
    refine goes_ Tryz.func92 (by kernel_rfl) rfl #[.agg #[.int .i64 (s : Int), .int .i64 (N : Int), .slice A l.length c], .int .u64 (g.v : Int)] (by rfl) rfl rfl (by (try simp only [List.map_toArray, List.map_cons, List.map_nil]); first | done | rfl) ?_
    refine (lookasideref10_place.calls _ _ A c l _ _ _ (Kd.C_below HC0.out (below_of_grown HG.out)) HCC.out HPL.out).mono ?_
    rintro x0 wn ⟨rfl, hb⟩
    have hg := below_grown hb
    replace HG := Aside0.mk (grown_two HG.out hg)
    replace HB2 := Aside0.mk (blk_grown HB2.out hg)
    replace HB4 := Aside0.mk (blk_grown HB4.out hg)
    replace HB3 := Aside0.mk (blk_grown HB3.out hg)
    have hs : wn.heap[h2]? = some (.cells #[.int .i64 (s : Int), .int .i64 (N : Int), .slice A l.length c] 64 (0, 0)) ∧ wn.heap[h3]? = some (.cells (geA g) 41 (0, 0)) := ⟨blk_grown hHeld.1 hg, blk_grown hHeld.2 hg⟩
    clear hg hb
    refine ⟨_, rfl, ?_⟩
    refine hK.out _ _ hs (fun hHeld => ?_)
    clear hK K
    refine norm_ (a' := ?_) ?_ ?_
    rotate_left
    · show Act.put _ (some 10) _ = _
      simp only [ap_]
      rfl
    refine two_ (i := 5) (j := 6) (Ni := some 11) (Nj := some 5) #[true, true, true, true, true, true, false, false] #[true, true, true, true, true, false, true, false] rfl rfl rfl rfl (two_of HT_.out (by kernel_rfl)) (by decide) (by decide) (fun K hK => ?_) (fun K hK => ?_)
    focus
      refine goes_ Tryz.func91 (by kernel_rfl) rfl #[.agg #[.int .i64 (s : Int), .int .i64 (N : Int), .slice A l.length c], .int .i64 (i : Int)] (by rfl) rfl rfl (by (try simp only [List.map_toArray, List.map_cons, List.map_nil]); first | done | rfl) ?_
      refine (lookasideref10_Get.calls (l.length + 1) _ _ A c l _ _ _ _ _ (Kd.C_below HC0.out (below_of_grown HG.out)) HCC.out HGT.out).mono ?_
      rintro x0 wn ⟨rfl, hb⟩
      have hg := below_grown hb
      replace HG := Aside0.mk (grown_two HG.out hg)
      replace HB2 := Aside0.mk (blk_grown HB2.out hg)
      replace HB4 := Aside0.mk (blk_grown HB4.out hg)
      replace HB3 := Aside0.mk (blk_grown HB3.out hg)
      have hs : wn.heap[h2]? = some (.cells #[.int .i64 (s : Int), .int .i64 (N : Int), .slice A l.length c] 64 (0, 0)) ∧ wn.heap[h3]? = some (.cells (geA g) 41 (0, 0)) := ⟨blk_grown hHeld.1 hg, blk_grown hHeld.2 hg⟩
      clear hg hb
      refine ⟨_, rfl, ?_⟩
      refine hK.out _ _ hs (fun hHeld => ?_)
      clear hK K
      refine norm_ (a' := ?_) ?_ ?_
      rotate_left
      · show Act.put _ (some 11) _ = _
        simp only [ap_]
        rfl
      refine one_ (i := 6) (N := some 5) #[true, true, true, true, true, true, true, false] rfl rfl (one_of HT_.out (by kernel_rfl)) (by decide) (fun K hK => ?_)
      refine box_step ?hg (N := 5) ?hd (cs := #[.int .i64 0, .int .u64 0, .int .u64 0]) (t := 141) ?hr ?_; (case hd => rfl); (case hg => rfl); (case hr => first | (go_simp; done) | (go_simp; rfl))
      intro h5 hg5 wn hbox hb
      have HB5 := Aside0.mk hbox
      have HN5 := Aside0.mk (show W.heap.size ≤ h5 ∧ h2 ≠ h5 ∧ h4 ≠ h5 ∧ h3 ≠ h5 from ⟨by rw [hg5]; exact HG.out.size, fun e => by have := blk_lt HB2.out; omega, fun e => by have := blk_lt HB4.out; omega, fun e => by have := blk_lt HB3.out; omega⟩)
      have hg := below_grown hb
      replace HG := Aside0.mk (grown_two HG.out hg)
      replace HB2 := Aside0.mk (blk_grown HB2.out hg)
      replace HB4 := Aside0.mk (blk_grown HB4.out hg)
      replace HB3 := Aside0.mk (blk_grown HB3.out hg)
      have hs : wn.heap[h2]? = some (.cells #[.int .i64 (s : Int), .int .i64 (N : Int), .slice A l.length c] 64 (0, 0)) ∧ wn.heap[h3]? = some (.cells (geA g) 41 (0, 0)) := ⟨blk_grown hHeld.1 hg, blk_grown hHeld.2 hg⟩
      clear hg hg5 hbox hb
      refine hK.out _ _ hs (fun hHeld => ?_)
      clear hK K
      refine norm_ (a' := ?_) ?_ ?_
      rotate_left
      · show Act.put _ (some 5) _ = _
        simp only [ap_]
        rfl
      refine one_ (i := 7) (N := none) #[true, true, true, true, true, true, true, true] rfl rfl (one_of HT_.out (by kernel_rfl)) (by decide) (fun K hK => ?_)
      rw [if_pos (by rfl)]
      refine wp_store_row 141 (.tmp 5) (.tmp 11) rfl h5 #[.int .i64 (i : Int), .int .u64 t0, .int .u64 d0] rfl rfl 141 #[.int .i64 0, .int .u64 0, .int .u64 0] HB5.out (by kernel_rfl) rfl (by kernel_rfl) ?_
      have hb2 := setRow_heap wn h5 _ #[.int .i64 (i : Int), .int .u64 t0, .int .u64 d0] _ _ HB5.out
      have hgr := grown_row wn h5 #[.int .i64 (i : Int), .int .u64 t0, .int .u64 d0]
      replace HG := Aside0.mk (grown_loc HG.out hgr HN5.out.1)
      replace HB2 := Aside0.mk ((hgr.block h2 (blk_lt HB2.out) (fun e => HN5.out.2.1 (Option.some.inj e))).trans HB2.out)
      replace HB4 := Aside0.mk ((hgr.block h4 (blk_lt HB4.out) (fun e => HN5.out.2.2.1 (Option.some.inj e))).trans HB4.out)
      replace HB3 := Aside0.mk ((hgr.block h3 (blk_lt HB3.out) (fun e => HN5.out.2.2.2 (Option.some.inj e))).trans HB3.out)
      have hs : (World.setRow wn h5 #[.int .i64 (i : Int), .int .u64 t0, .int .u64 d0]).heap[h2]? = some (.cells #[.int .i64 (s : Int), .int .i64 (N : Int), .slice A l.length c] 64 (0, 0)) ∧ (World.setRow wn h5 #[.int .i64 (i : Int), .int .u64 t0, .int .u64 d0]).heap[h3]? = some (.cells (geA g) 41 (0, 0)) := ⟨HB2.out, HB3.out⟩
      generalize World.setRow wn h5 #[.int .i64 (i : Int), .int .u64 t0, .int .u64 d0] = wb at hb2 hs HG HB2 HB4 HB3 ⊢
      replace HB5 := Aside0.mk hb2
      clear hgr hb2
      refine hK.out _ _ hs (fun hHeld => ?_)
      clear hK K
      refine norm_ (a' := ?_) ?_ ?_
      rotate_left
      · show Act.put _ none _ = _
        rfl
      refine done_ (done_of HT_.out (by kernel_rfl)) ?_
    rotate_left
    focus
      refine box_step ?hg (N := 5) ?hd (cs := #[.int .i64 0, .int .u64 0, .int .u64 0]) (t := 141) ?hr ?_; (case hd => rfl); (case hg => rfl); (case hr => first | (go_simp; done) | (go_simp; rfl))
      intro h5 hg5 wn hbox hb
      have HB5 := Aside0.mk hbox
      have HN5 := Aside0.mk (show W.heap.size ≤ h5 ∧ h2 ≠ h5 ∧ h4 ≠ h5 ∧ h3 ≠ h5 from ⟨by rw [hg5]; exact HG.out.size, fun e => by have := blk_lt HB2.out; omega, fun e => by have := blk_lt HB4.out; omega, fun e => by have := blk_lt HB3.out; omega⟩)
      have hg := below_grown hb
      replace HG := Aside0.mk (grown_two HG.out hg)
      replace HB2 := Aside0.mk (blk_grown HB2.out hg)
      replace HB4 := Aside0.mk (blk_grown HB4.out hg)
      replace HB3 := Aside0.mk (blk_grown HB3.out hg)
      have hs : wn.heap[h2]? = some (.cells #[.int .i64 (s : Int), .int .i64 (N : Int), .slice A l.length c] 64 (0, 0)) ∧ wn.heap[h3]? = some (.cells (geA g) 41 (0, 0)) := ⟨blk_grown hHeld.1 hg, blk_grown hHeld.2 hg⟩
      clear hg hg5 hbox hb
      refine hK.out _ _ hs (fun hHeld => ?_)
      clear hK K
      refine norm_ (a' := ?_) ?_ ?_
      rotate_left
      · show Act.put _ (some 5) _ = _
        simp only [ap_]
        rfl
      refine one_ (i := 5) (N := some 11) #[true, true, true, true, true, true, true, false] rfl rfl (one_of HT_.out (by kernel_rfl)) (by decide) (fun K hK => ?_)
      refine goes_ Tryz.func91 (by kernel_rfl) rfl #[.agg #[.int .i64 (s : Int), .int .i64 (N : Int), .slice A l.length c], .int .i64 (i : Int)] (by rfl) rfl rfl (by (try simp only [List.map_toArray, List.map_cons, List.map_nil]); first | done | rfl) ?_
      refine (lookasideref10_Get.calls (l.length + 1) _ _ A c l _ _ _ _ _ (Kd.C_below HC0.out (below_of_grown HG.out)) HCC.out HGT.out).mono ?_
      rintro x0 wn ⟨rfl, hb⟩
      have hg := below_grown hb
      replace HG := Aside0.mk (grown_two HG.out hg)
      replace HB2 := Aside0.mk (blk_grown HB2.out hg)
      replace HB4 := Aside0.mk (blk_grown HB4.out hg)
      replace HB3 := Aside0.mk (blk_grown HB3.out hg)
      have hs : wn.heap[h2]? = some (.cells #[.int .i64 (s : Int), .int .i64 (N : Int), .slice A l.length c] 64 (0, 0)) ∧ wn.heap[h3]? = some (.cells (geA g) 41 (0, 0)) := ⟨blk_grown hHeld.1 hg, blk_grown hHeld.2 hg⟩
      replace HB5 := Aside0.mk (blk_grown HB5.out hg)
      clear hg hb
      refine ⟨_, rfl, ?_⟩
      refine hK.out _ _ hs (fun hHeld => ?_)
      clear hK K
      refine norm_ (a' := ?_) ?_ ?_
      rotate_left
      · show Act.put _ (some 11) _ = _
        simp only [ap_]
        rfl
      refine one_ (i := 7) (N := none) #[true, true, true, true, true, true, true, true] rfl rfl (one_of HT_.out (by kernel_rfl)) (by decide) (fun K hK => ?_)
      rw [if_pos (by rfl)]
      refine wp_store_row 141 (.tmp 5) (.tmp 11) rfl h5 #[.int .i64 (i : Int), .int .u64 t0, .int .u64 d0] rfl rfl 141 #[.int .i64 0, .int .u64 0, .int .u64 0] HB5.out (by kernel_rfl) rfl (by kernel_rfl) ?_
      have hb2 := setRow_heap wn h5 _ #[.int .i64 (i : Int), .int .u64 t0, .int .u64 d0] _ _ HB5.out
      have hgr := grown_row wn h5 #[.int .i64 (i : Int), .int .u64 t0, .int .u64 d0]
      replace HG := Aside0.mk (grown_loc HG.out hgr HN5.out.1)
      replace HB2 := Aside0.mk ((hgr.block h2 (blk_lt HB2.out) (fun e => HN5.out.2.1 (Option.some.inj e))).trans HB2.out)
      replace HB4 := Aside0.mk ((hgr.block h4 (blk_lt HB4.out) (fun e => HN5.out.2.2.1 (Option.some.inj e))).trans HB4.out)
      replace HB3 := Aside0.mk ((hgr.block h3 (blk_lt HB3.out) (fun e => HN5.out.2.2.2 (Option.some.inj e))).trans HB3.out)
      have hs : (World.setRow wn h5 #[.int .i64 (i : Int), .int .u64 t0, .int .u64 d0]).heap[h2]? = some (.cells #[.int .i64 (s : Int), .int .i64 (N : Int), .slice A l.length c] 64 (0, 0)) ∧ (World.setRow wn h5 #[.int .i64 (i : Int), .int .u64 t0, .int .u64 d0]).heap[h3]? = some (.cells (geA g) 41 (0, 0)) := ⟨HB2.out, HB3.out⟩
      generalize World.setRow wn h5 #[.int .i64 (i : Int), .int .u64 t0, .int .u64 d0] = wb at hb2 hs HG HB2 HB4 HB3 ⊢
      replace HB5 := Aside0.mk hb2
      clear hgr hb2
      refine hK.out _ _ hs (fun hHeld => ?_)
      clear hK K
      refine norm_ (a' := ?_) ?_ ?_
      rotate_left
      · show Act.put _ none _ = _
        rfl
      refine done_ (done_of HT_.out (by kernel_rfl)) ?_
  rotate_left 2
  focus
    refine box_step ?hg (N := 5) ?hd (cs := #[.int .i64 0, .int .u64 0, .int .u64 0]) (t := 141) ?hr ?_; (case hd => rfl); (case hg => rfl); (case hr => first | (go_simp; done) | (go_simp; rfl))
    intro h5 hg5 wn hbox hb
    have HB5 := Aside0.mk hbox
    have HN5 := Aside0.mk (show W.heap.size ≤ h5 ∧ h2 ≠ h5 ∧ h4 ≠ h5 ∧ h3 ≠ h5 from ⟨by rw [hg5]; exact HG.out.size, fun e => by have := blk_lt HB2.out; omega, fun e => by have := blk_lt HB4.out; omega, fun e => by have := blk_lt HB3.out; omega⟩)
    have hg := below_grown hb
    replace HG := Aside0.mk (grown_two HG.out hg)
    replace HB2 := Aside0.mk (blk_grown HB2.out hg)
    replace HB4 := Aside0.mk (blk_grown HB4.out hg)
    replace HB3 := Aside0.mk (blk_grown HB3.out hg)
    have hs : wn.heap[h2]? = some (.cells #[.int .i64 (s : Int), .int .i64 (N : Int), .slice A l.length c] 64 (0, 0)) ∧ wn.heap[h3]? = some (.cells (geA g) 41 (0, 0)) := ⟨blk_grown hHeld.1 hg, blk_grown hHeld.2 hg⟩
    clear hg hg5 hbox hb
    refine hK.out _ _ hs (fun hHeld => ?_)
    clear hK K
    refine norm_ (a' := ?_) ?_ ?_
    rotate_left
    · show Act.put _ (some 5) _ = _
      simp only [ap_]
      rfl
    refine one_ (i := 4) (N := some 10) #[true, true, true, true, true, false, true, false] rfl rfl (one_of HT_.out (by kernel_rfl)) (by decide) (fun K hK => ?_)
    refine goes_ Tryz.func92 (by kernel_rfl) rfl #[.agg #[.int .i64 (s : Int), .int .i64 (N : Int), .slice A l.length c], .int .u64 (g.v : Int)] (by rfl) rfl rfl (by (try simp only [List.map_toArray, List.map_cons, List.map_nil]); first | done | rfl) ?_
    refine (lookasideref10_place.calls _ _ A c l _ _ _ (Kd.C_below HC0.out (below_of_grown HG.out)) HCC.out HPL.out).mono ?_
    rintro x0 wn ⟨rfl, hb⟩
    have hg := below_grown hb
    replace HG := Aside0.mk (grown_two HG.out hg)
    replace HB2 := Aside0.mk (blk_grown HB2.out hg)
    replace HB4 := Aside0.mk (blk_grown HB4.out hg)
    replace HB3 := Aside0.mk (blk_grown HB3.out hg)
    have hs : wn.heap[h2]? = some (.cells #[.int .i64 (s : Int), .int .i64 (N : Int), .slice A l.length c] 64 (0, 0)) ∧ wn.heap[h3]? = some (.cells (geA g) 41 (0, 0)) := ⟨blk_grown hHeld.1 hg, blk_grown hHeld.2 hg⟩
    replace HB5 := Aside0.mk (blk_grown HB5.out hg)
    clear hg hb
    refine ⟨_, rfl, ?_⟩
    refine hK.out _ _ hs (fun hHeld => ?_)
    clear hK K
    refine norm_ (a' := ?_) ?_ ?_
    rotate_left
    · show Act.put _ (some 10) _ = _
      simp only [ap_]
      rfl
    refine one_ (i := 5) (N := some 11) #[true, true, true, true, true, true, true, false] rfl rfl (one_of HT_.out (by kernel_rfl)) (by decide) (fun K hK => ?_)
    refine goes_ Tryz.func91 (by kernel_rfl) rfl #[.agg #[.int .i64 (s : Int), .int .i64 (N : Int), .slice A l.length c], .int .i64 (i : Int)] (by rfl) rfl rfl (by (try simp only [List.map_toArray, List.map_cons, List.map_nil]); first | done | rfl) ?_
    refine (lookasideref10_Get.calls (l.length + 1) _ _ A c l _ _ _ _ _ (Kd.C_below HC0.out (below_of_grown HG.out)) HCC.out HGT.out).mono ?_
    rintro x0 wn ⟨rfl, hb⟩
    have hg := below_grown hb
    replace HG := Aside0.mk (grown_two HG.out hg)
    replace HB2 := Aside0.mk (blk_grown HB2.out hg)
    replace HB4 := Aside0.mk (blk_grown HB4.out hg)
    replace HB3 := Aside0.mk (blk_grown HB3.out hg)
    have hs : wn.heap[h2]? = some (.cells #[.int .i64 (s : Int), .int .i64 (N : Int), .slice A l.length c] 64 (0, 0)) ∧ wn.heap[h3]? = some (.cells (geA g) 41 (0, 0)) := ⟨blk_grown hHeld.1 hg, blk_grown hHeld.2 hg⟩
    replace HB5 := Aside0.mk (blk_grown HB5.out hg)
    clear hg hb
    refine ⟨_, rfl, ?_⟩
    refine hK.out _ _ hs (fun hHeld => ?_)
    clear hK K
    refine norm_ (a' := ?_) ?_ ?_
    rotate_left
    · show Act.put _ (some 11) _ = _
      simp only [ap_]
      rfl
    refine one_ (i := 7) (N := none) #[true, true, true, true, true, true, true, true] rfl rfl (one_of HT_.out (by kernel_rfl)) (by decide) (fun K hK => ?_)
    rw [if_pos (by rfl)]
    refine wp_store_row 141 (.tmp 5) (.tmp 11) rfl h5 #[.int .i64 (i : Int), .int .u64 t0, .int .u64 d0] rfl rfl 141 #[.int .i64 0, .int .u64 0, .int .u64 0] HB5.out (by kernel_rfl) rfl (by kernel_rfl) ?_
    have hb2 := setRow_heap wn h5 _ #[.int .i64 (i : Int), .int .u64 t0, .int .u64 d0] _ _ HB5.out
    have hgr := grown_row wn h5 #[.int .i64 (i : Int), .int .u64 t0, .int .u64 d0]
    replace HG := Aside0.mk (grown_loc HG.out hgr HN5.out.1)
    replace HB2 := Aside0.mk ((hgr.block h2 (blk_lt HB2.out) (fun e => HN5.out.2.1 (Option.some.inj e))).trans HB2.out)
    replace HB4 := Aside0.mk ((hgr.block h4 (blk_lt HB4.out) (fun e => HN5.out.2.2.1 (Option.some.inj e))).trans HB4.out)
    replace HB3 := Aside0.mk ((hgr.block h3 (blk_lt HB3.out) (fun e => HN5.out.2.2.2 (Option.some.inj e))).trans HB3.out)
    have hs : (World.setRow wn h5 #[.int .i64 (i : Int), .int .u64 t0, .int .u64 d0]).heap[h2]? = some (.cells #[.int .i64 (s : Int), .int .i64 (N : Int), .slice A l.length c] 64 (0, 0)) ∧ (World.setRow wn h5 #[.int .i64 (i : Int), .int .u64 t0, .int .u64 d0]).heap[h3]? = some (.cells (geA g) 41 (0, 0)) := ⟨HB2.out, HB3.out⟩
    generalize World.setRow wn h5 #[.int .i64 (i : Int), .int .u64 t0, .int .u64 d0] = wb at hb2 hs HG HB2 HB4 HB3 ⊢
    replace HB5 := Aside0.mk hb2
    clear hgr hb2
    refine hK.out _ _ hs (fun hHeld => ?_)
    clear hK K
    refine norm_ (a' := ?_) ?_ ?_
    rotate_left
    · show Act.put _ none _ = _
      rfl
    refine done_ (done_of HT_.out (by kernel_rfl)) ?_
  all_goals
    have hz3 := tte_Read.cz11 HB3.out
    obtain ⟨z0, z1, z2, z3, z4, z5, z6, z7, z8, z9, z10⟩ := hz3
    clear hHeld
    go_upto_region 3 with (go_at_call 95; refine (lookasideref03_Data.calls 500 _ _ _ _ _ _ _ _ _ _ _ _ _ HEF.out).mono ?_; rintro e wm ⟨rfl, hb⟩; have hg := below_grown hb; replace HG := Aside0.mk (grown_two HG.out hg); replace HB2 := Aside0.mk (blk_grown HB2.out hg); replace HB4 := Aside0.mk (blk_grown HB4.out hg); replace HB5 := Aside0.mk (blk_grown HB5.out hg); obtain ⟨u0, u1, u2⟩ := cz3q HB5.out; have zf := blk_frozen HB5.out 2; clear hg hb)
    clear zf u0 u1 u2 z0 z1 z2 z3 z4 z5 z6 z7 z8 z9 z10
    have hgc := grown_cellq wm ⟨h5, 2, none⟩ (.int .u64 (g.data : Int))
    have hk5 : ∀ k, some h5 = some k → ∃ cs, wm.heap[k]? = some (.cells cs 141 (0, 0)) := fun k e => by cases e; exact ⟨_, HB5.out⟩
    have hb5 : (wm.setCell ⟨h5, 2, none⟩ (.int .u64 (g.data : Int))).heap[h5]? = some (.cells #[.int .i64 (i : Int), .int .u64 t0, .int .u64 (g.data : Int)] 141 (0, 0)) := blk_put HB5.out 2 (.int .u64 (g.data : Int)) rfl
    replace HB2 := Aside0.mk (blk_keptR HB2.out hgc hk5 (by decide))
    replace HB4 := Aside0.mk (blk_keptR HB4.out hgc hk5 (by decide))
    replace HG := Aside0.mk (below_grownW HG.out hgc (fun k e => by obtain rfl : h5 = k := Option.some.inj e; exact HN5.out.1))
    generalize wm.setCell ⟨h5, 2, none⟩ (.int .u64 (g.data : Int)) = wq at hb5 HB2 HB4 HG ⊢
    replace HB5 := Aside0.mk hb5
    clear hgc hk5 hb5
    obtain ⟨q0, q1, q2⟩ := cz3q HB2.out
    obtain ⟨u0, u1, u2⟩ := cz3q HB5.out
    go_wp2_with fail
    refine (lookasideref10_put.calls (l.length + 1) _ _ A c l _ _ _ _ _ _ _ (Kd.C_below HC0.out (below_of_grown HG.out)) HCC.out HPT.out).mono ?_
    rintro x0 wr ⟨v2, rfl, hR, hb⟩
    obtain ⟨A2, c2, rfl⟩ := Kd.R_slice hR
    have hg := below_grown hb
    have HR := Aside0.mk (Kd.R_lower hR HG.out.size)
    replace HG := Aside0.mk (grown_two HG.out hg)
    replace HB4 := Aside0.mk (blk_grown HB4.out hg)
    have HLN := Aside0.mk (show True from trivial)
    clear hR hb hg q0 q1 q2 u0 u1 u2
    go_wp2_with (first | ((with_reducible refine gate_store (t := 64) (p := 4) rfl ?_); refine wpList_store_row rfl 64 (.tmp 4) (.tmp 17) rfl h4 #[.int .i64 (s : Int), .int .i64 (N : Int), .slice A2 (pW l (i : Int) (gW l (i : Int)).1 (g.data : Int)).length c2] rfl rfl 64 _ HB4.out (by kernel_rfl) rfl (by kernel_rfl) ?_; have SHB4 := Aside0.mk (setRow_heap _ h4 _ #[.int .i64 (s : Int), .int .i64 (N : Int), .slice A2 (pW l (i : Int) (gW l (i : Int)).1 (g.data : Int)).length c2] _ _ HB4.out); have THB4 := Aside0.mk (grown_row wr h4 #[.int .i64 (s : Int), .int .i64 (N : Int), .slice A2 (pW l (i : Int) (gW l (i : Int)).1 (g.data : Int)).length c2])))
    replace HR := Aside0.mk (Kd.R_mono (ok' := fun _ => True) (Kd.R_grown (Kd.R_types HR.out HB4.out (by decide)) THB4.out (fun k hk e => hk.2 (Option.some.inj e))) (fun _ _ => trivial))
    replace HG := Aside0.mk (grown_loc HG.out THB4.out (by have := HH.out; omega))
    obtain ⟨q0, q1, q2⟩ := cz3q SHB4.out
    exact bodyPost_ret (v := .agg #[.int .i64 (s : Int), .int .i64 (N : Int), .slice A2 (pW l (i : Int) (gW l (i : Int)).1 (g.data : Int)).length c2]) (by simp [results, Tryz.f61, go_sem, q0, q1, q2]) rfl ⟨_, rfl, HR.out, HG.out⟩
end
end Go.Proofs.YtjnffegjpkbjmaaGreat.Mem
