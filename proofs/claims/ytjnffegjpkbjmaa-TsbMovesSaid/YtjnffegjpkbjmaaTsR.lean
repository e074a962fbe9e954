/- What a TSB's place holds, read at an address, and at its own address; plainly. -/
import Derived.Test.YtjnffegjpkbjmaaPureTsb
set_option linter.unusedVariables false
set_option linter.unusedSimpArgs false
namespace Go.Proofs.Ytjnffegjpkbjmaa.Pure
open Go.RowKit Go.Proofs.Ytjnffegjpkbjmaa.QTsbPlays Go.Proofs.YtjnffegjpkbjmaaW.PrintWords Go.Proofs.YtjnffegjpkbjmaaW.PrintLast Go.Proofs.YtjnffegjpkbjmaaW.PrintMore
/-- The entry of words, at an address. -/
def readW (w : Nat × Nat) (A : Nat) : Option GE :=
  if (readOf w.1 w.2 A).2.2.2.2.2.2.2.2.2.2.2 = 0 then some ⟨sOf w.2, cOf w.1, vOf w.2 A, paOf w.2, bitOf w.2 2, bitOf w.2 4, bitOf w.2 8, bitOf w.2 64, bitOf w.2 1, bitOf w.2 1152921504606846976⟩ else none
theorem readOf_cases (t d A : Nat) : (∃ q : Int, (q != 0) = true ∧ readOf t d A = (0, 0, 0, 0, false, false, false, false, false, false, false, q)) ∨
    (readOf t d A = ((sOf d : Int), (cOf t : Int), (vOf d A : Int), (paOf d : Int), bitOf d 2, bitOf d 4, bitOf d 8, bitOf d 64, bitOf d 1, bitOf d 1152921504606846976, true, 0) ∧ d / 9223372036854775808 % 2 = 1 ∧ mayOf (sOf d : Int) (cOf t : Int) (vOf d A) (paOf d) (bitOf d 1) true = true ∧ tagOf (cOf t) (vOf d A) (bitOf d 1) = t ∧ dataOf (sOf d) (paOf d) (bitOf d 2) (bitOf d 4) (bitOf d 8) (bitOf d 64) (bitOf d 1) (bitOf d 1152921504606846976) = d) := by
  unfold readOf
  split
  · exact .inl ⟨3, by decide, rfl⟩
  · split
    · rename_i hv
      unfold entOf
      split
      · rename_i hm
        split
        · rename_i ht
          split
          · rename_i hd
            exact .inr ⟨rfl, hv, hm, ht, hd⟩
          · exact .inl ⟨2, by decide, rfl⟩
        · exact .inl ⟨2, by decide, rfl⟩
      · exact .inl ⟨2, by decide, rfl⟩
    · exact .inl ⟨11, by decide, rfl⟩
theorem mayOf_ok {s c va pa : Nat} {w p x l g q : Bool} (h : mayOf (s : Int) (c : Int) va pa g true = true) (hva : va < 18446744073709551616) : (GE.mk s c va pa w p x l g q).ok := by
  unfold mayOf at h
  simp only [Bool.true_and, Bool.and_eq_true, decide_eq_true_eq, Bool.not_eq_true', decide_eq_false_iff_not] at h
  obtain ⟨h1, h2, h3, h4, h5, h6, h7, h8⟩ := h
  have h1' := h1
  unfold okSize at h1'
  refine ⟨?_, ?_, hva, h5, h6, h7, h8, fun hg => ?_⟩
  · show s < 4; omega
  · show c < 8192; omega
  · show c = 0
    replace hg : g = true := hg
    subst hg
    simpa using h4
/-- What is read: nothing, or an entry whose words these are. -/
theorem readW_spec (w : Nat × Nat) (A : Nat) (hA : A < 18446744073709551616) : (readW w A = none ∧ ∃ q : Int, (q != 0) = true ∧ readOf w.1 w.2 A = (0, 0, 0, 0, false, false, false, false, false, false, false, q)) ∨
    ∃ g : GE, readW w A = some g ∧ readOf w.1 w.2 A = ((g.s : Int), (g.c : Int), (g.v : Int), (g.p : Int), g.w, g.pr, g.x, g.l, g.g, g.q, true, 0) ∧ g.ok ∧ w = (g.tag, g.data) ∧ A / bytesOf (g.s : Int) * bytesOf (g.s : Int) = g.v ∧ w.2 ≠ 0 ∧ sOf w.2 = g.s := by
  rcases readOf_cases w.1 w.2 A with ⟨q, hq, h⟩ | ⟨h, hv, hm, ht, hd⟩
  · refine .inl ⟨?_, q, hq, h⟩
    unfold readW
    rw [h]
    exact if_neg (by simpa using hq)
  · refine .inr ⟨⟨sOf w.2, cOf w.1, vOf w.2 A, paOf w.2, bitOf w.2 2, bitOf w.2 4, bitOf w.2 8, bitOf w.2 64, bitOf w.2 1, bitOf w.2 1152921504606846976⟩, ?_, h, mayOf_ok hm (vOf_lt _ _ hA), ?_, rfl, fun e => ?_, rfl⟩
    · unfold readW
      rw [h]
      exact if_pos rfl
    · exact Prod.ext ht.symm hd.symm
    · rw [e] at hv; simp at hv
theorem readW_bad (d A : Nat) : readW (9223372036854775807, d) A = none := by
  obtain ⟨f0, f1, f2, f3, b4, b5, b6, b7, b8, b9, b10, q, hr, hq⟩ := read_bad d A
  unfold readW
  rw [show readOf (9223372036854775807, d).1 (9223372036854775807, d).2 A = _ from hr]
  exact if_neg (by simpa using hq)
theorem readW_ge {e : GE} (h : e.ok) {A : Nat} (hA : A / bytesOf (e.s : Int) * bytesOf (e.s : Int) = e.v) : readW (e.tag, e.data) A = some e := by
  have hr := h.readAt hA (h.nohole hA)
  obtain ⟨e1, e2, e3, e4, e5, e6, e7, e8, e9⟩ := word_is e.s e.p e.w e.pr e.x e.l e.g e.q h.hs h.hp h.p8
  have hc : cOf e.tag = e.c := tag_dec e.c _ _ h.hc (Nat.mod_lt _ (by decide))
  unfold readW
  rw [show readOf (e.tag, e.data).1 (e.tag, e.data).2 A = _ from hr, if_pos rfl]
  have hv : vOf e.data A = e.v := by unfold vOf; rw [show sOf e.data = e.s from e2]; exact hA
  simp only [hc, hv]
  rw [show sOf e.data = e.s from e2, show paOf e.data = e.p from e3, show bitOf e.data 2 = e.w from e4, show bitOf e.data 4 = e.pr from e5, show bitOf e.data 8 = e.x from e6, show bitOf e.data 64 = e.l from e7, show bitOf e.data 1 = e.g from e8, show bitOf e.data 1152921504606846976 = e.q from e9]
theorem shl_bits (i s : Nat) (hs : s < 4) (hi : i < 4096) : shl .u64 (i : Int) (13 + 3 * (s : Int)) = ((i * bytesOf (s : Int) : Nat) : Int) := by
  have e : (13 + 3 * (s : Int)) = ((13 + 3 * s : Nat) : Int) := by omega
  rw [e, m_shl _ _ (by omega)]
  match s, hs with
  | 0, _ => simp only [bytesOf]; simp; omega
  | 1, _ => simp only [bytesOf]; simp; omega
  | 2, _ => simp only [bytesOf]; simp; omega
  | 3, _ => simp only [bytesOf]; simp; omega
theorem bytes_le (s : Nat) : bytesOf (s : Int) ≤ 4194304 := by
  unfold bytesOf
  repeat' split
  all_goals omega
theorem num_own {base i N s a Y Z K : Nat} {q : Int} (hN : N ≤ 4096) (hi : i < N) (hbl : i * bytesOf (s : Int) < 18446744073709551616) (ha : a = base + 16 * i) (hq : q = 13 + 3 * (s : Int)) (hs : s < 4) (hY : Y = i * bytesOf (s : Int)) (hZ : Z = Y % 4194304) (hK : K = 16 * i) :
    IntKind.u64.wrap ((a : Int) - (base : Int)) = (K : Int) ∧ Int.tdiv (K : Int) 16 = (i : Int) ∧ IntKind.u64.wrap (i : Int) = (i : Int) ∧ IntKind.u64.wrap ((i : Int) * 2 ^ q.toNat) = (Y : Int) ∧ Int.tmod (Y : Int) 4194304 = (Z : Int) := by
  refine ⟨by rw [IntKind.wrap_u64]; omega, ?_, by rw [IntKind.wrap_u64]; omega, ?_, ?_⟩
  · rw [hK, show Int.tdiv ((16 * i : Nat) : Int) 16 = ((16 * i / 16 : Nat) : Int) from rfl, Nat.mul_div_cancel_left _ (by decide)]
  · have hq2 : q.toNat = 13 + 3 * s := by omega
    have hb : bytesOf (s : Int) = 2 ^ (13 + 3 * s) := by
      have h : ∀ s : Fin 4, bytesOf ((s : Nat) : Int) = 2 ^ (13 + 3 * (s : Nat)) := by decide
      exact h ⟨s, hs⟩
    rw [hq2]
    have e : (i : Int) * 2 ^ (13 + 3 * s) = (Y : Int) := by rw [hY, hb]; simp
    rw [e]
    exact m_wu _ (by omega)
  · rw [hZ]; rfl
/-- A place's own address. -/
def ownVa (s i : Nat) (tag : Nat) : Nat := (tag % 4194304 * 4194304 + (if tag / 2097152 % 2 = 1 then 18446726481523507200 else 0) + i * bytesOf (s : Int) % 4194304) % 18446744073709551616
theorem ownVa_lt (s i tag : Nat) : ownVa s i tag < 18446744073709551616 := Nat.mod_lt _ (by decide)
/-- The entry of a place, at its own address. -/
def ownW (N s i : Nat) (w : Nat × Nat) : Option GE := if plcOf N (s : Int) (ownVa s i w.1) = i then readW w (ownVa s i w.1) else none
theorem own_va {e : GE} (h : e.ok) {N : Nat} (hN : N % (4194304 / bytesOf (e.s : Int)) = 0) (h1 : 1 ≤ N) : ownVa e.s (plcOf N (e.s : Int) e.v) e.tag = e.v := by
  have htag : e.tag % 4194304 = e.v / 4194304 % 4194304 := by
    unfold GE.tag tagOf
    omega
  have htag2 : e.tag / 2097152 % 2 = e.v / 8796093022208 % 2 := by
    have : e.tag / 2097152 % 2 = e.tag % 4194304 / 2097152 := by omega
    rw [this, htag]
    omega
  have hi : plcOf N (e.s : Int) e.v * bytesOf (e.s : Int) % 4194304 = e.v % 4194304 := by
    have key : plcOf N (e.s : Int) e.v % (4194304 / bytesOf (e.s : Int)) = e.v / bytesOf (e.s : Int) % (4194304 / bytesOf (e.s : Int)) := by
      unfold plcOf
      exact Nat.mod_mod_of_dvd _ (Nat.dvd_of_mod_eq_zero hN)
    have hm := h.vm
    have hs := h.hs
    generalize plcOf N (e.s : Int) e.v = i at key ⊢
    obtain ⟨s, c, v, p, w, pr, x, l, g, q⟩ := e
    simp only at *
    match s, hs with
    | 0, _ => simp only [bytesOf] at key hm ⊢; simp at key hm ⊢; omega
    | 1, _ => simp only [bytesOf] at key hm ⊢; simp at key hm ⊢; omega
    | 2, _ => simp only [bytesOf] at key hm ⊢; simp at key hm ⊢; omega
    | 3, _ => simp only [bytesOf] at key hm ⊢; simp at key hm ⊢; omega
  unfold ownVa
  rw [htag, htag2, hi]
  have hv := h.hv
  have hh := h.hh
  by_cases hb : e.v / 8796093022208 % 2 = 1
  · rw [if_pos hb]; omega
  · rw [if_neg hb]; omega
theorem ownW_ge {e : GE} (h : e.ok) {N : Nat} (hN : N % (4194304 / bytesOf (e.s : Int)) = 0) (h1 : 1 ≤ N) : ownW N e.s (plcOf N (e.s : Int) e.v) (e.tag, e.data) = some e := by
  unfold ownW
  rw [own_va h hN h1, if_pos rfl, readW_ge h (base_self _ _ h.vm)]
theorem ownW_bad (N s i d : Nat) : ownW N s i (9223372036854775807, d) = none := by
  unfold ownW
  rw [readW_bad]
  split <;> rfl
end Go.Proofs.Ytjnffegjpkbjmaa.Pure
