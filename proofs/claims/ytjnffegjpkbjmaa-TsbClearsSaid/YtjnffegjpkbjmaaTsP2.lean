/- An address's index, and an entry's hits, as the document tells them; which entry stands at a place behind others were put. -/
import Derived.Test.YtjnffegjpkbjmaaPureTsb
import Derived.Test.YtjnffegjpkbjmaaQTsbPlaysx23
set_option linter.unusedVariables false
set_option linter.unusedSimpArgs false
namespace Go.Proofs.Ytjnffegjpkbjmaa.Pure
open Go.RowKit Go.Proofs.Ytjnffegjpkbjmaa.QTsbPlays Go.Proofs.YtjnffegjpkbjmaaW.PrintWords Go.Proofs.YtjnffegjpkbjmaaW.PrintLast Go.Proofs.YtjnffegjpkbjmaaW.PrintMore
theorem rHits (s c pa ctx : Int) (va A : Nat) (w p x l g q v : Bool) (hva : va < 18446744073709551616) (hA : A < 18446744073709551616) : lookasideref03_Hits.f s c (va : Int) pa w p x l g q v (A : Int) ctx = some (hitsOf s c va g v A ctx) := by
  unfold lookasideref03_Hits.f hitsOf
  rw [rMay, rBase A hA, rBase va hva]
  cases v
  · simp
  · by_cases h : okSize s
    · simp only [h, decide_true, Option.bind_some, if_true, Bool.true_and]
      by_cases e : A / bytesOf s * bytesOf s = va / bytesOf s * bytesOf s
      · rw [if_pos (congrArg (fun z : Nat => (z : Int)) e), decide_eq_true e]; cases g <;> rfl
      · rw [if_neg (fun z => e (Int.ofNat_inj.mp z)), decide_eq_false e]; rfl
    · simp [h]
theorem rIndex (va : Nat) (hva : va < 18446744073709551616) (s N : Nat) (hs : s < 4) (h1 : 1 ≤ N) (hN : N ≤ 70000) : lookasideref08_Index.f (va : Int) (s : Int) (N : Int) = some (plcOf N (s : Int) va : Int) := by
  have hos : okSize (s : Int) := by unfold okSize; omega
  have hB := bytes_pos hos
  unfold lookasideref08_Index.f plcOf
  rw [rBytes, Option.bind_some, if_neg (by omega), m_wu N (by omega), if_neg (by omega), m_tdiv, m_wu _ (Nat.lt_of_le_of_lt (Nat.div_le_self _ _) hva), m_tmod]
  have hl : va / bytesOf (s : Int) % N < N := Nat.mod_lt _ (by omega)
  rw [m_w64 _ (by omega)]
theorem GE.ok.rhits {e : GE} (h : e.ok) {A : Nat} (hA : A < 18446744073709551616) (ctx : Int) : lookasideref03_Hits.f (e.s : Int) (e.c : Int) (e.v : Int) (e.p : Int) e.w e.pr e.x e.l e.g e.q true (A : Int) ctx = some (e.hit A ctx) := by
  rw [rHits _ _ _ _ _ _ _ _ _ _ _ _ _ h.hv hA]
  unfold hitsOf GE.hit
  rw [base_self _ _ h.vm, decide_eq_true h.os]
  simp only [Bool.true_and]
end Go.Proofs.Ytjnffegjpkbjmaa.Pure
