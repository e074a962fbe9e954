/- An address's index, and an entry's hits, as the document tells them; which entry stands at a place behind others were put. -/
import Derived.Test.YtjnffegjpkbjmaaPureTsb
import Derived.Test.YtjnffegjpkbjmaaQTsbPlaysx23
set_option linter.unusedVariables false
set_option linter.unusedSimpArgs false
namespace Go.Proofs.Ytjnffegjpkbjmaa.Pure
open Go.RowKit Go.Proofs.Ytjnffegjpkbjmaa.QTsbPlays Go.Proofs.YtjnffegjpkbjmaaW.PrintWords Go.Proofs.YtjnffegjpkbjmaaW.PrintLast Go.Proofs.YtjnffegjpkbjmaaW.PrintMore
theorem rIndex (va : Nat) (hva : va < 18446744073709551616) (s N : Nat) (hs : s < 4) (h1 : 1 ≤ N) (hN : N ≤ 70000) : lookasideref08_Index.f (va : Int) (s : Int) (N : Int) = some (plcOf N (s : Int) va : Int) := by
  have hos : okSize (s : Int) := by unfold okSize; omega
  have hB := bytes_pos hos
  unfold lookasideref08_Index.f plcOf
  rw [rBytes, Option.bind_some, if_neg (by omega), m_wu N (by omega), if_neg (by omega), m_tdiv, m_wu _ (Nat.lt_of_le_of_lt (Nat.div_le_self _ _) hva), m_tmod]
  have hl : va / bytesOf (s : Int) % N < N := Nat.mod_lt _ (by omega)
  rw [m_w64 _ (by omega)]
end Go.Proofs.Ytjnffegjpkbjmaa.Pure
