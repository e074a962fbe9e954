-- Taken out of a text that a program of this session printed (wip/print/myprint.py, wip/print/take.py); Lean checks it.
import Derived.Test.YtjnffegjpkbjmaaQTsbPlaysx20
namespace Go.Proofs.Ytjnffegjpkbjmaa.QTsbPlays
open Go.RowKit Go.Proofs.YtjnffegjpkbjmaaW.PrintWords Go.Proofs.YtjnffegjpkbjmaaW.PrintLast Go.Proofs.YtjnffegjpkbjmaaW.PrintMore
attribute [local go_sem] max2_int min2_int max_two min_two max_three min_three max_four min_four   -- for this text's walks alone
set_option linter.unusedVariables false
set_option linter.unusedSimpArgs false
/-! ### lookasideref10_Why: function 37 -/
-- NOT PRINTED: function 17 (tsb_Tsb_Len)
end Go.Proofs.Ytjnffegjpkbjmaa.QTsbPlays
