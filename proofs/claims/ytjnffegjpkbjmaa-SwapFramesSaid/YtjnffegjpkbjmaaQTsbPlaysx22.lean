-- Taken out of a text that a program of this session printed (wip/print/myprint.py, wip/print/take.py); Lean checks it.
import Derived.Test.YtjnffegjpkbjmaaQTsbPlaysx20
namespace Go.Proofs.Ytjnffegjpkbjmaa.QTsbPlays
open Go.RowKit Go.Proofs.YtjnffegjpkbjmaaW.PrintWords Go.Proofs.YtjnffegjpkbjmaaW.PrintLast Go.Proofs.YtjnffegjpkbjmaaW.PrintMore
attribute [local go_sem] max2_int min2_int max_two min_two max_three min_three max_four min_four   -- for this text's walks alone
set_option linter.unusedVariables false
set_option linter.unusedSimpArgs false
/-! ### lookasideref02_Bytes: function 57 -/
/-! ### lookasideref02_Base: function 62 -/
/-! ### lookasideref01_Bit: function 113 -/
/-! ### lookasideref02_Va: function 87 -/
/-! ### lookasideref03_Good: function 55 -/
/-! ### lookasidelaw10_Deed_entry: function 21 -/
-- NOT PRINTED: function 82 (lookasidelaw10_puts)

-- NOT PRINTED: function 46 (lookasidelaw10_does)
end Go.Proofs.Ytjnffegjpkbjmaa.QTsbPlays
