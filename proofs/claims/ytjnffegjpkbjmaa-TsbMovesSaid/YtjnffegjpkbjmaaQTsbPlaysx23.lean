-- Taken out of a text that a program of this session printed (wip/print/myprint.py, wip/print/take.py); Lean checks it.
import Derived.Test.YtjnffegjpkbjmaaQTsbPlaysx22
import Derived.Test.YtjnffegjpkbjmaaQTsbPlaysx1
namespace Go.Proofs.Ytjnffegjpkbjmaa.QTsbPlays
open Go.RowKit Go.Proofs.YtjnffegjpkbjmaaW.PrintWords Go.Proofs.YtjnffegjpkbjmaaW.PrintLast Go.Proofs.YtjnffegjpkbjmaaW.PrintMore
attribute [local go_sem] max2_int min2_int max_two min_two max_three min_three max_four min_four   -- for this text's walks alone
set_option linter.unusedVariables false
set_option linter.unusedSimpArgs false
attribute [local go_sem high] eqA50
/-! ### lookasideref08_Index: function 23 -/
def lookasideref08_Index.f (a0 : Int) (a1 : Int) (a2 : Int) : Option (Int) := (lookasideref02_Bytes.f a1).bind fun t101 => (if t101 = 0 then (none) else (if (IntKind.u64.wrap (a2)) = 0 then (none) else (some (wrap64 (Int.tmod (IntKind.u64.wrap (Int.tdiv a0 t101)) (IntKind.u64.wrap (a2)))))))
/-! ### lookasideref03_Hits: function 25 -/
end Go.Proofs.Ytjnffegjpkbjmaa.QTsbPlays
