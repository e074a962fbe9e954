-- Printed by a program of this session (wip/print/myprint.py) out of the translation; Lean checks it.
import Derived.Test.YtedjiicaikhcbaaProg
import Derived.Below
import Derived.Deep.Draws
import Derived.Deep.AppendLies
import Derived.Maps.AppendAt
import Derived.OwnWalk
import Derived.Laws.BytesArg
import Derived.Laws.MakeOwn
import Derived.Laws.OwnMore
import Derived.Deep.OwnRows
import Derived.Tactics
import Derived.Lib.ConvBytes
import Derived.Laws.Slices
import Derived.WalkKit
import Derived.KernelRfl
import Derived.RowKit3
import Derived.Deep.LoopGhost
import Derived.Deep.QuietTactic
import Derived.BigQuiet
import Derived.WideLaws
import Derived.Deep.DeepCutAuto
import Derived.Deep.CutBlock
import Derived.Deep.RegionHeld3
import Derived.Laws.Rows
import Derived.Lib.AppendStr
import Derived.ArgAppend
import Derived.Laws.IdiomCopy
import Derived.OrdersHeld
import Derived.Laws.BitsLemmas
import Derived.RowKit
import Derived.Test.YtedjiicaikhcbaaWWords
import Derived.Test.YtedjiicaikhcbaaWLast
import Derived.Test.YtedjiicaikhcbaaWTab
import Derived.Test.YtedjiicaikhcbaaWFour
import Derived.Test.YtedjiicaikhcbaaWQPut
import Derived.Test.YtedjiicaikhcbaaWApart
import Derived.Test.YtedjiicaikhcbaaWArr
import Derived.Test.YtedjiicaikhcbaaWZeros
import Derived.Test.YtedjiicaikhcbaaWFoot
import Derived.Test.YtedjiicaikhcbaaWKept
import Derived.Test.YtedjiicaikhcbaaWShare
import Derived.Test.YtedjiicaikhcbaaWN
import Derived.Test.YtedjiicaikhcbaaWFootNe
import Derived.Test.YtedjiicaikhcbaaWAt
import Derived.Test.YtedjiicaikhcbaaWEqStruct
import Derived.Test.YtedjiicaikhcbaaWRepsOne
import Derived.Test.YtedjiicaikhcbaaWInv
import Derived.Test.YtedjiicaikhcbaaWInvWords
import Derived.Test.YtedjiicaikhcbaaWGuard
import Derived.Test.YtedjiicaikhcbaaWNEv
import Derived.Test.YtedjiicaikhcbaaWMore
namespace Go.Proofs.Ytedjiicaikhcbaa.QPageCovers
open Go.RowKit Go.Proofs.YtedjiicaikhcbaaW.PrintWords Go.Proofs.YtedjiicaikhcbaaW.PrintLast Go.Proofs.YtedjiicaikhcbaaW.PrintMore
attribute [local go_sem] max2_int min2_int max_two min_two max_three min_three max_four min_four   -- for this text's walks alone
set_option linter.unusedVariables false
set_option linter.unusedSimpArgs false



def errW : Option Int → Value
  | none => .nilIface
  | some c => .iface 0 (.int .i64 c)
theorem errW_none : errW none = .nilIface := rfl
theorem errW_some (c : Int) : errW (some c) = .iface 0 (.int .i64 c) := rfl

theorem info3 : (Try.prog.info? 3).map (fun i => (i.zero, i.size, i.bytes)) = some (some (.int .i64 0), 1, 8) := by kernel_rfl
-- the values' own types

end Go.Proofs.Ytedjiicaikhcbaa.QPageCovers
