-- Printed by a program of this session (wip/print/myprint.py) out of the translation; Lean checks it.
import Derived.Test.YtlndljgoliepdaaProg
import Derived.Below
import Derived.Deep.Draws
import Derived.Deep.AppendLies
import Derived.Maps.AppendAt
import Derived.OwnWalk
import Derived.Laws.BytesArg
import Derived.Laws.MakeOwn
import Derived.Laws.OwnMore
import Derived.Deep.OwnRows
import Derived.Tactics
import Derived.Lib.ConvBytes
import Derived.Laws.Slices
import Derived.WalkKit
import Derived.KernelRfl
import Derived.RowKit3
import Derived.Deep.LoopGhost
import Derived.Deep.QuietTactic
import Derived.BigQuiet
import Derived.WideLaws
import Derived.Deep.DeepCutAuto
import Derived.Deep.CutBlock
import Derived.Deep.RegionHeld3
import Derived.Laws.Rows
import Derived.Lib.AppendStr
import Derived.ArgAppend
import Derived.Laws.IdiomCopy
import Derived.OrdersHeld
import Derived.Laws.BitsLemmas
import Derived.RowKit
import Derived.Laws.Tables
import Derived.Laws.CopyOwn
import Derived.StillTailTactics
import Derived.LoopN
import Derived.Test.YtlndljgoliepdaaWWords
import Derived.Test.YtlndljgoliepdaaWLast
import Derived.Test.YtlndljgoliepdaaWTab
import Derived.Test.YtlndljgoliepdaaWFour
import Derived.Test.YtlndljgoliepdaaWQPut
import Derived.Test.YtlndljgoliepdaaWApart
import Derived.Test.YtlndljgoliepdaaWArr
import Derived.Test.YtlndljgoliepdaaWZeros
import Derived.Test.YtlndljgoliepdaaWFoot
import Derived.Test.YtlndljgoliepdaaWKept
import Derived.Test.YtlndljgoliepdaaWShare
import Derived.Test.YtlndljgoliepdaaWN
import Derived.Test.YtlndljgoliepdaaWFootNe
import Derived.Test.YtlndljgoliepdaaWAt
import Derived.Test.YtlndljgoliepdaaWEqStruct
import Derived.Test.YtlndljgoliepdaaWRepsOne
import Derived.Test.YtlndljgoliepdaaWInv
import Derived.Test.YtlndljgoliepdaaWInvWords
import Derived.Test.YtlndljgoliepdaaWGuard
import Derived.Test.YtlndljgoliepdaaWNEv
import Derived.Test.YtlndljgoliepdaaWMore
namespace Go.Proofs.Ytlndljgoliepdaa.QFramesPlays
open Go.RowKit Go.Proofs.YtlndljgoliepdaaW.PrintWords Go.Proofs.YtlndljgoliepdaaW.PrintLast Go.Proofs.YtlndljgoliepdaaW.PrintMore
attribute [local go_sem] max2_int min2_int max_two min_two max_three min_three max_four min_four   -- for this text's walks alone
set_option linter.unusedVariables false
set_option linter.unusedSimpArgs false



def errW : Option Int → Value
  | none => .nilIface
  | some c => .iface 0 (.int .i64 c)
theorem errW_none : errW none = .nilIface := rfl
theorem errW_some (c : Int) : errW (some c) = .iface 0 (.int .i64 c) := rfl

theorem info3 : (Try.prog.info? 3).map (fun i => (i.zero, i.size, i.bytes)) = some (some (.int .i64 0), 1, 8) := by kernel_rfl
theorem info4 : (Try.prog.info? 4).map (fun i => (i.zero, i.size, i.bytes)) = some (some (.bool false), 1, 1) := by kernel_rfl
-- the values' own types

end Go.Proofs.Ytlndljgoliepdaa.QFramesPlays
