-- Printed by a program of this session (wip/print/myprint.py) out of the translation; Lean checks it.
import Derived.Test.YtjnffegjpkbjmaaProg
import Derived.Below
import Derived.Deep.Draws
import Derived.Deep.AppendLies
import Derived.Maps.AppendAt
import Derived.OwnWalk
import Derived.Laws.BytesArg
import Derived.Laws.MakeOwn
import Derived.Laws.OwnMore
import Derived.Deep.OwnRows
import Derived.Tactics
import Derived.Lib.ConvBytes
import Derived.Laws.Slices
import Derived.WalkKit
import Derived.KernelRfl
import Derived.RowKit3
import Derived.Deep.LoopGhost
import Derived.Deep.QuietTactic
import Derived.BigQuiet
import Derived.WideLaws
import Derived.Deep.DeepCutAuto
import Derived.Deep.CutBlock
import Derived.Deep.RegionHeld3
import Derived.Laws.Rows
import Derived.Lib.AppendStr
import Derived.ArgAppend
import Derived.Laws.IdiomCopy
import Derived.OrdersHeld
import Derived.Laws.BitsLemmas
import Derived.RowKit
import Derived.Laws.Tables
import Derived.Laws.CopyOwn
import Derived.StillTailTactics
import Derived.LoopN
import Derived.Test.YtjnffegjpkbjmaaWWords
import Derived.Test.YtjnffegjpkbjmaaWLast
import Derived.Test.YtjnffegjpkbjmaaWTab
import Derived.Test.YtjnffegjpkbjmaaWFour
import Derived.Test.YtjnffegjpkbjmaaWQPut
import Derived.Test.YtjnffegjpkbjmaaWApart
import Derived.Test.YtjnffegjpkbjmaaWArr
import Derived.Test.YtjnffegjpkbjmaaWZeros
import Derived.Test.YtjnffegjpkbjmaaWFoot
import Derived.Test.YtjnffegjpkbjmaaWKept
import Derived.Test.YtjnffegjpkbjmaaWShare
import Derived.Test.YtjnffegjpkbjmaaWN
import Derived.Test.YtjnffegjpkbjmaaWFootNe
import Derived.Test.YtjnffegjpkbjmaaWAt
import Derived.Test.YtjnffegjpkbjmaaWEqStruct
import Derived.Test.YtjnffegjpkbjmaaWRepsOne
import Derived.Test.YtjnffegjpkbjmaaWInv
import Derived.Test.YtjnffegjpkbjmaaWInvWords
import Derived.Test.YtjnffegjpkbjmaaWGuard
import Derived.Test.YtjnffegjpkbjmaaWNEv
import Derived.Test.YtjnffegjpkbjmaaWMore
namespace Go.Proofs.Ytjnffegjpkbjmaa.QTsbPlays
open Go.RowKit Go.Proofs.YtjnffegjpkbjmaaW.PrintWords Go.Proofs.YtjnffegjpkbjmaaW.PrintLast Go.Proofs.YtjnffegjpkbjmaaW.PrintMore
attribute [local go_sem] max2_int min2_int max_two min_two max_three min_three max_four min_four   -- for this text's walks alone
set_option linter.unusedVariables false
set_option linter.unusedSimpArgs false



def errW : Option Int → Value
  | none => .nilIface
  | some c => .iface 0 (.int .i64 c)
theorem errW_none : errW none = .nilIface := rfl
theorem errW_some (c : Int) : errW (some c) = .iface 0 (.int .i64 c) := rfl

theorem info3 : (Try.prog.info? 3).map (fun i => (i.zero, i.size, i.bytes)) = some (some (.int .i64 0), 1, 8) := by kernel_rfl
-- the values' own types
/-! #### struct type 122 -/
structure S122 where
  f0 : Int
  f1 : Int
  f2 : Int
def k122 : Kd S122 := Kd.iso (Kd.pair (Kd.int .i64) (Kd.pair (Kd.int .u64) (Kd.int .u64))) (fun x : S122 => (x.f0, x.f1, x.f2))
/-! #### struct type 48 -/
structure S48 where
  f0 : Bool
  f1 : Bool
  f2 : Bool
  f3 : Bool
  f4 : Bool
  f5 : Bool
/-! #### struct type 50 -/
structure S50 where
  f0 : Int
  f1 : Int
  f2 : Int
  f3 : Int
  f4 : S48
  f5 : Bool
end Go.Proofs.Ytjnffegjpkbjmaa.QTsbPlays
