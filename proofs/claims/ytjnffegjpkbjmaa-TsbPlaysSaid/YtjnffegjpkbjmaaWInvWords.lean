import Derived.Test.YtjnffegjpkbjmaaWInv
import Derived.Test.YtjnffegjpkbjmaaWFootNe
namespace Go.Proofs.YtjnffegjpkbjmaaW.PrintWords
open Go.RowKit
end Go.Proofs.YtjnffegjpkbjmaaW.PrintWords
namespace Go.Proofs.YtjnffegjpkbjmaaW.PrintLast
section
variable {ops : Array Oper} {a : Act} {o og : Oper} {g : Nat} {t : Tmp} {u : Bool}
end
end Go.Proofs.YtjnffegjpkbjmaaW.PrintLast
-- halved
