import Derived.Test.YtjnffegjpkbjmaaGreatWInv
import Derived.Test.YtjnffegjpkbjmaaGreatWFootNe
namespace Go.Proofs.YtjnffegjpkbjmaaGreatW.PrintWords
open Go.RowKit
end Go.Proofs.YtjnffegjpkbjmaaGreatW.PrintWords
namespace Go.Proofs.YtjnffegjpkbjmaaGreatW.PrintLast
section
variable {ops : Array Oper} {a : Act} {o og : Oper} {g : Nat} {t : Tmp} {u : Bool}
end
end Go.Proofs.YtjnffegjpkbjmaaGreatW.PrintLast
