import Derived.Test.YthclbckkfgmbaaaWInv
import Derived.Test.YthclbckkfgmbaaaWFootNe
namespace Go.Proofs.YthclbckkfgmbaaaW.PrintWords
open Go.RowKit
end Go.Proofs.YthclbckkfgmbaaaW.PrintWords
namespace Go.Proofs.YthclbckkfgmbaaaW.PrintLast
section
variable {ops : Array Oper} {a : Act} {o og : Oper} {g : Nat} {t : Tmp} {u : Bool}
end
end Go.Proofs.YthclbckkfgmbaaaW.PrintLast
