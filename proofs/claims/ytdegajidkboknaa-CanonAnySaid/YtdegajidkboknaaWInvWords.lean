import Derived.Test.YtdegajidkboknaaWInv
import Derived.Test.YtdegajidkboknaaWFootNe
namespace Go.Proofs.YtdegajidkboknaaW.PrintWords
open Go.RowKit
end Go.Proofs.YtdegajidkboknaaW.PrintWords
namespace Go.Proofs.YtdegajidkboknaaW.PrintLast
section
variable {ops : Array Oper} {a : Act} {o og : Oper} {g : Nat} {t : Tmp} {u : Bool}
end
end Go.Proofs.YtdegajidkboknaaW.PrintLast
