import Derived.Test.YtehaonhgbmlmnaaDoorWInv
import Derived.Test.YtehaonhgbmlmnaaDoorWFootNe
namespace Go.Proofs.YtehaonhgbmlmnaaDoorW.PrintWords
open Go.RowKit
end Go.Proofs.YtehaonhgbmlmnaaDoorW.PrintWords
namespace Go.Proofs.YtehaonhgbmlmnaaDoorW.PrintLast
section
variable {ops : Array Oper} {a : Act} {o og : Oper} {g : Nat} {t : Tmp} {u : Bool}
end
end Go.Proofs.YtehaonhgbmlmnaaDoorW.PrintLast
