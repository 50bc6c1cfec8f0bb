import Derived.Test.YthocjdlcopmhiaaDoorWInv
import Derived.Test.YthocjdlcopmhiaaDoorWFootNe
namespace Go.Proofs.YthocjdlcopmhiaaDoorW.PrintWords
open Go.RowKit
end Go.Proofs.YthocjdlcopmhiaaDoorW.PrintWords
namespace Go.Proofs.YthocjdlcopmhiaaDoorW.PrintLast
section
variable {ops : Array Oper} {a : Act} {o og : Oper} {g : Nat} {t : Tmp} {u : Bool}
end
end Go.Proofs.YthocjdlcopmhiaaDoorW.PrintLast
