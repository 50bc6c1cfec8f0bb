import Derived.Test.YtehaonhgbmlmnaaDoorB3
import Derived.Test.YtehaonhgbmlmnaaDoorPrx9
import Derived.KernelRfl
namespace Go.Proofs.YtehaonhgbmlmnaaDoor.B
open Go.RowKit Go.Proofs.YtehaonhgbmlmnaaDoor Go.Proofs.YtehaonhgbmlmnaaDoor.G Go.Proofs.YtehaonhgbmlmnaaDoor.Pr Go.Proofs.YtehaonhgbmlmnaaDoorW.PrintWords Go.Proofs.YtehaonhgbmlmnaaDoorW.PrintLast
set_option linter.unusedVariables false
set_option linter.unusedSimpArgs false
theorem known_t : rubriclaw6_known.f 60 = some true := by kernel_rfl
theorem known_k {k : Nat} (hk : 60 ≤ k) : rubriclaw6_known.f k = some true := at_rounds (fun k => rubriclaw6_known.mono k) hk known_t

end Go.Proofs.YtehaonhgbmlmnaaDoor.B
