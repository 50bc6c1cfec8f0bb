/- For any three texts of a kind, the law DateOrders answers true: as numbers alone. -/
import Derived.Test.YtehaonhgbmlmnaaDoorPrx12
import Derived.Test.YtehaonhgbmlmnaaDoorB8
namespace Go.Proofs.YtehaonhgbmlmnaaDoor.Pure
open Go.RowKit Go.Proofs.YtehaonhgbmlmnaaDoor.Pr Go.Proofs.YtehaonhgbmlmnaaDoorW.PrintWords Go.Proofs.YtehaonhgbmlmnaaDoorW.PrintLast
theorem DateOrders : rubriclaw6_DateOrders.Pure := B.DateOrders_t
end Go.Proofs.YtehaonhgbmlmnaaDoor.Pure
