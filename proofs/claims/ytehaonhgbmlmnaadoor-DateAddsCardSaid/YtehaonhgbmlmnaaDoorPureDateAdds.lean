/- For every day of the years -9000 to 9000 and every span within the law's bounds, the law DateAdds answers true: as numbers alone. -/
import Derived.Test.YtehaonhgbmlmnaaDoorPrx15
import Derived.Test.YtehaonhgbmlmnaaDoorB4
namespace Go.Proofs.YtehaonhgbmlmnaaDoor.Pure
open Go.RowKit Go.Proofs.YtehaonhgbmlmnaaDoor.Pr Go.Proofs.YtehaonhgbmlmnaaDoorW.PrintWords Go.Proofs.YtehaonhgbmlmnaaDoorW.PrintLast
theorem DateAdds : rubriclaw6_DateAdds.Pure := B.DateAdds_t
end Go.Proofs.YtehaonhgbmlmnaaDoor.Pure
