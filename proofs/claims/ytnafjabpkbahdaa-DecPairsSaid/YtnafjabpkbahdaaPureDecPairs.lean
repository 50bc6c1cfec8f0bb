/- For every two texts the law DecPairs returns true: of two decimal numbers the sum and the order are the document's, the sum is the same with the sides turned, the order is turned. No condition: texts of more than 600 bytes, or that are no numbers, let the law return true at once. -/
import Derived.Test.YtnafjabpkbahdaaPrx13
import Derived.Test.YtnafjabpkbahdaaB8
namespace Go.Proofs.Ytnafjabpkbahdaa.Pure
open Go.RowKit Go.Proofs.Ytnafjabpkbahdaa.Pr Go.Proofs.YtnafjabpkbahdaaW.PrintWords Go.Proofs.YtnafjabpkbahdaaW.PrintLast

/-- Any two numbers: their order, their sum. -/
theorem DecPairs : rubriclaw5_DecPairs.Pure := fun a0 a1 _ _ => (Go.Proofs.Ytnafjabpkbahdaa.B.DecPairs_ev a0 a1).rounds

end Go.Proofs.Ytnafjabpkbahdaa.Pure
