import Derived.Test.YtnafjabpkbahdaaB2
import Derived.Test.YtnafjabpkbahdaaB3
import Derived.Test.YtnafjabpkbahdaaPrx5
namespace Go.Proofs.Ytnafjabpkbahdaa.B
open Go.RowKit Go.Proofs.Ytnafjabpkbahdaa Go.Proofs.Ytnafjabpkbahdaa.G Go.Proofs.Ytnafjabpkbahdaa.Pr Go.Proofs.YtnafjabpkbahdaaW.PrintWords Go.Proofs.YtnafjabpkbahdaaW.PrintLast
set_option linter.unusedVariables false
theorem known_ev : Ev (fun k => rubriclaw5_known.f k) true := Ev.of rubriclaw5_known.mono (k := 40) (by kernel_rfl)
theorem Ev_succ {α : Type} {g : Nat → Option α} {r : α} (h : Ev (fun k => g (k + 1)) r) : Ev g r := Ev.step (fun _ => rfl) h

end Go.Proofs.Ytnafjabpkbahdaa.B
