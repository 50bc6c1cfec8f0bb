import Derived.Test.YtnafjabpkbahdaaDoorB4a
namespace Go.Proofs.YtnafjabpkbahdaaDoor.B
open Go.RowKit Go.Proofs.YtnafjabpkbahdaaDoor Go.Proofs.YtnafjabpkbahdaaDoor.G Go.Proofs.YtnafjabpkbahdaaDoor.Pr Go.Proofs.YtnafjabpkbahdaaDoorW.PrintWords Go.Proofs.YtnafjabpkbahdaaDoorW.PrintLast
set_option linter.unusedVariables false
set_option linter.unusedSimpArgs false
theorem same_eq (n : Bool) (l : List Int) (s : Int) : rubriclaw5_same.f n l s n l s = some true := by
  unfold rubriclaw5_same.f
  rw [if_pos (by simp), if_pos rfl, beq_self_eq_true]

end Go.Proofs.YtnafjabpkbahdaaDoor.B
