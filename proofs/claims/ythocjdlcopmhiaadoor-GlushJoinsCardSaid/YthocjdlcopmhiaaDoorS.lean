import Derived.Test.YthocjdlcopmhiaaDoorWMore
import Derived.Test.YthocjdlcopmhiaaDoorWN
namespace Go.Proofs.YthocjdlcopmhiaaDoor.S
open Go.RowKit Go.Proofs.YthocjdlcopmhiaaDoorW.PrintWords Go.Proofs.YthocjdlcopmhiaaDoorW.PrintLast Go.Proofs.YthocjdlcopmhiaaDoorW.PrintMore
set_option linter.unusedVariables false
class Later (w w' : World) : Prop where
 out : Below w.heap.size w w'
instance laterRefl (w : World) : Later w w := ⟨Below.refl _ _⟩
instance laterAlloc (w w' : World) (o : Obj) [h : Later w w'] : Later w (w'.alloc o) := ⟨below_alloc h.out o⟩
instance laterDrew (w w' : World) [h : Later w w'] : Later w w'.drew := ⟨below_drew h.out⟩
instance laterDrewN (w w' : World) (n : Nat) [h : Later w w'] : Later w (w'.drewN n) := ⟨pw_below_drewN h.out n⟩
section
variable {α : Type} {d : Kd α} {e base : Nat} {ok : Nat → Prop} {w w' : World} {u : Value} {xs : List α}
theorem b {g : Nat} {o : Obj} (k : w.heap[g]? = some o) [h : Later w w'] : w'.heap[g]? = some o := blk_below k h.out
theorem v (k : Kd.V d e w base ok u xs) [h : Later w w'] : Kd.V d e w' base ok u xs := Kd.V_below k h.out
theorem r (k : Kd.R d e w base ok u xs) [h : Later w w'] : Kd.R d e w' base ok u xs := Kd.R_below k h.out
theorem n (k : Kd.N d e w base ok u xs) [h : Later w w'] : Kd.N d e w' base ok u xs := Kd.N_below k h.out
theorem q (k : Kd.Q d e w base ok u xs) [h : Later w w'] : Kd.Q d e w' base ok u xs := Kd.Q_below k h.out
theorem s (k : Kd.S d e w base ok u xs) [h : Later w w'] : Kd.S d e w' base ok u xs := Kd.S_below k h.out
theorem h {w0 : World} {B : Nat} (k : Below B w0 w) (hB : B ≤ w.heap.size) [h : Later w w'] : Below B w0 w' := k.trans (h.out.mono hB)
end
def um (n m : Nat) : Array Bool := ((List.range n).map fun i => m.testBit i).toArray
end Go.Proofs.YthocjdlcopmhiaaDoor.S
