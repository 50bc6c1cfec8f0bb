-- printed by wip/gprint.py (ours) out of the translation, by the kit's print program with given contracts
import Derived.Test.YtnafjabpkbahdaaDoorProg
import Derived.Below
import Derived.Deep.Draws
import Derived.Deep.AppendLies
import Derived.Maps.AppendAt
import Derived.OwnWalk
import Derived.Laws.BytesArg
import Derived.Laws.MakeOwn
import Derived.Laws.OwnMore
import Derived.Deep.OwnRows
import Derived.Tactics
import Derived.Lib.ConvBytes
import Derived.Laws.Slices
import Derived.WalkKit
import Derived.KernelRfl
import Derived.RowKit3
import Derived.Deep.LoopGhost
import Derived.Deep.QuietTactic
import Derived.BigQuiet
import Derived.WideLaws
import Derived.Deep.DeepCutAuto
import Derived.Deep.CutBlock
import Derived.Deep.RegionHeld3
import Derived.Laws.Rows
import Derived.Lib.AppendStr
import Derived.ArgAppend
import Derived.Laws.IdiomCopy
import Derived.OrdersHeld
import Derived.Laws.BitsLemmas
import Derived.RowKit
import Derived.Test.YtnafjabpkbahdaaDoorS
import Derived.Test.YtnafjabpkbahdaaDoorG1
import Derived.Test.YtnafjabpkbahdaaDoorG2
import Derived.Test.YtnafjabpkbahdaaDoorG3
import Derived.Test.YtnafjabpkbahdaaDoorG4
import Derived.Test.YtnafjabpkbahdaaDoorG6
import Derived.Test.YtnafjabpkbahdaaDoorG8
import Derived.Test.YtnafjabpkbahdaaDoorWWords
import Derived.Test.YtnafjabpkbahdaaDoorWLast
import Derived.Test.YtnafjabpkbahdaaDoorWTab
import Derived.Test.YtnafjabpkbahdaaDoorWQPut
import Derived.Test.YtnafjabpkbahdaaDoorWApart
import Derived.Test.YtnafjabpkbahdaaDoorWArr
import Derived.Test.YtnafjabpkbahdaaDoorWZeros
import Derived.Test.YtnafjabpkbahdaaDoorWFoot
import Derived.Test.YtnafjabpkbahdaaDoorWKept
import Derived.Test.YtnafjabpkbahdaaDoorWShare
import Derived.Test.YtnafjabpkbahdaaDoorWN
import Derived.Test.YtnafjabpkbahdaaDoorWRepsOne
import Derived.Test.YtnafjabpkbahdaaDoorWGuard
import Derived.Test.YtnafjabpkbahdaaDoorWNEv
import Derived.Test.YtnafjabpkbahdaaDoorWMore
namespace Go.Proofs.YtnafjabpkbahdaaDoor.Pr
open Go.RowKit Go.Proofs.YtnafjabpkbahdaaDoorW.PrintWords Go.Proofs.YtnafjabpkbahdaaDoorW.PrintLast Go.Proofs.YtnafjabpkbahdaaDoorW.PrintMore
attribute [local go_sem] max2_int min2_int max_two min_two max_three min_three max_four min_four   -- for this text's walks alone
set_option linter.unusedVariables false
set_option linter.unusedSimpArgs false



def errW : Option Int → Value
 | none => .nilIface
 | some c => .iface 0 (.int .i64 c)
theorem errW_none : errW none = .nilIface := rfl
theorem errW_some (c : Int) : errW (some c) = .iface 0 (.int .i64 c) := rfl

theorem info5 : (Tryd.prog.info? 5).map (fun i => (i.zero, i.size, i.bytes)) = some (some (.int .u8 0), 1, 1) := by kernel_rfl
-- the values' own types

end Go.Proofs.YtnafjabpkbahdaaDoor.Pr
