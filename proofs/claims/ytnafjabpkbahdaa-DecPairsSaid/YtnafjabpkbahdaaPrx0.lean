-- printed by wip/gprint.py (ours) out of the translation, by the kit's print program with given contracts
import Derived.Test.YtnafjabpkbahdaaProg
import Derived.Below
import Derived.Deep.Draws
import Derived.Deep.AppendLies
import Derived.Maps.AppendAt
import Derived.OwnWalk
import Derived.Laws.BytesArg
import Derived.Laws.MakeOwn
import Derived.Laws.OwnMore
import Derived.Deep.OwnRows
import Derived.Tactics
import Derived.Lib.ConvBytes
import Derived.Laws.Slices
import Derived.WalkKit
import Derived.KernelRfl
import Derived.RowKit3
import Derived.Deep.LoopGhost
import Derived.Deep.QuietTactic
import Derived.BigQuiet
import Derived.WideLaws
import Derived.Deep.DeepCutAuto
import Derived.Deep.CutBlock
import Derived.Deep.RegionHeld3
import Derived.Laws.Rows
import Derived.Lib.AppendStr
import Derived.ArgAppend
import Derived.Laws.IdiomCopy
import Derived.OrdersHeld
import Derived.Laws.BitsLemmas
import Derived.RowKit
import Derived.Test.YtnafjabpkbahdaaS
import Derived.Test.YtnafjabpkbahdaaG1
import Derived.Test.YtnafjabpkbahdaaG2
import Derived.Test.YtnafjabpkbahdaaG3
import Derived.Test.YtnafjabpkbahdaaG4
import Derived.Test.YtnafjabpkbahdaaG6
import Derived.Test.YtnafjabpkbahdaaG8
import Derived.Test.YtnafjabpkbahdaaWWords
import Derived.Test.YtnafjabpkbahdaaWLast
import Derived.Test.YtnafjabpkbahdaaWTab
import Derived.Test.YtnafjabpkbahdaaWQPut
import Derived.Test.YtnafjabpkbahdaaWApart
import Derived.Test.YtnafjabpkbahdaaWArr
import Derived.Test.YtnafjabpkbahdaaWZeros
import Derived.Test.YtnafjabpkbahdaaWFoot
import Derived.Test.YtnafjabpkbahdaaWKept
import Derived.Test.YtnafjabpkbahdaaWShare
import Derived.Test.YtnafjabpkbahdaaWN
import Derived.Test.YtnafjabpkbahdaaWRepsOne
import Derived.Test.YtnafjabpkbahdaaWGuard
import Derived.Test.YtnafjabpkbahdaaWNEv
import Derived.Test.YtnafjabpkbahdaaWMore
namespace Go.Proofs.Ytnafjabpkbahdaa.Pr
open Go.RowKit Go.Proofs.YtnafjabpkbahdaaW.PrintWords Go.Proofs.YtnafjabpkbahdaaW.PrintLast Go.Proofs.YtnafjabpkbahdaaW.PrintMore
attribute [local go_sem] max2_int min2_int max_two min_two max_three min_three max_four min_four   -- for this text's walks alone
set_option linter.unusedVariables false
set_option linter.unusedSimpArgs false



def errW : Option Int → Value
 | none => .nilIface
 | some c => .iface 0 (.int .i64 c)
theorem errW_none : errW none = .nilIface := rfl
theorem errW_some (c : Int) : errW (some c) = .iface 0 (.int .i64 c) := rfl

theorem info5 : (Try.prog.info? 5).map (fun i => (i.zero, i.size, i.bytes)) = some (some (.int .u8 0), 1, 1) := by kernel_rfl
-- the values' own types

end Go.Proofs.Ytnafjabpkbahdaa.Pr
