import Derived.Test.YtdjgiphipjejlaaGreatDoorProg
import Derived.Below
import Derived.Deep.Draws
import Derived.Deep.AppendLies
import Derived.Maps.AppendAt
import Derived.OwnWalk
import Derived.Laws.BytesArg
import Derived.Laws.MakeOwn
import Derived.Laws.OwnMore
import Derived.Deep.OwnRows
import Derived.Tactics
import Derived.Lib.ConvBytes
import Derived.Laws.Slices
import Derived.WalkKit
import Derived.KernelRfl
import Derived.RowKit3
import Derived.Deep.LoopGhost
import Derived.Deep.QuietTactic
import Derived.BigQuiet
import Derived.WideLaws
import Derived.Deep.DeepCutAuto
import Derived.Deep.CutBlock
import Derived.Deep.RegionHeld3
import Derived.Laws.Rows
import Derived.Lib.AppendStr
import Derived.ArgAppend
import Derived.Laws.IdiomCopy
import Derived.OrdersHeld
import Derived.Laws.BitsLemmas
import Derived.RowKit
import Derived.Test.YtdjgiphipjejlaaGreatDoorWWords
import Derived.Test.YtdjgiphipjejlaaGreatDoorWLast
import Derived.Test.YtdjgiphipjejlaaGreatDoorWTab
import Derived.Test.YtdjgiphipjejlaaGreatDoorWQPut
import Derived.Test.YtdjgiphipjejlaaGreatDoorWApart
import Derived.Test.YtdjgiphipjejlaaGreatDoorWArr
import Derived.Test.YtdjgiphipjejlaaGreatDoorWZeros
import Derived.Test.YtdjgiphipjejlaaGreatDoorWFoot
import Derived.Test.YtdjgiphipjejlaaGreatDoorWKept
import Derived.Test.YtdjgiphipjejlaaGreatDoorWShare
import Derived.Test.YtdjgiphipjejlaaGreatDoorWN
import Derived.Test.YtdjgiphipjejlaaGreatDoorWRepsOne
import Derived.Test.YtdjgiphipjejlaaGreatDoorWGuard
import Derived.Test.YtdjgiphipjejlaaGreatDoorWNEv
import Derived.Test.YtdjgiphipjejlaaGreatDoorWMore
import Derived.Test.YtdjgiphipjejlaaGreatDoorG11
import Derived.Test.YtdjgiphipjejlaaGreatDoorG6
import Derived.Test.YtdjgiphipjejlaaGreatDoorPrx1
import Derived.Test.YtdjgiphipjejlaaGreatDoorPrx4

namespace Go.Proofs.YtdjgiphipjejlaaGreatDoor.G
open Go.RowKit Go.Proofs.YtdjgiphipjejlaaGreatDoorW.PrintWords Go.Proofs.YtdjgiphipjejlaaGreatDoorW.PrintLast Go.Proofs.YtdjgiphipjejlaaGreatDoorW.PrintMore
attribute [local go_sem] max2_int min2_int max_two min_two max_three min_three max_four min_four
set_option linter.unusedVariables false
set_option linter.unusedSimpArgs false

/-! ### What is known of fixed texts -/
def sShort : ByteArray := ⟨#[115, 104, 111, 114, 116]⟩
theorem q_words1 : Pr.char_Words.f 60 (⟨#[32, 45, 51, 50, 55, 54, 56, 32]⟩ : ByteArray) = some [(⟨#[45, 51, 50, 55, 54, 56]⟩ : ByteArray)] := by kernel_rfl
theorem q_words2 : Pr.char_Words.f 60 (⟨#[51, 50, 55, 54, 56]⟩ : ByteArray) = some [(⟨#[51, 50, 55, 54, 56]⟩ : ByteArray)] := by kernel_rfl
theorem q_prim : Pr.kind_Prim.f 60 18 = some 10 := by kernel_rfl
theorem q_derived : Pr.kind_Derived.f 60 18 11 = some true := by kernel_rfl
theorem q_find1 : kind_Find.f (⟨#[115, 104, 111, 114, 116]⟩ : ByteArray) = some (18, 0) := by kernel_rfl
theorem q_find2 : kind_Find.f (⟨#[102, 108, 111, 97, 116]⟩ : ByteArray) = some (0, 6) := by kernel_rfl
theorem q_name : kind_Name.f 7 = some (⟨#[73, 68]⟩ : ByteArray) := by kernel_rfl
theorem q_num1 : Pr.kind_number.f 60 18 (⟨#[45, 51, 50, 55, 54, 56]⟩ : ByteArray) = some (true, [3, 2, 7, 6, 8], 0, true) := by kernel_rfl
theorem q_num2 : (Pr.kind_number.f 60 18 (⟨#[51, 50, 55, 54, 56]⟩ : ByteArray)).map (fun x => x.2.2.2) = some false := by kernel_rfl
theorem q_text : dec_Dec_Text.f true [3, 2, 7, 6, 8] 0 = some (⟨#[45, 51, 50, 55, 54, 56]⟩ : ByteArray) := by kernel_rfl

end Go.Proofs.YtdjgiphipjejlaaGreatDoor.G
