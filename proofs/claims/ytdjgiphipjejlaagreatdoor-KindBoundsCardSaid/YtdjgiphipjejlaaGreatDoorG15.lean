import Derived.Test.YtdjgiphipjejlaaGreatDoorProg
import Derived.Below
import Derived.Deep.Draws
import Derived.Deep.AppendLies
import Derived.Maps.AppendAt
import Derived.OwnWalk
import Derived.Laws.BytesArg
import Derived.Laws.MakeOwn
import Derived.Laws.OwnMore
import Derived.Deep.OwnRows
import Derived.Tactics
import Derived.Lib.ConvBytes
import Derived.Laws.Slices
import Derived.WalkKit
import Derived.KernelRfl
import Derived.RowKit3
import Derived.Deep.LoopGhost
import Derived.Deep.QuietTactic
import Derived.BigQuiet
import Derived.WideLaws
import Derived.Deep.DeepCutAuto
import Derived.Deep.CutBlock
import Derived.Deep.RegionHeld3
import Derived.Laws.Rows
import Derived.Lib.AppendStr
import Derived.ArgAppend
import Derived.Laws.IdiomCopy
import Derived.OrdersHeld
import Derived.Laws.BitsLemmas
import Derived.RowKit
import Derived.Test.YtdjgiphipjejlaaGreatDoorWWords
import Derived.Test.YtdjgiphipjejlaaGreatDoorWLast
import Derived.Test.YtdjgiphipjejlaaGreatDoorWTab
import Derived.Test.YtdjgiphipjejlaaGreatDoorWQPut
import Derived.Test.YtdjgiphipjejlaaGreatDoorWApart
import Derived.Test.YtdjgiphipjejlaaGreatDoorWArr
import Derived.Test.YtdjgiphipjejlaaGreatDoorWZeros
import Derived.Test.YtdjgiphipjejlaaGreatDoorWFoot
import Derived.Test.YtdjgiphipjejlaaGreatDoorWKept
import Derived.Test.YtdjgiphipjejlaaGreatDoorWShare
import Derived.Test.YtdjgiphipjejlaaGreatDoorWN
import Derived.Test.YtdjgiphipjejlaaGreatDoorWRepsOne
import Derived.Test.YtdjgiphipjejlaaGreatDoorWGuard
import Derived.Test.YtdjgiphipjejlaaGreatDoorWNEv
import Derived.Test.YtdjgiphipjejlaaGreatDoorWMore
import Derived.Test.YtdjgiphipjejlaaGreatDoorG13

namespace Go.Proofs.YtdjgiphipjejlaaGreatDoor.G
open Go.RowKit Go.Proofs.YtdjgiphipjejlaaGreatDoorW.PrintWords Go.Proofs.YtdjgiphipjejlaaGreatDoorW.PrintLast Go.Proofs.YtdjgiphipjejlaaGreatDoorW.PrintMore
attribute [local go_sem] max2_int min2_int max_two min_two max_three min_three max_four min_four
set_option linter.unusedVariables false
set_option linter.unusedSimpArgs false

/-! ### kind.Text of a number -/
set_option maxRecDepth 100000 in
set_option maxHeartbeats 8000000 in
theorem text_num (b : Bool) (A : Option Addr) (c : Nat) (l : List Int) (sc : Int) (t : ByteArray) (w : World) (hr : Kd.C (Kd.int .u8) w A l.length l) (hc : l.length ≤ c) (h : dec_Dec_Text.f b l sc = some t) :
    Calls Tryz.prog 21 #[.agg (valV 10 b (.slice A l.length c) sc)] w fun e w' => e = .returned (.string t) ∧ Below w.heap.size w w' := by
  have HR := Lib.hid hr; have HC := Lib.hid hc; have HT := Lib.hid h
  clear hr hc h
  go_enter Tryz.func21, Tryz.ntmps21
  go_wp2_with (first | ((with_reducible refine gate_dst (N := 1) rfl ?_); (try (refine gate_guard (by rfl) ?_; dsimp only)); refine box_event ?hg (N := 1) ?hd (cs := (valV 10 b (.slice A l.length c) sc)) (t := 41) ?hr ?_; (case hd => rfl); (case hg => rfl); (case hr => first | (go_simp; done) | (go_simp; rfl)); intro g1 hg wA hbox hb; have HG1 := Lib.hid hg; have HX1 := Lib.hid hbox; have HB1 := Lib.hid hb; clear hg hbox hb; have z0 : wA.cell? ⟨g1, 0, none⟩ = some (.int .i64 10) := (blk_cell HX1.out 0).trans rfl; have z2 : wA.cell? ⟨g1, 2, none⟩ = some (.bool b) := (blk_cell HX1.out 2).trans rfl; have z3 : wA.cell? ⟨g1, 3, none⟩ = some (.slice A l.length c) := (blk_cell HX1.out 3).trans rfl; have z4 : wA.cell? ⟨g1, 4, none⟩ = some (.int .i64 sc) := (blk_cell HX1.out 4).trans rfl))
  refine (dec_Dec_Text.calls b A c l sc t _ (Kd.C_below HR.out HB1.out) HC.out HT.out).mono ?_
  rintro e w2 ⟨rfl, hb⟩
  have HB := Lib.hid (below_step HB1.out hb); clear hb
  go_wp2
  go_ret
  exact ⟨rfl, HB.out⟩

end Go.Proofs.YtdjgiphipjejlaaGreatDoor.G
