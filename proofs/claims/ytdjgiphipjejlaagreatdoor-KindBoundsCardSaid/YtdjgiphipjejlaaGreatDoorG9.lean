import Derived.Test.YtdjgiphipjejlaaGreatDoorProg
import Derived.Below
import Derived.Deep.Draws
import Derived.Deep.AppendLies
import Derived.Maps.AppendAt
import Derived.OwnWalk
import Derived.Laws.BytesArg
import Derived.Laws.MakeOwn
import Derived.Laws.OwnMore
import Derived.Deep.OwnRows
import Derived.Tactics
import Derived.Lib.ConvBytes
import Derived.Laws.Slices
import Derived.WalkKit
import Derived.KernelRfl
import Derived.RowKit3
import Derived.Deep.LoopGhost
import Derived.Deep.QuietTactic
import Derived.BigQuiet
import Derived.WideLaws
import Derived.Deep.DeepCutAuto
import Derived.Deep.CutBlock
import Derived.Deep.RegionHeld3
import Derived.Laws.Rows
import Derived.Lib.AppendStr
import Derived.ArgAppend
import Derived.Laws.IdiomCopy
import Derived.OrdersHeld
import Derived.Laws.BitsLemmas
import Derived.RowKit
import Derived.Test.YtdjgiphipjejlaaGreatDoorWWords
import Derived.Test.YtdjgiphipjejlaaGreatDoorWLast
import Derived.Test.YtdjgiphipjejlaaGreatDoorWTab
import Derived.Test.YtdjgiphipjejlaaGreatDoorWQPut
import Derived.Test.YtdjgiphipjejlaaGreatDoorWApart
import Derived.Test.YtdjgiphipjejlaaGreatDoorWArr
import Derived.Test.YtdjgiphipjejlaaGreatDoorWZeros
import Derived.Test.YtdjgiphipjejlaaGreatDoorWFoot
import Derived.Test.YtdjgiphipjejlaaGreatDoorWKept
import Derived.Test.YtdjgiphipjejlaaGreatDoorWShare
import Derived.Test.YtdjgiphipjejlaaGreatDoorWN
import Derived.Test.YtdjgiphipjejlaaGreatDoorWRepsOne
import Derived.Test.YtdjgiphipjejlaaGreatDoorWGuard
import Derived.Test.YtdjgiphipjejlaaGreatDoorWNEv
import Derived.Test.YtdjgiphipjejlaaGreatDoorWMore
import Derived.Test.YtdjgiphipjejlaaGreatDoorG8
import Derived.Test.YtdjgiphipjejlaaGreatDoorG6
import Derived.Test.YtdjgiphipjejlaaGreatDoorG2
import Derived.Test.YtdjgiphipjejlaaGreatDoorG4
import Derived.Deep.WholeRow
import Derived.Lib.Hide

namespace Go.Proofs.YtdjgiphipjejlaaGreatDoor.G
open Go.RowKit Go.Proofs.YtdjgiphipjejlaaGreatDoorW.PrintWords Go.Proofs.YtdjgiphipjejlaaGreatDoorW.PrintLast Go.Proofs.YtdjgiphipjejlaaGreatDoorW.PrintMore
attribute [local go_sem] max2_int min2_int max_two min_two max_three min_three max_four min_four
set_option linter.unusedVariables false
set_option linter.unusedSimpArgs false

/-! ### kind.rows: the table, by value -/
def rowsL : List (ByteArray × Int) := [(⟨#[]⟩, 0), (⟨#[115, 116, 114, 105, 110, 103]⟩, 0), (⟨#[110, 111, 114, 109, 97, 108, 105, 122, 101, 100, 83, 116, 114, 105, 110, 103]⟩, 1), (⟨#[116, 111, 107, 101, 110]⟩, 2), (⟨#[78, 77, 84, 79, 75, 69, 78]⟩, 3), (⟨#[78, 97, 109, 101]⟩, 3), (⟨#[78, 67, 78, 97, 109, 101]⟩, 5), (⟨#[73, 68]⟩, 6), (⟨#[73, 68, 82, 69, 70]⟩, 6), (⟨#[98, 111, 111, 108, 101, 97, 110]⟩, 0), (⟨#[100, 101, 99, 105, 109, 97, 108]⟩, 0), (⟨#[105, 110, 116, 101, 103, 101, 114]⟩, 10), (⟨#[110, 111, 110, 80, 111, 115, 105, 116, 105, 118, 101, 73, 110, 116, 101, 103, 101, 114]⟩, 11), (⟨#[110, 101, 103, 97, 116, 105, 118, 101, 73, 110, 116, 101, 103, 101, 114]⟩, 12), (⟨#[110, 111, 110, 78, 101, 103, 97, 116, 105, 118, 101, 73, 110, 116, 101, 103, 101, 114]⟩, 11), (⟨#[112, 111, 115, 105, 116, 105, 118, 101, 73, 110, 116, 101, 103, 101, 114]⟩, 14), (⟨#[108, 111, 110, 103]⟩, 11), (⟨#[105, 110, 116]⟩, 16), (⟨#[115, 104, 111, 114, 116]⟩, 17), (⟨#[98, 121, 116, 101]⟩, 18), (⟨#[117, 110, 115, 105, 103, 110, 101, 100, 76, 111, 110, 103]⟩, 14), (⟨#[117, 110, 115, 105, 103, 110, 101, 100, 73, 110, 116]⟩, 20), (⟨#[117, 110, 115, 105, 103, 110, 101, 100, 83, 104, 111, 114, 116]⟩, 21), (⟨#[117, 110, 115, 105, 103, 110, 101, 100, 66, 121, 116, 101]⟩, 22), (⟨#[100, 97, 116, 101, 84, 105, 109, 101]⟩, 0), (⟨#[100, 97, 116, 101]⟩, 0), (⟨#[116, 105, 109, 101]⟩, 0), (⟨#[103, 89, 101, 97, 114, 77, 111, 110, 116, 104]⟩, 0), (⟨#[103, 89, 101, 97, 114]⟩, 0), (⟨#[103, 77, 111, 110, 116, 104, 68, 97, 121]⟩, 0), (⟨#[103, 68, 97, 121]⟩, 0), (⟨#[103, 77, 111, 110, 116, 104]⟩, 0), (⟨#[100, 117, 114, 97, 116, 105, 111, 110]⟩, 0)]
def rowsV : Array Value := #[.string ⟨#[]⟩, .int .i64 0, .string ⟨#[115, 116, 114, 105, 110, 103]⟩, .int .i64 0, .string ⟨#[110, 111, 114, 109, 97, 108, 105, 122, 101, 100, 83, 116, 114, 105, 110, 103]⟩, .int .i64 1, .string ⟨#[116, 111, 107, 101, 110]⟩, .int .i64 2, .string ⟨#[78, 77, 84, 79, 75, 69, 78]⟩, .int .i64 3, .string ⟨#[78, 97, 109, 101]⟩, .int .i64 3, .string ⟨#[78, 67, 78, 97, 109, 101]⟩, .int .i64 5, .string ⟨#[73, 68]⟩, .int .i64 6, .string ⟨#[73, 68, 82, 69, 70]⟩, .int .i64 6, .string ⟨#[98, 111, 111, 108, 101, 97, 110]⟩, .int .i64 0, .string ⟨#[100, 101, 99, 105, 109, 97, 108]⟩, .int .i64 0, .string ⟨#[105, 110, 116, 101, 103, 101, 114]⟩, .int .i64 10, .string ⟨#[110, 111, 110, 80, 111, 115, 105, 116, 105, 118, 101, 73, 110, 116, 101, 103, 101, 114]⟩, .int .i64 11, .string ⟨#[110, 101, 103, 97, 116, 105, 118, 101, 73, 110, 116, 101, 103, 101, 114]⟩, .int .i64 12, .string ⟨#[110, 111, 110, 78, 101, 103, 97, 116, 105, 118, 101, 73, 110, 116, 101, 103, 101, 114]⟩, .int .i64 11, .string ⟨#[112, 111, 115, 105, 116, 105, 118, 101, 73, 110, 116, 101, 103, 101, 114]⟩, .int .i64 14, .string ⟨#[108, 111, 110, 103]⟩, .int .i64 11, .string ⟨#[105, 110, 116]⟩, .int .i64 16, .string ⟨#[115, 104, 111, 114, 116]⟩, .int .i64 17, .string ⟨#[98, 121, 116, 101]⟩, .int .i64 18, .string ⟨#[117, 110, 115, 105, 103, 110, 101, 100, 76, 111, 110, 103]⟩, .int .i64 14, .string ⟨#[117, 110, 115, 105, 103, 110, 101, 100, 73, 110, 116]⟩, .int .i64 20, .string ⟨#[117, 110, 115, 105, 103, 110, 101, 100, 83, 104, 111, 114, 116]⟩, .int .i64 21, .string ⟨#[117, 110, 115, 105, 103, 110, 101, 100, 66, 121, 116, 101]⟩, .int .i64 22, .string ⟨#[100, 97, 116, 101, 84, 105, 109, 101]⟩, .int .i64 0, .string ⟨#[100, 97, 116, 101]⟩, .int .i64 0, .string ⟨#[116, 105, 109, 101]⟩, .int .i64 0, .string ⟨#[103, 89, 101, 97, 114, 77, 111, 110, 116, 104]⟩, .int .i64 0, .string ⟨#[103, 89, 101, 97, 114]⟩, .int .i64 0, .string ⟨#[103, 77, 111, 110, 116, 104, 68, 97, 121]⟩, .int .i64 0, .string ⟨#[103, 68, 97, 121]⟩, .int .i64 0, .string ⟨#[103, 77, 111, 110, 116, 104]⟩, .int .i64 0, .string ⟨#[100, 117, 114, 97, 116, 105, 111, 110]⟩, .int .i64 0]
def zerosV : Array Value := #[.string ⟨#[]⟩, .int .i64 0, .string ⟨#[]⟩, .int .i64 0, .string ⟨#[]⟩, .int .i64 0, .string ⟨#[]⟩, .int .i64 0, .string ⟨#[]⟩, .int .i64 0, .string ⟨#[]⟩, .int .i64 0, .string ⟨#[]⟩, .int .i64 0, .string ⟨#[]⟩, .int .i64 0, .string ⟨#[]⟩, .int .i64 0, .string ⟨#[]⟩, .int .i64 0, .string ⟨#[]⟩, .int .i64 0, .string ⟨#[]⟩, .int .i64 0, .string ⟨#[]⟩, .int .i64 0, .string ⟨#[]⟩, .int .i64 0, .string ⟨#[]⟩, .int .i64 0, .string ⟨#[]⟩, .int .i64 0, .string ⟨#[]⟩, .int .i64 0, .string ⟨#[]⟩, .int .i64 0, .string ⟨#[]⟩, .int .i64 0, .string ⟨#[]⟩, .int .i64 0, .string ⟨#[]⟩, .int .i64 0, .string ⟨#[]⟩, .int .i64 0, .string ⟨#[]⟩, .int .i64 0, .string ⟨#[]⟩, .int .i64 0, .string ⟨#[]⟩, .int .i64 0, .string ⟨#[]⟩, .int .i64 0, .string ⟨#[]⟩, .int .i64 0, .string ⟨#[]⟩, .int .i64 0, .string ⟨#[]⟩, .int .i64 0, .string ⟨#[]⟩, .int .i64 0, .string ⟨#[]⟩, .int .i64 0, .string ⟨#[]⟩, .int .i64 0, .string ⟨#[]⟩, .int .i64 0]
theorem rows_one : rowsV.all (·.oneCell') = true := by kernel_rfl
theorem build_to {P : Program} {ops : Array Oper} {rest : List Oper} {o : Oper} {a : Act} {w : World} {Q : Exit → Act → World → Prop} (hg : o.guard = none) (t : TypeId) (parts : Array (Nat × Operand)) (ho : o.op = .build t parts) (cells : Array Value)
    (hf : P.built t (parts.map fun (i, x) => (i, a.eval x)).toList = some cells) (h : wpList P ops Q rest (a.put o.dst (.agg cells)) w) : wpList P ops Q (o :: rest) a w :=
  wpList_build hg t parts ho (by rw [hf]; rfl) (by rw [hf]; exact h)
theorem rows_size : rowsV.size = 66 := by kernel_rfl
theorem zeros_size : zerosV.size = 66 := by kernel_rfl
set_option maxRecDepth 1000000 in
set_option maxHeartbeats 4000000 in
theorem rows_c (w : World) : Calls Tryz.prog 22 #[] w fun e w' => e = .returned (.agg rowsV) ∧ w' = w.alloc (.cells rowsV 49) := by
  have hz := zero_of_info (P := Tryz.prog) (t := 49) (v := .agg zerosV) (n := 66) (by kernel_rfl)
  have hzv := hz.1
  have HZ2 := Lib.hid hz.2
  clear hz
  go_enter Tryz.func22, Tryz.ntmps22
  go_wp2_with (first | ((with_reducible refine gate_dst (N := 34) rfl ?_); refine build_to rfl 49 _ rfl rowsV (by rfl) ?_) | (refine wpList_store_row rfl 49 (.tmp 0) (.tmp 34) rfl w.heap.size rowsV (by rfl) (by rfl) 49 zerosV (heap_alloc_last w _) HZ2.out rfl rows_one ?_; rw [World.setRow_alloc_new]))
  refine bodyPost_ret (results_cell_row rfl _ _ w.heap.size 49 rowsV (0, 0) _ rfl (heap_alloc_last w _) Tryz.underlying49 rfl HZ2.out) rfl ?_
  exact ⟨rfl, rfl⟩

end Go.Proofs.YtdjgiphipjejlaaGreatDoor.G
