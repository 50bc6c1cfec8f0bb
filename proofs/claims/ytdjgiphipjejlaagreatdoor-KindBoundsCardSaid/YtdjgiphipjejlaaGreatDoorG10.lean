import Derived.Test.YtdjgiphipjejlaaGreatDoorProg
import Derived.Below
import Derived.Deep.Draws
import Derived.Deep.AppendLies
import Derived.Maps.AppendAt
import Derived.OwnWalk
import Derived.Laws.BytesArg
import Derived.Laws.MakeOwn
import Derived.Laws.OwnMore
import Derived.Deep.OwnRows
import Derived.Tactics
import Derived.Lib.ConvBytes
import Derived.Laws.Slices
import Derived.WalkKit
import Derived.KernelRfl
import Derived.RowKit3
import Derived.Deep.LoopGhost
import Derived.Deep.QuietTactic
import Derived.BigQuiet
import Derived.WideLaws
import Derived.Deep.DeepCutAuto
import Derived.Deep.CutBlock
import Derived.Deep.RegionHeld3
import Derived.Laws.Rows
import Derived.Lib.AppendStr
import Derived.ArgAppend
import Derived.Laws.IdiomCopy
import Derived.OrdersHeld
import Derived.Laws.BitsLemmas
import Derived.RowKit
import Derived.Test.YtdjgiphipjejlaaGreatDoorWWords
import Derived.Test.YtdjgiphipjejlaaGreatDoorWLast
import Derived.Test.YtdjgiphipjejlaaGreatDoorWTab
import Derived.Test.YtdjgiphipjejlaaGreatDoorWQPut
import Derived.Test.YtdjgiphipjejlaaGreatDoorWApart
import Derived.Test.YtdjgiphipjejlaaGreatDoorWArr
import Derived.Test.YtdjgiphipjejlaaGreatDoorWZeros
import Derived.Test.YtdjgiphipjejlaaGreatDoorWFoot
import Derived.Test.YtdjgiphipjejlaaGreatDoorWKept
import Derived.Test.YtdjgiphipjejlaaGreatDoorWShare
import Derived.Test.YtdjgiphipjejlaaGreatDoorWN
import Derived.Test.YtdjgiphipjejlaaGreatDoorWRepsOne
import Derived.Test.YtdjgiphipjejlaaGreatDoorWGuard
import Derived.Test.YtdjgiphipjejlaaGreatDoorWNEv
import Derived.Test.YtdjgiphipjejlaaGreatDoorWMore
import Derived.Test.YtdjgiphipjejlaaGreatDoorG9

namespace Go.Proofs.YtdjgiphipjejlaaGreatDoor.G
open Go.RowKit Go.Proofs.YtdjgiphipjejlaaGreatDoorW.PrintWords Go.Proofs.YtdjgiphipjejlaaGreatDoorW.PrintLast Go.Proofs.YtdjgiphipjejlaaGreatDoorW.PrintMore
attribute [local go_sem] max2_int min2_int max_two min_two max_three min_three max_four min_four
set_option linter.unusedVariables false
set_option linter.unusedSimpArgs false

/-! ### kind.Base, kind.Name -/
def rowAt (k : Int) : ByteArray × Int := rowsL.getD k.toNat (⟨#[]⟩, 0)
theorem ix0 (w : World) : (Instr.index 49 (.agg rowsV) (.int .i64 (0 : Nat))).run Tryz.prog w = .ok (.agg #[.string (rowAt (0 : Nat)).1, .int .i64 (rowAt (0 : Nat)).2]) w := by kernel_rfl
theorem ix1 (w : World) : (Instr.index 49 (.agg rowsV) (.int .i64 (1 : Nat))).run Tryz.prog w = .ok (.agg #[.string (rowAt (1 : Nat)).1, .int .i64 (rowAt (1 : Nat)).2]) w := by kernel_rfl
theorem ix2 (w : World) : (Instr.index 49 (.agg rowsV) (.int .i64 (2 : Nat))).run Tryz.prog w = .ok (.agg #[.string (rowAt (2 : Nat)).1, .int .i64 (rowAt (2 : Nat)).2]) w := by kernel_rfl
theorem ix3 (w : World) : (Instr.index 49 (.agg rowsV) (.int .i64 (3 : Nat))).run Tryz.prog w = .ok (.agg #[.string (rowAt (3 : Nat)).1, .int .i64 (rowAt (3 : Nat)).2]) w := by kernel_rfl
theorem ix4 (w : World) : (Instr.index 49 (.agg rowsV) (.int .i64 (4 : Nat))).run Tryz.prog w = .ok (.agg #[.string (rowAt (4 : Nat)).1, .int .i64 (rowAt (4 : Nat)).2]) w := by kernel_rfl
theorem ix5 (w : World) : (Instr.index 49 (.agg rowsV) (.int .i64 (5 : Nat))).run Tryz.prog w = .ok (.agg #[.string (rowAt (5 : Nat)).1, .int .i64 (rowAt (5 : Nat)).2]) w := by kernel_rfl
theorem ix6 (w : World) : (Instr.index 49 (.agg rowsV) (.int .i64 (6 : Nat))).run Tryz.prog w = .ok (.agg #[.string (rowAt (6 : Nat)).1, .int .i64 (rowAt (6 : Nat)).2]) w := by kernel_rfl
theorem ix7 (w : World) : (Instr.index 49 (.agg rowsV) (.int .i64 (7 : Nat))).run Tryz.prog w = .ok (.agg #[.string (rowAt (7 : Nat)).1, .int .i64 (rowAt (7 : Nat)).2]) w := by kernel_rfl
theorem ix8 (w : World) : (Instr.index 49 (.agg rowsV) (.int .i64 (8 : Nat))).run Tryz.prog w = .ok (.agg #[.string (rowAt (8 : Nat)).1, .int .i64 (rowAt (8 : Nat)).2]) w := by kernel_rfl
theorem ix9 (w : World) : (Instr.index 49 (.agg rowsV) (.int .i64 (9 : Nat))).run Tryz.prog w = .ok (.agg #[.string (rowAt (9 : Nat)).1, .int .i64 (rowAt (9 : Nat)).2]) w := by kernel_rfl
theorem ix10 (w : World) : (Instr.index 49 (.agg rowsV) (.int .i64 (10 : Nat))).run Tryz.prog w = .ok (.agg #[.string (rowAt (10 : Nat)).1, .int .i64 (rowAt (10 : Nat)).2]) w := by kernel_rfl
theorem ix11 (w : World) : (Instr.index 49 (.agg rowsV) (.int .i64 (11 : Nat))).run Tryz.prog w = .ok (.agg #[.string (rowAt (11 : Nat)).1, .int .i64 (rowAt (11 : Nat)).2]) w := by kernel_rfl
theorem ix12 (w : World) : (Instr.index 49 (.agg rowsV) (.int .i64 (12 : Nat))).run Tryz.prog w = .ok (.agg #[.string (rowAt (12 : Nat)).1, .int .i64 (rowAt (12 : Nat)).2]) w := by kernel_rfl
theorem ix13 (w : World) : (Instr.index 49 (.agg rowsV) (.int .i64 (13 : Nat))).run Tryz.prog w = .ok (.agg #[.string (rowAt (13 : Nat)).1, .int .i64 (rowAt (13 : Nat)).2]) w := by kernel_rfl
theorem ix14 (w : World) : (Instr.index 49 (.agg rowsV) (.int .i64 (14 : Nat))).run Tryz.prog w = .ok (.agg #[.string (rowAt (14 : Nat)).1, .int .i64 (rowAt (14 : Nat)).2]) w := by kernel_rfl
theorem ix15 (w : World) : (Instr.index 49 (.agg rowsV) (.int .i64 (15 : Nat))).run Tryz.prog w = .ok (.agg #[.string (rowAt (15 : Nat)).1, .int .i64 (rowAt (15 : Nat)).2]) w := by kernel_rfl
theorem ix16 (w : World) : (Instr.index 49 (.agg rowsV) (.int .i64 (16 : Nat))).run Tryz.prog w = .ok (.agg #[.string (rowAt (16 : Nat)).1, .int .i64 (rowAt (16 : Nat)).2]) w := by kernel_rfl
theorem ix17 (w : World) : (Instr.index 49 (.agg rowsV) (.int .i64 (17 : Nat))).run Tryz.prog w = .ok (.agg #[.string (rowAt (17 : Nat)).1, .int .i64 (rowAt (17 : Nat)).2]) w := by kernel_rfl
theorem ix18 (w : World) : (Instr.index 49 (.agg rowsV) (.int .i64 (18 : Nat))).run Tryz.prog w = .ok (.agg #[.string (rowAt (18 : Nat)).1, .int .i64 (rowAt (18 : Nat)).2]) w := by kernel_rfl
theorem ix19 (w : World) : (Instr.index 49 (.agg rowsV) (.int .i64 (19 : Nat))).run Tryz.prog w = .ok (.agg #[.string (rowAt (19 : Nat)).1, .int .i64 (rowAt (19 : Nat)).2]) w := by kernel_rfl
theorem ix20 (w : World) : (Instr.index 49 (.agg rowsV) (.int .i64 (20 : Nat))).run Tryz.prog w = .ok (.agg #[.string (rowAt (20 : Nat)).1, .int .i64 (rowAt (20 : Nat)).2]) w := by kernel_rfl
theorem ix21 (w : World) : (Instr.index 49 (.agg rowsV) (.int .i64 (21 : Nat))).run Tryz.prog w = .ok (.agg #[.string (rowAt (21 : Nat)).1, .int .i64 (rowAt (21 : Nat)).2]) w := by kernel_rfl
theorem ix22 (w : World) : (Instr.index 49 (.agg rowsV) (.int .i64 (22 : Nat))).run Tryz.prog w = .ok (.agg #[.string (rowAt (22 : Nat)).1, .int .i64 (rowAt (22 : Nat)).2]) w := by kernel_rfl
theorem ix23 (w : World) : (Instr.index 49 (.agg rowsV) (.int .i64 (23 : Nat))).run Tryz.prog w = .ok (.agg #[.string (rowAt (23 : Nat)).1, .int .i64 (rowAt (23 : Nat)).2]) w := by kernel_rfl
theorem ix24 (w : World) : (Instr.index 49 (.agg rowsV) (.int .i64 (24 : Nat))).run Tryz.prog w = .ok (.agg #[.string (rowAt (24 : Nat)).1, .int .i64 (rowAt (24 : Nat)).2]) w := by kernel_rfl
theorem ix25 (w : World) : (Instr.index 49 (.agg rowsV) (.int .i64 (25 : Nat))).run Tryz.prog w = .ok (.agg #[.string (rowAt (25 : Nat)).1, .int .i64 (rowAt (25 : Nat)).2]) w := by kernel_rfl
theorem ix26 (w : World) : (Instr.index 49 (.agg rowsV) (.int .i64 (26 : Nat))).run Tryz.prog w = .ok (.agg #[.string (rowAt (26 : Nat)).1, .int .i64 (rowAt (26 : Nat)).2]) w := by kernel_rfl
theorem ix27 (w : World) : (Instr.index 49 (.agg rowsV) (.int .i64 (27 : Nat))).run Tryz.prog w = .ok (.agg #[.string (rowAt (27 : Nat)).1, .int .i64 (rowAt (27 : Nat)).2]) w := by kernel_rfl
theorem ix28 (w : World) : (Instr.index 49 (.agg rowsV) (.int .i64 (28 : Nat))).run Tryz.prog w = .ok (.agg #[.string (rowAt (28 : Nat)).1, .int .i64 (rowAt (28 : Nat)).2]) w := by kernel_rfl
theorem ix29 (w : World) : (Instr.index 49 (.agg rowsV) (.int .i64 (29 : Nat))).run Tryz.prog w = .ok (.agg #[.string (rowAt (29 : Nat)).1, .int .i64 (rowAt (29 : Nat)).2]) w := by kernel_rfl
theorem ix30 (w : World) : (Instr.index 49 (.agg rowsV) (.int .i64 (30 : Nat))).run Tryz.prog w = .ok (.agg #[.string (rowAt (30 : Nat)).1, .int .i64 (rowAt (30 : Nat)).2]) w := by kernel_rfl
theorem ix31 (w : World) : (Instr.index 49 (.agg rowsV) (.int .i64 (31 : Nat))).run Tryz.prog w = .ok (.agg #[.string (rowAt (31 : Nat)).1, .int .i64 (rowAt (31 : Nat)).2]) w := by kernel_rfl
theorem ix32 (w : World) : (Instr.index 49 (.agg rowsV) (.int .i64 (32 : Nat))).run Tryz.prog w = .ok (.agg #[.string (rowAt (32 : Nat)).1, .int .i64 (rowAt (32 : Nat)).2]) w := by kernel_rfl
theorem index_rows : ∀ (k : Nat) (hk : k < 33) (w : World), (Instr.index 49 (.agg rowsV) (.int .i64 k)).run Tryz.prog w = .ok (.agg #[.string (rowAt k).1, .int .i64 (rowAt k).2]) w
  | 0, _, w => ix0 w
  | 1, _, w => ix1 w
  | 2, _, w => ix2 w
  | 3, _, w => ix3 w
  | 4, _, w => ix4 w
  | 5, _, w => ix5 w
  | 6, _, w => ix6 w
  | 7, _, w => ix7 w
  | 8, _, w => ix8 w
  | 9, _, w => ix9 w
  | 10, _, w => ix10 w
  | 11, _, w => ix11 w
  | 12, _, w => ix12 w
  | 13, _, w => ix13 w
  | 14, _, w => ix14 w
  | 15, _, w => ix15 w
  | 16, _, w => ix16 w
  | 17, _, w => ix17 w
  | 18, _, w => ix18 w
  | 19, _, w => ix19 w
  | 20, _, w => ix20 w
  | 21, _, w => ix21 w
  | 22, _, w => ix22 w
  | 23, _, w => ix23 w
  | 24, _, w => ix24 w
  | 25, _, w => ix25 w
  | 26, _, w => ix26 w
  | 27, _, w => ix27 w
  | 28, _, w => ix28 w
  | 29, _, w => ix29 w
  | 30, _, w => ix30 w
  | 31, _, w => ix31 w
  | 32, _, w => ix32 w
  | k + 33, hk, _ => absurd hk (by omega)
theorem is_yes (k : Int) (h1 : 1 ≤ k) (h2 : k ≤ 32) (w : World) : Calls Tryz.prog 24 #[.int .i64 k] w fun e w' => e = .returned (.bool true) ∧ w' = w := by
  go_enter Tryz.func24, Tryz.ntmps24
  go_wp2
  go_ret
  exact ⟨rfl, rfl⟩
theorem is_no (k : Int) (h : ¬ (1 ≤ k ∧ k ≤ 32)) (w : World) : Calls Tryz.prog 24 #[.int .i64 k] w fun e w' => e = .returned (.bool false) ∧ w' = w := by
  by_cases h1 : k < 1
  · clear h
    go_enter Tryz.func24, Tryz.ntmps24
    go_wp2
    go_ret
    exact ⟨rfl, rfl⟩
  · have h2 : 32 < k := by omega
    have h3 : 1 ≤ k := by omega
    have h4 : decide (k ≤ 32) = false := decide_eq_false (by omega)
    clear h h1
    go_enter Tryz.func24, Tryz.ntmps24
    go_wp2
    go_ret
    exact ⟨rfl, rfl⟩
def kind_Base.f (a0 : Int) : Option Int := some (if 1 ≤ a0 ∧ a0 ≤ 32 then (rowAt a0).2 else 0)
def kind_Name.f (a0 : Int) : Option ByteArray := some (if 1 ≤ a0 ∧ a0 ≤ 32 then (rowAt a0).1 else ⟨#[]⟩)
theorem fd_base (a : ByteArray) (b : Int) (w : World) : Sem.run Tryz.prog (Instr.field 48 (.agg #[.string a, .int .i64 b]) 1) w = .ok (.int .i64 b) w := by kernel_rfl
theorem fd_name (a : ByteArray) (b : Int) (w : World) : Sem.run Tryz.prog (Instr.field 48 (.agg #[.string a, .int .i64 b]) 0) w = .ok (.string a) w := by kernel_rfl
set_option maxRecDepth 100000 in
theorem kind_Base.calls (a0 : Int) (r : Int) (w : World) (h : kind_Base.f a0 = some r) : Calls Tryz.prog 10 #[.int .i64 a0] w fun e w' => e = .returned (.int .i64 r) ∧ Below w.heap.size w w' := by
  obtain rfl := Option.some.inj h
  clear h
  by_cases h1 : 1 ≤ a0 ∧ a0 ≤ 32
  · obtain ⟨k, rfl⟩ : ∃ k : Nat, a0 = k := ⟨a0.toNat, by omega⟩
    rw [if_pos h1]
    have hx := index_rows k (by omega)
    have hfd := fd_base
    have HX := Lib.hid h1
    clear h1
    generalize rowAt k = R at hx ⊢
    go_enter Tryz.func10, Tryz.ntmps10
    go_wp2_with (fail)
    refine (is_yes k HX.out.1 HX.out.2 w).mono ?_
    rintro e w1 ⟨rfl, rfl⟩
    go_wp2_with (fail)
    refine (rows_c _).mono ?_
    rintro e w1 ⟨rfl, rfl⟩
    have HB := below_alloc (Below.refl w1.heap.size w1) (.cells rowsV 49)
    generalize w1.alloc (.cells rowsV 49) = w2 at HB ⊢
    go_wp2
    go_ret
    exact ⟨rfl, HB⟩
  · rw [if_neg h1]
    have HX := Lib.hid h1
    clear h1
    go_enter Tryz.func10, Tryz.ntmps10
    go_wp2_with (fail)
    refine (is_no a0 HX.out w).mono ?_
    rintro e w1 ⟨rfl, rfl⟩
    go_wp2
    go_ret
    exact ⟨rfl, Below.refl _ _⟩
set_option maxRecDepth 100000 in
theorem kind_Name.calls (a0 : Int) (r : ByteArray) (w : World) (h : kind_Name.f a0 = some r) : Calls Tryz.prog 8 #[.int .i64 a0] w fun e w' => e = .returned (.string r) ∧ Below w.heap.size w w' := by
  obtain rfl := Option.some.inj h
  clear h
  by_cases h1 : 1 ≤ a0 ∧ a0 ≤ 32
  · obtain ⟨k, rfl⟩ : ∃ k : Nat, a0 = k := ⟨a0.toNat, by omega⟩
    rw [if_pos h1]
    have hx := index_rows k (by omega)
    have hfd := fd_name
    have HX := Lib.hid h1
    clear h1
    generalize rowAt k = R at hx ⊢
    go_enter Tryz.func8, Tryz.ntmps8
    go_wp2_with (fail)
    refine (is_yes k HX.out.1 HX.out.2 w).mono ?_
    rintro e w1 ⟨rfl, rfl⟩
    go_wp2_with (fail)
    refine (rows_c _).mono ?_
    rintro e w1 ⟨rfl, rfl⟩
    have HB := below_alloc (Below.refl w1.heap.size w1) (.cells rowsV 49)
    generalize w1.alloc (.cells rowsV 49) = w2 at HB ⊢
    go_wp2
    go_ret
    exact ⟨rfl, HB⟩
  · rw [if_neg h1]
    have HX := Lib.hid h1
    clear h1
    go_enter Tryz.func8, Tryz.ntmps8
    go_wp2_with (fail)
    refine (is_no a0 HX.out w).mono ?_
    rintro e w1 ⟨rfl, rfl⟩
    go_wp2
    go_ret
    exact ⟨rfl, Below.refl _ _⟩

end Go.Proofs.YtdjgiphipjejlaaGreatDoor.G
