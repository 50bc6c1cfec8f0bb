import Derived.Test.YtdjgiphipjejlaaGreatDoorProg
import Derived.Below
import Derived.Deep.Draws
import Derived.Deep.AppendLies
import Derived.Maps.AppendAt
import Derived.OwnWalk
import Derived.Laws.BytesArg
import Derived.Laws.MakeOwn
import Derived.Laws.OwnMore
import Derived.Deep.OwnRows
import Derived.Tactics
import Derived.Lib.ConvBytes
import Derived.Laws.Slices
import Derived.WalkKit
import Derived.KernelRfl
import Derived.RowKit3
import Derived.Deep.LoopGhost
import Derived.Deep.QuietTactic
import Derived.BigQuiet
import Derived.WideLaws
import Derived.Deep.DeepCutAuto
import Derived.Deep.CutBlock
import Derived.Deep.RegionHeld3
import Derived.Laws.Rows
import Derived.Lib.AppendStr
import Derived.ArgAppend
import Derived.Laws.IdiomCopy
import Derived.OrdersHeld
import Derived.Laws.BitsLemmas
import Derived.RowKit
import Derived.Test.YtdjgiphipjejlaaGreatDoorWWords
import Derived.Test.YtdjgiphipjejlaaGreatDoorWLast
import Derived.Test.YtdjgiphipjejlaaGreatDoorWTab
import Derived.Test.YtdjgiphipjejlaaGreatDoorWQPut
import Derived.Test.YtdjgiphipjejlaaGreatDoorWApart
import Derived.Test.YtdjgiphipjejlaaGreatDoorWArr
import Derived.Test.YtdjgiphipjejlaaGreatDoorWZeros
import Derived.Test.YtdjgiphipjejlaaGreatDoorWFoot
import Derived.Test.YtdjgiphipjejlaaGreatDoorWKept
import Derived.Test.YtdjgiphipjejlaaGreatDoorWShare
import Derived.Test.YtdjgiphipjejlaaGreatDoorWN
import Derived.Test.YtdjgiphipjejlaaGreatDoorWRepsOne
import Derived.Test.YtdjgiphipjejlaaGreatDoorWGuard
import Derived.Test.YtdjgiphipjejlaaGreatDoorWNEv
import Derived.Test.YtdjgiphipjejlaaGreatDoorWMore
import Derived.Test.YtdjgiphipjejlaaGreatDoorG11
import Derived.Test.YtdjgiphipjejlaaGreatDoorPrx1

namespace Go.Proofs.YtdjgiphipjejlaaGreatDoor.G
open Go.RowKit Go.Proofs.YtdjgiphipjejlaaGreatDoorW.PrintWords Go.Proofs.YtdjgiphipjejlaaGreatDoorW.PrintLast Go.Proofs.YtdjgiphipjejlaaGreatDoorW.PrintMore
attribute [local go_sem] max2_int min2_int max_two min_two max_three min_three max_four min_four
set_option linter.unusedVariables false
set_option linter.unusedSimpArgs false

/-! ### char.Space: a text of one word between blanks -/
theorem add0 (a : Addr) : a.add (Int.toNat 0) = a := by
  show a.add 0 = a
  unfold Addr.add
  cases a with
  | mk b o r => cases r <;> simp
set_option maxRecDepth 100000 in
theorem join_one (A : Option Addr) (c : Nat) (x sep : ByteArray) (w : World) (hr : Kd.C Kd.string w A 1 [x]) (hc : 1 ≤ c) :
    Calls Tryz.prog 39 #[.slice A 1 c, .string sep] w fun e w' => e = .returned (.string x) ∧ w' = w := by
  obtain ⟨a, ea, hx⟩ := Kd.at_string hr 0 (by decide) (by decide)
  cases ea
  have hx2 : w.cell? a = some (.string x) := by
    have e : a.add (Int.toNat 0) = a := add0 a
    rw [e] at hx
    exact hx
  clear hx hr
  go_enter Tryz.func39, Tryz.ntmps39
  go_wp2
  go_ret
  exact ⟨rfl, rfl⟩
set_option maxRecDepth 100000 in
theorem space_one (k : Nat) (s x : ByteArray) (w : World) (h : Pr.char_Words.f k s = some [x]) :
    Calls Tryz.prog 27 #[.string s, .int .i64 3] w fun e w' => e = .returned (.string x) ∧ Below w.heap.size w w' := by
  have HK := Lib.hid h
  clear h
  go_enter Tryz.func27, Tryz.ntmps27
  go_wp2_with (fail)
  refine (Pr.char_Words.calls k s [x] w HK.out).mono ?_
  rintro e w1 ⟨v, rfl, hv, hb⟩
  obtain ⟨A, c, rfl⟩ := Kd.R_slice hv
  have hr := (Kd.R_reads' hv).2.2
  have hc := (Kd.R_reads' hv).2.1
  have HR := Lib.hid hr; have HC := Lib.hid hc; have HB := Lib.hid hb
  clear hr hc hb hv
  go_wp2_with (fail)
  refine (join_one A c x _ _ HR.out HC.out).mono ?_
  rintro e w2 ⟨rfl, rfl⟩
  go_wp2
  go_ret
  exact ⟨rfl, HB.out⟩

end Go.Proofs.YtdjgiphipjejlaaGreatDoor.G
