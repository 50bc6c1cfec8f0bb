import Derived.Test.YtfpedicgeepikaaProg
import Derived.Below
import Derived.Deep.Draws
import Derived.Deep.AppendLies
import Derived.Maps.AppendAt
import Derived.OwnWalk
import Derived.Laws.BytesArg
import Derived.Laws.MakeOwn
import Derived.Laws.OwnMore
import Derived.Deep.OwnRows
import Derived.Tactics
import Derived.Lib.ConvBytes
import Derived.Laws.Slices
import Derived.WalkKit
import Derived.KernelRfl
import Derived.RowKit3
import Derived.Deep.LoopGhost
import Derived.Deep.QuietTactic
import Derived.BigQuiet
import Derived.WideLaws
import Derived.Deep.DeepCutAuto
import Derived.Deep.CutBlock
import Derived.Deep.RegionHeld3
import Derived.Laws.Rows
import Derived.Lib.AppendStr
import Derived.ArgAppend
import Derived.Laws.IdiomCopy
import Derived.OrdersHeld
import Derived.Laws.BitsLemmas
import Derived.RowKit
import Derived.Test.YtfpedicgeepikaaWWords
import Derived.Test.YtfpedicgeepikaaWLast
import Derived.Test.YtfpedicgeepikaaWTab
import Derived.Test.YtfpedicgeepikaaWQPut
import Derived.Test.YtfpedicgeepikaaWApart
import Derived.Test.YtfpedicgeepikaaWArr
import Derived.Test.YtfpedicgeepikaaWZeros
import Derived.Test.YtfpedicgeepikaaWFoot
import Derived.Test.YtfpedicgeepikaaWKept
import Derived.Test.YtfpedicgeepikaaWShare
import Derived.Test.YtfpedicgeepikaaWN
import Derived.Test.YtfpedicgeepikaaWRepsOne
import Derived.Test.YtfpedicgeepikaaWGuard
import Derived.Test.YtfpedicgeepikaaWNEv
import Derived.Test.YtfpedicgeepikaaWMore
import Derived.Test.YtfpedicgeepikaaG3

namespace Go.Proofs.Ytfpedicgeepikaa.G
open Go.RowKit Go.Proofs.YtfpedicgeepikaaW.PrintWords Go.Proofs.YtfpedicgeepikaaW.PrintLast Go.Proofs.YtfpedicgeepikaaW.PrintMore
attribute [local go_sem] max2_int min2_int max_two min_two max_three min_three max_four min_four
set_option linter.unusedVariables false
set_option linter.unusedSimpArgs false

/-! ### the library's sort and compact, over a row that the caller owns -/
def slices_Sort_str.f (l0 : List ByteArray) : Option (List ByteArray) := if l0.length ≤ 8796093022208 then some (sortL l0) else none
def slices_Compact_str.f (l0 : List ByteArray) : Option (List ByteArray) := if l0.length ≤ 8796093022208 then some (compL l0) else none
theorem R_own_str {base : Nat} {ok : Nat → Prop} {w : World} {v : Value} {l : List ByteArray} (h : Kd.R Kd.string 9 w base ok v l) : w.ownsRow base 9 1 v l.length (l.map Value.string) := by
  have := Kd.own_of_R h
  rw [encs_map'] at this
  exact this
theorem slices_Sort_str.calls (P0 : Nat → Prop) (u0 : Value) (l0 r : List ByteArray) (w0 w : World) (hb0 : Below w0.heap.size w0 w) (hr0 : Kd.R Kd.string 9 w w0.heap.size P0 u0 l0) (h : slices_Sort_str.f l0 = some r) :
    Calls Try.prog 38 #[u0] w fun e w' => e = .returned (.tuple #[]) ∧ Kd.R Kd.string 9 w' w0.heap.size P0 u0 r ∧ Below w0.heap.size w0 w' ∧ Kept w w' (fun k_ => P0 k_) := by
  unfold slices_Sort_str.f at h
  split at h
  · rename_i hl
    injection h with h
    subst h
    refine (sort_own u0 l0 w (R_own_str hr0) hb0.size hl).mono ?_
    rintro e w' ⟨rfl, hown, hB, hg⟩
    refine ⟨rfl, Kd.R_of_own (by rw [encs_map']; exact hown) hr0.1, hb0.trans hB, hg.size, fun i hi hn => hg.block i hi (fun e => hn (hr0.1 i e.symm))⟩
  · cases h
theorem slices_Compact_str.calls (P0 : Nat → Prop) (u0 : Value) (l0 r : List ByteArray) (w0 w : World) (hb0 : Below w0.heap.size w0 w) (hr0 : Kd.R Kd.string 9 w w0.heap.size P0 u0 l0) (h : slices_Compact_str.f l0 = some r) :
    Calls Try.prog 40 #[u0] w fun e w' => ∃ v0_ : Value, e = .returned v0_ ∧ Kd.R Kd.string 9 w' w0.heap.size (fun k_ => P0 k_ ∨ w.heap.size ≤ k_) v0_ r ∧ Below w0.heap.size w0 w' ∧ Kept w w' (fun k_ => P0 k_) := by
  unfold slices_Compact_str.f at h
  split at h
  · rename_i hl
    injection h with h
    subst h
    refine (compact_own u0 l0 w (R_own_str hr0) hb0.size hl).mono ?_
    rintro e w' ⟨v', rfl, hown, hB, hg, hv⟩
    refine ⟨v', rfl, Kd.R_of_own (by rw [encs_map']; exact hown) (fun k hk => .inl (hr0.1 k (hv ▸ hk))), hb0.trans hB, hg.size, fun i hi hn => hg.block i hi (fun e => hn (hr0.1 i e.symm))⟩
  · cases h

end Go.Proofs.Ytfpedicgeepikaa.G
