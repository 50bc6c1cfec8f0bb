import Derived.Test.YtjhmpippcndloaaProg
import Derived.Below
import Derived.Deep.Draws
import Derived.Deep.AppendLies
import Derived.Maps.AppendAt
import Derived.OwnWalk
import Derived.Laws.BytesArg
import Derived.Laws.MakeOwn
import Derived.Laws.OwnMore
import Derived.Deep.OwnRows
import Derived.Tactics
import Derived.Lib.ConvBytes
import Derived.Laws.Slices
import Derived.WalkKit
import Derived.KernelRfl
import Derived.RowKit3
import Derived.Deep.LoopGhost
import Derived.Deep.QuietTactic
import Derived.BigQuiet
import Derived.WideLaws
import Derived.Deep.DeepCutAuto
import Derived.Deep.CutBlock
import Derived.Deep.RegionHeld3
import Derived.Laws.Rows
import Derived.Lib.AppendStr
import Derived.ArgAppend
import Derived.Laws.IdiomCopy
import Derived.OrdersHeld
import Derived.Laws.BitsLemmas
import Derived.RowKit
import Derived.Test.YtjhmpippcndloaaWWords
import Derived.Test.YtjhmpippcndloaaWLast
import Derived.Test.YtjhmpippcndloaaWTab
import Derived.Test.YtjhmpippcndloaaWQPut
import Derived.Test.YtjhmpippcndloaaWApart
import Derived.Test.YtjhmpippcndloaaWArr
import Derived.Test.YtjhmpippcndloaaWZeros
import Derived.Test.YtjhmpippcndloaaWFoot
import Derived.Test.YtjhmpippcndloaaWKept
import Derived.Test.YtjhmpippcndloaaWShare
import Derived.Test.YtjhmpippcndloaaWN
import Derived.Test.YtjhmpippcndloaaWRepsOne
import Derived.Test.YtjhmpippcndloaaWGuard
import Derived.Test.YtjhmpippcndloaaWNEv
import Derived.Test.YtjhmpippcndloaaWMore
import Derived.Test.YtjhmpippcndloaaG3

namespace Go.Proofs.Ytjhmpippcndloaa.G
open Go.RowKit Go.Proofs.YtjhmpippcndloaaW.PrintWords Go.Proofs.YtjhmpippcndloaaW.PrintLast Go.Proofs.YtjhmpippcndloaaW.PrintMore
attribute [local go_sem] max2_int min2_int max_two min_two max_three min_three max_four min_four
set_option linter.unusedVariables false
set_option linter.unusedSimpArgs false

open Go.Shelf Go.Sort Go.Proofs.Ytjhmpippcndloaa.Pr
/-! ### Has -/
def inR (r : Int) (x : S24) : Bool := decide (x.f0 ≤ r) && decide (r ≤ x.f1)
set_option maxHeartbeats 1000000 in
theorem pred30 (r : Int) (B : Nat) (w : World) (hB : B < w.heap.size) (hcell : w.cell? ⟨B, 0, none⟩ = some (.int .i32 r)) :
    PredBelow Try.prog 30 #[.pointer (some ⟨B, 0, none⟩)] (fun x => .agg (encS x).toArray) (inR r) w := fun W x hb => by
  have hc : W.cell? ⟨B, 0, none⟩ = some (.int .i32 r) := (hb.cell (p := ⟨B, 0, none⟩) hB).trans hcell
  have hBW : B < W.heap.size := Nat.lt_of_lt_of_le hB hb.size
  have hne : B ≠ W.heap.size := by omega
  show Calls Try.prog 30 #[.agg #[.int .i32 x.f0, .int .i32 x.f1], .pointer (some ⟨B, 0, none⟩)] W _
  unfold inR
  by_cases h1 : x.f0 ≤ r
  · have h1' : decide (x.f0 ≤ r) = true := decide_eq_true h1
    go_enter Try.func30, Try.ntmps30
    go_wp2
    all_goals (go_ret; exact ⟨by simp_all, hb.alloc hb.size _⟩)
  · have h1' : decide (x.f0 ≤ r) = false := decide_eq_false h1
    go_enter Try.func30, Try.ntmps30
    go_wp2
    all_goals (go_ret; exact ⟨by simp_all, hb.alloc hb.size _⟩)
theorem enters30 : ∀ args w, (callFunc 30 args).run Try.prog w = .ok (.enter 30 args) w := enters_of Try.func30 (by kernel_rfl) rfl
set_option maxHeartbeats 1000000 in
theorem contains_empty (a : Option Addr) (c : Nat) (fv : Value) (w : World) : Calls Try.prog 29 #[.slice a 0 c, fv] w fun e w' => e = .returned (.bool false) ∧ w' = w := by
  have h48 : Calls Try.prog 48 #[.slice a 0 c, fv] w fun e w' => e = .returned (.int .i64 (-1)) ∧ w' = w := by
    go_enter Try.func48, Try.ntmps48
    go_wp2
    go_loopg [5, 8] 0 (fun _ _ s8 wr => s8 = .int .i64 0 ∧ wr = w)
    case atStart => exact ⟨rfl, rfl⟩
    case round =>
      obtain ⟨rfl, rfl⟩ := hrel
      go_wp2
      go_ret
      exact ⟨rfl, rfl⟩
  go_enter Try.func29, Try.ntmps29
  go_wp2_with (go_at_call 48; refine h48.mono ?_; rintro e w' ⟨rfl, rfl⟩)
  go_ret
  exact ⟨rfl, rfl⟩
theorem spot_none {w : World} {b o : Nat} {s : Option Nat} {v : Value} (h : w.cell? ⟨b, o, s⟩ = some v) : s = none := by
  unfold World.cell? at h
  split at h
  · cases s with
    | none => rfl
    | some _ => simp at h
  · cases h
theorem add_none (b off n : Nat) : (⟨b, off, none⟩ : Addr).add n = ⟨b, off + n, none⟩ := by
  unfold Addr.add
  split
  · rename_i h
    rw [h]
    rfl
  · rfl
def set_Has.f (l0 : List S24) (a1 : Int) : Option Bool := if l0.length ≤ 9223372036854775807 then some (l0.any (inR a1)) else none
set_option maxHeartbeats 1000000 in
theorem set_Has.calls (A0 : Option Addr) (c0 : Nat) (l0 : List S24) (a1 : Int) (r : Bool) (w : World) (hr0 : Kd.C k24 w A0 l0.length l0) (hc0 : l0.length ≤ c0) (h : set_Has.f l0 a1 = some r) :
    Calls Try.prog 11 #[.slice A0 l0.length c0, .int .i32 a1] w fun e w' => e = .returned (.bool r) ∧ Below w.heap.size w w' := by
  unfold set_Has.f at h
  split at h
  · rename_i hl
    injection h with h
    have hcon : Calls Try.prog 29 #[.slice A0 l0.length c0, .func (.func 30) #[] #[.pointer (some ⟨w.heap.size, 0, none⟩)]] (w.alloc (.cells #[.int .i32 a1] 21)) fun e w' => e = .returned (.bool r) ∧ Below (w.alloc (.cells #[.int .i32 a1] 21)).heap.size (w.alloc (.cells #[.int .i32 a1] 21)) w' := by
      by_cases h0 : l0 = []
      · subst h0
        refine (contains_empty A0 c0 _ _).mono ?_
        rintro e w' ⟨rfl, rfl⟩
        exact ⟨by rw [← h]; rfl, Below.refl _ _⟩
      · have hpos : 0 < l0.length := List.length_pos_iff.2 h0
        obtain ⟨⟨b, off, spot⟩, rfl, hcell⟩ := hr0.2.2 hpos
        have hcell2 : ∀ j (hj : j < l0.length) i v, (encS l0[j])[i]? = some v → w.cell? ((⟨b, off, spot⟩ : Addr).add (j * 2 + i)) = some v := fun j hj i v hi => by
          obtain ⟨c, hl2, hK, hcc⟩ := hcell j _ (List.getElem?_eq_getElem hj)
          obtain rfl := k24_open hK
          exact hcc i v hi
        have h00 : w.cell? ⟨b, off, spot⟩ = some _ := hcell2 0 hpos 0 _ rfl
        obtain rfl := spot_none h00
        have hb : b < w.heap.size := World.block_lt_of_cell? w _ h00
        have hcc := AnyQ.slices_ContainsFunc contRng 2 Try.isAgg24 Try.sizeOf24 encS encS_len (inR a1) 30 #[.pointer (some ⟨w.heap.size, 0, none⟩)] enters30 b off l0.length c0 l0 (w.alloc (.cells #[.int .i32 a1] 21))
          (pred30 a1 w.heap.size _ (by simp) (by simp)) (Nat.le_refl _) hl (by simp; omega) (fun j hj i v hi => by
            refine Lib.cell?_alloc_some _ ?_
            rw [getElem!_pos l0 j hj] at hi
            have := hcell2 j hj i v hi
            rwa [add_none, ← Nat.add_assoc] at this)
        rw [List.take_length, h] at hcc
        exact hcc
    clear hr0
    go_enter Try.func11, Try.ntmps11
    go_wp2_with (go_at_call 29; refine hcon.mono ?_; rintro e w' ⟨rfl, hb'⟩)
    go_ret
    exact ⟨rfl, ((Below.refl _ w).alloc (Nat.le_refl _) _).trans (hb'.mono (by simp))⟩
  · cases h

end Go.Proofs.Ytjhmpippcndloaa.G
