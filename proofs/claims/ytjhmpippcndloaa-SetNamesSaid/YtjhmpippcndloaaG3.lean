import Derived.Test.YtjhmpippcndloaaProg
import Derived.Below
import Derived.Deep.Draws
import Derived.Deep.AppendLies
import Derived.Maps.AppendAt
import Derived.OwnWalk
import Derived.Laws.BytesArg
import Derived.Laws.MakeOwn
import Derived.Laws.OwnMore
import Derived.Deep.OwnRows
import Derived.Tactics
import Derived.Lib.ConvBytes
import Derived.Laws.Slices
import Derived.WalkKit
import Derived.KernelRfl
import Derived.RowKit3
import Derived.Deep.LoopGhost
import Derived.Deep.QuietTactic
import Derived.BigQuiet
import Derived.WideLaws
import Derived.Deep.DeepCutAuto
import Derived.Deep.CutBlock
import Derived.Deep.RegionHeld3
import Derived.Laws.Rows
import Derived.Lib.AppendStr
import Derived.ArgAppend
import Derived.Laws.IdiomCopy
import Derived.OrdersHeld
import Derived.Laws.BitsLemmas
import Derived.RowKit
import Derived.Test.YtjhmpippcndloaaWWords
import Derived.Test.YtjhmpippcndloaaWLast
import Derived.Test.YtjhmpippcndloaaWTab
import Derived.Test.YtjhmpippcndloaaWQPut
import Derived.Test.YtjhmpippcndloaaWApart
import Derived.Test.YtjhmpippcndloaaWArr
import Derived.Test.YtjhmpippcndloaaWZeros
import Derived.Test.YtjhmpippcndloaaWFoot
import Derived.Test.YtjhmpippcndloaaWKept
import Derived.Test.YtjhmpippcndloaaWShare
import Derived.Test.YtjhmpippcndloaaWN
import Derived.Test.YtjhmpippcndloaaWRepsOne
import Derived.Test.YtjhmpippcndloaaWGuard
import Derived.Test.YtjhmpippcndloaaWNEv
import Derived.Test.YtjhmpippcndloaaWMore
import Derived.Test.YtjhmpippcndloaaG2

namespace Go.Proofs.Ytjhmpippcndloaa.G
open Go.RowKit Go.Proofs.YtjhmpippcndloaaW.PrintWords Go.Proofs.YtjhmpippcndloaaW.PrintLast Go.Proofs.YtjhmpippcndloaaW.PrintMore
attribute [local go_sem] max2_int min2_int max_two min_two max_three min_three max_four min_four
set_option linter.unusedVariables false
set_option linter.unusedSimpArgs false

open Go.Shelf Go.Sort Go.Proofs.Ytjhmpippcndloaa.Pr
/-! ### slices.Grow of no slice -/
def slices_Grow_rng.f (l0 : List S24) (a1 : Int) : Option (List S24) := if l0 = [] ∧ 0 ≤ a1 ∧ a1 ≤ 17592186044416 then some [] else none
instance : DecidableEq S24 := fun a b => decidable_of_iff (a.f0 = b.f0 ∧ a.f1 = b.f1) ⟨fun h => by cases a; cases b; cases h.1; cases h.2; rfl, fun h => by rw [h]; exact ⟨rfl, rfl⟩⟩
theorem slices_Grow_rng.calls (A0 : Option Addr) (c0 : Nat) (l0 : List S24) (a1 : Int) (r : List S24) (w : World) (hA : A0 = none) (hc0 : c0 = 0) (h : slices_Grow_rng.f l0 a1 = some r) :
    Calls Try.prog 49 #[.slice A0 l0.length c0, .int .i64 a1] w fun e w' => ∃ v0_ : Value, e = .returned (v0_) ∧ Kd.R k24 24 w' w.heap.size (fun _ => True) v0_ r ∧ Below w.heap.size w w' := by
  unfold slices_Grow_rng.f at h
  split at h
  · rename_i hh
    obtain ⟨rfl, h0, h1⟩ := hh
    injection h with h
    subst h hA hc0
    obtain ⟨n, rfl⟩ := Int.eq_ofNat_of_zero_le h0
    by_cases hn : n = 0
    · subst hn
      refine (Any8.slices_Grow_room growRng none 0 0 0 w (Nat.le_refl _) (by decide) (by decide) (Nat.le_refl _)).mono ?_
      rintro e w' ⟨rfl, rfl⟩
      exact ⟨_, rfl, Kd.R_nil k24 24 w' _ _, Below.refl _ _⟩
    · have info24 : (Try.prog.info? 24).map (fun i => (i.zero, i.size, i.bytes)) = some (some (.agg #[.int .i32 0, .int .i32 0]), 2, 8) := by kernel_rfl
      obtain ⟨i0, hi, hzz⟩ := Option.map_eq_some_iff.1 info24
      simp only [Prod.mk.injEq] at hzz
      obtain ⟨hz0, hz1, hz2⟩ := hzz
      have hg := Any8.slices_Grow_grow growRng i0 (.agg #[.int .i32 0, .int .i32 0]) hi hz0 (by rw [hz1]; decide) none 0 0 n [] w (Nat.le_refl _) (by omega) (by rw [hz2]; omega) (by omega) (by simp) (fun _ => rfl) (fun a ha => by cases ha)
      refine Calls.mono hg ?_
      rintro e w' ⟨rfl, rfl⟩
      refine ⟨_, rfl, ⟨fun _ _ => trivial, [], ?_, Reps.none _ _⟩, (below_alloc (below_drew (Below.refl _ _)) _)⟩
      have hcap := grownCap_ge w (0 + n) 0 24
      refine ⟨by simp, .inr ⟨w.heap.size, _, _, rfl, Nat.le_refl _, heap_alloc_new w.drew _, Nat.zero_le _, grownCap_le_maxLen w (0 + n) 0 24 (by unfold maxLen; omega), ?_, by simp⟩⟩
      have e24 : growRng_ren.t 25 = 24 := rfl
      show _ = grownCap w (0 + n) 0 24 * 2
      simp only [e24, Array.size_append, size_zeroCells]
      simp [Value.cells]
      rw [Nat.zero_add] at hcap
      omega
  · cases h
/-! ### a text's bytes -/
def bytesL (s : ByteArray) : List Int := s.data.toList.map fun b => (b.toNat : Int)
def conv_bytes.f (a0 : ByteArray) : Option (List Int) := if a0.size ≤ 140737488351232 then some (bytesL a0) else none
theorem bytesL_length (s : ByteArray) : (bytesL s).length = s.size := by simp [bytesL]
theorem bytesL_getD (s : ByteArray) (j : Nat) (h : j < s.size) : (bytesL s).getD j 0 = (s.data.toList.getD j 0).toNat := by
  unfold bytesL
  have h2 : j < s.data.toList.length := by simpa using h
  rw [List.getD_eq_getElem?_getD, List.getElem?_map, List.getElem?_eq_getElem h2, List.getD_eq_getElem?_getD, List.getElem?_eq_getElem h2]
  rfl
theorem conv_event {ops : Array Oper} {rest : List Oper} {o : Oper} {a : Act} {Q : Exit → Act → World → Prop} {W : World} (s : ByteArray) (t : List Int) (h0 : conv_bytes.f s = some t) (hgd : o.guard = none)
    (hrun : (execOp a.eval o).run Try.prog W = .ok (.value (.slice (some ⟨W.heap.size, 0, none⟩) s.size (grownCap W s.size 0 5))) (Lib.bytesWorld W 5 s))
    (h : ∀ v w1, Kd.V (Kd.int .u8) 5 w1 W.heap.size (fun k_ => (W.heap.size ≤ k_)) v t → Below W.heap.size W w1 → wpList Try.prog ops Q rest (a.put o.dst v) w1) : wpList Try.prog ops Q (o :: rest) a W := by
  unfold conv_bytes.f at h0
  split at h0
  · rename_i hs
    injection h0 with h0
    subst h0
    refine Kd.event_run hgd hrun (h _ _ ?_ ⟨rfl, rfl, rfl, by rw [Lib.bytesWorld_size]; omega, fun k hk => Lib.bytesWorld_at_old W 5 s k hk⟩)
    refine ⟨some ⟨W.heap.size, 0, none⟩, grownCap W s.size 0 5, by rw [bytesL_length], by rw [bytesL_length]; exact grownCap_ge _ _ _ _, ?_⟩
    intro W' hW
    refine Kd.C_of_reads (d := (0 : Int)) ⟨rfl, by rw [bytesL_length]; omega, fun hn => ⟨_, rfl, fun j hj => ?_⟩⟩
    rw [bytesL_length] at hj
    have h1 := Lib.bytesWorld_cell W 5 s j hj
    rw [add_plain, bytesL_getD s j hj, ← h1]
    exact World.cell?_of_block (hW W.heap.size (Nat.le_refl _) (World.block_lt_of_cell? _ _ h1))
  · cases h0

end Go.Proofs.Ytjhmpippcndloaa.G
