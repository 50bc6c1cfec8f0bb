import Derived.Test.YtjhmpippcndloaaProg
import Derived.Below
import Derived.Deep.Draws
import Derived.Deep.AppendLies
import Derived.Maps.AppendAt
import Derived.OwnWalk
import Derived.Laws.BytesArg
import Derived.Laws.MakeOwn
import Derived.Laws.OwnMore
import Derived.Deep.OwnRows
import Derived.Tactics
import Derived.Lib.ConvBytes
import Derived.Laws.Slices
import Derived.WalkKit
import Derived.KernelRfl
import Derived.RowKit3
import Derived.Deep.LoopGhost
import Derived.Deep.QuietTactic
import Derived.BigQuiet
import Derived.WideLaws
import Derived.Deep.DeepCutAuto
import Derived.Deep.CutBlock
import Derived.Deep.RegionHeld3
import Derived.Laws.Rows
import Derived.Lib.AppendStr
import Derived.ArgAppend
import Derived.Laws.IdiomCopy
import Derived.OrdersHeld
import Derived.Laws.BitsLemmas
import Derived.RowKit
import Derived.Test.YtjhmpippcndloaaWWords
import Derived.Test.YtjhmpippcndloaaWLast
import Derived.Test.YtjhmpippcndloaaWTab
import Derived.Test.YtjhmpippcndloaaWQPut
import Derived.Test.YtjhmpippcndloaaWApart
import Derived.Test.YtjhmpippcndloaaWArr
import Derived.Test.YtjhmpippcndloaaWZeros
import Derived.Test.YtjhmpippcndloaaWFoot
import Derived.Test.YtjhmpippcndloaaWKept
import Derived.Test.YtjhmpippcndloaaWShare
import Derived.Test.YtjhmpippcndloaaWN
import Derived.Test.YtjhmpippcndloaaWRepsOne
import Derived.Test.YtjhmpippcndloaaWGuard
import Derived.Test.YtjhmpippcndloaaWNEv
import Derived.Test.YtjhmpippcndloaaWMore
import Derived.Test.YtjhmpippcndloaaWEqStruct
import Derived.Test.YtjhmpippcndloaaG1
import Derived.Shelf.SlSortCmp.NoneTotal

namespace Go.Proofs.Ytjhmpippcndloaa.G
open Go.RowKit Go.Proofs.YtjhmpippcndloaaW.PrintWords Go.Proofs.YtjhmpippcndloaaW.PrintLast Go.Proofs.YtjhmpippcndloaaW.PrintMore
attribute [local go_sem] max2_int min2_int max_two min_two max_three min_three max_four min_four
set_option linter.unusedVariables false
set_option linter.unusedSimpArgs false

open Go.Shelf Go.Sort Go.Proofs.Ytjhmpippcndloaa.Pr
/-! ### rows of ranges: their cells; the library's sort of them -/
instance : Inhabited S24 := ⟨z24⟩
def encS (x : S24) : List Value := [.int .i32 x.f0, .int .i32 x.f1]
theorem encS_len (x : S24) : (encS x).length = 2 := rfl
theorem encS_one (x : S24) : ∀ v ∈ encS x, v.oneCell' = true := by
  intro v hv
  simp [encS] at hv
  rcases hv with rfl | rfl <;> rfl
def flat (d : Array S24) : Array Value := flatK encS 2 d
theorem flat_size (d : Array S24) : (flat d).size = d.size * 2 := size_flatK encS 2 d
theorem flat_get (d : Array S24) (t : Nat) (h : t < d.size * 2) : (flat d)[t]! = (encS d[t / 2]!)[t % 2]! := get_flatK encS 2 d t h
theorem flat_cut (d : Array S24) (j : Nat) (h : j < d.size) : ((flat d).toList.drop (j * 2)).take 2 = encS d[j]! := by
  have h0 := flat_get d (j * 2) (by omega)
  have h1 := flat_get d (j * 2 + 1) (by omega)
  rw [show j * 2 / 2 = j by omega, show j * 2 % 2 = 0 by omega, getElem!_pos _ _ (by rw [flat_size]; omega)] at h0
  rw [show (j * 2 + 1) / 2 = j by omega, show (j * 2 + 1) % 2 = 1 by omega, getElem!_pos _ _ (by rw [flat_size]; omega)] at h1
  have hl : (flat d).toList.length = d.size * 2 := by rw [Array.length_toList, flat_size]
  rw [List.drop_eq_getElem_cons (by omega), List.drop_eq_getElem_cons (by omega)]
  simp only [List.take_succ_cons, List.take_zero, Array.getElem_toList]
  rw [h0, h1]
  rfl
theorem heap_put {w : World} {g n : Nat} {os : Array Obj} {cur : Array Value} {e : TypeId} {fr : Nat × Nat} (F : Array Value) (hb : w.heap[g]? = some (.cells cur e fr)) :
    (grow (putRow id (Sort.ahead w n) g 0 F) os).heap[g]? = some (.cells (putCells id 0 F cur) e fr) := by
  have hg : g < w.heap.size := (Array.getElem?_eq_some_iff.1 hb).1
  rw [heap_grow_old _ _ (by simpa using hg)]
  simp [putRow, mapBlock, Sort.ahead, Array.getElem?_modify, hb, onCells]
theorem grownBy_put {w : World} {g n : Nat} {os : Array Obj} (F : Array Value) : w.grownBy (grow (putRow id (Sort.ahead w n) g 0 F) os) (some g) := by
  refine ⟨rfl, rfl, rfl, by simp, fun k hk hne => ?_⟩
  rw [heap_grow_old _ _ (by simpa using hk)]
  have : g ≠ k := fun e => hne (by rw [e])
  simp [putRow, mapBlock, Sort.ahead, Array.getElem?_modify, this]
theorem take_put (cur F : Array Value) (h : F.size ≤ cur.size) : (putCells id 0 F cur).toList.take F.size = F.toList := by
  apply List.ext_getElem?
  intro j
  by_cases hj : j < F.size
  · rw [List.getElem?_take_of_lt hj, Array.getElem?_toList]
    simp [putCells, hj, show j < cur.size by omega]
  · rw [List.getElem?_take_eq_none (by omega), List.getElem?_eq_none (by simp; omega)]
theorem grown_refl (w : World) (r : Option Nat) : w.grownBy w r := ⟨rfl, rfl, rfl, Nat.le_refl _, fun _ _ _ => rfl⟩
theorem cell_twice {w : World} {g : Nat} {b0 : Value} (h1 : w.cell? ⟨g, 1, none⟩ = some b0) (a b c : Value) : (((w.setCell ⟨g, 0, none⟩ a).setCell ⟨g, 1, none⟩ b).setCell ⟨g, 0, none⟩ c).cell? ⟨g, 1, none⟩ = some b := by
  have hne : (⟨g, 0, none⟩ : Addr) ≠ ⟨g, 1, none⟩ := by intro e; injection e with _ e; cases e
  have h2 : (w.setCell ⟨g, 0, none⟩ a).cell? ⟨g, 1, none⟩ = some b0 := by rw [World.cell?_setCell_other _ _ _ _ hne]; exact h1
  rw [World.cell?_setCell_other _ _ _ _ hne]
  exact World.cell?_setCell_same _ _ _ h2
/-! ### cmp.Compare of letters, the closure of Of -/
set_option maxHeartbeats 1000000 in
theorem cmp_calls (a b : Int) (W : World) : Calls Try.prog 28 #[.int .i32 a, .int .i32 b] W fun e w' => e = .returned (.int .i64 (Lib.compareInt a b)) ∧ w' = W := by
  unfold Lib.compareInt
  by_cases h1 : a < b
  · have h1' : decide (a < b) = true := decide_eq_true h1
    rw [if_pos h1]
    go_enter Try.func28, Try.ntmps28
    go_wp2
    go_ret
    exact ⟨rfl, rfl⟩
  · by_cases h2 : b < a
    · have h1' : decide (a < b) = false := decide_eq_false h1
      have h2' : decide (b < a) = true := decide_eq_true h2
      rw [if_neg h1, if_pos h2]
      go_enter Try.func28, Try.ntmps28
      go_wp2
      go_ret
      exact ⟨rfl, rfl⟩
    · have h1' : decide (a < b) = false := decide_eq_false h1
      have h2' : decide (b < a) = false := decide_eq_false h2
      rw [if_neg h1, if_neg h2]
      go_enter Try.func28, Try.ntmps28
      go_wp2
      go_ret
      exact ⟨rfl, rfl⟩
def cfR (x y : S24) : Int := Lib.compareInt x.f0 y.f0
set_option maxHeartbeats 1000000 in
theorem closure27 (x y : S24) (W : World) : Calls Try.prog 27 #[.agg #[.int .i32 x.f0, .int .i32 x.f1], .agg #[.int .i32 y.f0, .int .i32 y.f1]] W fun e w' => e = .returned (.int .i64 (cfR x y)) ∧ ∃ q os', w' = grow (W.drewN q) os' := by
  have hcon := fun W' => cmp_calls x.f0 y.f0 W'
  unfold cfR
  generalize Lib.compareInt x.f0 y.f0 = r at hcon ⊢
  go_enter Try.func27, Try.ntmps27
  go_wp2_with (go_at_call 28; refine (hcon _).mono ?_; rintro e w' ⟨rfl, rfl⟩)
  go_ret
  exact ⟨rfl, 0, _, by rw [alloc_eq_grow, alloc_eq_grow, grow_grow]; rfl⟩
theorem cmpLays27 (blk off size : Nat) (w : World) : CmpLays Try.prog 27 #[] encS 2 cfR blk off size w := fun _ _ _ _ x y => closure27 x y _
theorem lt_lo (x y : S24) : ltOf cfR x y = decide (x.f0 < y.f0) := by
  unfold ltOf cfR Lib.compareInt
  by_cases h1 : x.f0 < y.f0
  · simp [h1]
  · by_cases h2 : y.f0 < x.f0 <;> simp [h1, h2]
theorem swo_lo : SWO (ltOf cfR) where
  irrefl x := by rw [lt_lo]; simp
  trans x y z h1 h2 := by rw [lt_lo] at *; simp at *; omega
  ntrans x y z h1 h2 := by rw [lt_lo] at *; simp at *; omega
/-- The ranges as the library's sort lays them. -/
def sortR (l : List S24) : List S24 := (pdq (ltOf cfR) l.toArray 0 l.toArray.size (Lib.bitLen l.toArray.size) true true).toList
theorem sortR_perm (l : List S24) : (sortR l).Perm l := by
  have h := (pdq_sorts (ltOf cfR) swo_lo l.toArray 0 l.toArray.size (Lib.bitLen l.toArray.size) true true (Nat.zero_le _) (Nat.le_refl _) (Or.inl rfl)).1
  obtain ⟨h1, _, h3⟩ := h
  rw [show ∀ d : Array S24, d.size = l.toArray.size → d.extract 0 l.toArray.size = d from fun d hd => by rw [← hd]; simp] at h3
  · simpa [sortR] using h3
  · exact h1
theorem sortR_length (l : List S24) : (sortR l).length = l.length := (sortR_perm l).length_eq
theorem sortR_sorted (l : List S24) : (sortR l).Pairwise (fun x y => x.f0 ≤ y.f0) := by
  have h := (pdq_sorts (ltOf cfR) swo_lo l.toArray 0 l.toArray.size (Lib.bitLen l.toArray.size) true true (Nat.zero_le _) (Nat.le_refl _) (Or.inl rfl))
  obtain ⟨⟨h1, _, _⟩, h2⟩ := h
  rw [List.pairwise_iff_getElem]
  intro i j hi hj hij
  have hsz : (sortR l).length = l.toArray.size := by rw [sortR_length]; simp
  have := h2 i j (Nat.zero_le _) hij (by omega)
  rw [lt_lo, decide_eq_false_iff_not] at this
  rw [getElem!_pos _ j (by rw [h1]; omega), getElem!_pos _ i (by rw [h1]; omega)] at this
  have e : ∀ t (ht : t < (sortR l).length), (sortR l)[t] = (pdq (ltOf cfR) l.toArray 0 l.toArray.size (Lib.bitLen l.toArray.size) true true)[t]'(by rw [h1]; omega) := fun t ht => by simp [sortR]
  rw [e i hi, e j hj]
  omega
def slices_SortFunc_rng.f (l0 : List S24) : Option (List S24) := if l0.length ≤ 17592186044416 then some (sortR l0) else none
theorem enters27 : ∀ args w, (callFunc 27 args).run Try.prog w = .ok (.enter 27 args) w := enters_of Try.func27 (by kernel_rfl) rfl
theorem slices_SortFunc_rng.calls (P0 : Nat → Prop) (u0 : Value) (l0 r : List S24) (w0 w : World) (hb0 : Below w0.heap.size w0 w) (hr0 : Kd.R k24 24 w w0.heap.size P0 u0 l0) (h : slices_SortFunc_rng.f l0 = some r) :
    Calls Try.prog 26 #[u0, .func (.func 27) #[] #[]] w fun e w' => e = .returned (.tuple #[]) ∧ Kd.R k24 24 w' w0.heap.size P0 u0 r ∧ Below w0.heap.size w0 w' ∧ Kept w w' (fun k_ => P0 k_) := by
  unfold slices_SortFunc_rng.f at h
  split at h
  · rename_i hl
    injection h with h
    subst h
    obtain ⟨hP, inner, ho, hr⟩ := hr0
    have ho2 : w.ownsRow w0.heap.size 24 2 u0 l0.length inner := ho
    rcases ho2.2 with ⟨rfl, hn⟩ | ⟨g, cap, cur, rfl, hbase, hc, h1, h2, h3, h4⟩
    · obtain rfl : l0 = [] := List.eq_nil_of_length_eq_zero hn
      refine (AnyF.slices_SortFunc_none sortRng none 0 (.func (.func 27) #[] #[]) w).mono ?_
      rintro e w' ⟨rfl, rfl⟩
      have e0 : sortR [] = [] := List.eq_nil_of_length_eq_zero (by rw [sortR_length]; rfl)
      rw [e0]
      exact ⟨rfl, Kd.R_mono (Kd.R_nil k24 24 w' w0.heap.size P0) (fun _ h => h), hb0, Nat.le_refl _, fun _ _ _ => rfl⟩
    · have hn2 : (flat l0.toArray).toList = inner := by
        apply List.ext_getElem?
        intro t
        have hil : inner.length = l0.length * 2 := hr.1
        by_cases ht : t < l0.length * 2
        · have hj : t / 2 < l0.length := by omega
          have hm := hr.2 (t / 2) _ (List.getElem?_eq_getElem hj)
          have hm2 := k24_openM hm
          have hc2 := flat_cut l0.toArray (t / 2) (by simpa using hj)
          have e0 : (l0.toArray)[t / 2]! = l0[t / 2] := by rw [getElem!_pos _ _ (by simpa using hj)]; simp
          rw [e0] at hc2
          have hm3 : ((inner.drop (t / 2 * 2)).take 2) = encS l0[t / 2] := hm2
          have ea : ((flat l0.toArray).toList.drop (t / 2 * 2)).take 2 = (inner.drop (t / 2 * 2)).take 2 := by rw [hc2, hm3]
          have eb := congrArg (fun q : List Value => q[t % 2]?) ea
          simp only [List.getElem?_take, List.getElem?_drop] at eb
          rw [if_pos (by omega), if_pos (by omega), show t / 2 * 2 + t % 2 = t by omega] at eb
          exact eb
        · rw [List.getElem?_eq_none (by rw [Array.length_toList, flat_size]; simpa using Nat.le_of_not_lt ht), List.getElem?_eq_none (by omega)]
      have hold : HoldsK encS 2 w g 0 l0.toArray := by
        intro t ht
        have ht2 : t < l0.length * 2 := by
          have := size_flatK encS 2 l0.toArray
          simp only [List.size_toArray] at this
          omega
        refine ⟨?_, by simp [World.frozen?, hc]⟩
        have h5 : cur.toList[t]? = (flat l0.toArray).toList[t]? := by
          rw [hn2, ← h4, List.getElem?_take_of_lt ht2]
        have h6 : (flat l0.toArray).toList[t]? = some (flat l0.toArray)[t]! := by
          have ht' : t < (flat l0.toArray).size := ht
          rw [Array.getElem?_toList, getElem!_pos _ t ht', Array.getElem?_eq_getElem ht']
        have h7 : w.cell? ⟨g, 0 + t, none⟩ = cur[t]? := by
          rw [Nat.zero_add]
          exact cell_of_row w g t cur 24 (0, 0) hc
        rw [h7, ← Array.getElem?_toList, h5, h6]
        rfl
      have hcon := AnyQ.slices_SortFunc_eq sortRng 2 Try.isAgg24 Try.sizeOf24 encS encS_len encS_one cfR swo_lo 27 #[] g 0 cap l0.toArray w enters27 (cmpLays27 _ _ _ _) hold (Array.getElem?_eq_some_iff.1 hc).1 (by simp; omega)
      have hsz : l0.toArray.size = l0.length := by simp
      rw [hsz] at hcon
      refine Calls.mono hcon ?_
      rintro e w' ⟨rfl, n, os, rfl⟩
      have hsr : (sortR l0).toArray = pdq (ltOf cfR) l0.toArray 0 l0.length (Lib.bitLen l0.length) true true := by simp [sortR]
      rw [← hsr]
      have hfl : (flat (sortR l0).toArray).size = l0.length * 2 := by rw [flat_size]; simp [sortR_length]
      have hg : w.grownBy (sortWorldK encS 2 w g 0 n (sortR l0).toArray os) (some g) := grownBy_put (flat (sortR l0).toArray)
      refine ⟨rfl, ⟨hP, (flat (sortR l0).toArray).toList, ?_, ?_⟩, ?_, ?_⟩
      · show World.ownsRow _ w0.heap.size 24 2 _ _ _
        refine ⟨by rw [Array.length_toList, hfl, sortR_length], .inr ⟨g, cap, _, by rw [sortR_length], hbase, heap_put (flat (sortR l0).toArray) hc, by rw [sortR_length]; exact h1, h2, by simp [putCells, h3], ?_⟩⟩
        rw [sortR_length, ← hfl]
        exact take_put cur _ (by rw [hfl, h3]; exact Nat.mul_le_mul_right 2 h1)
      · refine ⟨by rw [Array.length_toList, hfl, sortR_length]; rfl, fun j p hj => ?_⟩
        have hjl := (List.getElem?_eq_some_iff.1 hj).1
        have hc2 := flat_cut (sortR l0).toArray j (by simpa using hjl)
        have e0 : ((sortR l0).toArray)[j]! = p := by
          rw [getElem!_pos _ _ (by simpa using hjl)]
          simpa using (List.getElem?_eq_some_iff.1 hj).2
        rw [e0] at hc2
        show k24.M _ _ _ p (((flat (sortR l0).toArray).toList.drop (j * 2)).take 2)
        rw [hc2]
        exact k24_mkM _ _ _ p
      · exact hb0.trans ((Below.refl w0.heap.size w).grown hg hb0.size (by intro k hk; injection hk with hk; omega))
      · exact ⟨hg.size, fun i hi hn => hg.block i hi (fun e => hn (hP i e.symm))⟩
  · cases h

end Go.Proofs.Ytjhmpippcndloaa.G
