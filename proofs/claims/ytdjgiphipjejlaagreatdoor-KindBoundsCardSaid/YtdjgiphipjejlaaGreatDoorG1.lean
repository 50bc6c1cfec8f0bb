import Derived.Test.YtdjgiphipjejlaaGreatDoorProg
import Derived.Below
import Derived.Deep.Draws
import Derived.Deep.AppendLies
import Derived.Maps.AppendAt
import Derived.OwnWalk
import Derived.Laws.BytesArg
import Derived.Laws.MakeOwn
import Derived.Laws.OwnMore
import Derived.Deep.OwnRows
import Derived.Tactics
import Derived.Lib.ConvBytes
import Derived.Laws.Slices
import Derived.WalkKit
import Derived.KernelRfl
import Derived.RowKit3
import Derived.Deep.LoopGhost
import Derived.Deep.QuietTactic
import Derived.BigQuiet
import Derived.WideLaws
import Derived.Deep.DeepCutAuto
import Derived.Deep.CutBlock
import Derived.Deep.RegionHeld3
import Derived.Laws.Rows
import Derived.Lib.AppendStr
import Derived.ArgAppend
import Derived.Laws.IdiomCopy
import Derived.OrdersHeld
import Derived.Laws.BitsLemmas
import Derived.RowKit
import Derived.Test.YtdjgiphipjejlaaGreatDoorWWords
import Derived.Test.YtdjgiphipjejlaaGreatDoorWLast
import Derived.Test.YtdjgiphipjejlaaGreatDoorWTab
import Derived.Test.YtdjgiphipjejlaaGreatDoorWQPut
import Derived.Test.YtdjgiphipjejlaaGreatDoorWApart
import Derived.Test.YtdjgiphipjejlaaGreatDoorWArr
import Derived.Test.YtdjgiphipjejlaaGreatDoorWZeros
import Derived.Test.YtdjgiphipjejlaaGreatDoorWFoot
import Derived.Test.YtdjgiphipjejlaaGreatDoorWKept
import Derived.Test.YtdjgiphipjejlaaGreatDoorWShare
import Derived.Test.YtdjgiphipjejlaaGreatDoorWN
import Derived.Test.YtdjgiphipjejlaaGreatDoorWRepsOne
import Derived.Test.YtdjgiphipjejlaaGreatDoorWGuard
import Derived.Test.YtdjgiphipjejlaaGreatDoorWNEv
import Derived.Test.YtdjgiphipjejlaaGreatDoorWMore
import Derived.Test.YtdjgiphipjejlaaGreatDoorS
import Derived.Shelf.Strings.Search2

namespace Go.Proofs.YtdjgiphipjejlaaGreatDoor.G
open Go.RowKit Go.Proofs.YtdjgiphipjejlaaGreatDoorW.PrintWords Go.Proofs.YtdjgiphipjejlaaGreatDoorW.PrintLast Go.Proofs.YtdjgiphipjejlaaGreatDoorW.PrintMore
attribute [local go_sem] max2_int min2_int max_two min_two max_three min_three max_four min_four
set_option linter.unusedVariables false
set_option linter.unusedSimpArgs false

/-! ### dec.zero -/
theorem zero1 (x : Int) (w : World) : Calls Tryz.prog 129 #[.int .u8 x] w fun e w' => e = .returned (.bool (x != 0)) ∧ w' = w := by
  go_enter Tryz.func129, Tryz.ntmps129
  go_wp2
  go_ret
  exact ⟨rfl, rfl⟩

theorem C_cell {w : World} {A : Option Addr} {n : Nat} {l : List Int} (h : Kd.C (Kd.int .u8) w A n l) (i : Nat) (hi : i < n) : ∃ ad, A = some ad ∧ w.cell? (ad.add i) = some (.int .u8 (l.getD i 0)) := by
  obtain ⟨_, _, h3⟩ := Kd.reads_of_C (d := (0 : Int)) h
  obtain ⟨ad, e, hc⟩ := h3 (by omega)
  exact ⟨ad, e, hc i hi⟩

def idxNZ (l : List Int) : Int := if l.all (· == 0) then -1 else ((l.findIdx (· != 0) : Nat) : Int)
theorem idxNZ_miss (l : List Int) (h : ∀ j, j < l.length → l.getD j 0 = 0) : idxNZ l = -1 := by
  unfold idxNZ
  rw [if_pos]
  rw [List.all_eq_true]
  intro x hx
  obtain ⟨j, hj, rfl⟩ := List.getElem_of_mem hx
  have := h j hj
  rw [List.getD_eq_getElem?_getD, List.getElem?_eq_getElem hj] at this
  simpa using this
theorem idxNZ_hit (l : List Int) (k : Nat) (hk : k < l.length) (h : ∀ j, j < k → l.getD j 0 = 0) (h1 : l.getD k 0 ≠ 0) : idxNZ l = (k : Int) := by
  have hg : ∀ j (hj : j < l.length), l.getD j 0 = l[j] := fun j hj => by rw [List.getD_eq_getElem?_getD, List.getElem?_eq_getElem hj]; rfl
  unfold idxNZ
  rw [if_neg]
  · congr 1
    rw [List.findIdx_eq hk]
    refine ⟨?_, fun j hj => ?_⟩
    · rw [hg k hk] at h1
      simpa using h1
    · have := h j hj
      rw [hg j (by omega)] at this
      simpa using this
  · rw [List.all_eq_true]
    intro hall
    have := hall l[k] (List.getElem_mem hk)
    rw [hg k hk] at h1
    exact h1 (by simpa using this)
set_option maxHeartbeats 2000000 in
theorem indexFunc_any (A : Option Addr) (c : Nat) (l : List Int) (w : World) (hr : Kd.C (Kd.int .u8) w A l.length l) :
    Calls Tryz.prog 143 #[.slice A l.length c, .func (.func 129) #[] #[]] w fun e w' => e = .returned (.int .i64 (idxNZ l)) ∧ ∃ q, w' = w.drewN q := by
  have hn : l.length ≤ 9223372036854775807 := (Kd.reads_of_C (d := (0 : Int)) hr).2.1
  have eg : ∀ args w, (callFunc 129 args).run Tryz.prog w = .ok (.enter 129 args) w := enters_of Tryz.func129 (by kernel_rfl) rfl
  have HR := Aside0.mk hr
  clear hr
  have hz1 := zero1
  go_enter Tryz.func143, Tryz.ntmps143
  go_wp2
  go_loopg [5, 8] l.length (fun gg _ s8 wr => ∃ kk q : Nat, kk ≤ l.length ∧ l.length - kk ≤ gg ∧ s8 = .int .i64 kk ∧ wr = w.drewN q ∧ Aside0 (∀ j, j < kk → l.getD j 0 = 0))
  case atStart => exact ⟨0, 0, Nat.zero_le _, by omega, rfl, rfl, ⟨fun j hj => absurd hj (Nat.not_lt_zero _)⟩⟩
  case round =>
    obtain ⟨kk, q, hkk, hg, rfl, rfl, A0⟩ := hrel
    by_cases hlt : kk < l.length
    · have hltz : (kk : Int) < (l.length : Int) := by omega
      obtain ⟨ad, rfl, hcell⟩ := C_cell HR.out kk hlt
      generalize hy : l.getD kk 0 = y at hcell
      have B : Aside0 (l.getD kk 0 = y) := ⟨hy⟩
      clear hy
      cases hq : (y != 0) with
      | true =>
        have hcall : ∀ W, Calls Tryz.prog 129 #[.int .u8 y] W fun e w' => e = .returned (.bool true) ∧ w' = W := fun W => by
          have h := hz1 y W
          rwa [hq] at h
        have HQ := Aside0.mk hq
        clear hq hz1
        go_wp2_with (go_at_fn 129; refine (hcall _).mono ?_; rintro e w' ⟨rfl, rfl⟩)
        go_ret
        exact ⟨by rw [idxNZ_hit l kk hlt A0.out (by rw [B.out]; simpa using HQ.out)]; rfl, _, rfl⟩
      | false =>
        have hcall : ∀ W, Calls Tryz.prog 129 #[.int .u8 y] W fun e w' => e = .returned (.bool false) ∧ w' = W := fun W => by
          have h := hz1 y W
          rwa [hq] at h
        have HQ := Aside0.mk hq
        clear hq hz1
        go_wp2_with (go_at_fn 129; refine (hcall _).mono ?_; rintro e w' ⟨rfl, rfl⟩)
        go_roundg (l.length - (kk + 1))
        case measure => omega
        case rel =>
          refine ⟨kk + 1, _, by omega, by omega, by go_num, rfl, ⟨fun j hj => ?_⟩⟩
          by_cases e : j = kk
          · subst e
            rw [B.out]
            simpa using HQ.out
          · exact A0.out j (by omega)
    · have hltz : ¬ (kk : Int) < (l.length : Int) := by omega
      have : kk = l.length := by omega
      subst this
      go_wp2
      go_ret
      exact ⟨by rw [idxNZ_miss l A0.out]; rfl, q, rfl⟩
def dec_zero.f (l0 : List Int) : Option Bool := some (l0.all (· == 0))
theorem idxNZ_ge (l : List Int) : decide (0 ≤ idxNZ l) = !l.all (· == 0) := by
  unfold idxNZ
  split
  · rename_i h
    rw [h]
    rfl
  · rename_i h
    simp only [Bool.not_eq_true] at h
    rw [h]
    simp
set_option maxHeartbeats 1000000 in
theorem dec_zero.calls (A0 : Option Addr) (c0 : Nat) (l0 : List Int) (r : Bool) (w : World) (hr0 : Kd.C (Kd.int .u8) w A0 l0.length l0) (hc0 : l0.length ≤ c0) (h : dec_zero.f l0 = some r) :
    Calls Tryz.prog 108 #[.slice A0 l0.length c0] w fun e w' => e = .returned (.bool r) ∧ Drawn0 w w' := by
  have hI := fun w h => indexFunc_any A0 c0 l0 w h
  have H0 := Aside0.mk (idxNZ_ge l0)
  have HR := Aside0.mk hr0
  have H1 : Aside0 (r = l0.all (· == 0)) := ⟨by simpa [dec_zero.f] using h.symm⟩
  clear hr0 h hc0
  go_enter Tryz.func108, Tryz.ntmps108
  go_wp2_with (first | (go_at_call 143; refine (hI _ HR.out).mono ?_; rintro e w' ⟨rfl, q, rfl⟩) | (go_at_call 128; go_in))
  go_ret
  exact ⟨by rw [H1.out]; simp only [H0.out, Bool.not_not]; rfl, ⟨⟨_, rfl⟩⟩⟩

end Go.Proofs.YtdjgiphipjejlaaGreatDoor.G
