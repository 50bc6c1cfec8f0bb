import Derived.Test.YtdjgiphipjejlaaGreatDoorProg
import Derived.Below
import Derived.Deep.Draws
import Derived.Deep.AppendLies
import Derived.Maps.AppendAt
import Derived.OwnWalk
import Derived.Laws.BytesArg
import Derived.Laws.MakeOwn
import Derived.Laws.OwnMore
import Derived.Deep.OwnRows
import Derived.Tactics
import Derived.Lib.ConvBytes
import Derived.Laws.Slices
import Derived.WalkKit
import Derived.KernelRfl
import Derived.RowKit3
import Derived.Deep.LoopGhost
import Derived.Deep.QuietTactic
import Derived.BigQuiet
import Derived.WideLaws
import Derived.Deep.DeepCutAuto
import Derived.Deep.CutBlock
import Derived.Deep.RegionHeld3
import Derived.Laws.Rows
import Derived.Lib.AppendStr
import Derived.ArgAppend
import Derived.Laws.IdiomCopy
import Derived.OrdersHeld
import Derived.Laws.BitsLemmas
import Derived.RowKit
import Derived.Test.YtdjgiphipjejlaaGreatDoorWWords
import Derived.Test.YtdjgiphipjejlaaGreatDoorWLast
import Derived.Test.YtdjgiphipjejlaaGreatDoorWTab
import Derived.Test.YtdjgiphipjejlaaGreatDoorWQPut
import Derived.Test.YtdjgiphipjejlaaGreatDoorWApart
import Derived.Test.YtdjgiphipjejlaaGreatDoorWArr
import Derived.Test.YtdjgiphipjejlaaGreatDoorWZeros
import Derived.Test.YtdjgiphipjejlaaGreatDoorWFoot
import Derived.Test.YtdjgiphipjejlaaGreatDoorWKept
import Derived.Test.YtdjgiphipjejlaaGreatDoorWShare
import Derived.Test.YtdjgiphipjejlaaGreatDoorWN
import Derived.Test.YtdjgiphipjejlaaGreatDoorWRepsOne
import Derived.Test.YtdjgiphipjejlaaGreatDoorWGuard
import Derived.Test.YtdjgiphipjejlaaGreatDoorWNEv
import Derived.Test.YtdjgiphipjejlaaGreatDoorWMore
import Derived.Test.YtdjgiphipjejlaaGreatDoorG1
import Derived.Shelf.Strings.Cut

namespace Go.Proofs.YtdjgiphipjejlaaGreatDoor.G
open Go.RowKit Go.Proofs.YtdjgiphipjejlaaGreatDoorW.PrintWords Go.Proofs.YtdjgiphipjejlaaGreatDoorW.PrintLast Go.Proofs.YtdjgiphipjejlaaGreatDoorW.PrintMore
attribute [local go_sem] max2_int min2_int max_two min_two max_three min_three max_four min_four
set_option linter.unusedVariables false
set_option linter.unusedSimpArgs false

/-! ### strings.Cut at a separator of one byte -/
set_option maxRecDepth 100000 in
set_option maxHeartbeats 4000000 in
theorem indexByte46 (s : ByteArray) (c : Int) (w : World) :
    Calls Tryz.prog 77 #[.string s, .int .u8 c] w fun e w' => e = .returned (.int .i64 (Lib.indexByte s.data.toList c.toNat.toUInt8)) ∧ w' = w := by
  go_enter Tryz.func77, Tryz.ntmps77
  go_wp2
  rw [run_callFunc_extern Tryz.func96 (by kernel_rfl) (by kernel_rfl) (by kernel_rfl) (e := Extern.BytealgIndexByte.indexByte) (by kernel_rfl), Lib.run_indexByteString]
  simp only [Result.andThen]
  rw [Oper.upon_value]
  go_wp2
  go_ret
  exact ⟨rfl, rfl⟩
set_option maxHeartbeats 2000000 in
theorem index41 (s : ByteArray) (c : UInt8) (w : World) :
    Calls Tryz.prog 125 #[.string s, .string ⟨#[c]⟩] w fun e w' => e = .returned (.int .i64 (Lib.indexByte s.data.toList c)) ∧ w' = w := by
  have h46 := indexByte46
  go_enter Tryz.func125, Tryz.ntmps125
  go_wp2_with (go_at_call 77; refine (h46 _ _ _).mono ?_; rintro e w' ⟨rfl, rfl⟩)
  · have h : ([c] == s.toList) = true := by assumption
    go_ret
    refine ⟨?_, rfl⟩
    have e : s.data.toList = [c] := by rw [← Lib.toList_data]; exact (beq_iff_eq.1 h).symm
    rw [e]
    simp [Lib.indexByte]
  · go_ret
    exact ⟨rfl, rfl⟩
def cutP (s : ByteArray) (c : UInt8) : ByteArray × ByteArray × Bool :=
  if 0 ≤ Lib.indexByte s.data.toList c then (s.extract 0 (Lib.indexByte s.data.toList c).toNat, s.extract ((Lib.indexByte s.data.toList c).toNat + 1) s.size, true) else (s, ByteArray.empty, false)
def strings_Cut.f (a0 a1 : ByteArray) : Option (ByteArray × ByteArray × Bool) :=
  if h : a1.size = 1 then (if a0.size ≤ 140737488351232 then some (cutP a0 (a1[0]'(by omega))) else none) else none
theorem indexByte_lt (s : ByteArray) (c : UInt8) (h : 0 ≤ Lib.indexByte s.data.toList c) : Lib.indexByte s.data.toList c < s.size := by
  obtain ⟨n, hn⟩ := Int.eq_ofNat_of_zero_le h
  have := (Lib.indexByte_some hn).1
  rw [List.getElem?_eq_some_iff] at this
  obtain ⟨hl, _⟩ := this
  rw [hn]
  have : s.data.toList.length = s.size := by simp
  omega
set_option maxHeartbeats 2000000 in
theorem cut34 (s : ByteArray) (c : UInt8) (w : World) (hs : s.size ≤ 140737488351232) :
    Calls Tryz.prog 105 #[.string s, .string ⟨#[c]⟩] w fun e w' => e = .returned (.tuple #[.string (cutP s c).1, .string (cutP s c).2.1, .bool (cutP s c).2.2]) ∧ Drawn0 w w' := by
  have h41 := index41
  by_cases h : 0 ≤ Lib.indexByte s.data.toList c
  · have hlt := indexByte_lt s c h
    have e : cutP s c = (s.extract 0 (Lib.indexByte s.data.toList c).toNat, s.extract ((Lib.indexByte s.data.toList c).toNat + 1) s.size, true) := by unfold cutP; rw [if_pos h]
    rw [e]
    clear e
    obtain ⟨n, hn⟩ := Int.eq_ofNat_of_zero_le h
    have HN := Aside0.mk hn
    have h41' : ∀ W, Calls Tryz.prog 125 #[.string s, .string ⟨#[c]⟩] W fun e w' => e = .returned (.int .i64 (n : Int)) ∧ w' = W := fun W => by rw [← hn]; exact h41 s c W
    rw [hn] at hlt ⊢
    clear h hn h41
    rw [Int.toNat_natCast]
    have c1 : (0 : Int) ≤ ↑n := by omega
    have c2 : (↑n : Int) ≤ ↑s.size := by omega
    have c3 : (0 : Int) ≤ ↑n + 1 := by omega
    have c4 : (↑n + 1 : Int) ≤ ↑s.size := by omega
    go_enter Tryz.func105, Tryz.ntmps105
    go_wp2_with (go_at_call 125; refine (h41' _).mono ?_; rintro e w' ⟨rfl, rfl⟩)
    go_region
    go_wp2
    go_ret3
    exact ⟨rfl, ⟨⟨1, rfl⟩⟩⟩
  · have e : cutP s c = (s, ByteArray.empty, false) := by unfold cutP; rw [if_neg h]
    rw [e]
    have hm : Lib.indexByte s.data.toList c = -1 := by have := Lib.indexByte_ge s.data.toList c; omega
    have h41' : ∀ W, Calls Tryz.prog 125 #[.string s, .string ⟨#[c]⟩] W fun e w' => e = .returned (.int .i64 (-1)) ∧ w' = W := fun W => by rw [← hm]; exact h41 s c W
    clear h hm h41 e
    go_enter Tryz.func105, Tryz.ntmps105
    go_wp2_with (go_at_call 125; refine (h41' _).mono ?_; rintro e w' ⟨rfl, rfl⟩)
    go_ret3
    exact ⟨rfl, ⟨⟨0, rfl⟩⟩⟩
set_option maxHeartbeats 2000000 in
theorem strings_Cut.calls (a0 a1 : ByteArray) (r1 r2 : ByteArray) (r3 : Bool) (w : World) (h : strings_Cut.f a0 a1 = some (r1, r2, r3)) :
    Calls Tryz.prog 81 #[.string a0, .string a1] w fun e w' => e = .returned (.tuple #[.string r1, .string r2, .bool r3]) ∧ Drawn0 w w' := by
  unfold strings_Cut.f at h
  split at h
  · rename_i h1
    split at h
    · rename_i h2
      obtain ⟨c, rfl⟩ : ∃ c, a1 = ⟨#[c]⟩ := by
        obtain ⟨⟨l⟩⟩ := a1
        match l, h1 with
        | [c], _ => exact ⟨c, rfl⟩
      have hc := cut34 a0 c
      injection h with h
      have e : (⟨#[c]⟩ : ByteArray)[0]'(by omega) = c := rfl
      rw [e] at h
      rw [h] at hc
      clear h e h1
      go_enter Tryz.func81, Tryz.ntmps81
      go_wp2_with (go_at_call 105; refine (hc _ h2).mono ?_; rintro e w' ⟨rfl, hq⟩)
      go_ret3
      exact ⟨rfl, hq⟩
    · cases h
  · cases h

end Go.Proofs.YtdjgiphipjejlaaGreatDoor.G
