import Derived.Test.YtdjgiphipjejlaaGreatDoorProg
import Derived.Below
import Derived.Deep.Draws
import Derived.Deep.AppendLies
import Derived.Maps.AppendAt
import Derived.OwnWalk
import Derived.Laws.BytesArg
import Derived.Laws.MakeOwn
import Derived.Laws.OwnMore
import Derived.Deep.OwnRows
import Derived.Tactics
import Derived.Lib.ConvBytes
import Derived.Laws.Slices
import Derived.WalkKit
import Derived.KernelRfl
import Derived.RowKit3
import Derived.Deep.LoopGhost
import Derived.Deep.QuietTactic
import Derived.BigQuiet
import Derived.WideLaws
import Derived.Deep.DeepCutAuto
import Derived.Deep.CutBlock
import Derived.Deep.RegionHeld3
import Derived.Laws.Rows
import Derived.Lib.AppendStr
import Derived.ArgAppend
import Derived.Laws.IdiomCopy
import Derived.OrdersHeld
import Derived.Laws.BitsLemmas
import Derived.RowKit
import Derived.Test.YtdjgiphipjejlaaGreatDoorWWords
import Derived.Test.YtdjgiphipjejlaaGreatDoorWLast
import Derived.Test.YtdjgiphipjejlaaGreatDoorWTab
import Derived.Test.YtdjgiphipjejlaaGreatDoorWQPut
import Derived.Test.YtdjgiphipjejlaaGreatDoorWApart
import Derived.Test.YtdjgiphipjejlaaGreatDoorWArr
import Derived.Test.YtdjgiphipjejlaaGreatDoorWZeros
import Derived.Test.YtdjgiphipjejlaaGreatDoorWFoot
import Derived.Test.YtdjgiphipjejlaaGreatDoorWKept
import Derived.Test.YtdjgiphipjejlaaGreatDoorWShare
import Derived.Test.YtdjgiphipjejlaaGreatDoorWN
import Derived.Test.YtdjgiphipjejlaaGreatDoorWRepsOne
import Derived.Test.YtdjgiphipjejlaaGreatDoorWGuard
import Derived.Test.YtdjgiphipjejlaaGreatDoorWNEv
import Derived.Test.YtdjgiphipjejlaaGreatDoorWMore
import Derived.Test.YtdjgiphipjejlaaGreatDoorG10

namespace Go.Proofs.YtdjgiphipjejlaaGreatDoor.G
open Go.RowKit Go.Proofs.YtdjgiphipjejlaaGreatDoorW.PrintWords Go.Proofs.YtdjgiphipjejlaaGreatDoorW.PrintLast Go.Proofs.YtdjgiphipjejlaaGreatDoorW.PrintMore
attribute [local go_sem] max2_int min2_int max_two min_two max_three min_three max_four min_four
set_option linter.unusedVariables false
set_option linter.unusedSimpArgs false

/-! ### kind.Find -/
def namesL : List ByteArray := rowsL.map Prod.fst
def Odd (s : ByteArray) : Prop := s = ⟨#[102, 108, 111, 97, 116]⟩ ∨ s = ⟨#[100, 111, 117, 98, 108, 101]⟩ ∨ s = ⟨#[104, 101, 120, 66, 105, 110, 97, 114, 121]⟩ ∨ s = ⟨#[98, 97, 115, 101, 54, 52, 66, 105, 110, 97, 114, 121]⟩ ∨ s = ⟨#[97, 110, 121, 85, 82, 73]⟩ ∨ s = ⟨#[81, 78, 97, 109, 101]⟩ ∨ s = ⟨#[78, 79, 84, 65, 84, 73, 79, 78]⟩ ∨ s = ⟨#[108, 97, 110, 103, 117, 97, 103, 101]⟩ ∨ s = ⟨#[78, 77, 84, 79, 75, 69, 78, 83]⟩ ∨ s = ⟨#[73, 68, 82, 69, 70, 83]⟩ ∨ s = ⟨#[69, 78, 84, 73, 84, 89]⟩ ∨ s = ⟨#[69, 78, 84, 73, 84, 73, 69, 83]⟩
instance (s : ByteArray) : Decidable (Odd s) := by unfold Odd; infer_instance
def scan (s : ByteArray) : List ByteArray → Int → Int × Int
  | [], _ => (0, if Odd s then 6 else 4)
  | x :: l, i => if x = s then (i, 0) else scan s l (i + 1)
def kind_Find.f (a0 : ByteArray) : Option (Int × Int) := some (scan a0 (namesL.drop 1) 1)
theorem names_length : namesL.length = 33 := by kernel_rfl
theorem rowAt_name (i : Nat) (h : i < 33) : (rowAt i).1 = namesL[i]'(by rw [names_length]; exact h) := by
  have hr : i < rowsL.length := by have : rowsL.length = 33 := by kernel_rfl
                                   omega
  unfold rowAt namesL
  rw [List.getElem_map, Int.toNat_natCast, List.getD_eq_getElem?_getD, List.getElem?_eq_getElem hr]
  rfl
theorem scan_next (s : ByteArray) (i : Nat) (h : i < 33) (hn : (rowAt i).1 ≠ s) : scan s (namesL.drop i) i = scan s (namesL.drop (i + 1)) ((i + 1 : Nat) : Int) := by
  rw [List.drop_eq_getElem_cons (by rw [names_length]; exact h)]
  simp only [scan]
  rw [if_neg (by rw [← rowAt_name i h]; exact hn)]
  rfl
theorem scan_hit (s : ByteArray) (i : Nat) (h : i < 33) (hn : (rowAt i).1 = s) : scan s (namesL.drop i) i = ((i : Int), 0) := by
  rw [List.drop_eq_getElem_cons (by rw [names_length]; exact h)]
  simp only [scan]
  rw [if_pos (by rw [← rowAt_name i h]; exact hn)]
theorem scan_end (s : ByteArray) (i : Int) : scan s (namesL.drop 33) i = (0, if Odd s then 6 else 4) := by
  rw [List.drop_of_length_le (by rw [names_length]; exact Nat.le_refl _)]
  rfl
theorem tl_lit (s : ByteArray) (l : List UInt8) : (s.toList == l) = decide (s = ⟨l.toArray⟩) := by
  have e : s.toList = s.data.toList := Lib.toList_data s
  rw [e]
  by_cases h : s = ⟨l.toArray⟩
  · rw [decide_eq_true h, h]; simp
  · rw [decide_eq_false h]
    refine beq_eq_false_iff_ne.2 fun hc => h ?_
    rw [← hc]
set_option maxRecDepth 100000 in
set_option maxHeartbeats 8000000 in
theorem kind_Find.calls (a0 : ByteArray) (r1 r2 : Int) (w : World) (h : kind_Find.f a0 = some (r1, r2)) : Calls Tryz.prog 6 #[.string a0] w fun e w' => e = .returned (.tuple #[.int .i64 r1, .int .i64 r2]) ∧ Below w.heap.size w w' := by
  have HS := Lib.hid (Option.some.inj h)
  clear h
  have hfd := fd_name
  go_enter Tryz.func6, Tryz.ntmps6
  go_wp2_with (fail)
  refine (rows_c w).mono ?_
  rintro e w1 ⟨rfl, rfl⟩
  have HB := below_alloc (Below.refl w.heap.size w) (.cells rowsV 49)
  generalize w.alloc (.cells rowsV 49) = w1 at HB ⊢
  go_wp2
  go_loopg [7] 33 (fun g v wx => ∃ i : Nat, i + g = 33 ∧ v = .int .i64 i ∧ Below w.heap.size w wx ∧ scan a0 (namesL.drop (max i 1)) ((max i 1 : Nat) : Int) = (r1, r2))
  case atStart => exact ⟨0, by omega, rfl, HB, HS.out⟩
  case round =>
    clear HB HS
    obtain ⟨i, hig, rfl, hB, hS⟩ := hrel
    have HB := Lib.hid hB; have HS := Lib.hid hS; clear hB hS
    cases gk with
    | zero =>
      obtain rfl : i = 33 := by omega
      have he : (r1, r2) = ((0 : Int), if Odd a0 then (6 : Int) else 4) := by rw [← HS.out]; exact scan_end a0 _
      obtain ⟨e1_, e2_⟩ := Prod.mk.inj he
      subst e1_
      have HE := Lib.hid e2_
      clear he HS hig e2_
      by_cases h0 : a0 = ⟨#[102, 108, 111, 97, 116]⟩
      · have b0 : (a0.toList == ([102, 108, 111, 97, 116] : List UInt8)) = true := by rw [tl_lit]; exact decide_eq_true h0
        have hr : (if Odd a0 then (6 : Int) else 4) = 6 := if_pos (by rw [h0]; simp [Odd])
        have HR := Lib.hid hr; clear hr h0 
        go_wp2; go_ret2; exact ⟨by rw [HE.out, HR.out]; rfl, HB.out⟩
      have b0 : (a0.toList == ([102, 108, 111, 97, 116] : List UInt8)) = false := by rw [tl_lit]; exact decide_eq_false h0
      by_cases h1 : a0 = ⟨#[100, 111, 117, 98, 108, 101]⟩
      · have b1 : (a0.toList == ([100, 111, 117, 98, 108, 101] : List UInt8)) = true := by rw [tl_lit]; exact decide_eq_true h1
        have hr : (if Odd a0 then (6 : Int) else 4) = 6 := if_pos (by rw [h1]; simp [Odd])
        have HR := Lib.hid hr; clear hr h1 h0
        go_wp2; go_ret2; exact ⟨by rw [HE.out, HR.out]; rfl, HB.out⟩
      have b1 : (a0.toList == ([100, 111, 117, 98, 108, 101] : List UInt8)) = false := by rw [tl_lit]; exact decide_eq_false h1
      by_cases h2 : a0 = ⟨#[104, 101, 120, 66, 105, 110, 97, 114, 121]⟩
      · have b2 : (a0.toList == ([104, 101, 120, 66, 105, 110, 97, 114, 121] : List UInt8)) = true := by rw [tl_lit]; exact decide_eq_true h2
        have hr : (if Odd a0 then (6 : Int) else 4) = 6 := if_pos (by rw [h2]; simp [Odd])
        have HR := Lib.hid hr; clear hr h2 h0 h1
        go_wp2; go_ret2; exact ⟨by rw [HE.out, HR.out]; rfl, HB.out⟩
      have b2 : (a0.toList == ([104, 101, 120, 66, 105, 110, 97, 114, 121] : List UInt8)) = false := by rw [tl_lit]; exact decide_eq_false h2
      by_cases h3 : a0 = ⟨#[98, 97, 115, 101, 54, 52, 66, 105, 110, 97, 114, 121]⟩
      · have b3 : (a0.toList == ([98, 97, 115, 101, 54, 52, 66, 105, 110, 97, 114, 121] : List UInt8)) = true := by rw [tl_lit]; exact decide_eq_true h3
        have hr : (if Odd a0 then (6 : Int) else 4) = 6 := if_pos (by rw [h3]; simp [Odd])
        have HR := Lib.hid hr; clear hr h3 h0 h1 h2
        go_wp2; go_ret2; exact ⟨by rw [HE.out, HR.out]; rfl, HB.out⟩
      have b3 : (a0.toList == ([98, 97, 115, 101, 54, 52, 66, 105, 110, 97, 114, 121] : List UInt8)) = false := by rw [tl_lit]; exact decide_eq_false h3
      by_cases h4 : a0 = ⟨#[97, 110, 121, 85, 82, 73]⟩
      · have b4 : (a0.toList == ([97, 110, 121, 85, 82, 73] : List UInt8)) = true := by rw [tl_lit]; exact decide_eq_true h4
        have hr : (if Odd a0 then (6 : Int) else 4) = 6 := if_pos (by rw [h4]; simp [Odd])
        have HR := Lib.hid hr; clear hr h4 h0 h1 h2 h3
        go_wp2; go_ret2; exact ⟨by rw [HE.out, HR.out]; rfl, HB.out⟩
      have b4 : (a0.toList == ([97, 110, 121, 85, 82, 73] : List UInt8)) = false := by rw [tl_lit]; exact decide_eq_false h4
      by_cases h5 : a0 = ⟨#[81, 78, 97, 109, 101]⟩
      · have b5 : (a0.toList == ([81, 78, 97, 109, 101] : List UInt8)) = true := by rw [tl_lit]; exact decide_eq_true h5
        have hr : (if Odd a0 then (6 : Int) else 4) = 6 := if_pos (by rw [h5]; simp [Odd])
        have HR := Lib.hid hr; clear hr h5 h0 h1 h2 h3 h4
        go_wp2; go_ret2; exact ⟨by rw [HE.out, HR.out]; rfl, HB.out⟩
      have b5 : (a0.toList == ([81, 78, 97, 109, 101] : List UInt8)) = false := by rw [tl_lit]; exact decide_eq_false h5
      by_cases h6 : a0 = ⟨#[78, 79, 84, 65, 84, 73, 79, 78]⟩
      · have b6 : (a0.toList == ([78, 79, 84, 65, 84, 73, 79, 78] : List UInt8)) = true := by rw [tl_lit]; exact decide_eq_true h6
        have hr : (if Odd a0 then (6 : Int) else 4) = 6 := if_pos (by rw [h6]; simp [Odd])
        have HR := Lib.hid hr; clear hr h6 h0 h1 h2 h3 h4 h5
        go_wp2; go_ret2; exact ⟨by rw [HE.out, HR.out]; rfl, HB.out⟩
      have b6 : (a0.toList == ([78, 79, 84, 65, 84, 73, 79, 78] : List UInt8)) = false := by rw [tl_lit]; exact decide_eq_false h6
      by_cases h7 : a0 = ⟨#[108, 97, 110, 103, 117, 97, 103, 101]⟩
      · have b7 : (a0.toList == ([108, 97, 110, 103, 117, 97, 103, 101] : List UInt8)) = true := by rw [tl_lit]; exact decide_eq_true h7
        have hr : (if Odd a0 then (6 : Int) else 4) = 6 := if_pos (by rw [h7]; simp [Odd])
        have HR := Lib.hid hr; clear hr h7 h0 h1 h2 h3 h4 h5 h6
        go_wp2; go_ret2; exact ⟨by rw [HE.out, HR.out]; rfl, HB.out⟩
      have b7 : (a0.toList == ([108, 97, 110, 103, 117, 97, 103, 101] : List UInt8)) = false := by rw [tl_lit]; exact decide_eq_false h7
      by_cases h8 : a0 = ⟨#[78, 77, 84, 79, 75, 69, 78, 83]⟩
      · have b8 : (a0.toList == ([78, 77, 84, 79, 75, 69, 78, 83] : List UInt8)) = true := by rw [tl_lit]; exact decide_eq_true h8
        have hr : (if Odd a0 then (6 : Int) else 4) = 6 := if_pos (by rw [h8]; simp [Odd])
        have HR := Lib.hid hr; clear hr h8 h0 h1 h2 h3 h4 h5 h6 h7
        go_wp2; go_ret2; exact ⟨by rw [HE.out, HR.out]; rfl, HB.out⟩
      have b8 : (a0.toList == ([78, 77, 84, 79, 75, 69, 78, 83] : List UInt8)) = false := by rw [tl_lit]; exact decide_eq_false h8
      by_cases h9 : a0 = ⟨#[73, 68, 82, 69, 70, 83]⟩
      · have b9 : (a0.toList == ([73, 68, 82, 69, 70, 83] : List UInt8)) = true := by rw [tl_lit]; exact decide_eq_true h9
        have hr : (if Odd a0 then (6 : Int) else 4) = 6 := if_pos (by rw [h9]; simp [Odd])
        have HR := Lib.hid hr; clear hr h9 h0 h1 h2 h3 h4 h5 h6 h7 h8
        go_wp2; go_ret2; exact ⟨by rw [HE.out, HR.out]; rfl, HB.out⟩
      have b9 : (a0.toList == ([73, 68, 82, 69, 70, 83] : List UInt8)) = false := by rw [tl_lit]; exact decide_eq_false h9
      by_cases h10 : a0 = ⟨#[69, 78, 84, 73, 84, 89]⟩
      · have b10 : (a0.toList == ([69, 78, 84, 73, 84, 89] : List UInt8)) = true := by rw [tl_lit]; exact decide_eq_true h10
        have hr : (if Odd a0 then (6 : Int) else 4) = 6 := if_pos (by rw [h10]; simp [Odd])
        have HR := Lib.hid hr; clear hr h10 h0 h1 h2 h3 h4 h5 h6 h7 h8 h9
        go_wp2; go_ret2; exact ⟨by rw [HE.out, HR.out]; rfl, HB.out⟩
      have b10 : (a0.toList == ([69, 78, 84, 73, 84, 89] : List UInt8)) = false := by rw [tl_lit]; exact decide_eq_false h10
      by_cases h11 : a0 = ⟨#[69, 78, 84, 73, 84, 73, 69, 83]⟩
      · have b11 : (a0.toList == ([69, 78, 84, 73, 84, 73, 69, 83] : List UInt8)) = true := by rw [tl_lit]; exact decide_eq_true h11
        have hr : (if Odd a0 then (6 : Int) else 4) = 6 := if_pos (by rw [h11]; simp [Odd])
        have HR := Lib.hid hr; clear hr h11 h0 h1 h2 h3 h4 h5 h6 h7 h8 h9 h10
        go_wp2; go_ret2; exact ⟨by rw [HE.out, HR.out]; rfl, HB.out⟩
      have b11 : (a0.toList == ([69, 78, 84, 73, 84, 73, 69, 83] : List UInt8)) = false := by rw [tl_lit]; exact decide_eq_false h11
      have hr : (if Odd a0 then (6 : Int) else 4) = 4 := if_neg (by simp only [Odd, not_or]; exact ⟨h0, h1, h2, h3, h4, h5, h6, h7, h8, h9, h10, h11⟩)
      have HR := Lib.hid hr; clear hr h0 h1 h2 h3 h4 h5 h6 h7 h8 h9 h10 h11
      go_wp2; go_ret2; exact ⟨by rw [HE.out, HR.out]; rfl, HB.out⟩
    | succ g =>
      have hi : i < 33 := by omega
      have hx := index_rows i hi
      have hiz : (i : Int) < 33 := by omega
      by_cases h0 : i = 0
      · subst h0
        have hx0 : ∀ w, Sem.run Tryz.prog (Instr.index 49 (.agg rowsV) (.int .i64 0)) w = .ok (.agg #[.string (rowAt ((0 : Nat) : Int)).1, .int .i64 (rowAt ((0 : Nat) : Int)).2]) w := fun w => index_rows 0 (by decide) w
        clear hx
        generalize rowAt ((0 : Nat) : Int) = R at hx0
        go_wp2
        go_roundg g
        case measure => omega
        case rel => exact ⟨1, by omega, by first | rfl | simp, by first | exact HB.out | exact below_set (below_set (below_alloc HB.out _) HB.out.size) HB.out.size | exact below_alloc HB.out _, HS.out⟩
      · have hp : (0 : Int) < (i : Int) := by omega
        have e1 : max i 1 = i := by omega
        have e2 : max (i + 1) 1 = i + 1 := by omega
        by_cases hn : (rowAt i).1 = a0
        · have he := HS.out
          rw [e1, scan_hit a0 i hi hn] at he
          obtain ⟨rfl, rfl⟩ := Prod.mk.inj he
          have b0 : ((rowAt i).1.toList == a0.toList) = true := by rw [hn]; simp
          clear he HS hn e1 e2
          generalize rowAt i = R at hx b0
          go_wp2
          go_ret2
          exact ⟨rfl, by first | exact HB.out | exact below_set (below_set (below_alloc HB.out _) HB.out.size) HB.out.size | exact below_alloc HB.out _⟩
        · have b0 : ((rowAt i).1.toList == a0.toList) = false := beq_eq_false_iff_ne.2 (fun hc => hn (by
            rw [Lib.toList_data, Lib.toList_data] at hc
            have : (rowAt i).1.data = a0.data := Array.toList_inj.1 hc
            cases h5 : (rowAt i).1; cases a0; simp_all))
          have HN := Lib.hid hn; clear hn
          have he := HS.out
          rw [e1, scan_next a0 i hi HN.out] at he
          have HE := Lib.hid he; clear he HN HS e1
          generalize rowAt i = R at hx b0
          go_wp2
          go_roundg g
          case measure => omega
          case rel => exact ⟨i + 1, by omega, by first | rfl | simp, by first | exact HB.out | exact below_set (below_set (below_alloc HB.out _) HB.out.size) HB.out.size | exact below_alloc HB.out _, by rw [e2]; exact HE.out⟩

end Go.Proofs.YtdjgiphipjejlaaGreatDoor.G
