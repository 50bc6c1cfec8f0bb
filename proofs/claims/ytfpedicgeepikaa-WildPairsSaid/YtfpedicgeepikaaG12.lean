import Derived.Test.YtfpedicgeepikaaProg
import Derived.Below
import Derived.Deep.Draws
import Derived.Deep.AppendLies
import Derived.Maps.AppendAt
import Derived.OwnWalk
import Derived.Laws.BytesArg
import Derived.Laws.MakeOwn
import Derived.Laws.OwnMore
import Derived.Deep.OwnRows
import Derived.Tactics
import Derived.Lib.ConvBytes
import Derived.Laws.Slices
import Derived.WalkKit
import Derived.KernelRfl
import Derived.RowKit3
import Derived.Deep.LoopGhost
import Derived.Deep.QuietTactic
import Derived.BigQuiet
import Derived.WideLaws
import Derived.Deep.DeepCutAuto
import Derived.Deep.CutBlock
import Derived.Deep.RegionHeld3
import Derived.Laws.Rows
import Derived.Lib.AppendStr
import Derived.ArgAppend
import Derived.Laws.IdiomCopy
import Derived.OrdersHeld
import Derived.Laws.BitsLemmas
import Derived.RowKit
import Derived.Test.YtfpedicgeepikaaS2
import Derived.Test.YtfpedicgeepikaaWWords
import Derived.Test.YtfpedicgeepikaaWLast
import Derived.Test.YtfpedicgeepikaaWTab
import Derived.Test.YtfpedicgeepikaaWQPut
import Derived.Test.YtfpedicgeepikaaWApart
import Derived.Test.YtfpedicgeepikaaWArr
import Derived.Test.YtfpedicgeepikaaWZeros
import Derived.Test.YtfpedicgeepikaaWFoot
import Derived.Test.YtfpedicgeepikaaWKept
import Derived.Test.YtfpedicgeepikaaWShare
import Derived.Test.YtfpedicgeepikaaWN
import Derived.Test.YtfpedicgeepikaaWRepsOne
import Derived.Test.YtfpedicgeepikaaWGuard
import Derived.Test.YtfpedicgeepikaaWNEv
import Derived.Test.YtfpedicgeepikaaWMore
import Derived.Test.YtfpedicgeepikaaG7
import Derived.Test.YtfpedicgeepikaaG8
import Derived.Test.YtfpedicgeepikaaPrx9
import Derived.Test.YtfpedicgeepikaaPrx4
import Derived.Test.YtfpedicgeepikaaPrx7
import Derived.Test.YtfpedicgeepikaaPrx8
import Derived.Test.YtfpedicgeepikaaS3
import Derived.Lib.Hide

namespace Go.Proofs.Ytfpedicgeepikaa.G
open Go.RowKit Go.Proofs.YtfpedicgeepikaaW.PrintWords Go.Proofs.YtfpedicgeepikaaW.PrintLast Go.Proofs.YtfpedicgeepikaaW.PrintMore
attribute [local go_sem] max2_int min2_int max_two min_two max_three min_three max_four min_four
set_option linter.unusedVariables false
set_option linter.unusedSimpArgs false

/-! ### WildPairs: the walk -/
def wpT5 : Bool × List (List Nat × List Nat) := (true, [([], []), ([0], [0]), ([], []), ([2, 1], [2]), ([3, 3], [3]), ([1, 4], [1, 4]), ([5, 4], [5]), ([6], [6]), ([7, 6, 6], [6, 7]), ([6], [6]), ([9, 8, 6], [6, 9]), ([10, 10, 6], [6, 10]), ([8, 11, 6], [6, 8, 11]), ([6, 12], [6, 12])])
def wpB5 : List Nat := [0, 1, 0, 7, 15, 31, 63, 127, 255, 127, 1023, 2047, 4095, 8191]
theorem wptab5 : rtab .any (opsOf Try.f5 5) = wpT5 := by kernel_rfl
theorem wpbits5 : waitsOk wpT5.2 wpB5 = true := by kernel_rfl
def wpT10 : Bool × List (List Nat × List Nat) := (true, [([], []), ([0], [0]), ([], []), ([2, 1], [2]), ([1, 3, 3], [1, 3]), ([4], [4]), ([5], [5]), ([5], [5]), ([], []), ([8, 6, 4, 0, 1, 2, 3, 4, 5, 6, 8], [6, 8]), ([7, 9, 0, 1, 2, 3, 4, 5, 6, 7, 8, 9], [7])])
def wpB10 : List Nat := [0, 1, 0, 7, 15, 31, 63, 63, 0, 383, 1023]
theorem wptab10 : rtab .any (opsOf Try.f5 10) = wpT10 := by kernel_rfl
theorem wpbits10 : waitsOk wpT10.2 wpB10 = true := by kernel_rfl
def wpT12 : Bool × List (List Nat × List Nat) := (true, [([], []), ([0], [0]), ([], []), ([2, 1], [2]), ([1, 3, 3], [1, 3]), ([4], [4]), ([5], [5]), ([5], [5]), ([], []), ([8, 6, 4, 0, 1, 2, 3, 4, 5, 6, 8], [6, 8]), ([7, 9, 0, 1, 2, 3, 4, 5, 6, 7, 8, 9], [7])])
def wpB12 : List Nat := [0, 1, 0, 7, 15, 31, 63, 63, 0, 383, 1023]
theorem wptab12 : rtab .any (opsOf Try.f5 12) = wpT12 := by kernel_rfl
theorem wpbits12 : waitsOk wpT12.2 wpB12 = true := by kernel_rfl
def wpT13 : Bool × List (List Nat × List Nat) := (true, [([], []), ([], []), ([0, 1], [0, 1]), ([], []), ([3, 2], [3]), ([], []), ([4, 5, 4], [4, 5]), ([2, 6], [2, 6]), ([7, 6], [7]), ([8], [8]), ([8], [8]), ([9, 10, 8, 8], [8, 9, 10]), ([8], [8]), ([12, 11, 8], [8, 12]), ([8], [8]), ([14, 13, 8], [8, 14]), ([13, 15, 15, 8], [8, 13, 15]), ([11, 16, 8], [8, 11, 16]), ([8, 17], [8, 17]), ([18, 16], [18]), ([19], [19]), ([19], [19]), ([20, 21, 19, 19], [19, 20, 21]), ([19], [19]), ([23, 22, 19], [19, 23]), ([19], [19]), ([25, 24, 19], [19, 25]), ([24, 26, 26, 19], [19, 24, 26]), ([22, 27, 19], [19, 22, 27]), ([19, 28], [19, 28]), ([29, 27], [29]), ([30], [30]), ([30], [30]), ([31, 32, 30], [30, 31, 32]), ([30, 33], [30, 33]), ([34, 30], [34]), ([35], [35]), ([35], [35]), ([36, 37, 35], [35, 36, 37]), ([35, 38], [35, 38])])
def wpB13 : List Nat := [0, 0, 3, 0, 15, 0, 63, 127, 255, 511, 511, 2047, 511, 8191, 511, 32767, 65535, 131071, 262143, 524287, 1048575, 1048575, 4194303, 1048575, 16777215, 1048575, 67108863, 134217727, 268435455, 536870911, 1073741823, 2147483647, 2147483647, 8589934591, 17179869183, 34359738367, 68719476735, 68719476735, 274877906943, 549755813887]
theorem wptab13 : rtab .any (opsOf Try.f5 13) = wpT13 := by kernel_rfl
theorem wpbits13 : waitsOk wpT13.2 wpB13 = true := by kernel_rfl
def wpT15 : Bool × List (List Nat × List Nat) := (true, [([], []), ([0], [0]), ([1], [1]), ([2, 1, 1], [1, 2]), ([1], [1]), ([3, 4, 3, 1], [1, 3, 4]), ([5, 1], [1, 5]), ([6, 5, 1], [1, 6]), ([7], [7]), ([8, 7, 7], [7, 8]), ([9, 7], [7, 9]), ([7, 10, 1], [1, 7, 10]), ([11, 9, 1], [1, 11]), ([12], [12]), ([12], [12]), ([13, 14, 12, 12], [12, 13, 14]), ([12], [12]), ([12], [12]), ([16, 17, 15, 12], [12, 16, 17]), ([18, 18, 12], [12, 18]), ([19], [19]), ([19], [19]), ([20, 21, 19, 19], [19, 20, 21]), ([19, 22, 12], [12, 19, 22]), ([15, 23, 12], [12, 15, 23]), ([12, 24, 1], [1, 12, 24]), ([1, 25], [1, 25])])
def wpB15 : List Nat := [0, 1, 3, 7, 3, 31, 63, 127, 255, 511, 1023, 2047, 4095, 8191, 8191, 32767, 8191, 8191, 262143, 524287, 1048575, 1048575, 4194303, 8388607, 16777215, 33554431, 67108863]
theorem wptab15 : rtab .any (opsOf Try.f5 15) = wpT15 := by kernel_rfl
theorem wpbits15 : waitsOk wpT15.2 wpB15 = true := by kernel_rfl
def wpT17 : Bool × List (List Nat × List Nat) := (true, [([], []), ([0], [0]), ([1], [1]), ([2], [2]), ([3, 2, 2], [2, 3]), ([2], [2]), ([4, 5, 4, 2], [2, 4, 5]), ([6, 6, 2], [2, 6]), ([7], [7]), ([8, 7, 7], [7, 8]), ([7, 9, 2], [2, 7, 9]), ([10, 9, 2], [2, 10]), ([11], [11]), ([11], [11]), ([12, 13, 11, 11], [11, 12, 13]), ([11], [11]), ([11], [11]), ([15, 16, 14, 11], [11, 15, 16]), ([17, 17, 11], [11, 17]), ([18], [18]), ([18], [18]), ([19, 20, 18, 18], [18, 19, 20]), ([18, 21, 11], [11, 18, 21]), ([14, 22, 11], [11, 14, 22]), ([11, 23, 2], [2, 11, 23]), ([2, 24], [2, 24]), ([25, 21, 0, 1, 2, 3, 4, 5, 6, 7, 8, 9, 10, 11, 12, 13, 14, 15, 16, 17, 18, 19, 20, 21, 22, 23, 24, 25], [25])])
def wpB17 : List Nat := [0, 1, 3, 7, 15, 7, 63, 127, 255, 511, 1023, 2047, 4095, 4095, 16383, 4095, 4095, 131071, 262143, 524287, 524287, 2097151, 4194303, 8388607, 16777215, 33554431, 67108863]
theorem wptab17 : rtab .any (opsOf Try.f5 17) = wpT17 := by kernel_rfl
theorem wpbits17 : waitsOk wpT17.2 wpB17 = true := by kernel_rfl
abbrev C4 (w : World) (g : Nat) (v0 v1 v2 v3 : Value) : Prop := w.cell? ⟨g, 0, none⟩ = some v0 ∧ w.cell? ⟨g, 1, none⟩ = some v1 ∧ w.cell? ⟨g, 2, none⟩ = some v2 ∧ w.cell? ⟨g, 3, none⟩ = some v3
/-- What a slice of texts reads. -/
def CS (w : World) (A : Option Addr) (c : Nat) (l : List ByteArray) : Prop := Kd.C Kd.string w A l.length l ∧ l.length ≤ c
theorem CS.next {w w' : World} {A : Option Addr} {c : Nat} {l : List ByteArray} (h : CS w A c l) (hb : Below w.heap.size w w') : CS w' A c l := ⟨Kd.C_below h.1 hb, h.2⟩
theorem CS.ofV {w : World} {b : Nat} {P : Nat → Prop} {v : Value} {l : List ByteArray} (h : Kd.V Kd.string 9 w b P v l) : ∃ A c, v = .slice A l.length c ∧ CS w A c l := by
  obtain ⟨A, c, rfl⟩ := Kd.V_slice h
  exact ⟨A, c, rfl, (Kd.V_reads' h).2.2, (Kd.V_reads' h).2.1⟩
theorem CS.toV {w : World} {A : Option Addr} {c : Nat} {l : List ByteArray} (h : CS w A c l) : Kd.V Kd.string 9 w w.heap.size (fun k_ => True) (.slice A l.length c) l := Kd.V_mono (Kd.V_mk h.2 (Kd.C_F Kd.heap_string h.1)) (fun _ _ => trivial)
/-- The same, and nothing of it lies in block g. -/
def CN (w : World) (g : Nat) (A : Option Addr) (c : Nat) (l : List ByteArray) : Prop := Kd.V Kd.string 9 w w.heap.size (fun k => k ≠ g) (.slice A l.length c) l
theorem CN.next {w w' : World} {g : Nat} {A : Option Addr} {c : Nat} {l : List ByteArray} (h : CN w g A c l) (hb : Below w.heap.size w w') : CN w' g A c l := Kd.V_below h hb
theorem CN.cs {w : World} {g : Nat} {A : Option Addr} {c : Nat} {l : List ByteArray} (h : CN w g A c l) : CS w A c l := ⟨(Kd.V_reads' h).2.2, (Kd.V_reads' h).2.1⟩
theorem CS.far {w w' : World} {g : Nat} {A : Option Addr} {c : Nat} {l : List ByteArray} (h : CS w A c l) (hb : Below w.heap.size w w') (hg : w.heap.size ≤ g) : CN w' g A c l :=
  Kd.V_below (Kd.V_mono (Kd.V_bound h.toV) (fun k hk => by have := hk.2; omega)) hb
/-- A wildcard in a block of its own, and its row. -/
def Bk (w : World) (g : Nat) (t : TypeId) (h : Int) (n : ByteArray) (A : Option Addr) (c : Nat) (l : List ByteArray) (p : Int) : Prop := w.heap[g]? = some (.cells #[.int .i64 h, .string n, .slice A l.length c, .int .i64 p] t (0, 0)) ∧ CS w A c l
section
variable {w w' : World} {g : Nat} {t : TypeId} {h : Int} {n : ByteArray} {A : Option Addr} {c : Nat} {l : List ByteArray} {p : Int}
theorem Bk.next (k : Bk w g t h n A c l p) (hb : Below w.heap.size w w') : Bk w' g t h n A c l p := ⟨blk_below k.1 hb, k.2.next hb⟩
theorem Bk.c4 (k : Bk w g t h n A c l p) : C4 w g (.int .i64 h) (.string n) (.slice A l.length c) (.int .i64 p) := ⟨(blk_cell k.1 0).trans rfl, (blk_cell k.1 1).trans rfl, (blk_cell k.1 2).trans rfl, (blk_cell k.1 3).trans rfl⟩
theorem Bk.cs (k : Bk w g t h n A c l p) : CS w A c l := k.2
end
theorem b4 {w0 w : World} {B g : Nat} {v0 v1 v2 v3 : Value} (h : Below B w0 w) (hg : B ≤ g) : Below B w0 ((((w.setCell ⟨g, 0, none⟩ v0).setCell ⟨g, 1, none⟩ v1).setCell ⟨g, 2, none⟩ v2).setCell ⟨g, 3, none⟩ v3) :=
  (((h.setCell (p := ⟨g, 0, none⟩) hg v0).setCell (p := ⟨g, 1, none⟩) hg v1).setCell (p := ⟨g, 2, none⟩) hg v2).setCell (p := ⟨g, 3, none⟩) hg v3
theorem blk4 {w : World} {g : Nat} {t : TypeId} {z0 z1 z2 z3 v0 v1 v2 v3 : Value} (h : w.heap[g]? = some (.cells #[z0, z1, z2, z3] t (0, 0))) : ((((w.setCell ⟨g, 0, none⟩ v0).setCell ⟨g, 1, none⟩ v1).setCell ⟨g, 2, none⟩ v2).setCell ⟨g, 3, none⟩ v3).heap[g]? = some (.cells #[v0, v1, v2, v3] t (0, 0)) :=
  blk_put (blk_put (blk_put (blk_put h 0 _ rfl) 1 _ rfl) 2 _ rfl) 3 _ rfl
theorem n4 {w : World} {g : Nat} {v0 v1 v2 v3 : Value} {A : Option Addr} {c : Nat} {l : List ByteArray} (h : CN w g A c l) : CS ((((w.setCell ⟨g, 0, none⟩ v0).setCell ⟨g, 1, none⟩ v1).setCell ⟨g, 2, none⟩ v2).setCell ⟨g, 3, none⟩ v3) A c l := by
  have := Kd.V_far (p := ⟨g, 3, none⟩) (Kd.V_far (p := ⟨g, 2, none⟩) (Kd.V_far (p := ⟨g, 1, none⟩) (Kd.V_far (p := ⟨g, 0, none⟩) h (fun _ hk => hk) v0) (fun _ hk => hk) v1) (fun _ hk => hk) v2) (fun _ hk => hk) v3
  exact ⟨(Kd.V_reads' this).2.2, (Kd.V_reads' this).2.1⟩
theorem of_c (h : Int) (n : ByteArray) (A : Option Addr) (c : Nat) (l : List ByteArray) (p : Int) (w : World) (k : CS w A c l) :
    Calls Try.prog 15 #[.agg #[.int .i64 h, .string n, .slice A l.length c, .int .i64 p]] w fun e w' => ∃ A' c', e = .returned (.agg #[.int .i64 h, .string n, .slice A' l.length c', .int .i64 p]) ∧ CS w' A' c' l ∧ Below w.heap.size w w' := by
  refine (Pr.rubriclaw14_Of.calls h n (fun _ => True) A c l p h n l p w k.toV rfl).mono ?_
  rintro e w' ⟨v, rfl, hv, hb⟩
  obtain ⟨A', c', rfl, hc⟩ := CS.ofV hv
  exact ⟨A', c', rfl, hc, hb⟩
theorem of_n (h : Int) (n : ByteArray) (A : Option Addr) (c : Nat) (l : List ByteArray) (p : Int) (w : World) (g : Nat) (k : CN w g A c l) (hg : g < w.heap.size) :
    Calls Try.prog 15 #[.agg #[.int .i64 h, .string n, .slice A l.length c, .int .i64 p]] w fun e w' => ∃ A' c', e = .returned (.agg #[.int .i64 h, .string n, .slice A' l.length c', .int .i64 p]) ∧ CN w' g A' c' l ∧ Below w.heap.size w w' := by
  refine (Pr.rubriclaw14_Of.calls h n (fun k => k ≠ g) A c l p h n l p w k rfl).mono ?_
  rintro e w' ⟨v, rfl, hv, hb⟩
  obtain ⟨A', c', rfl⟩ := Kd.V_slice hv
  exact ⟨A', c', rfl, Kd.V_mono hv (fun k hk => hk.elim id (fun hk => by omega)), hb⟩
theorem both_c (k : Nat) (h : Int) (n : ByteArray) (A : Option Addr) (c : Nat) (l : List ByteArray) (p : Int) (h' : Int) (n' : ByteArray) (A' : Option Addr) (c' : Nat) (l' : List ByteArray) (p' : Int) (r1 : Int) (r2 : ByteArray) (r3 : List ByteArray) (r4 : Int) (r5 : Bool) (w : World) (ka : CS w A c l) (kb : CS w A' c' l')
    (hf : G.wild_Both.f k h n l p h' n' l' p' = some (r1, r2, r3, r4, r5)) :
    Calls Try.prog 12 #[.agg #[.int .i64 h, .string n, .slice A l.length c, .int .i64 p], .agg #[.int .i64 h', .string n', .slice A' l'.length c', .int .i64 p']] w fun e w' => ∃ X d, e = .returned (.tuple #[.agg #[.int .i64 r1, .string r2, .slice X r3.length d, .int .i64 r4], .bool r5]) ∧ CS w' X d r3 ∧ Below w.heap.size w w' := by
  refine (G.wild_Both.calls k h n A c l p h' n' A' c' l' p' r1 r2 r3 r4 r5 w ka.1 ka.2 kb.1 kb.2 hf).mono ?_
  rintro e w' ⟨v, rfl, hv, hb⟩
  obtain ⟨X, d, rfl, hc⟩ := CS.ofV hv
  exact ⟨X, d, rfl, hc, hb⟩
theorem union_c (k : Nat) (h : Int) (n : ByteArray) (A : Option Addr) (c : Nat) (l : List ByteArray) (p : Int) (h' : Int) (n' : ByteArray) (A' : Option Addr) (c' : Nat) (l' : List ByteArray) (p' : Int) (r1 : Int) (r2 : ByteArray) (r3 : List ByteArray) (r4 : Int) (r5 : Bool) (w : World) (ka : CS w A c l) (kb : CS w A' c' l')
    (hf : G.wild_Union.f k h n l p h' n' l' p' = some (r1, r2, r3, r4, r5)) :
    Calls Try.prog 8 #[.agg #[.int .i64 h, .string n, .slice A l.length c, .int .i64 p], .agg #[.int .i64 h', .string n', .slice A' l'.length c', .int .i64 p']] w fun e w' => ∃ X d, e = .returned (.tuple #[.agg #[.int .i64 r1, .string r2, .slice X r3.length d, .int .i64 r4], .bool r5]) ∧ CS w' X d r3 ∧ Below w.heap.size w w' := by
  refine (G.wild_Union.calls k h n A c l p h' n' A' c' l' p' r1 r2 r3 r4 r5 w ka.1 ka.2 kb.1 kb.2 hf).mono ?_
  rintro e w' ⟨v, rfl, hv, hb⟩
  obtain ⟨X, d, rfl, hc⟩ := CS.ofV hv
  exact ⟨X, d, rfl, hc, hb⟩
theorem rboth_c (k : Nat) (h : Int) (n : ByteArray) (A : Option Addr) (c : Nat) (l : List ByteArray) (p : Int) (h' : Int) (n' : ByteArray) (A' : Option Addr) (c' : Nat) (l' : List ByteArray) (p' : Int) (r1 : Int) (r2 : ByteArray) (r3 : List ByteArray) (r4 : Int) (r5 : Bool) (w : World) (ka : CS w A c l) (kb : CS w A' c' l')
    (hf : Pr.rubricref14_Both.f k h n l p h' n' l' p' = some (r1, r2, r3, r4, r5)) :
    Calls Try.prog 16 #[.agg #[.int .i64 h, .string n, .slice A l.length c, .int .i64 p], .agg #[.int .i64 h', .string n', .slice A' l'.length c', .int .i64 p']] w fun e w' => ∃ X d, e = .returned (.tuple #[.agg #[.int .i64 r1, .string r2, .slice X r3.length d, .int .i64 r4], .bool r5]) ∧ CS w' X d r3 ∧ Below w.heap.size w w' := by
  refine (Pr.rubricref14_Both.calls k h n (fun _ => True) A c l p h' n' (fun _ => True) A' c' l' p' r1 r2 r3 r4 r5 w ka.toV kb.toV hf).mono ?_
  rintro e w' ⟨v, rfl, hv, hb⟩
  obtain ⟨X, d, rfl, hc⟩ := CS.ofV hv
  exact ⟨X, d, rfl, hc, hb⟩
theorem rboth_n (k : Nat) (h : Int) (n : ByteArray) (A : Option Addr) (c : Nat) (l : List ByteArray) (p : Int) (h' : Int) (n' : ByteArray) (A' : Option Addr) (c' : Nat) (l' : List ByteArray) (p' : Int) (r1 : Int) (r2 : ByteArray) (r3 : List ByteArray) (r4 : Int) (r5 : Bool) (w : World) (g : Nat) (ka : CN w g A c l) (kb : CN w g A' c' l') (hg : g < w.heap.size)
    (hf : Pr.rubricref14_Both.f k h n l p h' n' l' p' = some (r1, r2, r3, r4, r5)) :
    Calls Try.prog 16 #[.agg #[.int .i64 h, .string n, .slice A l.length c, .int .i64 p], .agg #[.int .i64 h', .string n', .slice A' l'.length c', .int .i64 p']] w fun e w' => ∃ X d, e = .returned (.tuple #[.agg #[.int .i64 r1, .string r2, .slice X r3.length d, .int .i64 r4], .bool r5]) ∧ CN w' g X d r3 ∧ Below w.heap.size w w' := by
  refine (Pr.rubricref14_Both.calls k h n (fun k => k ≠ g) A c l p h' n' (fun k => k ≠ g) A' c' l' p' r1 r2 r3 r4 r5 w ka kb hf).mono ?_
  rintro e w' ⟨v, rfl, hv, hb⟩
  obtain ⟨X, d, rfl⟩ := Kd.V_slice hv
  exact ⟨X, d, rfl, Kd.V_mono hv (fun k hk => hk.elim (fun hk => hk.elim id id) (fun hk => by omega)), hb⟩
theorem runion_c (k : Nat) (h : Int) (n : ByteArray) (A : Option Addr) (c : Nat) (l : List ByteArray) (p : Int) (h' : Int) (n' : ByteArray) (A' : Option Addr) (c' : Nat) (l' : List ByteArray) (p' : Int) (r1 : Int) (r2 : ByteArray) (r3 : List ByteArray) (r4 : Int) (r5 : Bool) (w : World) (ka : CS w A c l) (kb : CS w A' c' l')
    (hf : Pr.rubricref14_Union.f k h n l p h' n' l' p' = some (r1, r2, r3, r4, r5)) :
    Calls Try.prog 17 #[.agg #[.int .i64 h, .string n, .slice A l.length c, .int .i64 p], .agg #[.int .i64 h', .string n', .slice A' l'.length c', .int .i64 p']] w fun e w' => ∃ X d, e = .returned (.tuple #[.agg #[.int .i64 r1, .string r2, .slice X r3.length d, .int .i64 r4], .bool r5]) ∧ CS w' X d r3 ∧ Below w.heap.size w w' := by
  refine (Pr.rubricref14_Union.calls k h n (fun _ => True) A c l p h' n' (fun _ => True) A' c' l' p' r1 r2 r3 r4 r5 w ka.toV kb.toV hf).mono ?_
  rintro e w' ⟨v, rfl, hv, hb⟩
  obtain ⟨X, d, rfl, hc⟩ := CS.ofV hv
  exact ⟨X, d, rfl, hc, hb⟩
theorem runion_n (k : Nat) (h : Int) (n : ByteArray) (A : Option Addr) (c : Nat) (l : List ByteArray) (p : Int) (h' : Int) (n' : ByteArray) (A' : Option Addr) (c' : Nat) (l' : List ByteArray) (p' : Int) (r1 : Int) (r2 : ByteArray) (r3 : List ByteArray) (r4 : Int) (r5 : Bool) (w : World) (g : Nat) (ka : CN w g A c l) (kb : CN w g A' c' l') (hg : g < w.heap.size)
    (hf : Pr.rubricref14_Union.f k h n l p h' n' l' p' = some (r1, r2, r3, r4, r5)) :
    Calls Try.prog 17 #[.agg #[.int .i64 h, .string n, .slice A l.length c, .int .i64 p], .agg #[.int .i64 h', .string n', .slice A' l'.length c', .int .i64 p']] w fun e w' => ∃ X d, e = .returned (.tuple #[.agg #[.int .i64 r1, .string r2, .slice X r3.length d, .int .i64 r4], .bool r5]) ∧ CN w' g X d r3 ∧ Below w.heap.size w w' := by
  refine (Pr.rubricref14_Union.calls k h n (fun k => k ≠ g) A c l p h' n' (fun k => k ≠ g) A' c' l' p' r1 r2 r3 r4 r5 w ka kb hf).mono ?_
  rintro e w' ⟨v, rfl, hv, hb⟩
  obtain ⟨X, d, rfl⟩ := Kd.V_slice hv
  exact ⟨X, d, rfl, Kd.V_mono hv (fun k hk => hk.elim (fun hk => hk.elim id id) (fun hk => by omega)), hb⟩
theorem right_c (k : Nat) (h : Int) (n : ByteArray) (A : Option Addr) (c : Nat) (l : List ByteArray) (p : Int) (r : Bool) (w : World) (ka : CS w A c l) (hf : Pr.wild_Right.f k h n l p = some r) :
    Calls Try.prog 11 #[.agg #[.int .i64 h, .string n, .slice A l.length c, .int .i64 p]] w fun e w' => e = .returned (.bool r) ∧ Below w.heap.size w w' :=
  Pr.wild_Right.calls k h n A c l p r w ka.1 ka.2 hf
theorem rright_c (k : Nat) (h : Int) (n : ByteArray) (A : Option Addr) (c : Nat) (l : List ByteArray) (p : Int) (r : Bool) (w : World) (ka : CS w A c l) (hf : Pr.rubricref14_Right.f k h n l p = some r) :
    Calls Try.prog 14 #[.agg #[.int .i64 h, .string n, .slice A l.length c, .int .i64 p]] w fun e w' => e = .returned (.bool r) ∧ Below w.heap.size w w' :=
  Pr.rubricref14_Right.calls k h n A c l p r w ka.1 ka.2 hf
theorem few_c (k : Nat) (h : Int) (n : ByteArray) (A : Option Addr) (c : Nat) (l : List ByteArray) (p : Int) (r : Bool) (w : World) (ka : CS w A c l) (hf : Pr.rubriclaw14_Few.f k h n l p = some r) :
    Calls Try.prog 10 #[.agg #[.int .i64 h, .string n, .slice A l.length c, .int .i64 p]] w fun e w' => e = .returned (.bool r) ∧ Below w.heap.size w w' :=
  Pr.rubriclaw14_Few.calls k h n A c l p r w ka.1 ka.2 hf
theorem allows_c (k : Nat) (h : Int) (n : ByteArray) (A : Option Addr) (c : Nat) (l : List ByteArray) (p : Int) (s : ByteArray) (r : Bool) (w : World) (ka : CS w A c l) (hf : Pr.wild_Allows.f k h n l p s = some r) :
    Calls Try.prog 9 #[.agg #[.int .i64 h, .string n, .slice A l.length c, .int .i64 p], .string s] w fun e w' => e = .returned (.bool r) ∧ Below w.heap.size w w' :=
  Pr.wild_Allows.calls k h n A c l p s r w ka.1 ka.2 hf
theorem rallows_c (k : Nat) (h : Int) (n : ByteArray) (A : Option Addr) (c : Nat) (l : List ByteArray) (p : Int) (s : ByteArray) (r : Bool) (w : World) (ka : CS w A c l) (hf : Pr.rubricref14_Allows.f k h n l p s = some r) :
    Calls Try.prog 18 #[.agg #[.int .i64 h, .string n, .slice A l.length c, .int .i64 p], .string s] w fun e w' => e = .returned (.bool r) ∧ Below w.heap.size w w' :=
  Pr.rubricref14_Allows.calls k h n A c l p s r w ka.1 ka.2 hf
theorem sub_c (k : Nat) (h : Int) (n : ByteArray) (A : Option Addr) (c : Nat) (l : List ByteArray) (p : Int) (h' : Int) (n' : ByteArray) (A' : Option Addr) (c' : Nat) (l' : List ByteArray) (p' : Int) (r : Bool) (w : World) (ka : CS w A c l) (kb : CS w A' c' l') (hf : G.wild_Sub.f k h n l p h' n' l' p' = some r) :
    Calls Try.prog 13 #[.agg #[.int .i64 h, .string n, .slice A l.length c, .int .i64 p], .agg #[.int .i64 h', .string n', .slice A' l'.length c', .int .i64 p']] w fun e w' => e = .returned (.bool r) ∧ Below w.heap.size w w' :=
  G.wild_Sub.calls k h n A c l p h' n' A' c' l' p' r w ka.1 ka.2 kb.1 kb.2 hf
theorem rsub_c (k : Nat) (h : Int) (n : ByteArray) (A : Option Addr) (c : Nat) (l : List ByteArray) (p : Int) (h' : Int) (n' : ByteArray) (A' : Option Addr) (c' : Nat) (l' : List ByteArray) (p' : Int) (r : Bool) (w : World) (ka : CS w A c l) (kb : CS w A' c' l') (hf : Pr.rubricref14_Sub.f k h n l p h' n' l' p' = some r) :
    Calls Try.prog 19 #[.agg #[.int .i64 h, .string n, .slice A l.length c, .int .i64 p], .agg #[.int .i64 h', .string n', .slice A' l'.length c', .int .i64 p']] w fun e w' => e = .returned (.bool r) ∧ Below w.heap.size w w' :=
  Pr.rubricref14_Sub.calls k h n A c l p h' n' A' c' l' p' r w ka.1 ka.2 kb.1 kb.2 hf
theorem same_c (k : Nat) (h : Int) (n : ByteArray) (A : Option Addr) (c : Nat) (l : List ByteArray) (p : Int) (h' : Int) (n' : ByteArray) (A' : Option Addr) (c' : Nat) (l' : List ByteArray) (p' : Int) (r : Bool) (w : World) (ka : CS w A c l) (kb : CS w A' c' l') (hf : Pr.wild_Same.f k h n l p h' n' l' p' = some r) :
    Calls Try.prog 20 #[.agg #[.int .i64 h, .string n, .slice A l.length c, .int .i64 p], .agg #[.int .i64 h', .string n', .slice A' l'.length c', .int .i64 p']] w fun e w' => e = .returned (.bool r) ∧ Below w.heap.size w w' :=
  Pr.wild_Same.calls k h n A c l p h' n' A' c' l' p' r w ka.1 ka.2 kb.1 kb.2 hf
theorem rsame_c (k : Nat) (h : Int) (n : ByteArray) (A : Option Addr) (c : Nat) (l : List ByteArray) (p : Int) (h' : Int) (n' : ByteArray) (A' : Option Addr) (c' : Nat) (l' : List ByteArray) (p' : Int) (r : Bool) (w : World) (ka : CS w A c l) (kb : CS w A' c' l') (hf : Pr.rubricref14_Same.f k h n l p h' n' l' p' = some r) :
    Calls Try.prog 21 #[.agg #[.int .i64 h, .string n, .slice A l.length c, .int .i64 p], .agg #[.int .i64 h', .string n', .slice A' l'.length c', .int .i64 p']] w fun e w' => e = .returned (.bool r) ∧ Below w.heap.size w w' :=
  Pr.rubricref14_Same.calls k h n A c l p h' n' A' c' l' p' r w ka.1 ka.2 kb.1 kb.2 hf

end Go.Proofs.Ytfpedicgeepikaa.G
