import Derived.Test.YtehaonhgbmlmnaaDoorProg
import Derived.Below
import Derived.Deep.Draws
import Derived.Deep.AppendLies
import Derived.Maps.AppendAt
import Derived.OwnWalk
import Derived.Laws.BytesArg
import Derived.Laws.MakeOwn
import Derived.Laws.OwnMore
import Derived.Deep.OwnRows
import Derived.Tactics
import Derived.Lib.ConvBytes
import Derived.Laws.Slices
import Derived.WalkKit
import Derived.KernelRfl
import Derived.RowKit3
import Derived.Deep.LoopGhost
import Derived.Deep.QuietTactic
import Derived.BigQuiet
import Derived.WideLaws
import Derived.Deep.DeepCutAuto
import Derived.Deep.CutBlock
import Derived.Deep.RegionHeld3
import Derived.Laws.Rows
import Derived.Lib.AppendStr
import Derived.ArgAppend
import Derived.Laws.IdiomCopy
import Derived.OrdersHeld
import Derived.Laws.BitsLemmas
import Derived.RowKit
import Derived.Test.YtehaonhgbmlmnaaDoorS2
import Derived.Test.YtehaonhgbmlmnaaDoorWWords
import Derived.Test.YtehaonhgbmlmnaaDoorWLast
import Derived.Test.YtehaonhgbmlmnaaDoorWTab
import Derived.Test.YtehaonhgbmlmnaaDoorWQPut
import Derived.Test.YtehaonhgbmlmnaaDoorWApart
import Derived.Test.YtehaonhgbmlmnaaDoorWArr
import Derived.Test.YtehaonhgbmlmnaaDoorWZeros
import Derived.Test.YtehaonhgbmlmnaaDoorWFoot
import Derived.Test.YtehaonhgbmlmnaaDoorWKept
import Derived.Test.YtehaonhgbmlmnaaDoorWShare
import Derived.Test.YtehaonhgbmlmnaaDoorWN
import Derived.Test.YtehaonhgbmlmnaaDoorWRepsOne
import Derived.Test.YtehaonhgbmlmnaaDoorWGuard
import Derived.Test.YtehaonhgbmlmnaaDoorWNEv
import Derived.Test.YtehaonhgbmlmnaaDoorWMore
import Derived.Test.YtehaonhgbmlmnaaDoorWEqStruct
import Derived.Test.YtehaonhgbmlmnaaDoorWInv
import Derived.Test.YtehaonhgbmlmnaaDoorWInvWords
import Derived.Test.YtehaonhgbmlmnaaDoorG3
import Derived.Test.YtehaonhgbmlmnaaDoorPrx1
import Derived.Test.YtehaonhgbmlmnaaDoorPrx4
import Derived.Test.YtehaonhgbmlmnaaDoorPrx5
import Derived.Test.YtehaonhgbmlmnaaDoorPrx9
import Derived.Test.YtehaonhgbmlmnaaDoorPrx13
import Derived.Outline

namespace Go.Proofs.YtehaonhgbmlmnaaDoor.G
open Go.RowKit Go.Proofs.YtehaonhgbmlmnaaDoorW.PrintWords Go.Proofs.YtehaonhgbmlmnaaDoorW.PrintLast Go.Proofs.YtehaonhgbmlmnaaDoorW.PrintMore
attribute [local go_sem] max2_int min2_int max_two min_two max_three min_three max_four min_four
set_option linter.unusedVariables false
set_option linter.unusedSimpArgs false

/-! ### DateZones: the walk -/
theorem c8 {w : World} {g t : Nat} {a b c d e f h i : Value} (H : w.heap[g]? = some (.cells #[a, b, c, d, e, f, h, i] t (0, 0))) :
    w.cell? ⟨g, 0, none⟩ = some a ∧ w.cell? ⟨g, 1, none⟩ = some b ∧ w.cell? ⟨g, 2, none⟩ = some c ∧ w.cell? ⟨g, 3, none⟩ = some d ∧ w.cell? ⟨g, 4, none⟩ = some e ∧ w.cell? ⟨g, 5, none⟩ = some f ∧ w.cell? ⟨g, 6, none⟩ = some h ∧ w.cell? ⟨g, 7, none⟩ = some i :=
  ⟨(blk_cell H 0).trans rfl, (blk_cell H 1).trans rfl, (blk_cell H 2).trans rfl, (blk_cell H 3).trans rfl, (blk_cell H 4).trans rfl, (blk_cell H 5).trans rfl, (blk_cell H 6).trans rfl, (blk_cell H 7).trans rfl⟩
theorem new_blk (W : World) (o : Obj) : (W.alloc o).heap[W.heap.size]? = some o := by simpa using heap_alloc_new W o
attribute [local go_sem high] Pr.eqA24
set_option maxRecDepth 100000 in
set_option maxHeartbeats 4000000 in
theorem zones_main (k : Nat) (a0 a1 a2 a3 a4 : Int) (n0 n1 n2 n3 n4 n5 : Int) (n6 : Bool) (n7 : Int) (l0 l1 l2 l3 l4 l5 : Int) (l6 : Bool) (l7 : Int) (tx : ByteArray) (w : World)
    (y1 : 1000 ≤ a0) (y2 : a0 ≤ 9000) (m1 : 1 ≤ a1) (m2 : a1 ≤ 12) (d1 : 1 ≤ a2) (d2 : a2 ≤ 28) (s1 : 0 ≤ a3) (s2 : a3 ≤ 86399) (z1 : -840 ≤ a4) (z2 : a4 ≤ 840)
    (hk : Pr.rubriclaw6_known.f k = some true)
    (h1 : Pr.date_Add.f k 1 a0 a1 a2 a3 0 true 0 0 (60 * a4) 0 = some (n0, n1, n2, n3, n4, n5, n6, n7))
    (h2 : Pr.date_Add.f k n0 n1 n2 n3 n4 n5 n6 a4 0 0 1 = some (l0, l1, l2, l3, l4, l5, l6, l7))
    (h3 : Pr.rubriclaw6_text.f k 1 a0 a1 a2 a3 0 true 0 = some tx)
    (h4 : date_Parse.f k 1 tx = some (1, a0, a1, a2, a3, 0, true, 0, 0))
    (h5 : Pr.date_Cmp.f k 1 a0 a1 a2 a3 0 true 0 n0 n1 n2 n3 n4 n5 n6 a4 = some 0)
    (h6 : Pr.date_Cmp.f k 1 a0 a1 a2 a3 0 true 0 n0 n1 n2 n3 n4 n5 false 0 = some 2)
    (h7 : Pr.date_Cmp.f k n0 n1 n2 n3 n4 n5 n6 a4 l0 l1 l2 l3 l4 l5 l6 l7 = some (-1))
    (h8 : Pr.date_Cmp.f k 1 a0 a1 a2 a3 0 true 0 1 a0 a1 a2 a3 0 true 0 = some 0) :
    Calls Tryd.prog 4 #[.int .i64 a0, .int .i64 a1, .int .i64 a2, .int .i64 a3, .int .i64 a4] w fun e w' => e = .returned (.bool true) ∧ Below w.heap.size w w' := by
  have HK := Lib.hid hk; have H1 := Lib.hid h1; have H2 := Lib.hid h2; have H3 := Lib.hid h3; have H4 := Lib.hid h4; have H5 := Lib.hid h5; have H6 := Lib.hid h6; have H7 := Lib.hid h7; have H8 := Lib.hid h8
  clear hk h1 h2 h3 h4 h5 h6 h7 h8
  have hu24 := Tryd.underlying24
  go_enter Tryd.func4, Tryd.ntmps4
  go_wp2_with (fail)
  refine (Pr.rubriclaw6_known.calls k true w HK.out rfl).mono ?_
  rintro e w1 ⟨rfl, hb1⟩
  have HB1 := Lib.hid hb1; clear hb1
  go_wp2_with (fail)
  refine (Pr.date_Add.calls k 1 a0 a1 a2 a3 0 true 0 0 (60 * a4) 0 n0 n1 n2 n3 n4 n5 n6 n7 _ H1.out).mono ?_
  rintro e w2 ⟨rfl, hb2⟩
  have bm := blk_below (new_blk w1 (.cells #[.int .i64 1, .int .i64 a0, .int .i64 a1, .int .i64 a2, .int .i64 a3, .int .i64 0, .bool true, .int .i64 0] 24)) hb2
  have HB2 := Lib.hid (below_step (below_alloc HB1.out (.cells #[.int .i64 1, .int .i64 a0, .int .i64 a1, .int .i64 a2, .int .i64 a3, .int .i64 0, .bool true, .int .i64 0] 24)) hb2)
  clear hb2
  generalize w1.heap.size = gm at bm ⊢
  obtain ⟨p0, p1, p2, p3, p4, p5, p6, p7⟩ := c8 bm
  have lm := blk_lt bm
  have nm : gm ≠ w2.heap.size := by omega
  have BM := Lib.hid bm; clear bm
  go_wp2_with (fail)
  refine (Pr.date_Add.calls k n0 n1 n2 n3 n4 n5 n6 a4 0 0 1 l0 l1 l2 l3 l4 l5 l6 l7 _ H2.out).mono ?_
  rintro e w3 ⟨rfl, hb3⟩
  have bm := blk_below (blk_alloc (blk_alloc BM.out (.cells #[.int .i64 n0, .int .i64 n1, .int .i64 n2, .int .i64 n3, .int .i64 n4, .int .i64 n5, .bool n6, .int .i64 a4] 24)) (.cells #[.int .i64 n0, .int .i64 n1, .int .i64 n2, .int .i64 n3, .int .i64 n4, .int .i64 n5, .bool false, .int .i64 0] 24)) hb3
  have bn := blk_below (blk_alloc (new_blk w2 (.cells #[.int .i64 n0, .int .i64 n1, .int .i64 n2, .int .i64 n3, .int .i64 n4, .int .i64 n5, .bool n6, .int .i64 a4] 24)) (.cells #[.int .i64 n0, .int .i64 n1, .int .i64 n2, .int .i64 n3, .int .i64 n4, .int .i64 n5, .bool false, .int .i64 0] 24)) hb3
  have bo := blk_below (new_blk (w2.alloc (.cells #[.int .i64 n0, .int .i64 n1, .int .i64 n2, .int .i64 n3, .int .i64 n4, .int .i64 n5, .bool n6, .int .i64 a4] 24)) (.cells #[.int .i64 n0, .int .i64 n1, .int .i64 n2, .int .i64 n3, .int .i64 n4, .int .i64 n5, .bool false, .int .i64 0] 24)) hb3
  have HB3 := Lib.hid (below_step (below_alloc (below_alloc HB2.out (.cells #[.int .i64 n0, .int .i64 n1, .int .i64 n2, .int .i64 n3, .int .i64 n4, .int .i64 n5, .bool n6, .int .i64 a4] 24)) (.cells #[.int .i64 n0, .int .i64 n1, .int .i64 n2, .int .i64 n3, .int .i64 n4, .int .i64 n5, .bool false, .int .i64 0] 24)) hb3)
  clear hb3 p0 p1 p2 p3 p4 p5 p6 p7
  rw [show (w2.alloc (.cells #[.int .i64 n0, .int .i64 n1, .int .i64 n2, .int .i64 n3, .int .i64 n4, .int .i64 n5, .bool n6, .int .i64 a4] 24)).heap.size = w2.heap.size + 1 from by simp] at bo
  generalize w2.heap.size + 1 = go at bo ⊢
  generalize w2.heap.size = gn at bn nm ⊢
  obtain ⟨p0, p1, p2, p3, p4, p5, p6, p7⟩ := c8 bm
  have lm := blk_lt bm
  have ln := blk_lt bn
  have lo := blk_lt bo
  have em : gm ≠ w3.heap.size := by omega
  have en : gn ≠ w3.heap.size := by omega
  have eo : go ≠ w3.heap.size := by omega
  have BM := Lib.hid bm; have BN := Lib.hid bn; have BO := Lib.hid bo; clear bm bn bo
  go_wp2_with (fail)
  refine (Pr.rubriclaw6_text.calls k 1 a0 a1 a2 a3 0 true 0 tx _ H3.out).mono ?_
  rintro e w4 ⟨rfl, hb4⟩
  have bm := blk_below (blk_alloc BM.out (.cells #[.int .i64 l0, .int .i64 l1, .int .i64 l2, .int .i64 l3, .int .i64 l4, .int .i64 l5, .bool l6, .int .i64 l7] 24)) hb4
  have bn := blk_below (blk_alloc BN.out (.cells #[.int .i64 l0, .int .i64 l1, .int .i64 l2, .int .i64 l3, .int .i64 l4, .int .i64 l5, .bool l6, .int .i64 l7] 24)) hb4
  have bo := blk_below (blk_alloc BO.out (.cells #[.int .i64 l0, .int .i64 l1, .int .i64 l2, .int .i64 l3, .int .i64 l4, .int .i64 l5, .bool l6, .int .i64 l7] 24)) hb4
  have bl := blk_below (new_blk w3 (.cells #[.int .i64 l0, .int .i64 l1, .int .i64 l2, .int .i64 l3, .int .i64 l4, .int .i64 l5, .bool l6, .int .i64 l7] 24)) hb4
  have HB4 := Lib.hid (below_step (below_alloc HB3.out (.cells #[.int .i64 l0, .int .i64 l1, .int .i64 l2, .int .i64 l3, .int .i64 l4, .int .i64 l5, .bool l6, .int .i64 l7] 24)) hb4)
  clear hb4 p0 p1 p2 p3 p4 p5 p6 p7 lm ln lo em en eo nm
  generalize w3.heap.size = gl at bl ⊢
  have BM := Lib.hid bm; have BN := Lib.hid bn; have BO := Lib.hid bo; have BL := Lib.hid bl; clear bm bn bo bl
  go_wp2_with (fail)
  refine (date_Parse.calls k 1 tx 1 a0 a1 a2 a3 0 true 0 0 _ H4.out).mono ?_
  rintro e w5 ⟨rfl, hb5⟩
  have bm := blk_below BM.out hb5
  have bn := blk_below BN.out hb5
  have bo := blk_below BO.out hb5
  have bl := blk_below BL.out hb5
  have HB5 := Lib.hid (below_step HB4.out hb5)
  clear hb5
  obtain ⟨p0, p1, p2, p3, p4, p5, p6, p7⟩ := c8 bm
  obtain ⟨q0, q1, q2, q3, q4, q5, q6, q7⟩ := c8 bn
  have lm := blk_lt bm
  have ln := blk_lt bn
  have em : gm ≠ w5.heap.size := by omega
  have en : gn ≠ w5.heap.size := by omega
  have BM := Lib.hid bm; have BN := Lib.hid bn; have BO := Lib.hid bo; have BL := Lib.hid bl; clear bm bn bo bl
  go_wp2_with (fail)
  refine (Pr.date_Cmp.calls k 1 a0 a1 a2 a3 0 true 0 n0 n1 n2 n3 n4 n5 n6 a4 0 _ H5.out).mono ?_
  rintro e w6 ⟨rfl, hb6⟩
  have bm := blk_below (blk_alloc BM.out (.cells #[.int .i64 1, .int .i64 a0, .int .i64 a1, .int .i64 a2, .int .i64 a3, .int .i64 0, .bool true, .int .i64 0] 24)) hb6
  have bn := blk_below (blk_alloc BN.out (.cells #[.int .i64 1, .int .i64 a0, .int .i64 a1, .int .i64 a2, .int .i64 a3, .int .i64 0, .bool true, .int .i64 0] 24)) hb6
  have bo := blk_below (blk_alloc BO.out (.cells #[.int .i64 1, .int .i64 a0, .int .i64 a1, .int .i64 a2, .int .i64 a3, .int .i64 0, .bool true, .int .i64 0] 24)) hb6
  have bl := blk_below (blk_alloc BL.out (.cells #[.int .i64 1, .int .i64 a0, .int .i64 a1, .int .i64 a2, .int .i64 a3, .int .i64 0, .bool true, .int .i64 0] 24)) hb6
  have bx := blk_below (new_blk w5 (.cells #[.int .i64 1, .int .i64 a0, .int .i64 a1, .int .i64 a2, .int .i64 a3, .int .i64 0, .bool true, .int .i64 0] 24)) hb6
  have HB6 := Lib.hid (below_step (below_alloc HB5.out (.cells #[.int .i64 1, .int .i64 a0, .int .i64 a1, .int .i64 a2, .int .i64 a3, .int .i64 0, .bool true, .int .i64 0] 24)) hb6)
  clear hb6 p0 p1 p2 p3 p4 p5 p6 p7 q0 q1 q2 q3 q4 q5 q6 q7 lm ln em en
  generalize w5.heap.size = gx at bx ⊢
  obtain ⟨p0, p1, p2, p3, p4, p5, p6, p7⟩ := c8 bm
  obtain ⟨q0, q1, q2, q3, q4, q5, q6, q7⟩ := c8 bo
  have BM := Lib.hid bm; have BN := Lib.hid bn; have BO := Lib.hid bo; have BL := Lib.hid bl; have BX := Lib.hid bx; clear bm bn bo bl bx
  go_wp2_with (fail)
  refine (Pr.date_Cmp.calls k 1 a0 a1 a2 a3 0 true 0 n0 n1 n2 n3 n4 n5 false 0 2 _ H6.out).mono ?_
  rintro e w7 ⟨rfl, hb7⟩
  have bm := blk_below BM.out hb7
  have bn := blk_below BN.out hb7
  have bl := blk_below BL.out hb7
  have bx := blk_below BX.out hb7
  have HB7 := Lib.hid (below_step HB6.out hb7)
  clear hb7 p0 p1 p2 p3 p4 p5 p6 p7 q0 q1 q2 q3 q4 q5 q6 q7
  obtain ⟨p0, p1, p2, p3, p4, p5, p6, p7⟩ := c8 bn
  obtain ⟨q0, q1, q2, q3, q4, q5, q6, q7⟩ := c8 bl
  have BM := Lib.hid bm; have BX := Lib.hid bx; clear bm bn bl bx BN BO BL
  go_wp2_with (fail)
  refine (Pr.date_Cmp.calls k n0 n1 n2 n3 n4 n5 n6 a4 l0 l1 l2 l3 l4 l5 l6 l7 (-1) _ H7.out).mono ?_
  rintro e w8 ⟨rfl, hb8⟩
  have bm := blk_below BM.out hb8
  have bx := blk_below BX.out hb8
  have HB8 := Lib.hid (below_step HB7.out hb8)
  clear hb8 p0 p1 p2 p3 p4 p5 p6 p7 q0 q1 q2 q3 q4 q5 q6 q7
  obtain ⟨p0, p1, p2, p3, p4, p5, p6, p7⟩ := c8 bm
  obtain ⟨q0, q1, q2, q3, q4, q5, q6, q7⟩ := c8 bx
  have BM := Lib.hid bm; have BX := Lib.hid bx; clear bm bx
  go_wp2_with (fail)
  refine (Pr.date_Cmp.calls k 1 a0 a1 a2 a3 0 true 0 1 a0 a1 a2 a3 0 true 0 0 _ H8.out).mono ?_
  rintro e w9 ⟨rfl, hb9⟩
  have bm := blk_below BM.out hb9
  have bx := blk_below BX.out hb9
  have HB9 := Lib.hid (below_step HB8.out hb9)
  clear hb9 p0 p1 p2 p3 p4 p5 p6 p7 q0 q1 q2 q3 q4 q5 q6 q7
  obtain ⟨p0, p1, p2, p3, p4, p5, p6, p7⟩ := c8 bm
  obtain ⟨q0, q1, q2, q3, q4, q5, q6, q7⟩ := c8 bx
  clear bm bx
  go_wp2
  go_ret
  exact ⟨by first | rfl | (simp; done), HB9.out⟩

end Go.Proofs.YtehaonhgbmlmnaaDoor.G
