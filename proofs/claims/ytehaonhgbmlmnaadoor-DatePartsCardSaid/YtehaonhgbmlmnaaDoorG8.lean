import Derived.Test.YtehaonhgbmlmnaaDoorProg
import Derived.Below
import Derived.Deep.Draws
import Derived.Deep.AppendLies
import Derived.Maps.AppendAt
import Derived.OwnWalk
import Derived.Laws.BytesArg
import Derived.Laws.MakeOwn
import Derived.Laws.OwnMore
import Derived.Deep.OwnRows
import Derived.Tactics
import Derived.Lib.ConvBytes
import Derived.Laws.Slices
import Derived.WalkKit
import Derived.KernelRfl
import Derived.RowKit3
import Derived.Deep.LoopGhost
import Derived.Deep.QuietTactic
import Derived.BigQuiet
import Derived.WideLaws
import Derived.Deep.DeepCutAuto
import Derived.Deep.CutBlock
import Derived.Deep.RegionHeld3
import Derived.Laws.Rows
import Derived.Lib.AppendStr
import Derived.ArgAppend
import Derived.Laws.IdiomCopy
import Derived.OrdersHeld
import Derived.Laws.BitsLemmas
import Derived.RowKit
import Derived.Test.YtehaonhgbmlmnaaDoorS2
import Derived.Test.YtehaonhgbmlmnaaDoorWWords
import Derived.Test.YtehaonhgbmlmnaaDoorWLast
import Derived.Test.YtehaonhgbmlmnaaDoorWTab
import Derived.Test.YtehaonhgbmlmnaaDoorWQPut
import Derived.Test.YtehaonhgbmlmnaaDoorWApart
import Derived.Test.YtehaonhgbmlmnaaDoorWArr
import Derived.Test.YtehaonhgbmlmnaaDoorWZeros
import Derived.Test.YtehaonhgbmlmnaaDoorWFoot
import Derived.Test.YtehaonhgbmlmnaaDoorWKept
import Derived.Test.YtehaonhgbmlmnaaDoorWShare
import Derived.Test.YtehaonhgbmlmnaaDoorWN
import Derived.Test.YtehaonhgbmlmnaaDoorWRepsOne
import Derived.Test.YtehaonhgbmlmnaaDoorWGuard
import Derived.Test.YtehaonhgbmlmnaaDoorWNEv
import Derived.Test.YtehaonhgbmlmnaaDoorWMore
import Derived.Test.YtehaonhgbmlmnaaDoorWEqStruct
import Derived.Test.YtehaonhgbmlmnaaDoorWInv
import Derived.Test.YtehaonhgbmlmnaaDoorWInvWords
import Derived.Test.YtehaonhgbmlmnaaDoorG5
import Derived.Test.YtehaonhgbmlmnaaDoorPrx0
import Derived.Test.YtehaonhgbmlmnaaDoorPrx2
import Derived.Test.YtehaonhgbmlmnaaDoorPrx9
import Derived.Test.YtehaonhgbmlmnaaDoorPrx16
import Derived.Outline
import Derived.Lib.Hide

namespace Go.Proofs.YtehaonhgbmlmnaaDoor.G
open Go.RowKit Go.Proofs.YtehaonhgbmlmnaaDoorW.PrintWords Go.Proofs.YtehaonhgbmlmnaaDoorW.PrintLast Go.Proofs.YtehaonhgbmlmnaaDoorW.PrintMore
attribute [local go_sem] max2_int min2_int max_two min_two max_three min_three max_four min_four
set_option linter.unusedVariables false
set_option linter.unusedSimpArgs false

/-! ### DateParts: the walk -/
attribute [local go_sem high] Pr.eqA34
def Ok9 (a : Int) : Prop := 0 ≤ a ∧ a ≤ 999999999
def PR (a0 a1 a2 a3 a4 a5 : Int) (gl : Nat) (w : World) (i : Value) (wr : World) : Prop :=
  ∃ j : Nat, i = .int .i64 j ∧ j ≤ 6 ∧ (∀ q, q < j → Ok9 ([a0, a1, a2, a3, a4, a5].getD q 0)) ∧ wr.heap[gl]? = some (.cells #[.int .i64 a0, .int .i64 a1, .int .i64 a2, .int .i64 a3, .int .i64 a4, .int .i64 a5] 3 (0, 0)) ∧ Below w.heap.size w wr
theorem pnew (W : World) (o : Obj) : (W.alloc o).heap[W.heap.size]? = some o := by simpa using heap_alloc_new W o
theorem pr_next {a0 a1 a2 a3 a4 a5 : Int} {gl : Nat} {w wr : World} (j : Nat) (hF : wr.heap[gl]? = some (.cells #[.int .i64 a0, .int .i64 a1, .int .i64 a2, .int .i64 a3, .int .i64 a4, .int .i64 a5] 3 (0, 0))) (hB : Below w.heap.size w wr)
    (hq : ∀ q, q < j → Ok9 ([a0, a1, a2, a3, a4, a5].getD q 0)) (hj : j < 6) (h : Ok9 ([a0, a1, a2, a3, a4, a5].getD j 0)) : PR a0 a1 a2 a3 a4 a5 gl w (.int .i64 ((j : Int) + 1)) wr :=
  ⟨j + 1, by go_num, hj, fun q hq' => by
    by_cases e : q = j
    · subst e; exact h
    · exact hq q (by omega), hF, hB⟩
set_option maxRecDepth 100000 in
set_option maxHeartbeats 4000000 in
theorem parts_walk (k : Nat) (a0 a1 a2 a3 a4 a5 : Int) (neg : Bool) (t0 t1 t2 t3 t4 t5 : ByteArray) (w : World)
    (hk : Pr.rubriclaw6_known.f k = some true)
    (hb : Ok9 a0 → Ok9 a1 → Ok9 a2 → Ok9 a3 → Ok9 a4 → Ok9 a5 → Pr.rubriclaw6_number.f k a0 = some t0 ∧ Pr.rubriclaw6_number.f k a1 = some t1 ∧ Pr.rubriclaw6_number.f k a2 = some t2 ∧ Pr.rubriclaw6_number.f k a3 = some t3 ∧ Pr.rubriclaw6_number.f k a4 = some t4 ∧ Pr.rubriclaw6_number.f k a5 = some t5 ∧
      (t0.size ≤ 9 ∧ t1.size ≤ 9 ∧ t2.size ≤ 9 ∧ t3.size ≤ 9 ∧ t4.size ≤ 9 ∧ t5.size ≤ 9) ∧
      date_ParseSpan.f k (if neg = true then (⟨#[45]⟩ : ByteArray) ++ (((((((((((((⟨#[80]⟩ : ByteArray) ++ t0) ++ (⟨#[89]⟩ : ByteArray)) ++ t1) ++ (⟨#[77]⟩ : ByteArray)) ++ t2) ++ (⟨#[68, 84]⟩ : ByteArray)) ++ t3) ++ (⟨#[72]⟩ : ByteArray)) ++ t4) ++ (⟨#[77]⟩ : ByteArray)) ++ t5) ++ (⟨#[46, 53, 83]⟩ : ByteArray)) else (((((((((((((⟨#[80]⟩ : ByteArray) ++ t0) ++ (⟨#[89]⟩ : ByteArray)) ++ t1) ++ (⟨#[77]⟩ : ByteArray)) ++ t2) ++ (⟨#[68, 84]⟩ : ByteArray)) ++ t3) ++ (⟨#[72]⟩ : ByteArray)) ++ t4) ++ (⟨#[77]⟩ : ByteArray)) ++ t5) ++ (⟨#[46, 53, 83]⟩ : ByteArray))) =
        some (if neg = true then 0 - (12 * a0 + a1) else 12 * a0 + a1, if neg = true then 0 - (86400 * a2 + 3600 * a3 + 60 * a4 + a5) else 86400 * a2 + 3600 * a3 + 60 * a4 + a5, if neg = true then 0 - 500000000 else 500000000, 0)) :
    Calls Tryd.prog 6 #[.int .i64 a0, .int .i64 a1, .int .i64 a2, .int .i64 a3, .int .i64 a4, .int .i64 a5, .bool neg] w fun e w' => e = .returned (.bool true) ∧ Below w.heap.size w w' := by
  have HK := Lib.hid hk; have HBD := Lib.hid hb
  clear hk hb
  have hu34 := Tryd.underlying34
  go_enter Tryd.func6, Tryd.ntmps6
  go_wp2_with (fail)
  refine (Pr.rubriclaw6_known.calls k true w HK.out rfl).mono ?_
  rintro e w1 ⟨rfl, hb1⟩
  have HB1 := Lib.hid hb1; clear hb1
  go_wp2_with (fail)
  have HF := Lib.hid (pnew w1 (.cells #[.int .i64 a0, .int .i64 a1, .int .i64 a2, .int .i64 a3, .int .i64 a4, .int .i64 a5] 3))
  have HB2 := Lib.hid (below_alloc HB1.out (.cells #[.int .i64 a0, .int .i64 a1, .int .i64 a2, .int .i64 a3, .int .i64 a4, .int .i64 a5] 3))
  generalize w1.alloc (.cells #[.int .i64 a0, .int .i64 a1, .int .i64 a2, .int .i64 a3, .int .i64 a4, .int .i64 a5] 3) = w2 at HF HB2 ⊢
  generalize w1.heap.size = gl at HF ⊢
  go_loopw [16] (fun i wr => PR a0 a1 a2 a3 a4 a5 gl w i wr) (fun i _ => 6 - (intOf i).toNat)
  case atStart => exact ⟨0, rfl, by omega, fun q hq => absurd hq (Nat.not_lt_zero q), HF.out, HB2.out⟩
  case round =>
    clear HF HB2 HB1
    obtain ⟨j, rfl, hj, hq, hF, hB⟩ := hrel
    have HF := Lib.hid hF; have HB := Lib.hid hB; have HQ := Lib.hid hq; clear hF hB hq
    have hj6 : j = 0 ∨ j = 1 ∨ j = 2 ∨ j = 3 ∨ j = 4 ∨ j = 5 ∨ j = 6 := by omega
    clear hj
    rcases hj6 with rfl | rfl | rfl | rfl | rfl | rfl | rfl
    · have hc : wr.cell? ⟨gl, 0, none⟩ = some (.int .i64 a0) := (blk_cell HF.out 0).trans rfl
      by_cases h1 : a0 < 0
      · go_wp2
        go_ret
        exact ⟨by first | rfl | (simp; done), HB.out⟩
      · by_cases h2 : 999999999 < a0
        · go_wp2
          go_ret
          exact ⟨by first | rfl | (simp; done), HB.out⟩
        · go_wp2
          go_roundw
          case rel => exact pr_next 0 HF.out HB.out HQ.out (by omega) ⟨by show 0 ≤ a0; omega, by show a0 ≤ 999999999; omega⟩
          case measure => simp [intOf]
    · have hc : wr.cell? ⟨gl, 1, none⟩ = some (.int .i64 a1) := (blk_cell HF.out 1).trans rfl
      by_cases h1 : a1 < 0
      · go_wp2
        go_ret
        exact ⟨by first | rfl | (simp; done), HB.out⟩
      · by_cases h2 : 999999999 < a1
        · go_wp2
          go_ret
          exact ⟨by first | rfl | (simp; done), HB.out⟩
        · go_wp2
          go_roundw
          case rel => exact pr_next 1 HF.out HB.out HQ.out (by omega) ⟨by show 0 ≤ a1; omega, by show a1 ≤ 999999999; omega⟩
          case measure => simp [intOf]
    · have hc : wr.cell? ⟨gl, 2, none⟩ = some (.int .i64 a2) := (blk_cell HF.out 2).trans rfl
      by_cases h1 : a2 < 0
      · go_wp2
        go_ret
        exact ⟨by first | rfl | (simp; done), HB.out⟩
      · by_cases h2 : 999999999 < a2
        · go_wp2
          go_ret
          exact ⟨by first | rfl | (simp; done), HB.out⟩
        · go_wp2
          go_roundw
          case rel => exact pr_next 2 HF.out HB.out HQ.out (by omega) ⟨by show 0 ≤ a2; omega, by show a2 ≤ 999999999; omega⟩
          case measure => simp [intOf]
    · have hc : wr.cell? ⟨gl, 3, none⟩ = some (.int .i64 a3) := (blk_cell HF.out 3).trans rfl
      by_cases h1 : a3 < 0
      · go_wp2
        go_ret
        exact ⟨by first | rfl | (simp; done), HB.out⟩
      · by_cases h2 : 999999999 < a3
        · go_wp2
          go_ret
          exact ⟨by first | rfl | (simp; done), HB.out⟩
        · go_wp2
          go_roundw
          case rel => exact pr_next 3 HF.out HB.out HQ.out (by omega) ⟨by show 0 ≤ a3; omega, by show a3 ≤ 999999999; omega⟩
          case measure => simp [intOf]
    · have hc : wr.cell? ⟨gl, 4, none⟩ = some (.int .i64 a4) := (blk_cell HF.out 4).trans rfl
      by_cases h1 : a4 < 0
      · go_wp2
        go_ret
        exact ⟨by first | rfl | (simp; done), HB.out⟩
      · by_cases h2 : 999999999 < a4
        · go_wp2
          go_ret
          exact ⟨by first | rfl | (simp; done), HB.out⟩
        · go_wp2
          go_roundw
          case rel => exact pr_next 4 HF.out HB.out HQ.out (by omega) ⟨by show 0 ≤ a4; omega, by show a4 ≤ 999999999; omega⟩
          case measure => simp [intOf]
    · have hc : wr.cell? ⟨gl, 5, none⟩ = some (.int .i64 a5) := (blk_cell HF.out 5).trans rfl
      by_cases h1 : a5 < 0
      · go_wp2
        go_ret
        exact ⟨by first | rfl | (simp; done), HB.out⟩
      · by_cases h2 : 999999999 < a5
        · go_wp2
          go_ret
          exact ⟨by first | rfl | (simp; done), HB.out⟩
        · go_wp2
          go_roundw
          case rel => exact pr_next 5 HF.out HB.out HQ.out (by omega) ⟨by show 0 ≤ a5; omega, by show a5 ≤ 999999999; omega⟩
          case measure => simp [intOf]
    · obtain ⟨n0, n1, n2, n3, n4, n5, ⟨z0, z1, z2, z3, z4, z5⟩, hps⟩ := HBD.out (HQ.out 0 (by omega)) (HQ.out 1 (by omega)) (HQ.out 2 (by omega)) (HQ.out 3 (by omega)) (HQ.out 4 (by omega)) (HQ.out 5 (by omega))
      have b0 : Ok9 a0 := HQ.out 0 (by omega)
      have b1 : Ok9 a1 := HQ.out 1 (by omega)
      have b2 : Ok9 a2 := HQ.out 2 (by omega)
      have b3 : Ok9 a3 := HQ.out 3 (by omega)
      have b4 : Ok9 a4 := HQ.out 4 (by omega)
      have b5 : Ok9 a5 := HQ.out 5 (by omega)
      obtain ⟨u0, v0⟩ := b0; obtain ⟨u1, v1⟩ := b1; obtain ⟨u2, v2⟩ := b2; obtain ⟨u3, v3⟩ := b3; obtain ⟨u4, v4⟩ := b4; obtain ⟨u5, v5⟩ := b5
      have N0 := Lib.hid n0; have N1 := Lib.hid n1; have N2 := Lib.hid n2; have N3 := Lib.hid n3; have N4 := Lib.hid n4; have N5 := Lib.hid n5; have HPS := Lib.hid hps
      clear n0 n1 n2 n3 n4 n5 hps HQ HBD HF
      go_wp2_with (fail)
      refine (Pr.rubriclaw6_number.calls k a0 t0 _ N0.out).mono ?_
      rintro e w3 ⟨rfl, hb⟩
      have HB3 := Lib.hid (below_step HB.out hb); clear hb
      go_wp2_with (fail)
      refine (Pr.rubriclaw6_number.calls k a1 t1 _ N1.out).mono ?_
      rintro e w4 ⟨rfl, hb⟩
      have HB4 := Lib.hid (below_step HB3.out hb); clear hb
      go_wp2_with (fail)
      refine (Pr.rubriclaw6_number.calls k a2 t2 _ N2.out).mono ?_
      rintro e w5 ⟨rfl, hb⟩
      have HB5 := Lib.hid (below_step HB4.out hb); clear hb
      go_wp2_with (fail)
      refine (Pr.rubriclaw6_number.calls k a3 t3 _ N3.out).mono ?_
      rintro e w6 ⟨rfl, hb⟩
      have HB6 := Lib.hid (below_step HB5.out hb); clear hb
      go_wp2_with (fail)
      refine (Pr.rubriclaw6_number.calls k a4 t4 _ N4.out).mono ?_
      rintro e w7 ⟨rfl, hb⟩
      have HB7 := Lib.hid (below_step HB6.out hb); clear hb
      go_wp2_with (fail)
      refine (Pr.rubriclaw6_number.calls k a5 t5 _ N5.out).mono ?_
      rintro e w8 ⟨rfl, hb⟩
      have HB8 := Lib.hid (below_step HB7.out hb); clear hb
      cases neg with
      | true =>
        have hps := HPS.out
        simp only [if_true] at hps
        have HP1 := Lib.hid hps; clear hps HPS
        go_wp2_with (fail)
        refine (date_ParseSpan.calls k _ (0 - (12 * a0 + a1)) (0 - (86400 * a2 + 3600 * a3 + 60 * a4 + a5)) (0 - 500000000) 0 _ HP1.out).mono ?_
        rintro e w9 ⟨rfl, hb⟩
        have HB9 := Lib.hid (below_step HB8.out hb); clear hb
        go_wp2
        go_ret
        exact ⟨by first | rfl | (simp; done), below_alloc (below_alloc HB9.out _) _⟩
      | false =>
        have hps := HPS.out
        simp only [Bool.false_eq_true, if_false] at hps
        have HP1 := Lib.hid hps; clear hps HPS
        go_wp2_with (fail)
        refine (date_ParseSpan.calls k _ (12 * a0 + a1) (86400 * a2 + 3600 * a3 + 60 * a4 + a5) 500000000 0 _ HP1.out).mono ?_
        rintro e w9 ⟨rfl, hb⟩
        have HB9 := Lib.hid (below_step HB8.out hb); clear hb
        go_wp2
        go_ret
        exact ⟨by first | rfl | (simp; done), below_alloc (below_alloc HB9.out _) _⟩

end Go.Proofs.YtehaonhgbmlmnaaDoor.G
