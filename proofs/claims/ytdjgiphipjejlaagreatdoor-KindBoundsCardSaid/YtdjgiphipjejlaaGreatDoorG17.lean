import Derived.Test.YtdjgiphipjejlaaGreatDoorProg
import Derived.Below
import Derived.Deep.Draws
import Derived.Deep.AppendLies
import Derived.Maps.AppendAt
import Derived.OwnWalk
import Derived.Laws.BytesArg
import Derived.Laws.MakeOwn
import Derived.Laws.OwnMore
import Derived.Deep.OwnRows
import Derived.Tactics
import Derived.Lib.ConvBytes
import Derived.Laws.Slices
import Derived.WalkKit
import Derived.KernelRfl
import Derived.RowKit3
import Derived.Deep.LoopGhost
import Derived.Deep.QuietTactic
import Derived.BigQuiet
import Derived.WideLaws
import Derived.Deep.DeepCutAuto
import Derived.Deep.CutBlock
import Derived.Deep.RegionHeld3
import Derived.Laws.Rows
import Derived.Lib.AppendStr
import Derived.ArgAppend
import Derived.Laws.IdiomCopy
import Derived.OrdersHeld
import Derived.Laws.BitsLemmas
import Derived.RowKit
import Derived.Test.YtdjgiphipjejlaaGreatDoorWWords
import Derived.Test.YtdjgiphipjejlaaGreatDoorWLast
import Derived.Test.YtdjgiphipjejlaaGreatDoorWTab
import Derived.Test.YtdjgiphipjejlaaGreatDoorWQPut
import Derived.Test.YtdjgiphipjejlaaGreatDoorWApart
import Derived.Test.YtdjgiphipjejlaaGreatDoorWArr
import Derived.Test.YtdjgiphipjejlaaGreatDoorWZeros
import Derived.Test.YtdjgiphipjejlaaGreatDoorWFoot
import Derived.Test.YtdjgiphipjejlaaGreatDoorWKept
import Derived.Test.YtdjgiphipjejlaaGreatDoorWShare
import Derived.Test.YtdjgiphipjejlaaGreatDoorWN
import Derived.Test.YtdjgiphipjejlaaGreatDoorWRepsOne
import Derived.Test.YtdjgiphipjejlaaGreatDoorWGuard
import Derived.Test.YtdjgiphipjejlaaGreatDoorWNEv
import Derived.Test.YtdjgiphipjejlaaGreatDoorWMore
import Derived.Test.YtdjgiphipjejlaaGreatDoorG16
import Derived.Test.YtdjgiphipjejlaaGreatDoorG13
import Derived.Test.YtdjgiphipjejlaaGreatDoorPrx1
import Derived.Test.YtdjgiphipjejlaaGreatDoorPrx4
import Derived.Laws.CopyOwn

namespace Go.Proofs.YtdjgiphipjejlaaGreatDoor.G
open Go.RowKit Go.Proofs.YtdjgiphipjejlaaGreatDoorW.PrintWords Go.Proofs.YtdjgiphipjejlaaGreatDoorW.PrintLast Go.Proofs.YtdjgiphipjejlaaGreatDoorW.PrintMore
attribute [local go_sem] max2_int min2_int max_two min_two max_three min_three max_four min_four
set_option linter.unusedVariables false
set_option linter.unusedSimpArgs false

/-! ### kind.Parse as the print takes it: a whole number's kind, a text of one word -/
abbrev PR := Int × ByteArray × Bool × List Int × Int × Int × Int × Int × Int × Int × Int × Bool × Int × Int × Int × Int × Int
set_option maxRecDepth 100000 in
set_option maxHeartbeats 8000000 in
theorem parse_ok2 (q : Nat) (k : Int) (hk : 11 ≤ k ∧ k ≤ 23) (s x : ByteArray) (hw : Pr.char_Words.f q s = some [x]) (hp : Pr.kind_Prim.f q k = some 10) (d0 : Bool) (d1 : List Int) (d2 : Int) (hn : Pr.kind_number.f q k x = some (d0, d1, d2, true)) (w : World) :
    Calls Tryz.prog 19 #[.int .i64 k, .string s] w fun e w' => ∃ v, e = .returned (.tuple #[.agg (valV 10 d0 v d2), .int .i64 0]) ∧ Kd.V (Kd.int .u8) 5 w' w.heap.size (fun k_ => w.heap.size ≤ k_) v d1 ∧ Below w.heap.size w w' := by
  have HW := Lib.hid hw; have HP := Lib.hid hp; have HN := Lib.hid hn; have HK := Lib.hid hk
  have HWT := Lib.hid (white_num k hk)
  have k4a : (k == 4) = false := beq_eq_false_iff_ne.2 (by omega)
  have k4b : decide (k = 4) = false := decide_eq_false (by omega)
  have k5a : (k == 5) = false := beq_eq_false_iff_ne.2 (by omega)
  have k5b : decide (k = 5) = false := decide_eq_false (by omega)
  have k6a : (k == 6) = false := beq_eq_false_iff_ne.2 (by omega)
  have k6b : decide (k = 6) = false := decide_eq_false (by omega)
  have k7a : (k == 7) = false := beq_eq_false_iff_ne.2 (by omega)
  have k7b : decide (k = 7) = false := decide_eq_false (by omega)
  have k8a : (k == 8) = false := beq_eq_false_iff_ne.2 (by omega)
  have k8b : decide (k = 8) = false := decide_eq_false (by omega)
  have k1a : (k == 1) = false := beq_eq_false_iff_ne.2 (by omega)
  have k1b : decide (k = 1) = false := decide_eq_false (by omega)
  have k2a : (k == 2) = false := beq_eq_false_iff_ne.2 (by omega)
  have k2b : decide (k = 2) = false := decide_eq_false (by omega)
  have k3a : (k == 3) = false := beq_eq_false_iff_ne.2 (by omega)
  have k3b : decide (k = 3) = false := decide_eq_false (by omega)
  have k9a : (k == 9) = false := beq_eq_false_iff_ne.2 (by omega)
  have k9b : decide (k = 9) = false := decide_eq_false (by omega)
  have k32a : (k == 32) = false := beq_eq_false_iff_ne.2 (by omega)
  have k32b : decide (k = 32) = false := decide_eq_false (by omega)
  have k23 : decide (k ≤ 23) = true := decide_eq_true hk.2
  clear hw hp hn hk
  go_enter Tryz.func19, Tryz.ntmps19
  go_wp2_with (first | ((with_reducible refine gate_dst (N := 4) rfl ?_); (try (refine gate_guard (by rfl) ?_; dsimp only)); refine box_event ?hg (N := 4) ?hd (cs := zeroV) (t := 41) ?hr ?_; (case hd => rfl); (case hg => rfl); (case hr => first | (go_simp; done) | (go_simp; rfl)); intro g4 hg wA hbox hb; have HG4 := Lib.hid hg; have HX4 := Lib.hid hbox; have HB4 := Lib.hid hb; clear hg hbox hb))
  refine (is_yes k (by have := HK.out; omega) (by have := HK.out; omega) _).mono ?_
  rintro e w1 ⟨rfl, rfl⟩
  go_wp2_with (fail)
  refine (Pr.kind_White.calls k 3 _ HWT.out).mono ?_
  rintro e w2 ⟨rfl, hd⟩
  obtain ⟨nd, rfl⟩ := hd.out
  clear hd
  replace HX4 := Lib.hid (blk_below HX4.out (pw_below_drewN (Below.refl _ w1) nd))
  replace HB4 := Lib.hid (pw_below_drewN HB4.out nd)
  generalize w1.drewN nd = w2 at HX4 HB4 ⊢
  go_wp2_with (fail)
  refine (space_one q s x _ HW.out).mono ?_
  rintro e w3 ⟨rfl, hb⟩
  replace HX4 := Lib.hid (blk_below HX4.out hb)
  replace HB4 := Lib.hid (below_step HB4.out hb); clear hb
  go_wp2_with (fail)
  refine (Pr.kind_Prim.calls q k 10 _ HP.out).mono ?_
  rintro e w4 ⟨rfl, hb⟩
  replace HX4 := Lib.hid (blk_below HX4.out hb)
  replace HB4 := Lib.hid (below_step HB4.out hb); clear hb
  go_wp2_with (first | ((with_reducible refine gate_dst (N := 22) rfl ?_); refine build_to rfl 41 _ rfl (valV 10 false (.slice none 0 0) 0) (by rfl) ?_) | ((with_reducible refine gate_dst (N := 6) rfl ?_); (try (refine gate_guard (by rfl) ?_; dsimp only)); refine box_event ?hg (N := 6) ?hd (cs := zeroV) (t := 41) ?hr ?_; (case hd => rfl); (case hg => rfl); (case hr => first | (go_simp; done) | (go_simp; rfl)); intro g6 hg wB hbox hb; have HG6 := Lib.hid hg; have HX6 := Lib.hid hbox; have HB6 := Lib.hid hb; clear hg hbox hb) | (refine wpList_store_row rfl 41 (.tmp 6) (.tmp 22) rfl g6 (valV 10 false (.slice none 0 0) 0) (by rfl) (by rfl) 41 zeroV HX6.out size41 rfl (one_val _ _ _ _ _ _) ?_))
  have hne : g4 ≠ g6 := by rw [HG6.out]; exact Nat.ne_of_lt (blk_lt HX4.out)
  have hg6 : w.heap.size ≤ g6 := by rw [HG6.out]; exact HB4.out.size
  have X6 := Lib.hid (setRow_heap _ _ _ (valV 10 false (.slice none 0 0) 0) _ _ HX6.out)
  have X4 := Lib.hid ((setRow_other wB g6 g4 (valV 10 false (.slice none 0 0) 0) hne).trans (blk_below HX4.out HB6.out))
  have XB := Lib.hid (below_setRow (below_step HB4.out HB6.out) hg6 (valV 10 false (.slice none 0 0) 0))
  have HNE := Lib.hid hne; have HGE := Lib.hid hg6
  clear hne hg6 HX6 HX4 HB4 HB6 HG6
  generalize wB.setRow g6 (valV 10 false (.slice none 0 0) 0) = w5 at X6 X4 XB ⊢
  refine (Pr.kind_number.calls q k x d0 d1 d2 true _ HN.out).mono ?_
  rintro e w6 ⟨v, rfl, hv, hb⟩
  obtain ⟨A, c, rfl⟩ := Kd.V_slice hv
  have hv2 := Kd.V_mono (ok' := fun j => (j ≠ g4 ∧ j ≠ g6) ∧ w.heap.size ≤ j) hv (fun j hj => ⟨⟨by have := blk_lt X4.out; omega, by have := blk_lt X6.out; omega⟩, by have := XB.out.size; omega⟩)
  have HV := Lib.hid hv2
  replace X6 := Lib.hid (blk_below X6.out hb)
  replace X4 := Lib.hid (blk_below X4.out hb)
  replace XB := Lib.hid (below_step XB.out hb)
  clear hv hv2 hb
  have z2 : w6.cell? ⟨g6, 2, none⟩ = some (.bool false) := (blk_cell X6.out 2).trans rfl; have z3 : w6.cell? ⟨g6, 3, none⟩ = some (.slice none 0 0) := (blk_cell X6.out 3).trans rfl; have z4 : w6.cell? ⟨g6, 4, none⟩ = some (.int .i64 0) := (blk_cell X6.out 4).trans rfl
  have f2 := blk_frozen X6.out 2; have f3 := blk_frozen X6.out 3; have f4 := blk_frozen X6.out 4
  go_wp2_with (first | (refine wpList_load_row rfl 41 (.tmp 6) rfl g6 (by rfl) 41 (valV 10 d0 (.slice A d1.length c) d2) (0, 0) _ (blk_put (blk_put (blk_put X6.out 2 _ rfl) 3 _ rfl) 4 _ rfl) Tryz.underlying41 rfl size41 ?_) | (refine wpList_store_row rfl 41 (.tmp 4) (.tmp 91) rfl g4 (valV 10 d0 (.slice A d1.length c) d2) (by rfl) (by rfl) 41 zeroV (blk_far (blk_far (blk_far X4.out HNE.out _) HNE.out _) HNE.out _) size41 rfl (one_val _ _ _ _ _ _) ?_))
  have hld := run_loadVar_row (P := Tryz.prog) ((((w6.setCell ⟨g6, 2, none⟩ (.bool d0)).setCell ⟨g6, 3, none⟩ (.slice A d1.length c)).setCell ⟨g6, 4, none⟩ (.int .i64 d2)).setRow g4 (valV 10 d0 (.slice A d1.length c) d2)) g4 41 41 (valV 10 d0 (.slice A d1.length c) d2) (0, 0) _ (setRow_heap _ _ _ _ _ _ (blk_far (blk_far (blk_far X4.out HNE.out _) HNE.out _) HNE.out _)) Tryz.underlying41 rfl size41
  refine bodyPost_ret (v := .tuple #[.agg (valV 10 d0 (.slice A d1.length c) d2), .int .i64 0]) ?_ rfl ⟨_, rfl, Kd.V_mono (Kd.V_step HV.out (fun j hj hl => ((setRow_other _ g4 j _ hj.1.1).trans (Below.heap_setCell _ ⟨g6, 4, none⟩ _ j hj.1.2)).trans ((Below.heap_setCell _ ⟨g6, 3, none⟩ _ j hj.1.2).trans (Below.heap_setCell _ ⟨g6, 2, none⟩ _ j hj.1.2)))) (fun _ hj => hj.2), below_setRow (below_set (below_set (below_set XB.out HGE.out) HGE.out) HGE.out) (Nat.le_of_eq HG4.out.symm) _⟩
  rw [results_cell_tmp rfl]
  simp [asAddr, Result.andThen, hld]
def kind_Parse.f (q : Nat) (k : Int) (s : ByteArray) : Option PR :=
  if 11 ≤ k ∧ k ≤ 23 then (Pr.char_Words.f q s).bind fun ws => (match ws with
    | [x] => (Pr.kind_Prim.f q k).bind fun p => if p = 10 then (Pr.kind_number.f q k x).bind fun n => (if n.2.2.2 = true then some (10, ⟨#[]⟩, n.1, n.2.1, n.2.2.1, 0, 0, 0, 0, 0, 0, false, 0, 0, 0, 0, 0) else some (0, ⟨#[]⟩, false, [], 0, 0, 0, 0, 0, 0, 0, false, 0, 0, 0, 0, 2)) else none
    | _ => none) else none
theorem kind_Parse.mono : ∀ a0 a1 k, LeO (kind_Parse.f k a0 a1) (kind_Parse.f (k + 1) a0 a1) := by
  intro a0 a1 k r h
  unfold kind_Parse.f at h ⊢
  by_cases hk : 11 ≤ a0 ∧ a0 ≤ 23
  · rw [if_pos hk] at h ⊢
    obtain ⟨ws, h1, h2⟩ := Option.bind_eq_some_iff.1 h
    rw [Pr.char_Words.mono _ _ _ h1]
    simp only [Option.bind_some]
    match ws, h2 with
    | [x], h2 =>
      obtain ⟨p, h3, h4⟩ := Option.bind_eq_some_iff.1 h2
      simp only
      rw [Pr.kind_Prim.mono _ _ _ h3]
      simp only [Option.bind_some]
      by_cases hp : p = 10
      · rw [if_pos hp] at h4 ⊢
        obtain ⟨n, h5, h6⟩ := Option.bind_eq_some_iff.1 h4
        rw [Pr.kind_number.mono _ _ _ _ h5]
        exact h6
      · rw [if_neg hp] at h4; cases h4
    | [], h2 => cases h2
    | _ :: _ :: _, h2 => cases h2
  · rw [if_neg hk] at h; cases h
theorem kind_Parse.calls (k : Nat) (a0 : Int) (a1 : ByteArray) (r1 : Int) (r2 : ByteArray) (r3 : Bool) (r4 : List Int) (r5 : Int) (r6 : Int) (r7 : Int) (r8 : Int) (r9 : Int) (r10 : Int) (r11 : Int) (r12 : Bool) (r13 : Int) (r14 : Int) (r15 : Int) (r16 : Int) (r17 : Int) (w : World) (h : kind_Parse.f k a0 a1 = some (r1, r2, r3, r4, r5, r6, r7, r8, r9, r10, r11, r12, r13, r14, r15, r16, r17)) :
    Calls Tryz.prog 19 #[.int .i64 a0, .string a1] w fun e w' => ∃ v3_ : Value, e = .returned (.tuple #[.agg #[.int .i64 r1, .string r2, .bool r3, v3_, .int .i64 r5, .int .i64 r6, .int .i64 r7, .int .i64 r8, .int .i64 r9, .int .i64 r10, .int .i64 r11, .bool r12, .int .i64 r13, .int .i64 r14, .int .i64 r15, .int .i64 r16], .int .i64 r17]) ∧ Kd.V (Kd.int .u8) 5 w' w.heap.size (fun k_ => w.heap.size ≤ k_) v3_ r4 ∧ Below w.heap.size w w' := by
  unfold kind_Parse.f at h
  by_cases hk : 11 ≤ a0 ∧ a0 ≤ 23
  · rw [if_pos hk] at h
    obtain ⟨ws, h1, h2⟩ := Option.bind_eq_some_iff.1 h
    match ws, h1, h2 with
    | [x], h1, h2 =>
      obtain ⟨p, h3, h4⟩ := Option.bind_eq_some_iff.1 h2
      by_cases hp : p = 10
      · subst hp
        rw [if_pos rfl] at h4
        obtain ⟨⟨d0, d1, d2, ok⟩, h5, h6⟩ := Option.bind_eq_some_iff.1 h4
        simp only at h6
        cases ok with
        | true =>
          rw [if_pos rfl] at h6
          simp only [Option.some.injEq, Prod.mk.injEq] at h6
          obtain ⟨rfl, rfl, rfl, rfl, rfl, rfl, rfl, rfl, rfl, rfl, rfl, rfl, rfl, rfl, rfl, rfl, rfl⟩ := h6
          exact parse_ok2 k a0 hk a1 x h1 h3 d0 d1 d2 h5 w
        | false =>
          rw [if_neg (by decide)] at h6
          simp only [Option.some.injEq, Prod.mk.injEq] at h6
          obtain ⟨rfl, rfl, rfl, rfl, rfl, rfl, rfl, rfl, rfl, rfl, rfl, rfl, rfl, rfl, rfl, rfl, rfl⟩ := h6
          refine (parse_bad k a0 hk a1 x h1 h3 d0 d1 d2 h5 w).mono ?_
          rintro e w' ⟨rfl, hb⟩
          exact ⟨_, rfl, Kd.V_nil _ _ _ _ _, hb⟩
      · rw [if_neg hp] at h4; cases h4
    | [], h1, h2 => cases h2
    | _ :: _ :: _, h1, h2 => cases h2
  · rw [if_neg hk] at h; cases h

end Go.Proofs.YtdjgiphipjejlaaGreatDoor.G
