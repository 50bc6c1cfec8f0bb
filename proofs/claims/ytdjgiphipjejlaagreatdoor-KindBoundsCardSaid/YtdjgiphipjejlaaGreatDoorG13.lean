import Derived.Test.YtdjgiphipjejlaaGreatDoorProg
import Derived.Below
import Derived.Deep.Draws
import Derived.Deep.AppendLies
import Derived.Maps.AppendAt
import Derived.OwnWalk
import Derived.Laws.BytesArg
import Derived.Laws.MakeOwn
import Derived.Laws.OwnMore
import Derived.Deep.OwnRows
import Derived.Tactics
import Derived.Lib.ConvBytes
import Derived.Laws.Slices
import Derived.WalkKit
import Derived.KernelRfl
import Derived.RowKit3
import Derived.Deep.LoopGhost
import Derived.Deep.QuietTactic
import Derived.BigQuiet
import Derived.WideLaws
import Derived.Deep.DeepCutAuto
import Derived.Deep.CutBlock
import Derived.Deep.RegionHeld3
import Derived.Laws.Rows
import Derived.Lib.AppendStr
import Derived.ArgAppend
import Derived.Laws.IdiomCopy
import Derived.OrdersHeld
import Derived.Laws.BitsLemmas
import Derived.RowKit
import Derived.Test.YtdjgiphipjejlaaGreatDoorWWords
import Derived.Test.YtdjgiphipjejlaaGreatDoorWLast
import Derived.Test.YtdjgiphipjejlaaGreatDoorWTab
import Derived.Test.YtdjgiphipjejlaaGreatDoorWQPut
import Derived.Test.YtdjgiphipjejlaaGreatDoorWApart
import Derived.Test.YtdjgiphipjejlaaGreatDoorWArr
import Derived.Test.YtdjgiphipjejlaaGreatDoorWZeros
import Derived.Test.YtdjgiphipjejlaaGreatDoorWFoot
import Derived.Test.YtdjgiphipjejlaaGreatDoorWKept
import Derived.Test.YtdjgiphipjejlaaGreatDoorWShare
import Derived.Test.YtdjgiphipjejlaaGreatDoorWN
import Derived.Test.YtdjgiphipjejlaaGreatDoorWRepsOne
import Derived.Test.YtdjgiphipjejlaaGreatDoorWGuard
import Derived.Test.YtdjgiphipjejlaaGreatDoorWNEv
import Derived.Test.YtdjgiphipjejlaaGreatDoorWMore
import Derived.Test.YtdjgiphipjejlaaGreatDoorG12
import Derived.Test.YtdjgiphipjejlaaGreatDoorPrx4
import Derived.Laws.CopyOwn

namespace Go.Proofs.YtdjgiphipjejlaaGreatDoor.G
open Go.RowKit Go.Proofs.YtdjgiphipjejlaaGreatDoorW.PrintWords Go.Proofs.YtdjgiphipjejlaaGreatDoorW.PrintLast Go.Proofs.YtdjgiphipjejlaaGreatDoorW.PrintMore
attribute [local go_sem] max2_int min2_int max_two min_two max_three min_three max_four min_four
set_option linter.unusedVariables false
set_option linter.unusedSimpArgs false

/-! ### kind.Parse at the whole numbers' kinds -/
def valV (p : Int) (b : Bool) (v : Value) (s : Int) : Array Value := #[.int .i64 p, .string (⟨#[]⟩ : ByteArray), .bool b, v, .int .i64 s, .int .i64 0, .int .i64 0, .int .i64 0, .int .i64 0, .int .i64 0, .int .i64 0, .bool false, .int .i64 0, .int .i64 0, .int .i64 0, .int .i64 0]
def zeroV : Array Value := valV 0 false (.slice none 0 0) 0
theorem zero41 : (Tryz.prog.info? 41).map (fun i => (i.zero, i.size)) = some (some (.agg zeroV), 16) := by kernel_rfl
theorem size41 : (Tryz.prog.info? 41).map (·.size) = some 16 := (zero_of_info zero41).2
theorem one_val (p : Int) (b : Bool) (A : Option Addr) (n c : Nat) (s : Int) : (valV p b (.slice A n c) s).all (·.oneCell') = true := by kernel_rfl
theorem white_num (k : Int) (h : 11 ≤ k ∧ k ≤ 23) : Pr.kind_White.f k = some 3 := by
  unfold Pr.kind_White.f Pr.kind_is.f
  rw [if_pos (show k ≥ 1 by omega), decide_eq_true (show k ≤ 32 by omega)]
  simp only [Option.bind_some, if_true]
  rw [if_neg (by omega), if_neg (by omega)]
set_option maxRecDepth 100000 in
set_option maxHeartbeats 8000000 in
theorem parse_ok (q : Nat) (k : Int) (hk : 11 ≤ k ∧ k ≤ 23) (s x : ByteArray) (hw : Pr.char_Words.f q s = some [x]) (hp : Pr.kind_Prim.f q k = some 10) (d0 : Bool) (d1 : List Int) (d2 : Int) (hn : Pr.kind_number.f q k x = some (d0, d1, d2, true)) (w : World) :
    Calls Tryz.prog 19 #[.int .i64 k, .string s] w fun e w' => ∃ v, e = .returned (.tuple #[.agg (valV 10 d0 v d2), .int .i64 0]) ∧ Kd.V (Kd.int .u8) 5 w' w.heap.size (fun _ => True) v d1 ∧ Below w.heap.size w w' := by
  have HW := Lib.hid hw; have HP := Lib.hid hp; have HN := Lib.hid hn; have HK := Lib.hid hk
  have HWT := Lib.hid (white_num k hk)
  have k4a : (k == 4) = false := beq_eq_false_iff_ne.2 (by omega)
  have k4b : decide (k = 4) = false := decide_eq_false (by omega)
  have k5a : (k == 5) = false := beq_eq_false_iff_ne.2 (by omega)
  have k5b : decide (k = 5) = false := decide_eq_false (by omega)
  have k6a : (k == 6) = false := beq_eq_false_iff_ne.2 (by omega)
  have k6b : decide (k = 6) = false := decide_eq_false (by omega)
  have k7a : (k == 7) = false := beq_eq_false_iff_ne.2 (by omega)
  have k7b : decide (k = 7) = false := decide_eq_false (by omega)
  have k8a : (k == 8) = false := beq_eq_false_iff_ne.2 (by omega)
  have k8b : decide (k = 8) = false := decide_eq_false (by omega)
  have k1a : (k == 1) = false := beq_eq_false_iff_ne.2 (by omega)
  have k1b : decide (k = 1) = false := decide_eq_false (by omega)
  have k2a : (k == 2) = false := beq_eq_false_iff_ne.2 (by omega)
  have k2b : decide (k = 2) = false := decide_eq_false (by omega)
  have k3a : (k == 3) = false := beq_eq_false_iff_ne.2 (by omega)
  have k3b : decide (k = 3) = false := decide_eq_false (by omega)
  have k9a : (k == 9) = false := beq_eq_false_iff_ne.2 (by omega)
  have k9b : decide (k = 9) = false := decide_eq_false (by omega)
  have k32a : (k == 32) = false := beq_eq_false_iff_ne.2 (by omega)
  have k32b : decide (k = 32) = false := decide_eq_false (by omega)
  have k23 : decide (k ≤ 23) = true := decide_eq_true hk.2
  clear hw hp hn hk
  go_enter Tryz.func19, Tryz.ntmps19
  go_wp2_with (first | ((with_reducible refine gate_dst (N := 4) rfl ?_); (try (refine gate_guard (by rfl) ?_; dsimp only)); refine box_event ?hg (N := 4) ?hd (cs := zeroV) (t := 41) ?hr ?_; (case hd => rfl); (case hg => rfl); (case hr => first | (go_simp; done) | (go_simp; rfl)); intro g4 hg wA hbox hb; have HG4 := Lib.hid hg; have HX4 := Lib.hid hbox; have HB4 := Lib.hid hb; clear hg hbox hb))
  refine (is_yes k (by have := HK.out; omega) (by have := HK.out; omega) _).mono ?_
  rintro e w1 ⟨rfl, rfl⟩
  go_wp2_with (fail)
  refine (Pr.kind_White.calls k 3 _ HWT.out).mono ?_
  rintro e w2 ⟨rfl, hd⟩
  obtain ⟨nd, rfl⟩ := hd.out
  clear hd
  replace HX4 := Lib.hid (blk_below HX4.out (pw_below_drewN (Below.refl _ w1) nd))
  replace HB4 := Lib.hid (pw_below_drewN HB4.out nd)
  generalize w1.drewN nd = w2 at HX4 HB4 ⊢
  go_wp2_with (fail)
  refine (space_one q s x _ HW.out).mono ?_
  rintro e w3 ⟨rfl, hb⟩
  replace HX4 := Lib.hid (blk_below HX4.out hb)
  replace HB4 := Lib.hid (below_step HB4.out hb); clear hb
  go_wp2_with (fail)
  refine (Pr.kind_Prim.calls q k 10 _ HP.out).mono ?_
  rintro e w4 ⟨rfl, hb⟩
  replace HX4 := Lib.hid (blk_below HX4.out hb)
  replace HB4 := Lib.hid (below_step HB4.out hb); clear hb
  go_wp2_with (first | ((with_reducible refine gate_dst (N := 22) rfl ?_); refine build_to rfl 41 _ rfl (valV 10 false (.slice none 0 0) 0) (by rfl) ?_) | ((with_reducible refine gate_dst (N := 6) rfl ?_); (try (refine gate_guard (by rfl) ?_; dsimp only)); refine box_event ?hg (N := 6) ?hd (cs := zeroV) (t := 41) ?hr ?_; (case hd => rfl); (case hg => rfl); (case hr => first | (go_simp; done) | (go_simp; rfl)); intro g6 hg wB hbox hb; have HG6 := Lib.hid hg; have HX6 := Lib.hid hbox; have HB6 := Lib.hid hb; clear hg hbox hb) | (refine wpList_store_row rfl 41 (.tmp 6) (.tmp 22) rfl g6 (valV 10 false (.slice none 0 0) 0) (by rfl) (by rfl) 41 zeroV HX6.out size41 rfl (one_val _ _ _ _ _ _) ?_))
  have hne : g4 ≠ g6 := by rw [HG6.out]; exact Nat.ne_of_lt (blk_lt HX4.out)
  have hg6 : w.heap.size ≤ g6 := by rw [HG6.out]; exact HB4.out.size
  have X6 := Lib.hid (setRow_heap _ _ _ (valV 10 false (.slice none 0 0) 0) _ _ HX6.out)
  have X4 := Lib.hid ((setRow_other wB g6 g4 (valV 10 false (.slice none 0 0) 0) hne).trans (blk_below HX4.out HB6.out))
  have XB := Lib.hid (below_setRow (below_step HB4.out HB6.out) hg6 (valV 10 false (.slice none 0 0) 0))
  have HNE := Lib.hid hne; have HGE := Lib.hid hg6
  clear hne hg6 HX6 HX4 HB4 HB6 HG6
  generalize wB.setRow g6 (valV 10 false (.slice none 0 0) 0) = w5 at X6 X4 XB ⊢
  refine (Pr.kind_number.calls q k x d0 d1 d2 true _ HN.out).mono ?_
  rintro e w6 ⟨v, rfl, hv, hb⟩
  obtain ⟨A, c, rfl⟩ := Kd.V_slice hv
  have hv2 := Kd.V_mono (ok' := fun j => j ≠ g4 ∧ j ≠ g6) hv (fun j hj => ⟨by have := blk_lt X4.out; omega, by have := blk_lt X6.out; omega⟩)
  have HV := Lib.hid hv2
  replace X6 := Lib.hid (blk_below X6.out hb)
  replace X4 := Lib.hid (blk_below X4.out hb)
  replace XB := Lib.hid (below_step XB.out hb)
  clear hv hv2 hb
  have z2 : w6.cell? ⟨g6, 2, none⟩ = some (.bool false) := (blk_cell X6.out 2).trans rfl; have z3 : w6.cell? ⟨g6, 3, none⟩ = some (.slice none 0 0) := (blk_cell X6.out 3).trans rfl; have z4 : w6.cell? ⟨g6, 4, none⟩ = some (.int .i64 0) := (blk_cell X6.out 4).trans rfl
  have f2 := blk_frozen X6.out 2; have f3 := blk_frozen X6.out 3; have f4 := blk_frozen X6.out 4
  go_wp2_with (first | (refine wpList_load_row rfl 41 (.tmp 6) rfl g6 (by rfl) 41 (valV 10 d0 (.slice A d1.length c) d2) (0, 0) _ (blk_put (blk_put (blk_put X6.out 2 _ rfl) 3 _ rfl) 4 _ rfl) Tryz.underlying41 rfl size41 ?_) | (refine wpList_store_row rfl 41 (.tmp 4) (.tmp 91) rfl g4 (valV 10 d0 (.slice A d1.length c) d2) (by rfl) (by rfl) 41 zeroV (blk_far (blk_far (blk_far X4.out HNE.out _) HNE.out _) HNE.out _) size41 rfl (one_val _ _ _ _ _ _) ?_))
  have hld := run_loadVar_row (P := Tryz.prog) ((((w6.setCell ⟨g6, 2, none⟩ (.bool d0)).setCell ⟨g6, 3, none⟩ (.slice A d1.length c)).setCell ⟨g6, 4, none⟩ (.int .i64 d2)).setRow g4 (valV 10 d0 (.slice A d1.length c) d2)) g4 41 41 (valV 10 d0 (.slice A d1.length c) d2) (0, 0) _ (setRow_heap _ _ _ _ _ _ (blk_far (blk_far (blk_far X4.out HNE.out _) HNE.out _) HNE.out _)) Tryz.underlying41 rfl size41
  refine bodyPost_ret (v := .tuple #[.agg (valV 10 d0 (.slice A d1.length c) d2), .int .i64 0]) ?_ rfl ⟨_, rfl, Kd.V_mono (Kd.V_step HV.out (fun j hj hl => ((setRow_other _ g4 j _ hj.1).trans (Below.heap_setCell _ ⟨g6, 4, none⟩ _ j hj.2)).trans ((Below.heap_setCell _ ⟨g6, 3, none⟩ _ j hj.2).trans (Below.heap_setCell _ ⟨g6, 2, none⟩ _ j hj.2)))) (fun _ _ => trivial), below_setRow (below_set (below_set (below_set XB.out HGE.out) HGE.out) HGE.out) (Nat.le_of_eq HG4.out.symm) _⟩
  rw [results_cell_tmp rfl]
  simp [asAddr, Result.andThen, hld]
set_option maxRecDepth 100000 in
set_option maxHeartbeats 8000000 in
theorem parse_bad (q : Nat) (k : Int) (hk : 11 ≤ k ∧ k ≤ 23) (s x : ByteArray) (hw : Pr.char_Words.f q s = some [x]) (hp : Pr.kind_Prim.f q k = some 10) (d0 : Bool) (d1 : List Int) (d2 : Int) (hn : Pr.kind_number.f q k x = some (d0, d1, d2, false)) (w : World) :
    Calls Tryz.prog 19 #[.int .i64 k, .string s] w fun e w' => e = .returned (.tuple #[.agg zeroV, .int .i64 2]) ∧ Below w.heap.size w w' := by
  have HW := Lib.hid hw; have HP := Lib.hid hp; have HN := Lib.hid hn; have HK := Lib.hid hk
  have HWT := Lib.hid (white_num k hk)
  have k4a : (k == 4) = false := beq_eq_false_iff_ne.2 (by omega)
  have k4b : decide (k = 4) = false := decide_eq_false (by omega)
  have k5a : (k == 5) = false := beq_eq_false_iff_ne.2 (by omega)
  have k5b : decide (k = 5) = false := decide_eq_false (by omega)
  have k6a : (k == 6) = false := beq_eq_false_iff_ne.2 (by omega)
  have k6b : decide (k = 6) = false := decide_eq_false (by omega)
  have k7a : (k == 7) = false := beq_eq_false_iff_ne.2 (by omega)
  have k7b : decide (k = 7) = false := decide_eq_false (by omega)
  have k8a : (k == 8) = false := beq_eq_false_iff_ne.2 (by omega)
  have k8b : decide (k = 8) = false := decide_eq_false (by omega)
  have k1a : (k == 1) = false := beq_eq_false_iff_ne.2 (by omega)
  have k1b : decide (k = 1) = false := decide_eq_false (by omega)
  have k2a : (k == 2) = false := beq_eq_false_iff_ne.2 (by omega)
  have k2b : decide (k = 2) = false := decide_eq_false (by omega)
  have k3a : (k == 3) = false := beq_eq_false_iff_ne.2 (by omega)
  have k3b : decide (k = 3) = false := decide_eq_false (by omega)
  have k9a : (k == 9) = false := beq_eq_false_iff_ne.2 (by omega)
  have k9b : decide (k = 9) = false := decide_eq_false (by omega)
  have k32a : (k == 32) = false := beq_eq_false_iff_ne.2 (by omega)
  have k32b : decide (k = 32) = false := decide_eq_false (by omega)
  have k23 : decide (k ≤ 23) = true := decide_eq_true hk.2
  clear hw hp hn hk
  go_enter Tryz.func19, Tryz.ntmps19
  go_wp2_with (first | ((with_reducible refine gate_dst (N := 4) rfl ?_); (try (refine gate_guard (by rfl) ?_; dsimp only)); refine box_event ?hg (N := 4) ?hd (cs := zeroV) (t := 41) ?hr ?_; (case hd => rfl); (case hg => rfl); (case hr => first | (go_simp; done) | (go_simp; rfl)); intro g4 hg wA hbox hb; have HG4 := Lib.hid hg; have HX4 := Lib.hid hbox; have HB4 := Lib.hid hb; clear hg hbox hb))
  refine (is_yes k (by have := HK.out; omega) (by have := HK.out; omega) _).mono ?_
  rintro e w1 ⟨rfl, rfl⟩
  go_wp2_with (fail)
  refine (Pr.kind_White.calls k 3 _ HWT.out).mono ?_
  rintro e w2 ⟨rfl, hd⟩
  obtain ⟨nd, rfl⟩ := hd.out
  clear hd
  replace HX4 := Lib.hid (blk_below HX4.out (pw_below_drewN (Below.refl _ w1) nd))
  replace HB4 := Lib.hid (pw_below_drewN HB4.out nd)
  generalize w1.drewN nd = w2 at HX4 HB4 ⊢
  go_wp2_with (fail)
  refine (space_one q s x _ HW.out).mono ?_
  rintro e w3 ⟨rfl, hb⟩
  replace HX4 := Lib.hid (blk_below HX4.out hb)
  replace HB4 := Lib.hid (below_step HB4.out hb); clear hb
  go_wp2_with (fail)
  refine (Pr.kind_Prim.calls q k 10 _ HP.out).mono ?_
  rintro e w4 ⟨rfl, hb⟩
  replace HX4 := Lib.hid (blk_below HX4.out hb)
  replace HB4 := Lib.hid (below_step HB4.out hb); clear hb
  go_wp2_with (first | ((with_reducible refine gate_dst (N := 22) rfl ?_); refine build_to rfl 41 _ rfl (valV 10 false (.slice none 0 0) 0) (by rfl) ?_) | ((with_reducible refine gate_dst (N := 6) rfl ?_); (try (refine gate_guard (by rfl) ?_; dsimp only)); refine box_event ?hg (N := 6) ?hd (cs := zeroV) (t := 41) ?hr ?_; (case hd => rfl); (case hg => rfl); (case hr => first | (go_simp; done) | (go_simp; rfl)); intro g6 hg wB hbox hb; have HG6 := Lib.hid hg; have HX6 := Lib.hid hbox; have HB6 := Lib.hid hb; clear hg hbox hb) | (refine wpList_store_row rfl 41 (.tmp 6) (.tmp 22) rfl g6 (valV 10 false (.slice none 0 0) 0) (by rfl) (by rfl) 41 zeroV HX6.out size41 rfl (one_val _ _ _ _ _ _) ?_))
  have hne : g4 ≠ g6 := by rw [HG6.out]; exact Nat.ne_of_lt (blk_lt HX4.out)
  have hg6 : w.heap.size ≤ g6 := by rw [HG6.out]; exact HB4.out.size
  have X6 := Lib.hid (setRow_heap _ _ _ (valV 10 false (.slice none 0 0) 0) _ _ HX6.out)
  have X4 := Lib.hid ((setRow_other wB g6 g4 (valV 10 false (.slice none 0 0) 0) hne).trans (blk_below HX4.out HB6.out))
  have XB := Lib.hid (below_setRow (below_step HB4.out HB6.out) hg6 (valV 10 false (.slice none 0 0) 0))
  have HNE := Lib.hid hne; have HGE := Lib.hid hg6
  clear hne hg6 HX6 HX4 HB4 HB6 HG6
  generalize wB.setRow g6 (valV 10 false (.slice none 0 0) 0) = w5 at X6 X4 XB ⊢
  refine (Pr.kind_number.calls q k x d0 d1 d2 false _ HN.out).mono ?_
  rintro e w6 ⟨v, rfl, hv, hb⟩
  obtain ⟨A, c, rfl⟩ := Kd.V_slice hv
  have hv2 := Kd.V_mono (ok' := fun j => j ≠ g4 ∧ j ≠ g6) hv (fun j hj => ⟨by have := blk_lt X4.out; omega, by have := blk_lt X6.out; omega⟩)
  have HV := Lib.hid hv2
  replace X6 := Lib.hid (blk_below X6.out hb)
  replace X4 := Lib.hid (blk_below X4.out hb)
  replace XB := Lib.hid (below_step XB.out hb)
  clear hv hv2 hb
  have z2 : w6.cell? ⟨g6, 2, none⟩ = some (.bool false) := (blk_cell X6.out 2).trans rfl; have z3 : w6.cell? ⟨g6, 3, none⟩ = some (.slice none 0 0) := (blk_cell X6.out 3).trans rfl; have z4 : w6.cell? ⟨g6, 4, none⟩ = some (.int .i64 0) := (blk_cell X6.out 4).trans rfl
  have f2 := blk_frozen X6.out 2; have f3 := blk_frozen X6.out 3; have f4 := blk_frozen X6.out 4
  go_wp2_with (first | ((with_reducible refine gate_dst (N := 90) rfl ?_); refine build_to rfl 41 _ rfl zeroV (by rfl) ?_) | (refine wpList_store_row rfl 41 (.tmp 4) (.tmp 90) rfl g4 zeroV (by rfl) (by rfl) 41 zeroV (blk_far (blk_far (blk_far X4.out HNE.out _) HNE.out _) HNE.out _) size41 rfl (one_val _ _ _ _ _ _) ?_))
  have hld := run_loadVar_row (P := Tryz.prog) ((((w6.setCell ⟨g6, 2, none⟩ (.bool d0)).setCell ⟨g6, 3, none⟩ (.slice A d1.length c)).setCell ⟨g6, 4, none⟩ (.int .i64 d2)).setRow g4 zeroV) g4 41 41 zeroV (0, 0) _ (setRow_heap _ _ _ _ _ _ (blk_far (blk_far (blk_far X4.out HNE.out _) HNE.out _) HNE.out _)) Tryz.underlying41 rfl size41
  refine bodyPost_ret (v := .tuple #[.agg zeroV, .int .i64 2]) ?_ rfl ⟨rfl, below_setRow (below_set (below_set (below_set XB.out HGE.out) HGE.out) HGE.out) (Nat.le_of_eq HG4.out.symm) _⟩
  rw [results_cell_tmp rfl]
  simp [asAddr, Result.andThen, hld]

end Go.Proofs.YtdjgiphipjejlaaGreatDoor.G
