import Derived.Test.YtdjgiphipjejlaaGreatDoorProg
import Derived.Below
import Derived.Deep.Draws
import Derived.Deep.AppendLies
import Derived.Maps.AppendAt
import Derived.OwnWalk
import Derived.Laws.BytesArg
import Derived.Laws.MakeOwn
import Derived.Laws.OwnMore
import Derived.Deep.OwnRows
import Derived.Tactics
import Derived.Lib.ConvBytes
import Derived.Laws.Slices
import Derived.WalkKit
import Derived.KernelRfl
import Derived.RowKit3
import Derived.Deep.LoopGhost
import Derived.Deep.QuietTactic
import Derived.BigQuiet
import Derived.WideLaws
import Derived.Deep.DeepCutAuto
import Derived.Deep.CutBlock
import Derived.Deep.RegionHeld3
import Derived.Laws.Rows
import Derived.Lib.AppendStr
import Derived.ArgAppend
import Derived.Laws.IdiomCopy
import Derived.OrdersHeld
import Derived.Laws.BitsLemmas
import Derived.RowKit
import Derived.Test.YtdjgiphipjejlaaGreatDoorWWords
import Derived.Test.YtdjgiphipjejlaaGreatDoorWLast
import Derived.Test.YtdjgiphipjejlaaGreatDoorWTab
import Derived.Test.YtdjgiphipjejlaaGreatDoorWQPut
import Derived.Test.YtdjgiphipjejlaaGreatDoorWApart
import Derived.Test.YtdjgiphipjejlaaGreatDoorWArr
import Derived.Test.YtdjgiphipjejlaaGreatDoorWZeros
import Derived.Test.YtdjgiphipjejlaaGreatDoorWFoot
import Derived.Test.YtdjgiphipjejlaaGreatDoorWKept
import Derived.Test.YtdjgiphipjejlaaGreatDoorWShare
import Derived.Test.YtdjgiphipjejlaaGreatDoorWN
import Derived.Test.YtdjgiphipjejlaaGreatDoorWRepsOne
import Derived.Test.YtdjgiphipjejlaaGreatDoorWGuard
import Derived.Test.YtdjgiphipjejlaaGreatDoorWNEv
import Derived.Test.YtdjgiphipjejlaaGreatDoorWMore
import Derived.Test.YtdjgiphipjejlaaGreatDoorG15
import Derived.Test.YtdjgiphipjejlaaGreatDoorG14

namespace Go.Proofs.YtdjgiphipjejlaaGreatDoor.G
open Go.RowKit Go.Proofs.YtdjgiphipjejlaaGreatDoorW.PrintWords Go.Proofs.YtdjgiphipjejlaaGreatDoorW.PrintLast Go.Proofs.YtdjgiphipjejlaaGreatDoorW.PrintMore
attribute [local go_sem] max2_int min2_int max_two min_two max_three min_three max_four min_four
set_option linter.unusedVariables false
set_option linter.unusedSimpArgs false

/-! ### known -/
def known.f (k : Nat) : Option Bool := some true
theorem known.mono : ∀ k, LeO (known.f k) (known.f (k + 1)) := fun _ => LeO.refl _
set_option maxRecDepth 100000 in
set_option maxHeartbeats 8000000 in
theorem known.calls (k : Nat) (r : Bool) (w : World) (h : known.f k = some r) : Calls Tryz.prog 5 #[] w fun e w' => e = .returned (.bool r) ∧ Below w.heap.size w w' := by
  obtain rfl := Option.some.inj h
  clear h
  obtain ⟨⟨d0, d1, d2, ok⟩, he, hok⟩ := Option.map_eq_some_iff.1 q_num2
  simp only at hok
  subst hok
  have HE := Lib.hid he; clear he
  have e1 : ((⟨#[45, 51, 50, 55, 54, 56]⟩ : ByteArray).toList == ([45, 51, 50, 55, 54, 56] : List UInt8)) = true := by rw [tl_lit]; exact decide_eq_true rfl
  have e2 : ((⟨#[73, 68]⟩ : ByteArray).toList == ([73, 68] : List UInt8)) = true := by rw [tl_lit]; exact decide_eq_true rfl
  go_enter Tryz.func5, Tryz.ntmps5
  go_wp2_with (fail)
  refine (kind_Find.calls _ 18 0 w q_find1).mono ?_
  rintro e w1 ⟨rfl, hb⟩
  have HB := Lib.hid hb; clear hb
  go_wp2_with (fail)
  refine (parse_ok 60 18 (by decide) _ _ q_words1 q_prim true _ 0 q_num1 _).mono ?_
  rintro e w2 ⟨v, rfl, hv, hb⟩
  replace HB := Lib.hid (below_step HB.out hb); clear hb
  obtain ⟨A, c, rfl⟩ := Kd.V_slice hv
  have HV := Lib.hid hv; clear hv
  go_wp2_with (first | ((with_reducible refine gate_dst (N := 3) rfl ?_); (try (refine gate_guard (by rfl) ?_; dsimp only)); refine box_event ?hg (N := 3) ?hd (cs := zeroV) (t := 41) ?hr ?_; (case hd => rfl); (case hg => rfl); (case hr => first | (go_simp; done) | (go_simp; rfl)); intro g3 hg wA hbox hb; have HG3 := Lib.hid hg; have HX3 := Lib.hid hbox; have HB3 := Lib.hid hb; clear hg hbox hb) | (refine wpList_store_row rfl 41 (.tmp 3) (.tmp 16) rfl g3 (valV 10 true (.slice A ([3, 2, 7, 6, 8] : List Int).length c) 0) (by rfl) (by rfl) 41 zeroV HX3.out size41 rfl (one_val _ _ _ _ _ _) ?_))
  have hb3 := below_setRow HB3.out (Nat.le_of_eq HG3.out.symm) (valV 10 true (.slice A ([3, 2, 7, 6, 8] : List Int).length c) 0)
  have X3 := Lib.hid (setRow_heap _ _ _ (valV 10 true (.slice A ([3, 2, 7, 6, 8] : List Int).length c) 0) _ _ HX3.out)
  replace HV := Lib.hid (Kd.V_below HV.out hb3)
  replace HB := Lib.hid (below_step HB.out hb3)
  clear hb3 HB3 HX3 HG3
  generalize wA.setRow g3 (valV 10 true (.slice A ([3, 2, 7, 6, 8] : List Int).length c) 0) = w3 at X3 HV HB ⊢
  refine (parse_bad 60 18 (by decide) _ _ q_words2 q_prim d0 d1 d2 HE.out _).mono ?_
  rintro e w4 ⟨rfl, hb⟩
  replace X3 := Lib.hid (blk_below X3.out hb)
  replace HV := Lib.hid (Kd.V_below HV.out hb)
  replace HB := Lib.hid (below_step HB.out hb); clear hb
  go_wp2_with (first | ((with_reducible refine gate_dst (N := 5) rfl ?_); (try (refine gate_guard (by rfl) ?_; dsimp only)); refine box_event ?hg (N := 5) ?hd (cs := zeroV) (t := 41) ?hr ?_; (case hd => rfl); (case hg => rfl); (case hr => first | (go_simp; done) | (go_simp; rfl)); intro g5 hg wB hbox hb; have HG5 := Lib.hid hg; have HX5 := Lib.hid hbox; have HB5 := Lib.hid hb; clear hg hbox hb) | (refine wpList_store_row rfl 41 (.tmp 5) (.tmp 21) rfl g5 zeroV (by rfl) (by rfl) 41 zeroV HX5.out size41 rfl (one_val _ _ _ _ _ _) ?_))
  have hb5 := below_setRow HB5.out (Nat.le_of_eq HG5.out.symm) zeroV
  replace X3 := Lib.hid (blk_below X3.out hb5)
  replace HV := Lib.hid (Kd.V_below HV.out hb5)
  replace HB := Lib.hid (below_step HB.out hb5)
  clear hb5 HB5 HX5 HG5
  generalize wB.setRow g5 zeroV = w5 at X3 HV HB ⊢
  refine (kind_Find.calls _ 0 6 _ q_find2).mono ?_
  rintro e w6 ⟨rfl, hb⟩
  replace X3 := Lib.hid (blk_below X3.out hb)
  replace HV := Lib.hid (Kd.V_below HV.out hb)
  replace HB := Lib.hid (below_step HB.out hb); clear hb
  have z2 : w6.cell? ⟨g3, 2, none⟩ = some (.bool true) := (blk_cell X3.out 2).trans rfl
  have z3 : w6.cell? ⟨g3, 3, none⟩ = some (.slice A ([3, 2, 7, 6, 8] : List Int).length c) := (blk_cell X3.out 3).trans rfl
  have z4 : w6.cell? ⟨g3, 4, none⟩ = some (.int .i64 0) := (blk_cell X3.out 4).trans rfl
  go_wp2_with (fail)
  clear z2 z3 z4
  refine (dec_Dec_Text.calls true A c [3, 2, 7, 6, 8] 0 _ _ (Kd.V_reads' HV.out).2.2 (Kd.V_reads' HV.out).2.1 q_text).mono ?_
  rintro e w7 ⟨rfl, hb⟩
  replace X3 := Lib.hid (blk_below X3.out hb)
  replace HV := Lib.hid (Kd.V_below HV.out hb)
  replace HB := Lib.hid (below_step HB.out hb); clear hb
  go_wp2_with (fail)
  refine (Pr.kind_Derived.calls 60 18 11 true _ q_derived).mono ?_
  rintro e w8 ⟨rfl, hb⟩
  replace X3 := Lib.hid (blk_below X3.out hb)
  replace HV := Lib.hid (Kd.V_below HV.out hb)
  replace HB := Lib.hid (below_step HB.out hb); clear hb
  go_wp2_with (fail)
  refine (Pr.kind_Prim.calls 60 18 10 _ q_prim).mono ?_
  rintro e w9 ⟨rfl, hb⟩
  replace X3 := Lib.hid (blk_below X3.out hb)
  replace HV := Lib.hid (Kd.V_below HV.out hb)
  replace HB := Lib.hid (below_step HB.out hb); clear hb
  go_wp2_with (fail)
  refine (kind_Name.calls 7 _ _ q_name).mono ?_
  rintro e w10 ⟨rfl, hb⟩
  replace X3 := Lib.hid (blk_below X3.out hb)
  replace HV := Lib.hid (Kd.V_below HV.out hb)
  replace HB := Lib.hid (below_step HB.out hb); clear hb
  go_wp2_with ((with_reducible refine gate_dst (N := 63) rfl ?_); (try (refine gate_guard (by rfl) ?_; dsimp only)); refine wpList_load_row rfl 41 (.tmp 3) rfl g3 (by rfl) 41 (valV 10 true (.slice A ([3, 2, 7, 6, 8] : List Int).length c) 0) (0, 0) _ X3.out Tryz.underlying41 rfl size41 ?_)
  refine (text_num true A c [3, 2, 7, 6, 8] 0 _ _ (Kd.V_reads' HV.out).2.2 (Kd.V_reads' HV.out).2.1 q_text).mono ?_
  rintro e w11 ⟨rfl, hb⟩
  replace HB := Lib.hid (below_step HB.out hb); clear hb
  go_wp2
  go_ret
  exact ⟨rfl, HB.out⟩

end Go.Proofs.YtdjgiphipjejlaaGreatDoor.G
