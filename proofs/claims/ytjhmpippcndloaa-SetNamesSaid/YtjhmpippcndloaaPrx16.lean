-- printed by wip/gprint.py (ours) out of the translation, by the kit's print program with given contracts
import Derived.Test.YtjhmpippcndloaaG4
import Derived.Test.YtjhmpippcndloaaPrx0
import Derived.Test.YtjhmpippcndloaaPrx5
import Derived.Test.YtjhmpippcndloaaPrx6
import Derived.Test.YtjhmpippcndloaaPrx13
import Derived.Test.YtjhmpippcndloaaPrx14
import Derived.Test.YtjhmpippcndloaaPrx15
namespace Go.Proofs.Ytjhmpippcndloaa.Pr
open Go.RowKit Go.Proofs.YtjhmpippcndloaaW.PrintWords Go.Proofs.YtjhmpippcndloaaW.PrintLast Go.Proofs.YtjhmpippcndloaaW.PrintMore
attribute [local go_sem] max2_int min2_int max_two min_two max_three min_three max_four min_four   -- for this text's walks alone
set_option linter.unusedVariables false
set_option linter.unusedSimpArgs false

/-! ### rubriclaw7_SetNames: function 5 -/
def rubriclaw7_SetNames.j0 : Nat → Int → Bool → Option (Bool)
 | 0, _, _ => none
 | k + 1, x2, x68 => if x68 = true then (some false) else ((set_Escape.f k 105).bind fun bt652 => ((set_Escape.f k 99).bind fun bt656 => ((set_Escape.f k 115).bind fun bt660 => ((G.set_Has.f bt652.1 x2).bind fun t664 => ((char_Start.f k x2).bind fun t665 => (if (t664 == t665) = true then ((G.set_Has.f bt656.1 x2).bind fun t666 => ((char_Part.f k x2).bind fun t667 => (if (t666 == t667) = true then ((G.set_Has.f bt660.1 x2).bind fun t668 => ((char_White.f x2).bind fun t669 => (some (t668 == t669)))) else (some false)))) else (some false)))))))
def rubriclaw7_SetNames.f (k : Nat) (a0 : Int) (a1 : ByteArray) (a2 : Int) : Option (Bool) := (rubriclaw7_known.f k).bind fun t625 => (if t625 = true then (if (a1.size : Int) > 200 then (some true) else ((set_Escape.f k a0).bind fun bt626 => ((rubricref7_Escape.f k (wrap64 (a0))).bind fun bt630 => ((set_Category.f k a1).bind fun bt635 => ((rubricref7_Category.f k a1).bind fun bt639 => (if (bt626.2 != bt630.2) = true then (rubriclaw7_SetNames.j0 k a2 true) else ((rubriclaw7_Of.f k bt626.1).bind fun t644 => ((rubricref7_Same.f k t644 bt630.1).bind fun t647 => (if t647 = true then (if (bt635.2 != bt639.2) = true then (rubriclaw7_SetNames.j0 k a2 true) else ((rubriclaw7_Of.f k bt635.1).bind fun t648 => ((rubricref7_Same.f k t648 bt639.1).bind fun t651 => (rubriclaw7_SetNames.j0 k a2 (!t651))))) else (rubriclaw7_SetNames.j0 k a2 true)))))))))) else (some false))
theorem rubriclaw7_SetNames.mono_l : ∀ k, (∀ y0 y1, LeO (rubriclaw7_SetNames.j0 k y0 y1) (rubriclaw7_SetNames.j0 (k + 1) y0 y1))
 | 0 => fun _ _ r h => by simp [rubriclaw7_SetNames.j0] at h
 | k + 1 => by
  have ih0 := rubriclaw7_SetNames.mono_l k
  ·intro y0 y1
   unfold rubriclaw7_SetNames.j0
   repeat' first
   | (with_reducible exact ih0 _ _)
   | (with_reducible exact char_Part.mono _ _)
   | (with_reducible exact char_Start.mono _ _)
   | (with_reducible exact rubriclaw7_Of.mono _ _)
   | (with_reducible exact rubriclaw7_known.mono _)
   | (with_reducible exact rubricref7_Category.mono _ _)
   | (with_reducible exact rubricref7_Escape.mono _ _)
   | (with_reducible exact rubricref7_Same.mono _ _ _)
   | (with_reducible exact set_Category.mono _ _)
   | (with_reducible exact set_Escape.mono _ _)
   | (with_reducible exact LeO.refl _)
   | (with_reducible exact LeO.none _)
   | (with_reducible refine LeO.ite ?_ ?_)
   | (with_reducible refine LeO.bind ?_ (fun _ => ?_))
   | exact ih0 _ _
   | exact char_Part.mono _ _
   | exact char_Start.mono _ _
   | exact rubriclaw7_Of.mono _ _
   | exact rubriclaw7_known.mono _
   | exact rubricref7_Category.mono _ _
   | exact rubricref7_Escape.mono _ _
   | exact rubricref7_Same.mono _ _ _
   | exact set_Category.mono _ _
   | exact set_Escape.mono _ _
   | exact LeO.none _
   | refine LeO.ite ?_ ?_
   | refine LeO.bind ?_ (fun _ => ?_)
theorem rubriclaw7_SetNames.mono : ∀ a0 a1 a2 k, LeO (rubriclaw7_SetNames.f k a0 a1 a2) (rubriclaw7_SetNames.f (k + 1) a0 a1 a2) := by
 intro a0 a1 a2 k
 have ih0 := rubriclaw7_SetNames.mono_l k
 unfold rubriclaw7_SetNames.f
 repeat' first
   | (with_reducible exact ih0 _ _)
   | (with_reducible exact char_Part.mono _ _)
   | (with_reducible exact char_Start.mono _ _)
   | (with_reducible exact rubriclaw7_Of.mono _ _)
   | (with_reducible exact rubriclaw7_known.mono _)
   | (with_reducible exact rubricref7_Category.mono _ _)
   | (with_reducible exact rubricref7_Escape.mono _ _)
   | (with_reducible exact rubricref7_Same.mono _ _ _)
   | (with_reducible exact set_Category.mono _ _)
   | (with_reducible exact set_Escape.mono _ _)
   | (with_reducible exact LeO.refl _)
   | (with_reducible exact LeO.none _)
   | (with_reducible refine LeO.ite ?_ ?_)
   | (with_reducible refine LeO.bind ?_ (fun _ => ?_))
   | exact ih0 _ _
   | exact char_Part.mono _ _
   | exact char_Start.mono _ _
   | exact rubriclaw7_Of.mono _ _
   | exact rubriclaw7_known.mono _
   | exact rubricref7_Category.mono _ _
   | exact rubricref7_Escape.mono _ _
   | exact rubricref7_Same.mono _ _ _
   | exact set_Category.mono _ _
   | exact set_Escape.mono _ _
   | exact LeO.none _
   | refine LeO.ite ?_ ?_
   | refine LeO.bind ?_ (fun _ => ?_)
def rubriclaw7_SetNames.T9 : Bool × List (List Nat × List Nat) := (true, [([], []), ([], []), ([0, 1], [0, 1]), ([2], [2]), ([3], [3]), ([4, 3, 3], [3, 4]), ([3], [3]), ([5, 6, 5, 3], [3, 5, 6]), ([7, 3], [3, 7]), ([3, 8], [3, 8]), ([9, 7], [9]), ([10], [10]), ([10], [10]), ([11, 12, 10], [10, 11, 12]), ([10, 13], [10, 13]), ([14, 10], [14]), ([15], [15]), ([16, 15, 15], [15, 16]), ([15], [15]), ([17, 18, 17, 15], [15, 17, 18]), ([19, 15], [15, 19]), ([15, 20], [15, 20])])
def rubriclaw7_SetNames.B9 : List Nat := [0, 0, 3, 7, 15, 31, 15, 127, 255, 511, 1023, 2047, 2047, 8191, 16383, 32767, 65535, 131071, 65535, 524287, 1048575, 2097151]
theorem rubriclaw7_SetNames.tab9 : rtab .any (opsOf Try.f5 9) = rubriclaw7_SetNames.T9 := by kernel_rfl
theorem rubriclaw7_SetNames.bits9 : waitsOk rubriclaw7_SetNames.T9.2 rubriclaw7_SetNames.B9 = true := by kernel_rfl
set_option maxHeartbeats 8000000 in
set_option maxRecDepth 100000 in
theorem rubriclaw7_SetNames.calls (k : Nat) (a0 : Int) (a1 : ByteArray) (a2 : Int) (r : Bool) (w : World) (h : rubriclaw7_SetNames.f k a0 a1 a2 = some r) (hrt : r = true) :
  Calls Try.prog 5 #[.int .u8 a0, .string a1, .int .i32 a2] w fun e w' => e = .returned (.bool r) ∧ Below w.heap.size w w' := by
 have hu38 := Try.underlying38
 have HB := Aside0.mk (Below.refl w.heap.size w)
 have HRT := Aside0.mk hrt
 clear hrt
 have H : ((rubriclaw7_known.f k).bind fun t625 => (if t625 = true then (if (a1.size : Int) > 200 then (some true) else ((set_Escape.f k a0).bind fun bt626 => ((rubricref7_Escape.f k (wrap64 (a0))).bind fun bt630 => ((set_Category.f k a1).bind fun bt635 => ((rubricref7_Category.f k a1).bind fun bt639 => (if (bt626.2 != bt630.2) = true then (rubriclaw7_SetNames.j0 k a2 true) else ((rubriclaw7_Of.f k bt626.1).bind fun t644 => ((rubricref7_Same.f k t644 bt630.1).bind fun t647 => (if t647 = true then (if (bt635.2 != bt639.2) = true then (rubriclaw7_SetNames.j0 k a2 true) else ((rubriclaw7_Of.f k bt635.1).bind fun t648 => ((rubricref7_Same.f k t648 bt639.1).bind fun t651 => (rubriclaw7_SetNames.j0 k a2 (!t651))))) else (rubriclaw7_SetNames.j0 k a2 true)))))))))) else (some false))) = some r := h
 clear h
 replace H := Option.bind_eq_some_iff.mp H
 obtain ⟨t625, A40, H⟩ := H
 replace H : (if t625 = true then (if (a1.size : Int) > 200 then (some true) else ((set_Escape.f k a0).bind fun bt626 => ((rubricref7_Escape.f k (wrap64 (a0))).bind fun bt630 => ((set_Category.f k a1).bind fun bt635 => ((rubricref7_Category.f k a1).bind fun bt639 => (if (bt626.2 != bt630.2) = true then (rubriclaw7_SetNames.j0 k a2 true) else ((rubriclaw7_Of.f k bt626.1).bind fun t644 => ((rubricref7_Same.f k t644 bt630.1).bind fun t647 => (if t647 = true then (if (bt635.2 != bt639.2) = true then (rubriclaw7_SetNames.j0 k a2 true) else ((rubriclaw7_Of.f k bt635.1).bind fun t648 => ((rubricref7_Same.f k t648 bt639.1).bind fun t651 => (rubriclaw7_SetNames.j0 k a2 (!t651))))) else (rubriclaw7_SetNames.j0 k a2 true)))))))))) else (some false)) = some r := H
 have A4 := Aside0.mk A40
 clear A40
 by_cases c5 : t625 = true
 ·subst c5
  have H1 : (if (a1.size : Int) > 200 then (some true) else ((set_Escape.f k a0).bind fun bt626 => ((rubricref7_Escape.f k (wrap64 (a0))).bind fun bt630 => ((set_Category.f k a1).bind fun bt635 => ((rubricref7_Category.f k a1).bind fun bt639 => (if (bt626.2 != bt630.2) = true then (rubriclaw7_SetNames.j0 k a2 true) else ((rubriclaw7_Of.f k bt626.1).bind fun t644 => ((rubricref7_Same.f k t644 bt630.1).bind fun t647 => (if t647 = true then (if (bt635.2 != bt639.2) = true then (rubriclaw7_SetNames.j0 k a2 true) else ((rubriclaw7_Of.f k bt635.1).bind fun t648 => ((rubricref7_Same.f k t648 bt639.1).bind fun t651 => (rubriclaw7_SetNames.j0 k a2 (!t651))))) else (rubriclaw7_SetNames.j0 k a2 true)))))))))) = some r := by rw [if_pos rfl] at H; exact H
  clear H
  have H := H1
  clear H1
  by_cases c6 : (a1.size : Int) > 200
  ·rw [if_pos c6] at H
   have c6b0 : decide (200 < (a1.size : Int)) = true := decide_eq_true c6
   have c6b1 : decide (200 < a1.size) = true := decide_eq_true (by omega)
   clear c6
   obtain rfl := Option.some.inj H
   go_enter Try.func5, Try.ntmps5
   go_wp2_with (first | ((with_reducible refine gate_callee (f := 7) rfl ?_); refine goesL_ (some 21) rfl rfl Try.func7 (by kernel_rfl) rfl #[] rfl (by (try simp only [List.map_toArray, List.map_cons, List.map_nil]); first | done | rfl | (simp only [List.length_drop, List.length_take]; rfl)) ?_; (with_reducible refine (rubriclaw7_known.calls k  true _ A4.out rfl).mono ?_); rintro e w7 ⟨rfl, hb⟩; refine ⟨_, rfl, ?_⟩; have n0_ := Aside0.mk (below_step (by repeat (first | (with_reducible first | exact HB.out | apply below_alloc | apply pw_below_drewN | apply below_drew1) | exact HB.out)) hb); clear HB; have HB := n0_; clear n0_; (try clear hb); (try clear hb2); (try clear hk); (try clear hi)))
   go_ret
   exact ⟨by first | rfl | (simp [errW_none, errW_some] <;> rfl) | (simp [*, errW_none, errW_some] <;> rfl), by repeat (first | (with_reducible first | exact HB.out | apply below_alloc | apply pw_below_drewN | apply below_drew1) | exact HB.out)⟩
  ·rw [if_neg c6] at H
   have c6b0 : decide (200 < (a1.size : Int)) = false := decide_eq_false c6
   have c6b1 : decide (200 < a1.size) = false := decide_eq_false (by omega)
   clear c6
   replace H := Option.bind_eq_some_iff.mp H
   obtain ⟨⟨t626, t627⟩, A80, H⟩ := H
   replace H : ((rubricref7_Escape.f k (wrap64 (a0))).bind fun bt630 => ((set_Category.f k a1).bind fun bt635 => ((rubricref7_Category.f k a1).bind fun bt639 => (if (t627 != bt630.2) = true then (rubriclaw7_SetNames.j0 k a2 true) else ((rubriclaw7_Of.f k t626).bind fun t644 => ((rubricref7_Same.f k t644 bt630.1).bind fun t647 => (if t647 = true then (if (bt635.2 != bt639.2) = true then (rubriclaw7_SetNames.j0 k a2 true) else ((rubriclaw7_Of.f k bt635.1).bind fun t648 => ((rubricref7_Same.f k t648 bt639.1).bind fun t651 => (rubriclaw7_SetNames.j0 k a2 (!t651))))) else (rubriclaw7_SetNames.j0 k a2 true)))))))) = some r := H
   have A8 := Aside0.mk A80
   clear A80
   replace H := Option.bind_eq_some_iff.mp H
   obtain ⟨⟨t630, t633⟩, A90, H⟩ := H
   replace H : ((set_Category.f k a1).bind fun bt635 => ((rubricref7_Category.f k a1).bind fun bt639 => (if (t627 != t633) = true then (rubriclaw7_SetNames.j0 k a2 true) else ((rubriclaw7_Of.f k t626).bind fun t644 => ((rubricref7_Same.f k t644 t630).bind fun t647 => (if t647 = true then (if (bt635.2 != bt639.2) = true then (rubriclaw7_SetNames.j0 k a2 true) else ((rubriclaw7_Of.f k bt635.1).bind fun t648 => ((rubricref7_Same.f k t648 bt639.1).bind fun t651 => (rubriclaw7_SetNames.j0 k a2 (!t651))))) else (rubriclaw7_SetNames.j0 k a2 true))))))) = some r := H
   have A9 := Aside0.mk A90
   clear A90
   replace H := Option.bind_eq_some_iff.mp H
   obtain ⟨⟨t635, t636⟩, A100, H⟩ := H
   replace H : ((rubricref7_Category.f k a1).bind fun bt639 => (if (t627 != t633) = true then (rubriclaw7_SetNames.j0 k a2 true) else ((rubriclaw7_Of.f k t626).bind fun t644 => ((rubricref7_Same.f k t644 t630).bind fun t647 => (if t647 = true then (if (t636 != bt639.2) = true then (rubriclaw7_SetNames.j0 k a2 true) else ((rubriclaw7_Of.f k t635).bind fun t648 => ((rubricref7_Same.f k t648 bt639.1).bind fun t651 => (rubriclaw7_SetNames.j0 k a2 (!t651))))) else (rubriclaw7_SetNames.j0 k a2 true)))))) = some r := H
   have A10 := Aside0.mk A100
   clear A100
   replace H := Option.bind_eq_some_iff.mp H
   obtain ⟨⟨t639, t642⟩, A110, H⟩ := H
   replace H : (if (t627 != t633) = true then (rubriclaw7_SetNames.j0 k a2 true) else ((rubriclaw7_Of.f k t626).bind fun t644 => ((rubricref7_Same.f k t644 t630).bind fun t647 => (if t647 = true then (if (t636 != t642) = true then (rubriclaw7_SetNames.j0 k a2 true) else ((rubriclaw7_Of.f k t635).bind fun t648 => ((rubricref7_Same.f k t648 t639).bind fun t651 => (rubriclaw7_SetNames.j0 k a2 (!t651))))) else (rubriclaw7_SetNames.j0 k a2 true))))) = some r := H
   have A11 := Aside0.mk A110
   clear A110
   have HC12 := Aside0.mk H
   clear H
   go_enter Try.func5, Try.ntmps5
   go_upto_region 9 with (first | ((with_reducible refine gate_callee (f := 7) rfl ?_); refine goesL_ (some 21) rfl rfl Try.func7 (by kernel_rfl) rfl #[] rfl (by (try simp only [List.map_toArray, List.map_cons, List.map_nil]); first | done | rfl | (simp only [List.length_drop, List.length_take]; rfl)) ?_; (with_reducible refine (rubriclaw7_known.calls k  true _ A4.out rfl).mono ?_); rintro e w13 ⟨rfl, hb⟩; refine ⟨_, rfl, ?_⟩; have n0_ := Aside0.mk (below_step (by repeat (first | (with_reducible first | exact HB.out | apply below_alloc | apply pw_below_drewN | apply below_drew1) | exact HB.out)) hb); clear HB; have HB := n0_; clear n0_; (try clear hb); (try clear hb2); (try clear hk); (try clear hi)) | ((with_reducible refine gate_callee (f := 14) rfl ?_); refine goesL_ (some 28) rfl rfl Try.func14 (by kernel_rfl) rfl #[.int .u8 a0] rfl (by (try simp only [List.map_toArray, List.map_cons, List.map_nil]); first | done | rfl | (simp only [List.length_drop, List.length_take]; rfl)) ?_; (with_reducible refine (set_Escape.calls k a0 t626 t627 _ A8.out).mono ?_); rintro e w14 ⟨v628, rfl, ho0, hb⟩; refine ⟨_, rfl, ?_⟩; have n0_ := Aside0.mk (Kd.R_lower ho0 (below_size (by repeat (first | (with_reducible first | exact HB.out | apply below_alloc | apply pw_below_drewN | apply below_drew1) | exact HB.out)))); have n1_ := Aside0.mk (below_step (by repeat (first | (with_reducible first | exact HB.out | apply below_alloc | apply pw_below_drewN | apply below_drew1) | exact HB.out)) hb); clear HB; have HO629 := n0_; have HB := n1_; clear n0_ n1_; (try clear hb); (try clear hb2); (try clear hk); (try clear hi); (try clear ho0)) | ((with_reducible refine gate_callee (f := 15) rfl ?_); refine goesL_ (some 34) rfl rfl Try.func15 (by kernel_rfl) rfl #[.int .i64 (wrap64 (a0))] rfl (by (try simp only [List.map_toArray, List.map_cons, List.map_nil]); first | done | rfl | (simp only [List.length_drop, List.length_take]; rfl)) ?_; (with_reducible refine (rubricref7_Escape.calls k (wrap64 (a0)) t630 t633 _ A9.out).mono ?_); rintro e w15 ⟨v631, rfl, ho0, hb⟩; refine ⟨_, rfl, ?_⟩; have n0_ := Aside0.mk (Kd.R_below (S.r HO629.out) hb); have n1_ := Aside0.mk (Kd.R_lower ho0 (below_size (by repeat (first | (with_reducible first | exact HB.out | apply below_alloc | apply pw_below_drewN | apply below_drew1) | exact HB.out)))); have n2_ := Aside0.mk (below_step (by repeat (first | (with_reducible first | exact HB.out | apply below_alloc | apply pw_below_drewN | apply below_drew1) | exact HB.out)) hb); clear HO629; clear HB; have HO629 := n0_; have HO632 := n1_; have HB := n2_; clear n0_ n1_ n2_; (try clear hb); (try clear hb2); (try clear hk); (try clear hi); (try clear ho0)) | ((with_reducible refine gate_dst (N := 9) rfl ?_); refine box_event ?hg (N := 9) ?hd (cs := #[.slice none 0 0]) (t := 38) ?hr ?_; (case hd => rfl); (case hg => rfl); (case hr => first | (go_simp; done) | (go_simp; rfl)); intro gb634 hg w16 hbox hb; have n0_ := Aside0.mk (Kd.R_below (S.r HO629.out) hb); have n1_ := Aside0.mk (Kd.R_below (S.r HO632.out) hb); have n2_ := Aside0.mk (below_step (by repeat (first | (with_reducible first | exact HB.out | apply below_alloc | apply pw_below_drewN | apply below_drew1) | exact HB.out)) hb); have n3_ := Aside0.mk (hbox); have n4_ := Aside0.mk ((by rw [hg]; exact (below_size (by repeat (first | (with_reducible first | exact HB.out | apply below_alloc | apply pw_below_drewN | apply below_drew1) | exact HB.out))) : w.heap.size ≤ gb634)); have n5_ := Aside0.mk ((by rw [hg]; exact (below_size (by repeat (first | (with_reducible first | exact HB.out | apply below_alloc | apply pw_below_drewN | apply below_drew1) | exact HB.out))) : w.heap.size ≤ gb634)); clear HO629; clear HO632; clear HB; have HO629 := n0_; have HO632 := n1_; have HB := n2_; have BK634 := n3_; have GW634 := n4_; have GE634 := n5_; clear n0_ n1_ n2_ n3_ n4_ n5_; clear hb hbox hg; obtain ⟨Ao17, co17, eo17⟩ := Kd.R_slice HO632.out; subst eo17; have hcz18_0 : w16.cell? ⟨gb634, 0, none⟩ = some (.slice none 0 0) := (blk_cell BK634.out 0).trans rfl; have hfz18_0 := blk_frozen BK634.out 0) | ((with_reducible refine gate_callee (f := 16) rfl ?_); refine goesL_ (some 39) rfl rfl Try.func16 (by kernel_rfl) rfl #[.string a1] rfl (by (try simp only [List.map_toArray, List.map_cons, List.map_nil]); first | done | rfl | (simp only [List.length_drop, List.length_take]; rfl)) ?_; (with_reducible refine (set_Category.calls k a1 t635 t636 _ A10.out).mono ?_); rintro e w19 ⟨v637, rfl, ho0, hb⟩; refine ⟨_, rfl, ?_⟩; have n0_ := Aside0.mk (Kd.R_elder' (by (with_reducible repeat (first | apply Kd.R_alloc | apply Kd.R_drewN | apply Kd.R_drew)); exact (Kd.R_mono (Kd.R_far (p := ⟨gb634, 0, none⟩) (Kd.R_types HO629.out BK634.out (by decide)) (fun _ hk => hk.2) (.slice Ao17 t630.length co17)) (fun _ h_ => h_.1))) (Kd.R_base ho0) hb); have n1_ := Aside0.mk (Kd.R_below (by (with_reducible repeat (first | apply Kd.R_alloc | apply Kd.R_drewN | apply Kd.R_drew)); exact (Kd.R_mono (Kd.R_far (p := ⟨gb634, 0, none⟩) (Kd.R_types HO632.out BK634.out (by decide)) (fun _ hk => hk.2) (.slice Ao17 t630.length co17)) (fun _ h_ => h_.1))) hb); have n2_ := Aside0.mk (Kd.R_lower (Kd.R_new' ho0 (Kd.R_lt (by (with_reducible repeat (first | apply Kd.R_alloc | apply Kd.R_drewN | apply Kd.R_drew)); exact (Kd.R_mono (Kd.R_far (p := ⟨gb634, 0, none⟩) (Kd.R_types HO629.out BK634.out (by decide)) (fun _ hk => hk.2) (.slice Ao17 t630.length co17)) (fun _ h_ => h_.1))))) (below_size (by repeat (first | (with_reducible first | exact HB.out | apply below_alloc | apply pw_below_drewN | apply below_drew1 | refine below_set ?_ GE634.out) | exact HB.out)))); have n3_ := Aside0.mk (blk_below (g := gb634) (o := .cells #[.slice Ao17 t630.length co17] 38 (0, 0)) (by (with_reducible repeat (first | refine blk_drewN ?_ _ | refine blk_drew ?_ | refine blk_alloc ?_ _)); refine blk_put (cs := #[.slice none 0 0]) ?_ 0 _ rfl; (with_reducible repeat (first | refine blk_drewN ?_ _ | refine blk_drew ?_ | refine blk_alloc ?_ _)); exact BK634.out) hb); have n4_ := Aside0.mk (below_step (by repeat (first | (with_reducible first | exact HB.out | apply below_alloc | apply pw_below_drewN | apply below_drew1 | refine below_set ?_ GE634.out) | exact HB.out)) hb); clear HO629; clear HO632; clear BK634; clear HB; have HO629 := n0_; have HO632 := n1_; have HO638 := n2_; have BK634 := n3_; have HB := n4_; clear n0_ n1_ n2_ n3_ n4_; (try clear hb); (try clear hb2); (try clear hk); (try clear hi); (try clear ho0)) | ((with_reducible refine gate_callee (f := 17) rfl ?_); refine goesL_ (some 44) rfl rfl Try.func17 (by kernel_rfl) rfl #[.string a1] rfl (by (try simp only [List.map_toArray, List.map_cons, List.map_nil]); first | done | rfl | (simp only [List.length_drop, List.length_take]; rfl)) ?_; (with_reducible refine (rubricref7_Category.calls k a1 t639 t642 _ A11.out).mono ?_); rintro e w20 ⟨v640, rfl, ho0, hb⟩; refine ⟨_, rfl, ?_⟩; have n0_ := Aside0.mk (Kd.R_below (S.r HO629.out) hb); have n1_ := Aside0.mk (Kd.R_elder' (S.r HO632.out) (Kd.R_base ho0) hb); have n2_ := Aside0.mk (Kd.R_below (S.r HO638.out) hb); have n3_ := Aside0.mk (Kd.R_lower (Kd.R_new' ho0 (Kd.R_lt (S.r HO632.out))) (below_size (by repeat (first | (with_reducible first | exact HB.out | apply below_alloc | apply pw_below_drewN | apply below_drew1 | refine below_set ?_ GE634.out) | exact HB.out)))); have n4_ := Aside0.mk (blk_below (g := gb634) (o := .cells #[.slice Ao17 t630.length co17] 38 (0, 0)) (S.b BK634.out) hb); have n5_ := Aside0.mk (below_step (by repeat (first | (with_reducible first | exact HB.out | apply below_alloc | apply pw_below_drewN | apply below_drew1 | refine below_set ?_ GE634.out) | exact HB.out)) hb); clear HO629; clear HO632; clear HO638; clear BK634; clear HB; have HO629 := n0_; have HO632 := n1_; have HO638 := n2_; have HO641 := n3_; have BK634 := n4_; have HB := n5_; clear n0_ n1_ n2_ n3_ n4_ n5_; (try clear hb); (try clear hb2); (try clear hk); (try clear hi); (try clear ho0)) | ((with_reducible refine gate_dst (N := 13) rfl ?_); refine box_event ?hg (N := 13) ?hd (cs := #[.slice none 0 0]) (t := 38) ?hr ?_; (case hd => rfl); (case hg => rfl); (case hr => first | (go_simp; done) | (go_simp; rfl)); intro gb643 hg w21 hbox hb; have n0_ := Aside0.mk (Kd.R_below (S.r HO629.out) hb); have n1_ := Aside0.mk (Kd.R_below (S.r HO632.out) hb); have n2_ := Aside0.mk (Kd.R_below (S.r HO638.out) hb); have n3_ := Aside0.mk (Kd.R_below (S.r HO641.out) hb); have n4_ := Aside0.mk (blk_below (g := gb634) (o := .cells #[.slice Ao17 t630.length co17] 38 (0, 0)) (S.b BK634.out) hb); have n5_ := Aside0.mk (below_step (by repeat (first | (with_reducible first | exact HB.out | apply below_alloc | apply pw_below_drewN | apply below_drew1 | refine below_set ?_ GE634.out) | exact HB.out)) hb); have n6_ := Aside0.mk (hbox); have n7_ := Aside0.mk ((by rw [hg]; exact (below_size (by repeat (first | (with_reducible first | exact HB.out | apply below_alloc | apply pw_below_drewN | apply below_drew1 | refine below_set ?_ GE634.out) | exact HB.out))) : w.heap.size ≤ gb643)); have n8_ := Aside0.mk ((by rw [hg]; exact (below_size (by repeat (first | (with_reducible first | exact HB.out | apply below_alloc | apply pw_below_drewN | apply below_drew1 | refine below_set ?_ GE634.out) | exact HB.out))) : w.heap.size ≤ gb643)); have n9_ := Aside0.mk ((by rw [hg]; exact Nat.ne_of_lt (blk_lt (g := gb634) (o := .cells #[.slice Ao17 t630.length co17] 38 (0, 0)) (S.b BK634.out)) : gb634 ≠ gb643)); have n10_ := Aside0.mk ((by rw [hg]; exact Nat.ne_of_gt (blk_lt (g := gb634) (o := .cells #[.slice Ao17 t630.length co17] 38 (0, 0)) (S.b BK634.out)) : gb643 ≠ gb634)); clear HO629; clear HO632; clear HO638; clear HO641; clear BK634; clear HB; have HO629 := n0_; have HO632 := n1_; have HO638 := n2_; have HO641 := n3_; have BK634 := n4_; have HB := n5_; have BK643 := n6_; have GW643 := n7_; have GE643 := n8_; have NB634_643 := n9_; have NB643_634 := n10_; clear n0_ n1_ n2_ n3_ n4_ n5_ n6_ n7_ n8_ n9_ n10_; clear hb hbox hg; obtain ⟨Ao22, co22, eo22⟩ := Kd.R_slice HO641.out; subst eo22; have hnb23 := NB643_634.out; have hnc23 := NB634_643.out; have hcz24_0 : w21.cell? ⟨gb643, 0, none⟩ = some (.slice none 0 0) := (blk_cell BK643.out 0).trans rfl; have hfz24_0 := blk_frozen BK643.out 0))
   (try simp only [Act.put, List.setIfInBounds_toArray, List.set_cons_zero, List.set_cons_succ])
   go_cut [68] (fun v68 wc => ∃ (kq : Nat) (x68_11 : Bool), v68 = .bool x68_11 ∧ Aside0 (rubriclaw7_SetNames.j0 kq a2 x68_11 = some r) ∧ Aside0 (kq ≤ k) ∧ Aside0 (Kd.R k58 58 wc w.heap.size (fun k_ => some k_ ≠ ((.slice Ao22 t639.length co22) : Value).ownBlock) (.slice Ao17 t630.length co17) t630) ∧ Aside0 (Kd.R k58 58 wc w.heap.size (fun k_ => some k_ ≠ ((.slice Ao17 t630.length co17) : Value).ownBlock) (.slice Ao22 t639.length co22) t639) ∧ Aside0 (wc.heap[gb634]? = some (.cells #[(.slice Ao17 t630.length co17)] 38 (0, 0))) ∧ Aside0 (wc.heap[gb643]? = some (.cells #[(.slice Ao22 t639.length co22)] 38 (0, 0))) ∧ Aside0 (Below w.heap.size w wc))
   case first =>
    have H := HC12.out
    clear HC12
    by_cases c25 : (t627 != t633) = true
    ·rw [if_pos c25] at H
     have c25b0 : (t627 != t633) = true := c25
     (try (have c25b1 : decide (t627 = t633) = false := by simpa using c25))
     (try (have c25b2 : (t627 == t633) = false := by simpa using c25))
     (try (have c25b3 : ¬ (t627 = t633) := by simpa using c25))
     clear c25
     (first | rw [c25b0] | (simp only [i64_w, i32_w]; rw [c25b0]) | skip)
     have H' := Aside0.mk H
     clear H
     try go_wp2
     have n0_ : Aside0 (Kd.R k24 24 (w21.setCell ⟨gb643, 0, none⟩ (.slice Ao22 t639.length co22)) w.heap.size (fun k_ => some k_ ≠ (v637 : Value).ownBlock) v628 t626) := ⟨by (with_reducible repeat (first | apply Kd.R_alloc | apply Kd.R_drewN | apply Kd.R_drew)); exact Kd.R_mono (Kd.R_far (p := ⟨gb643, 0, none⟩) (Kd.R_types HO629.out BK643.out (by decide)) (fun _ hk => hk.2) (.slice Ao22 t639.length co22)) (fun _ hk => hk.1.2)⟩
     have n1_ : Aside0 (Kd.R k58 58 (w21.setCell ⟨gb643, 0, none⟩ (.slice Ao22 t639.length co22)) w.heap.size (fun k_ => some k_ ≠ (.slice Ao22 t639.length co22 : Value).ownBlock) (.slice Ao17 t630.length co17) t630) := ⟨by (with_reducible repeat (first | apply Kd.R_alloc | apply Kd.R_drewN | apply Kd.R_drew)); exact Kd.R_mono (Kd.R_far (p := ⟨gb643, 0, none⟩) (Kd.R_types HO632.out BK643.out (by decide)) (fun _ hk => hk.2) (.slice Ao22 t639.length co22)) (fun _ hk => hk.1.2)⟩
     have n2_ : Aside0 (Kd.R k24 24 (w21.setCell ⟨gb643, 0, none⟩ (.slice Ao22 t639.length co22)) w.heap.size (fun k_ => some k_ ≠ (v628 : Value).ownBlock) v637 t635) := ⟨by (with_reducible repeat (first | apply Kd.R_alloc | apply Kd.R_drewN | apply Kd.R_drew)); exact Kd.R_mono (Kd.R_far (p := ⟨gb643, 0, none⟩) (Kd.R_types HO638.out BK643.out (by decide)) (fun _ hk => hk.2) (.slice Ao22 t639.length co22)) (fun _ hk => hk.1.2)⟩
     have n3_ : Aside0 (Kd.R k58 58 (w21.setCell ⟨gb643, 0, none⟩ (.slice Ao22 t639.length co22)) w.heap.size (fun k_ => some k_ ≠ (.slice Ao17 t630.length co17 : Value).ownBlock) (.slice Ao22 t639.length co22) t639) := ⟨by (with_reducible repeat (first | apply Kd.R_alloc | apply Kd.R_drewN | apply Kd.R_drew)); exact Kd.R_mono (Kd.R_far (p := ⟨gb643, 0, none⟩) (Kd.R_types HO641.out BK643.out (by decide)) (fun _ hk => hk.2) (.slice Ao22 t639.length co22)) (fun _ hk => hk.1.2)⟩
     have n4_ : Aside0 ((w21.setCell ⟨gb643, 0, none⟩ (.slice Ao22 t639.length co22)).heap[gb634]? = some (.cells #[.slice Ao17 t630.length co17] 38 (0, 0))) := ⟨by (with_reducible repeat (first | refine blk_drewN ?_ _ | refine blk_drew ?_ | refine blk_alloc ?_ _)); refine blk_far ?_ NB634_643.out _; (with_reducible repeat (first | refine blk_drewN ?_ _ | refine blk_drew ?_ | refine blk_alloc ?_ _)); exact BK634.out⟩
     have n5_ : Aside0 ((w21.setCell ⟨gb643, 0, none⟩ (.slice Ao22 t639.length co22)).heap[gb643]? = some (.cells #[.slice Ao22 t639.length co22] 38 (0, 0))) := ⟨by (with_reducible repeat (first | refine blk_drewN ?_ _ | refine blk_drew ?_ | refine blk_alloc ?_ _)); refine blk_put (cs := #[.slice none 0 0]) ?_ 0 _ rfl; (with_reducible repeat (first | refine blk_drewN ?_ _ | refine blk_drew ?_ | refine blk_alloc ?_ _)); exact BK643.out⟩
     have n6_ : Aside0 (Below w.heap.size w (w21.setCell ⟨gb643, 0, none⟩ (.slice Ao22 t639.length co22))) := ⟨by repeat (first | (with_reducible first | exact HB.out | apply below_alloc | apply pw_below_drewN | apply below_drew1 | refine below_set ?_ GE634.out | refine below_set ?_ GE643.out) | exact HB.out)⟩
     (try clear HO629)
     (try clear HO632)
     (try clear HO638)
     (try clear HO641)
     (try clear BK634)
     (try clear BK643)
     (try clear HB)
     generalize (w21.setCell ⟨gb643, 0, none⟩ (.slice Ao22 t639.length co22)) = w26 at n0_ n1_ n2_ n3_ n4_ n5_ n6_ ⊢
     have HO629 := n0_
     have HO632 := n1_
     have HO638 := n2_
     have HO641 := n3_
     have BK634 := n4_
     have BK643 := n5_
     have HB := n6_
     clear n0_ n1_ n2_ n3_ n4_ n5_ n6_
     have n0_ := Aside0.mk (Kd.R_drew HO629.out)
     have n1_ := Aside0.mk (Kd.R_drew HO632.out)
     have n2_ := Aside0.mk (Kd.R_drew HO638.out)
     have n3_ := Aside0.mk (Kd.R_drew HO641.out)
     have n4_ := Aside0.mk (blk_drew BK634.out)
     have n5_ := Aside0.mk (blk_drew BK643.out)
     have n6_ := Aside0.mk (below_drew1 HB.out)
     clear HO629
     clear HO632
     clear HO638
     clear HO641
     clear BK634
     clear BK643
     clear HB
     have HO629 := n0_
     have HO632 := n1_
     have HO638 := n2_
     have HO641 := n3_
     have BK634 := n4_
     have BK643 := n5_
     have HB := n6_
     clear n0_ n1_ n2_ n3_ n4_ n5_ n6_
     refine start_ (n := 22) (S := fun w' => True) (ds := []) #[false, false, false, false, false, false, false, false, false, false, false, false, false, false, false, false, false, false, false, false, false, false] (by kernel_rfl) rfl rfl trivial (fun hHeld => ?_); refine with_tabW rubriclaw7_SetNames.tab9 rubriclaw7_SetNames.bits9 (fun HT_ HW_ => ?_)
     generalize w26.drew = w27 at HO629 HO632 HO638 HO641 BK634 BK643 HB hHeld ⊢
     refine pure_ (i := 0) (N := some 47) (v := ?_) (a' := ?_) #[true, false, false, false, false, false, false, false, false, false, false, false, false, false, false, false, false, false, false, false, false, false] rfl rfl (any_of HT_.out (by kernel_rfl)) (fun _ _ _ h => h) (Or.inl ⟨by rfl, ?_⟩) ?_ ?_
     rotate_left
     ·intro w'
      go_simp
      with_reducible rfl
     rotate_left
     ·simp only [Act.put, List.setIfInBounds_toArray, List.set_cons_zero, List.set_cons_succ, i64_w, i32_w]
      rfl
     refine pure_ (i := 1) (N := some 48) (v := ?_) (a' := ?_) #[true, true, false, false, false, false, false, false, false, false, false, false, false, false, false, false, false, false, false, false, false, false] rfl rfl (any_of HT_.out (by kernel_rfl)) (fun _ _ _ h => h) (Or.inl ⟨by rfl, ?_⟩) ?_ ?_
     rotate_left
     ·intro w'
      go_simp
      with_reducible rfl
     rotate_left
     ·simp only [Act.put, List.setIfInBounds_toArray, List.set_cons_zero, List.set_cons_succ, i64_w, i32_w]
      rfl
     refine pure_ (i := 2) (N := some 49) (v := ?_) (a' := ?_) #[true, true, true, false, false, false, false, false, false, false, false, false, false, false, false, false, false, false, false, false, false, false] rfl rfl (any_of HT_.out (by kernel_rfl)) (fun _ _ _ h => h) (Or.inl ⟨by rfl, ?_⟩) ?_ ?_
     rotate_left
     ·intro w'
      go_simp
      with_reducible rfl
     rotate_left
     ·simp only [Act.put, List.setIfInBounds_toArray, List.set_cons_zero, List.set_cons_succ, i64_w, i32_w]
      rfl
     refine pure_ (i := 3) (N := some 50) (v := ?_) (a' := ?_) #[true, true, true, true, false, false, false, false, false, false, false, false, false, false, false, false, false, false, false, false, false, false] rfl rfl (any_of HT_.out (by kernel_rfl)) (fun _ _ _ h => h) (Or.inl ⟨by rfl, ?_⟩) ?_ ?_
     rotate_left
     ·intro w'
      go_simp
      with_reducible rfl
     rotate_left
     ·simp only [Act.put, List.setIfInBounds_toArray, List.set_cons_zero, List.set_cons_succ, i64_w, i32_w]
      rfl
     refine pure_ (i := 4) (N := some 51) (v := undef) (a' := ?_) #[true, true, true, true, true, false, false, false, false, false, false, false, false, false, false, false, false, false, false, false, false, false] rfl rfl (any_of HT_.out (by kernel_rfl)) (fun _ _ _ h => h) (Or.inr ⟨by rfl, rfl⟩) ?_ ?_
     rotate_left
     ·simp only [Act.put, List.setIfInBounds_toArray, List.set_cons_zero, List.set_cons_succ, i64_w, i32_w]
      rfl
     refine pure_ (i := 5) (N := some 52) (v := undef) (a' := ?_) #[true, true, true, true, true, true, false, false, false, false, false, false, false, false, false, false, false, false, false, false, false, false] rfl rfl (any_of HT_.out (by kernel_rfl)) (fun _ _ _ h => h) (Or.inr ⟨by rfl, rfl⟩) ?_ ?_
     rotate_left
     ·simp only [Act.put, List.setIfInBounds_toArray, List.set_cons_zero, List.set_cons_succ, i64_w, i32_w]
      rfl
     refine pure_ (i := 6) (N := some 53) (v := undef) (a' := ?_) #[true, true, true, true, true, true, true, false, false, false, false, false, false, false, false, false, false, false, false, false, false, false] rfl rfl (any_of HT_.out (by kernel_rfl)) (fun _ _ _ h => h) (Or.inr ⟨by rfl, rfl⟩) ?_ ?_
     rotate_left
     ·simp only [Act.put, List.setIfInBounds_toArray, List.set_cons_zero, List.set_cons_succ, i64_w, i32_w]
      rfl
     refine pure_ (i := 7) (N := some 54) (v := undef) (a' := ?_) #[true, true, true, true, true, true, true, true, false, false, false, false, false, false, false, false, false, false, false, false, false, false] rfl rfl (any_of HT_.out (by kernel_rfl)) (fun _ _ _ h => h) (Or.inr ⟨by rfl, rfl⟩) ?_ ?_
     rotate_left
     ·simp only [Act.put, List.setIfInBounds_toArray, List.set_cons_zero, List.set_cons_succ, i64_w, i32_w]
      rfl
     refine pure_ (i := 8) (N := some 55) (v := undef) (a' := ?_) #[true, true, true, true, true, true, true, true, true, false, false, false, false, false, false, false, false, false, false, false, false, false] rfl rfl (any_of HT_.out (by kernel_rfl)) (fun _ _ _ h => h) (Or.inr ⟨by rfl, rfl⟩) ?_ ?_
     rotate_left
     ·simp only [Act.put, List.setIfInBounds_toArray, List.set_cons_zero, List.set_cons_succ, i64_w, i32_w]
      rfl
     refine pure_ (i := 9) (N := some 56) (v := ?_) (a' := ?_) #[true, true, true, true, true, true, true, true, true, true, false, false, false, false, false, false, false, false, false, false, false, false] rfl rfl (any_of HT_.out (by kernel_rfl)) (fun _ _ _ h => h) (Or.inl ⟨by rfl, ?_⟩) ?_ ?_
     rotate_left
     ·intro w'
      go_simp
      with_reducible rfl
     rotate_left
     ·simp only [Act.put, List.setIfInBounds_toArray, List.set_cons_zero, List.set_cons_succ, i64_w, i32_w]
      rfl
     refine pure_ (i := 10) (N := some 57) (v := ?_) (a' := ?_) #[true, true, true, true, true, true, true, true, true, true, true, false, false, false, false, false, false, false, false, false, false, false] rfl rfl (any_of HT_.out (by kernel_rfl)) (fun _ _ _ h => h) (Or.inl ⟨by rfl, ?_⟩) ?_ ?_
     rotate_left
     ·intro w'
      go_simp
      with_reducible rfl
     rotate_left
     ·simp only [Act.put, List.setIfInBounds_toArray, List.set_cons_zero, List.set_cons_succ, i64_w, i32_w]
      rfl
     refine pure_ (i := 11) (N := some 58) (v := undef) (a' := ?_) #[true, true, true, true, true, true, true, true, true, true, true, true, false, false, false, false, false, false, false, false, false, false] rfl rfl (any_of HT_.out (by kernel_rfl)) (fun _ _ _ h => h) (Or.inr ⟨by rfl, rfl⟩) ?_ ?_
     rotate_left
     ·simp only [Act.put, List.setIfInBounds_toArray, List.set_cons_zero, List.set_cons_succ, i64_w, i32_w]
      rfl
     refine pure_ (i := 12) (N := some 59) (v := undef) (a' := ?_) #[true, true, true, true, true, true, true, true, true, true, true, true, true, false, false, false, false, false, false, false, false, false] rfl rfl (any_of HT_.out (by kernel_rfl)) (fun _ _ _ h => h) (Or.inr ⟨by rfl, rfl⟩) ?_ ?_
     rotate_left
     ·simp only [Act.put, List.setIfInBounds_toArray, List.set_cons_zero, List.set_cons_succ, i64_w, i32_w]
      rfl
     refine pure_ (i := 13) (N := some 60) (v := undef) (a' := ?_) #[true, true, true, true, true, true, true, true, true, true, true, true, true, true, false, false, false, false, false, false, false, false] rfl rfl (any_of HT_.out (by kernel_rfl)) (fun _ _ _ h => h) (Or.inr ⟨by rfl, rfl⟩) ?_ ?_
     rotate_left
     ·simp only [Act.put, List.setIfInBounds_toArray, List.set_cons_zero, List.set_cons_succ, i64_w, i32_w]
      rfl
     refine pure_ (i := 14) (N := some 61) (v := ?_) (a' := ?_) #[true, true, true, true, true, true, true, true, true, true, true, true, true, true, true, false, false, false, false, false, false, false] rfl rfl (any_of HT_.out (by kernel_rfl)) (fun _ _ _ h => h) (Or.inl ⟨by rfl, ?_⟩) ?_ ?_
     rotate_left
     ·intro w'
      go_simp
      with_reducible rfl
     rotate_left
     ·simp only [Act.put, List.setIfInBounds_toArray, List.set_cons_zero, List.set_cons_succ, i64_w, i32_w]
      rfl
     refine pure_ (i := 15) (N := some 62) (v := ?_) (a' := ?_) #[true, true, true, true, true, true, true, true, true, true, true, true, true, true, true, true, false, false, false, false, false, false] rfl rfl (any_of HT_.out (by kernel_rfl)) (fun _ _ _ h => h) (Or.inl ⟨by rfl, ?_⟩) ?_ ?_
     rotate_left
     ·intro w'
      go_simp
      with_reducible rfl
     rotate_left
     ·simp only [Act.put, List.setIfInBounds_toArray, List.set_cons_zero, List.set_cons_succ, i64_w, i32_w]
      rfl
     refine pure_ (i := 16) (N := some 63) (v := undef) (a' := ?_) #[true, true, true, true, true, true, true, true, true, true, true, true, true, true, true, true, true, false, false, false, false, false] rfl rfl (any_of HT_.out (by kernel_rfl)) (fun _ _ _ h => h) (Or.inr ⟨by rfl, rfl⟩) ?_ ?_
     rotate_left
     ·simp only [Act.put, List.setIfInBounds_toArray, List.set_cons_zero, List.set_cons_succ, i64_w, i32_w]
      rfl
     refine pure_ (i := 17) (N := some 64) (v := undef) (a' := ?_) #[true, true, true, true, true, true, true, true, true, true, true, true, true, true, true, true, true, true, false, false, false, false] rfl rfl (any_of HT_.out (by kernel_rfl)) (fun _ _ _ h => h) (Or.inr ⟨by rfl, rfl⟩) ?_ ?_
     rotate_left
     ·simp only [Act.put, List.setIfInBounds_toArray, List.set_cons_zero, List.set_cons_succ, i64_w, i32_w]
      rfl
     refine pure_ (i := 18) (N := some 65) (v := undef) (a' := ?_) #[true, true, true, true, true, true, true, true, true, true, true, true, true, true, true, true, true, true, true, false, false, false] rfl rfl (any_of HT_.out (by kernel_rfl)) (fun _ _ _ h => h) (Or.inr ⟨by rfl, rfl⟩) ?_ ?_
     rotate_left
     ·simp only [Act.put, List.setIfInBounds_toArray, List.set_cons_zero, List.set_cons_succ, i64_w, i32_w]
      rfl
     refine pure_ (i := 19) (N := some 66) (v := undef) (a' := ?_) #[true, true, true, true, true, true, true, true, true, true, true, true, true, true, true, true, true, true, true, true, false, false] rfl rfl (any_of HT_.out (by kernel_rfl)) (fun _ _ _ h => h) (Or.inr ⟨by rfl, rfl⟩) ?_ ?_
     rotate_left
     ·simp only [Act.put, List.setIfInBounds_toArray, List.set_cons_zero, List.set_cons_succ, i64_w, i32_w]
      rfl
     refine pure_ (i := 20) (N := some 67) (v := undef) (a' := ?_) #[true, true, true, true, true, true, true, true, true, true, true, true, true, true, true, true, true, true, true, true, true, false] rfl rfl (any_of HT_.out (by kernel_rfl)) (fun _ _ _ h => h) (Or.inr ⟨by rfl, rfl⟩) ?_ ?_
     rotate_left
     ·simp only [Act.put, List.setIfInBounds_toArray, List.set_cons_zero, List.set_cons_succ, i64_w, i32_w]
      rfl
     refine pure_ (i := 21) (N := some 68) (v := ?_) (a' := ?_) #[true, true, true, true, true, true, true, true, true, true, true, true, true, true, true, true, true, true, true, true, true, true] rfl rfl (any_of HT_.out (by kernel_rfl)) (fun _ _ _ h => h) (Or.inl ⟨by rfl, ?_⟩) ?_ ?_
     rotate_left
     ·intro w'
      go_simp
      with_reducible rfl
     rotate_left
     ·simp only [Act.put, List.setIfInBounds_toArray, List.set_cons_zero, List.set_cons_succ, i64_w, i32_w]
      rfl
     refine done_ (done_of HT_.out (by kernel_rfl)) ?_
     try go_wp2
     go_meet
     case rel => exact ⟨_, (true), (by first | rfl | (simp; done) | (simp [*]; done)), H', ⟨by first | omega | exact Nat.le_refl _⟩, ⟨S.r HO632.out⟩, ⟨S.r HO641.out⟩, ⟨S.b BK634.out⟩, ⟨S.b BK643.out⟩, ⟨by repeat (first | (with_reducible first | exact HB.out | apply below_alloc | apply pw_below_drewN | apply below_drew1 | refine below_set ?_ GE634.out | refine below_set ?_ GE643.out) | exact HB.out)⟩⟩
    ·rw [if_neg c25] at H
     have c25b0 : (t627 != t633) = false := by simpa using c25
     (try (have c25b1 : decide (t627 = t633) = true := by simpa using c25))
     (try (have c25b2 : (t627 == t633) = true := by simpa using c25))
     clear c25
     (first | rw [c25b0] | (simp only [i64_w, i32_w]; rw [c25b0]) | skip)
     replace H := Option.bind_eq_some_iff.mp H
     obtain ⟨t644, A280, H⟩ := H
     replace H : ((rubricref7_Same.f k t644 t630).bind fun t647 => (if t647 = true then (if (t636 != t642) = true then (rubriclaw7_SetNames.j0 k a2 true) else ((rubriclaw7_Of.f k t635).bind fun t648 => ((rubricref7_Same.f k t648 t639).bind fun t651 => (rubriclaw7_SetNames.j0 k a2 (!t651))))) else (rubriclaw7_SetNames.j0 k a2 true))) = some r := H
     have A28 := Aside0.mk A280
     clear A280
     replace H := Option.bind_eq_some_iff.mp H
     obtain ⟨t647, A290, H⟩ := H
     replace H : (if t647 = true then (if (t636 != t642) = true then (rubriclaw7_SetNames.j0 k a2 true) else ((rubriclaw7_Of.f k t635).bind fun t648 => ((rubricref7_Same.f k t648 t639).bind fun t651 => (rubriclaw7_SetNames.j0 k a2 (!t651))))) else (rubriclaw7_SetNames.j0 k a2 true)) = some r := H
     have A29 := Aside0.mk A290
     clear A290
     by_cases c30 : t647 = true
     ·subst c30
      have H1 : (if (t636 != t642) = true then (rubriclaw7_SetNames.j0 k a2 true) else ((rubriclaw7_Of.f k t635).bind fun t648 => ((rubricref7_Same.f k t648 t639).bind fun t651 => (rubriclaw7_SetNames.j0 k a2 (!t651))))) = some r := by rw [if_pos rfl] at H; exact H
      clear H
      have H := H1
      clear H1
      by_cases c31 : (t636 != t642) = true
      ·rw [if_pos c31] at H
       have c31b0 : (t636 != t642) = true := c31
       (try (have c31b1 : decide (t636 = t642) = false := by simpa using c31))
       (try (have c31b2 : (t636 == t642) = false := by simpa using c31))
       (try (have c31b3 : ¬ (t636 = t642) := by simpa using c31))
       clear c31
       have H' := Aside0.mk H
       clear H
       try go_wp2
       have n0_ : Aside0 (Kd.R k24 24 (w21.setCell ⟨gb643, 0, none⟩ (.slice Ao22 t639.length co22)) w.heap.size (fun k_ => some k_ ≠ (v637 : Value).ownBlock) v628 t626) := ⟨by (with_reducible repeat (first | apply Kd.R_alloc | apply Kd.R_drewN | apply Kd.R_drew)); exact Kd.R_mono (Kd.R_far (p := ⟨gb643, 0, none⟩) (Kd.R_types HO629.out BK643.out (by decide)) (fun _ hk => hk.2) (.slice Ao22 t639.length co22)) (fun _ hk => hk.1.2)⟩
       have n1_ : Aside0 (Kd.R k58 58 (w21.setCell ⟨gb643, 0, none⟩ (.slice Ao22 t639.length co22)) w.heap.size (fun k_ => some k_ ≠ (.slice Ao22 t639.length co22 : Value).ownBlock) (.slice Ao17 t630.length co17) t630) := ⟨by (with_reducible repeat (first | apply Kd.R_alloc | apply Kd.R_drewN | apply Kd.R_drew)); exact Kd.R_mono (Kd.R_far (p := ⟨gb643, 0, none⟩) (Kd.R_types HO632.out BK643.out (by decide)) (fun _ hk => hk.2) (.slice Ao22 t639.length co22)) (fun _ hk => hk.1.2)⟩
       have n2_ : Aside0 (Kd.R k24 24 (w21.setCell ⟨gb643, 0, none⟩ (.slice Ao22 t639.length co22)) w.heap.size (fun k_ => some k_ ≠ (v628 : Value).ownBlock) v637 t635) := ⟨by (with_reducible repeat (first | apply Kd.R_alloc | apply Kd.R_drewN | apply Kd.R_drew)); exact Kd.R_mono (Kd.R_far (p := ⟨gb643, 0, none⟩) (Kd.R_types HO638.out BK643.out (by decide)) (fun _ hk => hk.2) (.slice Ao22 t639.length co22)) (fun _ hk => hk.1.2)⟩
       have n3_ : Aside0 (Kd.R k58 58 (w21.setCell ⟨gb643, 0, none⟩ (.slice Ao22 t639.length co22)) w.heap.size (fun k_ => some k_ ≠ (.slice Ao17 t630.length co17 : Value).ownBlock) (.slice Ao22 t639.length co22) t639) := ⟨by (with_reducible repeat (first | apply Kd.R_alloc | apply Kd.R_drewN | apply Kd.R_drew)); exact Kd.R_mono (Kd.R_far (p := ⟨gb643, 0, none⟩) (Kd.R_types HO641.out BK643.out (by decide)) (fun _ hk => hk.2) (.slice Ao22 t639.length co22)) (fun _ hk => hk.1.2)⟩
       have n4_ : Aside0 ((w21.setCell ⟨gb643, 0, none⟩ (.slice Ao22 t639.length co22)).heap[gb634]? = some (.cells #[.slice Ao17 t630.length co17] 38 (0, 0))) := ⟨by (with_reducible repeat (first | refine blk_drewN ?_ _ | refine blk_drew ?_ | refine blk_alloc ?_ _)); refine blk_far ?_ NB634_643.out _; (with_reducible repeat (first | refine blk_drewN ?_ _ | refine blk_drew ?_ | refine blk_alloc ?_ _)); exact BK634.out⟩
       have n5_ : Aside0 ((w21.setCell ⟨gb643, 0, none⟩ (.slice Ao22 t639.length co22)).heap[gb643]? = some (.cells #[.slice Ao22 t639.length co22] 38 (0, 0))) := ⟨by (with_reducible repeat (first | refine blk_drewN ?_ _ | refine blk_drew ?_ | refine blk_alloc ?_ _)); refine blk_put (cs := #[.slice none 0 0]) ?_ 0 _ rfl; (with_reducible repeat (first | refine blk_drewN ?_ _ | refine blk_drew ?_ | refine blk_alloc ?_ _)); exact BK643.out⟩
       have n6_ : Aside0 (Below w.heap.size w (w21.setCell ⟨gb643, 0, none⟩ (.slice Ao22 t639.length co22))) := ⟨by repeat (first | (with_reducible first | exact HB.out | apply below_alloc | apply pw_below_drewN | apply below_drew1 | refine below_set ?_ GE634.out | refine below_set ?_ GE643.out) | exact HB.out)⟩
       (try clear HO629)
       (try clear HO632)
       (try clear HO638)
       (try clear HO641)
       (try clear BK634)
       (try clear BK643)
       (try clear HB)
       generalize (w21.setCell ⟨gb643, 0, none⟩ (.slice Ao22 t639.length co22)) = w32 at n0_ n1_ n2_ n3_ n4_ n5_ n6_ ⊢
       have HO629 := n0_
       have HO632 := n1_
       have HO638 := n2_
       have HO641 := n3_
       have BK634 := n4_
       have BK643 := n5_
       have HB := n6_
       clear n0_ n1_ n2_ n3_ n4_ n5_ n6_
       have n0_ := Aside0.mk (Kd.R_drew HO629.out)
       have n1_ := Aside0.mk (Kd.R_drew HO632.out)
       have n2_ := Aside0.mk (Kd.R_drew HO638.out)
       have n3_ := Aside0.mk (Kd.R_drew HO641.out)
       have n4_ := Aside0.mk (blk_drew BK634.out)
       have n5_ := Aside0.mk (blk_drew BK643.out)
       have n6_ := Aside0.mk (below_drew1 HB.out)
       clear HO629
       clear HO632
       clear HO638
       clear HO641
       clear BK634
       clear BK643
       clear HB
       have HO629 := n0_
       have HO632 := n1_
       have HO638 := n2_
       have HO641 := n3_
       have BK634 := n4_
       have BK643 := n5_
       have HB := n6_
       clear n0_ n1_ n2_ n3_ n4_ n5_ n6_
       obtain ⟨Ao34, co34, eo34⟩ := Kd.R_slice HO629.out
       (first | subst eo34 | (injection eo34 with f1_ f2_ f3_; have f4_ := f1_.symm; have f5_ := f3_.symm; clear f1_ f2_ f3_; subst f4_; subst f5_))
       refine start_ (n := 22) (S := fun w' => w'.cell? ⟨gb634, 0, none⟩ = some (.slice Ao17 t630.length co17)) (ds := []) #[false, false, false, false, false, false, false, false, false, false, false, false, false, false, false, false, false, false, false, false, false, false] (by kernel_rfl) rfl rfl ((blk_cell BK634.out 0).trans rfl) (fun hHeld => ?_); refine with_tabW rubriclaw7_SetNames.tab9 rubriclaw7_SetNames.bits9 (fun HT_ HW_ => ?_)
       generalize w32.drew = w33 at HO629 HO632 HO638 HO641 BK634 BK643 HB hHeld ⊢
       refine pure_ (i := 0) (N := some 47) (v := ?_) (a' := ?_) #[true, false, false, false, false, false, false, false, false, false, false, false, false, false, false, false, false, false, false, false, false, false] rfl rfl (any_of HT_.out (by kernel_rfl)) (fun _ _ _ h => h) (Or.inl ⟨by rfl, ?_⟩) ?_ ?_
       rotate_left
       ·intro w'
        go_simp
        with_reducible rfl
       rotate_left
       ·simp only [Act.put, List.setIfInBounds_toArray, List.set_cons_zero, List.set_cons_succ, i64_w, i32_w]
        rfl
       refine pure_ (i := 1) (N := some 48) (v := ?_) (a' := ?_) #[true, true, false, false, false, false, false, false, false, false, false, false, false, false, false, false, false, false, false, false, false, false] rfl rfl (any_of HT_.out (by kernel_rfl)) (fun _ _ _ h => h) (Or.inl ⟨by rfl, ?_⟩) ?_ ?_
       rotate_left
       ·intro w'
        go_simp
        with_reducible rfl
       rotate_left
       ·simp only [Act.put, List.setIfInBounds_toArray, List.set_cons_zero, List.set_cons_succ, i64_w, i32_w]
        rfl
       refine pure_ (i := 2) (N := some 49) (v := ?_) (a' := ?_) #[true, true, true, false, false, false, false, false, false, false, false, false, false, false, false, false, false, false, false, false, false, false] rfl rfl (any_of HT_.out (by kernel_rfl)) (fun _ _ _ h => h) (Or.inl ⟨by rfl, ?_⟩) ?_ ?_
       rotate_left
       ·intro w'
        go_simp
        with_reducible rfl
       rotate_left
       ·simp only [Act.put, List.setIfInBounds_toArray, List.set_cons_zero, List.set_cons_succ, i64_w, i32_w]
        rfl
       refine pure_ (i := 3) (N := some 50) (v := ?_) (a' := ?_) #[true, true, true, true, false, false, false, false, false, false, false, false, false, false, false, false, false, false, false, false, false, false] rfl rfl (any_of HT_.out (by kernel_rfl)) (fun _ _ _ h => h) (Or.inl ⟨by rfl, ?_⟩) ?_ ?_
       rotate_left
       ·intro w'
        go_simp
        with_reducible rfl
       rotate_left
       ·simp only [Act.put, List.setIfInBounds_toArray, List.set_cons_zero, List.set_cons_succ, i64_w, i32_w]
        rfl
       refine pure_ (i := 4) (N := some 51) (v := ?_) (a' := ?_) #[true, true, true, true, true, false, false, false, false, false, false, false, false, false, false, false, false, false, false, false, false, false] rfl rfl (any_of HT_.out (by kernel_rfl)) (fun _ _ _ h => h) (Or.inl ⟨by rfl, ?_⟩) ?_ ?_
       rotate_left
       ·intro w'
        go_simp
        with_reducible rfl
       rotate_left
       ·simp only [Act.put, List.setIfInBounds_toArray, List.set_cons_zero, List.set_cons_succ, i64_w, i32_w]
        rfl
       refine take_ (i := 6) (N := some 53) (v := ?_) (a' := ?_) #[true, true, true, true, true, false, true, false, false, false, false, false, false, false, false, false, false, false, false, false, false, false] rfl rfl (take_ofW HT_.out HW_.out (by kernel_rfl)) (fun _ _ _ h => h) (Or.inl ⟨by rfl, ?_⟩) hHeld ?_ ?_
       rotate_left
       ·intro w' s0
        go_simp
        with_reducible rfl
       rotate_left
       ·simp only [Act.put, List.setIfInBounds_toArray, List.set_cons_zero, List.set_cons_succ, i64_w, i32_w]
        rfl
       refine one_ (i := 5) (N := some 52) #[true, true, true, true, true, true, true, false, false, false, false, false, false, false, false, false, false, false, false, false, false, false] rfl rfl (one_of HT_.out (by kernel_rfl)) (by decide) (fun K hK => ?_)
       refine goes_ Try.func19 (by kernel_rfl) rfl #[.slice Ao34 t626.length co34] (by rfl) rfl rfl (by (try simp only [List.map_toArray, List.map_cons, List.map_nil]); first | done | rfl | (simp only [List.length_drop, List.length_take]; rfl)) ?_
       with_reducible refine (rubriclaw7_Of.calls k _ _ t626 t644 _ ?side1 ?side2 A28.out).mono ?_
       (case side1 => repeat (first | exact (Kd.R_reads' HO629.out).2.2 | (with_reducible refine Kd.C_alloc ?_ _) | (with_reducible refine Kd.C_drewN ?_ _) | (with_reducible refine Kd.C_drew ?_)))
       (case side2 => exact (Kd.R_reads' HO629.out).2.1)
       rintro e w35 ⟨v645, rfl, ho0, hb⟩
       refine ⟨_, rfl, ?_⟩
       have n0_ := Aside0.mk (Kd.R_below (S.r HO629.out) hb)
       have n1_ := Aside0.mk (Kd.R_elder' (S.r HO632.out) (Kd.R_base ho0) hb)
       have n2_ := Aside0.mk (Kd.R_below (S.r HO638.out) hb)
       have n3_ := Aside0.mk (Kd.R_elder' (S.r HO641.out) (Kd.R_base ho0) hb)
       have n4_ := Aside0.mk (Kd.R_lower (Kd.R_new' (Kd.R_new' ho0 (Kd.R_lt (S.r HO632.out))) (Kd.R_lt (S.r HO641.out))) (below_size (by repeat (first | (with_reducible first | exact HB.out | apply below_alloc | apply pw_below_drewN | apply below_drew1 | refine below_set ?_ GE634.out | refine below_set ?_ GE643.out) | exact HB.out))))
       have n5_ := Aside0.mk (blk_below (g := gb634) (o := .cells #[.slice Ao17 t630.length co17] 38 (0, 0)) (S.b BK634.out) hb)
       have n6_ := Aside0.mk (blk_below (g := gb643) (o := .cells #[.slice Ao22 t639.length co22] 38 (0, 0)) (S.b BK643.out) hb)
       have n7_ := Aside0.mk (below_step (by repeat (first | (with_reducible first | exact HB.out | apply below_alloc | apply pw_below_drewN | apply below_drew1 | refine below_set ?_ GE634.out | refine below_set ?_ GE643.out) | exact HB.out)) hb)
       clear HO629
       clear HO632
       clear HO638
       clear HO641
       clear BK634
       clear BK643
       clear HB
       have HO629 := n0_
       have HO632 := n1_
       have HO638 := n2_
       have HO641 := n3_
       have HO646 := n4_
       have BK634 := n5_
       have BK643 := n6_
       have HB := n7_
       clear n0_ n1_ n2_ n3_ n4_ n5_ n6_ n7_
       (try clear hb)
       (try clear hb2)
       (try clear hk)
       (try clear hi)
       (try clear ho0)
       obtain ⟨Ao36, co36, eo36⟩ := Kd.R_slice HO646.out
       (first | subst eo36 | (injection eo36 with f1_ f2_ f3_; have f4_ := f1_.symm; have f5_ := f3_.symm; clear f1_ f2_ f3_; subst f4_; subst f5_))
       refine hK.out _ _ ((blk_cell BK634.out 0).trans rfl) (fun hHeld => ?_)
       clear hK K
       refine norm_ (a' := ?_) ?_ ?_
       rotate_left
       ·show Act.put _ (some 52) _ = _
        simp only [Act.put, List.setIfInBounds_toArray, List.set_cons_zero, List.set_cons_succ, i64_w, i32_w]
        rfl
       refine one_ (i := 7) (N := some 54) #[true, true, true, true, true, true, true, true, false, false, false, false, false, false, false, false, false, false, false, false, false, false] rfl rfl (one_of HT_.out (by kernel_rfl)) (by decide) (fun K hK => ?_)
       refine goes_ Try.func18 (by kernel_rfl) rfl #[.agg #[.slice Ao36 t644.length co36], .agg #[.slice Ao17 t630.length co17]] (by rfl) rfl rfl (by (try simp only [List.map_toArray, List.map_cons, List.map_nil]); first | done | rfl | (simp only [List.length_drop, List.length_take]; rfl)) ?_
       with_reducible refine (rubricref7_Same.calls k _ _ t644 _ _ t630 true _ ?side1 ?side2 ?side3 ?side4 A29.out).mono ?_
       (case side1 => repeat (first | exact (Kd.R_reads' HO646.out).2.2 | (with_reducible refine Kd.C_alloc ?_ _) | (with_reducible refine Kd.C_drewN ?_ _) | (with_reducible refine Kd.C_drew ?_)))
       (case side2 => exact (Kd.R_reads' HO646.out).2.1)
       (case side3 => repeat (first | exact (Kd.R_reads' HO632.out).2.2 | (with_reducible refine Kd.C_alloc ?_ _) | (with_reducible refine Kd.C_drewN ?_ _) | (with_reducible refine Kd.C_drew ?_)))
       (case side4 => exact (Kd.R_reads' HO632.out).2.1)
       rintro e w37 ⟨rfl, hb⟩
       refine ⟨_, rfl, ?_⟩
       have n0_ := Aside0.mk (Kd.R_below (S.r HO629.out) hb)
       have n1_ := Aside0.mk (Kd.R_below (S.r HO632.out) hb)
       have n2_ := Aside0.mk (Kd.R_below (S.r HO638.out) hb)
       have n3_ := Aside0.mk (Kd.R_below (S.r HO641.out) hb)
       have n4_ := Aside0.mk (Kd.R_below (S.r HO646.out) hb)
       have n5_ := Aside0.mk (blk_below (g := gb634) (o := .cells #[.slice Ao17 t630.length co17] 38 (0, 0)) (S.b BK634.out) hb)
       have n6_ := Aside0.mk (blk_below (g := gb643) (o := .cells #[.slice Ao22 t639.length co22] 38 (0, 0)) (S.b BK643.out) hb)
       have n7_ := Aside0.mk (below_step (by repeat (first | (with_reducible first | exact HB.out | apply below_alloc | apply pw_below_drewN | apply below_drew1 | refine below_set ?_ GE634.out | refine below_set ?_ GE643.out) | exact HB.out)) hb)
       clear HO629
       clear HO632
       clear HO638
       clear HO641
       clear HO646
       clear BK634
       clear BK643
       clear HB
       have HO629 := n0_
       have HO632 := n1_
       have HO638 := n2_
       have HO641 := n3_
       have HO646 := n4_
       have BK634 := n5_
       have BK643 := n6_
       have HB := n7_
       clear n0_ n1_ n2_ n3_ n4_ n5_ n6_ n7_
       (try clear hb)
       (try clear hb2)
       (try clear hk)
       (try clear hi)
       refine hK.out _ _ ((blk_cell BK634.out 0).trans rfl) (fun hHeld => ?_)
       clear hK K
       refine norm_ (a' := ?_) ?_ ?_
       rotate_left
       ·show Act.put _ (some 54) _ = _
        simp only [Act.put, List.setIfInBounds_toArray, List.set_cons_zero, List.set_cons_succ, i64_w, i32_w]
        rfl
       refine pure_ (i := 8) (N := some 55) (v := ?_) (a' := ?_) #[true, true, true, true, true, true, true, true, true, false, false, false, false, false, false, false, false, false, false, false, false, false] rfl rfl (any_of HT_.out (by kernel_rfl)) (fun _ _ _ h => h) (Or.inl ⟨by rfl, ?_⟩) ?_ ?_
       rotate_left
       ·intro w'
        go_simp
        with_reducible rfl
       rotate_left
       ·simp only [Act.put, List.setIfInBounds_toArray, List.set_cons_zero, List.set_cons_succ, i64_w, i32_w]
        rfl
       refine pure_ (i := 9) (N := some 56) (v := ?_) (a' := ?_) #[true, true, true, true, true, true, true, true, true, true, false, false, false, false, false, false, false, false, false, false, false, false] rfl rfl (any_of HT_.out (by kernel_rfl)) (fun _ _ _ h => h) (Or.inl ⟨by rfl, ?_⟩) ?_ ?_
       rotate_left
       ·intro w'
        go_simp
        with_reducible rfl
       rotate_left
       ·simp only [Act.put, List.setIfInBounds_toArray, List.set_cons_zero, List.set_cons_succ, i64_w, i32_w]
        rfl
       refine pure_ (i := 10) (N := some 57) (v := ?_) (a' := ?_) #[true, true, true, true, true, true, true, true, true, true, true, false, false, false, false, false, false, false, false, false, false, false] rfl rfl (any_of HT_.out (by kernel_rfl)) (fun _ _ _ h => h) (Or.inl ⟨by rfl, ?_⟩) ?_ ?_
       rotate_left
       ·intro w'
        go_simp
        with_reducible rfl
       rotate_left
       ·simp only [Act.put, List.setIfInBounds_toArray, List.set_cons_zero, List.set_cons_succ, i64_w, i32_w]
        rfl
       refine pure_ (i := 11) (N := some 58) (v := ?_) (a' := ?_) #[true, true, true, true, true, true, true, true, true, true, true, true, false, false, false, false, false, false, false, false, false, false] rfl rfl (any_of HT_.out (by kernel_rfl)) (fun _ _ _ h => h) (Or.inl ⟨by rfl, ?_⟩) ?_ ?_
       rotate_left
       ·intro w'
        go_simp
        with_reducible rfl
       rotate_left
       ·simp only [Act.put, List.setIfInBounds_toArray, List.set_cons_zero, List.set_cons_succ, i64_w, i32_w]
        rfl
       refine pure_ (i := 12) (N := some 59) (v := ?_) (a' := ?_) #[true, true, true, true, true, true, true, true, true, true, true, true, true, false, false, false, false, false, false, false, false, false] rfl rfl (any_of HT_.out (by kernel_rfl)) (fun _ _ _ h => h) (Or.inl ⟨by rfl, ?_⟩) ?_ ?_
       rotate_left
       ·intro w'
        go_simp
        with_reducible rfl
       rotate_left
       ·simp only [Act.put, List.setIfInBounds_toArray, List.set_cons_zero, List.set_cons_succ, i64_w, i32_w]
        rfl
       refine pure_ (i := 13) (N := some 60) (v := ?_) (a' := ?_) #[true, true, true, true, true, true, true, true, true, true, true, true, true, true, false, false, false, false, false, false, false, false] rfl rfl (any_of HT_.out (by kernel_rfl)) (fun _ _ _ h => h) (Or.inl ⟨by rfl, ?_⟩) ?_ ?_
       rotate_left
       ·intro w'
        go_simp
        with_reducible rfl
       rotate_left
       ·simp only [Act.put, List.setIfInBounds_toArray, List.set_cons_zero, List.set_cons_succ, i64_w, i32_w]
        rfl
       refine pure_ (i := 14) (N := some 61) (v := ?_) (a' := ?_) #[true, true, true, true, true, true, true, true, true, true, true, true, true, true, true, false, false, false, false, false, false, false] rfl rfl (any_of HT_.out (by kernel_rfl)) (fun _ _ _ h => h) (Or.inl ⟨by rfl, ?_⟩) ?_ ?_
       rotate_left
       ·intro w'
        go_simp
        with_reducible rfl
       rotate_left
       ·simp only [Act.put, List.setIfInBounds_toArray, List.set_cons_zero, List.set_cons_succ, i64_w, i32_w]
        rfl
       refine pure_ (i := 15) (N := some 62) (v := ?_) (a' := ?_) #[true, true, true, true, true, true, true, true, true, true, true, true, true, true, true, true, false, false, false, false, false, false] rfl rfl (any_of HT_.out (by kernel_rfl)) (fun _ _ _ h => h) (Or.inl ⟨by rfl, ?_⟩) ?_ ?_
       rotate_left
       ·intro w'
        go_simp
        with_reducible rfl
       rotate_left
       ·simp only [Act.put, List.setIfInBounds_toArray, List.set_cons_zero, List.set_cons_succ, i64_w, i32_w]
        rfl
       refine pure_ (i := 16) (N := some 63) (v := undef) (a' := ?_) #[true, true, true, true, true, true, true, true, true, true, true, true, true, true, true, true, true, false, false, false, false, false] rfl rfl (any_of HT_.out (by kernel_rfl)) (fun _ _ _ h => h) (Or.inr ⟨by rfl, rfl⟩) ?_ ?_
       rotate_left
       ·simp only [Act.put, List.setIfInBounds_toArray, List.set_cons_zero, List.set_cons_succ, i64_w, i32_w]
        rfl
       refine pure_ (i := 17) (N := some 64) (v := undef) (a' := ?_) #[true, true, true, true, true, true, true, true, true, true, true, true, true, true, true, true, true, true, false, false, false, false] rfl rfl (any_of HT_.out (by kernel_rfl)) (fun _ _ _ h => h) (Or.inr ⟨by rfl, rfl⟩) ?_ ?_
       rotate_left
       ·simp only [Act.put, List.setIfInBounds_toArray, List.set_cons_zero, List.set_cons_succ, i64_w, i32_w]
        rfl
       refine pure_ (i := 18) (N := some 65) (v := undef) (a' := ?_) #[true, true, true, true, true, true, true, true, true, true, true, true, true, true, true, true, true, true, true, false, false, false] rfl rfl (any_of HT_.out (by kernel_rfl)) (fun _ _ _ h => h) (Or.inr ⟨by rfl, rfl⟩) ?_ ?_
       rotate_left
       ·simp only [Act.put, List.setIfInBounds_toArray, List.set_cons_zero, List.set_cons_succ, i64_w, i32_w]
        rfl
       refine pure_ (i := 19) (N := some 66) (v := undef) (a' := ?_) #[true, true, true, true, true, true, true, true, true, true, true, true, true, true, true, true, true, true, true, true, false, false] rfl rfl (any_of HT_.out (by kernel_rfl)) (fun _ _ _ h => h) (Or.inr ⟨by rfl, rfl⟩) ?_ ?_
       rotate_left
       ·simp only [Act.put, List.setIfInBounds_toArray, List.set_cons_zero, List.set_cons_succ, i64_w, i32_w]
        rfl
       refine pure_ (i := 20) (N := some 67) (v := undef) (a' := ?_) #[true, true, true, true, true, true, true, true, true, true, true, true, true, true, true, true, true, true, true, true, true, false] rfl rfl (any_of HT_.out (by kernel_rfl)) (fun _ _ _ h => h) (Or.inr ⟨by rfl, rfl⟩) ?_ ?_
       rotate_left
       ·simp only [Act.put, List.setIfInBounds_toArray, List.set_cons_zero, List.set_cons_succ, i64_w, i32_w]
        rfl
       refine pure_ (i := 21) (N := some 68) (v := ?_) (a' := ?_) #[true, true, true, true, true, true, true, true, true, true, true, true, true, true, true, true, true, true, true, true, true, true] rfl rfl (any_of HT_.out (by kernel_rfl)) (fun _ _ _ h => h) (Or.inl ⟨by rfl, ?_⟩) ?_ ?_
       rotate_left
       ·intro w'
        go_simp
        with_reducible rfl
       rotate_left
       ·simp only [Act.put, List.setIfInBounds_toArray, List.set_cons_zero, List.set_cons_succ, i64_w, i32_w]
        rfl
       refine done_ (done_of HT_.out (by kernel_rfl)) ?_
       try go_wp2
       go_meet
       case rel => exact ⟨_, (true), (by first | rfl | (simp; done) | (simp [*]; done)), H', ⟨by first | omega | exact Nat.le_refl _⟩, ⟨by (with_reducible repeat (first | apply Kd.R_alloc | apply Kd.R_drewN | apply Kd.R_drew)); exact Kd.R_mono HO632.out (fun _ hk => hk.1)⟩, ⟨by (with_reducible repeat (first | apply Kd.R_alloc | apply Kd.R_drewN | apply Kd.R_drew)); exact Kd.R_mono HO641.out (fun _ hk => hk.1)⟩, ⟨S.b BK634.out⟩, ⟨S.b BK643.out⟩, ⟨by repeat (first | (with_reducible first | exact HB.out | apply below_alloc | apply pw_below_drewN | apply below_drew1 | refine below_set ?_ GE634.out | refine below_set ?_ GE643.out) | exact HB.out)⟩⟩
      ·rw [if_neg c31] at H
       have c31b0 : (t636 != t642) = false := by simpa using c31
       (try (have c31b1 : decide (t636 = t642) = true := by simpa using c31))
       (try (have c31b2 : (t636 == t642) = true := by simpa using c31))
       clear c31
       replace H := Option.bind_eq_some_iff.mp H
       obtain ⟨t648, A380, H⟩ := H
       replace H : ((rubricref7_Same.f k t648 t639).bind fun t651 => (rubriclaw7_SetNames.j0 k a2 (!t651))) = some r := H
       have A38 := Aside0.mk A380
       clear A380
       replace H := Option.bind_eq_some_iff.mp H
       obtain ⟨t651, A390, H⟩ := H
       replace H : (rubriclaw7_SetNames.j0 k a2 (!t651)) = some r := H
       have A39 := Aside0.mk A390
       clear A390
       have H' := Aside0.mk H
       clear H
       try go_wp2
       have n0_ : Aside0 (Kd.R k24 24 (w21.setCell ⟨gb643, 0, none⟩ (.slice Ao22 t639.length co22)) w.heap.size (fun k_ => some k_ ≠ (v637 : Value).ownBlock) v628 t626) := ⟨by (with_reducible repeat (first | apply Kd.R_alloc | apply Kd.R_drewN | apply Kd.R_drew)); exact Kd.R_mono (Kd.R_far (p := ⟨gb643, 0, none⟩) (Kd.R_types HO629.out BK643.out (by decide)) (fun _ hk => hk.2) (.slice Ao22 t639.length co22)) (fun _ hk => hk.1.2)⟩
       have n1_ : Aside0 (Kd.R k58 58 (w21.setCell ⟨gb643, 0, none⟩ (.slice Ao22 t639.length co22)) w.heap.size (fun k_ => some k_ ≠ (.slice Ao22 t639.length co22 : Value).ownBlock) (.slice Ao17 t630.length co17) t630) := ⟨by (with_reducible repeat (first | apply Kd.R_alloc | apply Kd.R_drewN | apply Kd.R_drew)); exact Kd.R_mono (Kd.R_far (p := ⟨gb643, 0, none⟩) (Kd.R_types HO632.out BK643.out (by decide)) (fun _ hk => hk.2) (.slice Ao22 t639.length co22)) (fun _ hk => hk.1.2)⟩
       have n2_ : Aside0 (Kd.R k24 24 (w21.setCell ⟨gb643, 0, none⟩ (.slice Ao22 t639.length co22)) w.heap.size (fun k_ => some k_ ≠ (v628 : Value).ownBlock) v637 t635) := ⟨by (with_reducible repeat (first | apply Kd.R_alloc | apply Kd.R_drewN | apply Kd.R_drew)); exact Kd.R_mono (Kd.R_far (p := ⟨gb643, 0, none⟩) (Kd.R_types HO638.out BK643.out (by decide)) (fun _ hk => hk.2) (.slice Ao22 t639.length co22)) (fun _ hk => hk.1.2)⟩
       have n3_ : Aside0 (Kd.R k58 58 (w21.setCell ⟨gb643, 0, none⟩ (.slice Ao22 t639.length co22)) w.heap.size (fun k_ => some k_ ≠ (.slice Ao17 t630.length co17 : Value).ownBlock) (.slice Ao22 t639.length co22) t639) := ⟨by (with_reducible repeat (first | apply Kd.R_alloc | apply Kd.R_drewN | apply Kd.R_drew)); exact Kd.R_mono (Kd.R_far (p := ⟨gb643, 0, none⟩) (Kd.R_types HO641.out BK643.out (by decide)) (fun _ hk => hk.2) (.slice Ao22 t639.length co22)) (fun _ hk => hk.1.2)⟩
       have n4_ : Aside0 ((w21.setCell ⟨gb643, 0, none⟩ (.slice Ao22 t639.length co22)).heap[gb634]? = some (.cells #[.slice Ao17 t630.length co17] 38 (0, 0))) := ⟨by (with_reducible repeat (first | refine blk_drewN ?_ _ | refine blk_drew ?_ | refine blk_alloc ?_ _)); refine blk_far ?_ NB634_643.out _; (with_reducible repeat (first | refine blk_drewN ?_ _ | refine blk_drew ?_ | refine blk_alloc ?_ _)); exact BK634.out⟩
       have n5_ : Aside0 ((w21.setCell ⟨gb643, 0, none⟩ (.slice Ao22 t639.length co22)).heap[gb643]? = some (.cells #[.slice Ao22 t639.length co22] 38 (0, 0))) := ⟨by (with_reducible repeat (first | refine blk_drewN ?_ _ | refine blk_drew ?_ | refine blk_alloc ?_ _)); refine blk_put (cs := #[.slice none 0 0]) ?_ 0 _ rfl; (with_reducible repeat (first | refine blk_drewN ?_ _ | refine blk_drew ?_ | refine blk_alloc ?_ _)); exact BK643.out⟩
       have n6_ : Aside0 (Below w.heap.size w (w21.setCell ⟨gb643, 0, none⟩ (.slice Ao22 t639.length co22))) := ⟨by repeat (first | (with_reducible first | exact HB.out | apply below_alloc | apply pw_below_drewN | apply below_drew1 | refine below_set ?_ GE634.out | refine below_set ?_ GE643.out) | exact HB.out)⟩
       (try clear HO629)
       (try clear HO632)
       (try clear HO638)
       (try clear HO641)
       (try clear BK634)
       (try clear BK643)
       (try clear HB)
       generalize (w21.setCell ⟨gb643, 0, none⟩ (.slice Ao22 t639.length co22)) = w40 at n0_ n1_ n2_ n3_ n4_ n5_ n6_ ⊢
       have HO629 := n0_
       have HO632 := n1_
       have HO638 := n2_
       have HO641 := n3_
       have BK634 := n4_
       have BK643 := n5_
       have HB := n6_
       clear n0_ n1_ n2_ n3_ n4_ n5_ n6_
       have n0_ := Aside0.mk (Kd.R_drew HO629.out)
       have n1_ := Aside0.mk (Kd.R_drew HO632.out)
       have n2_ := Aside0.mk (Kd.R_drew HO638.out)
       have n3_ := Aside0.mk (Kd.R_drew HO641.out)
       have n4_ := Aside0.mk (blk_drew BK634.out)
       have n5_ := Aside0.mk (blk_drew BK643.out)
       have n6_ := Aside0.mk (below_drew1 HB.out)
       clear HO629
       clear HO632
       clear HO638
       clear HO641
       clear BK634
       clear BK643
       clear HB
       have HO629 := n0_
       have HO632 := n1_
       have HO638 := n2_
       have HO641 := n3_
       have BK634 := n4_
       have BK643 := n5_
       have HB := n6_
       clear n0_ n1_ n2_ n3_ n4_ n5_ n6_
       obtain ⟨Ao42, co42, eo42⟩ := Kd.R_slice HO629.out
       (first | subst eo42 | (injection eo42 with f1_ f2_ f3_; have f4_ := f1_.symm; have f5_ := f3_.symm; clear f1_ f2_ f3_; subst f4_; subst f5_))
       refine start_ (n := 22) (S := fun w' => w'.cell? ⟨gb634, 0, none⟩ = some (.slice Ao17 t630.length co17) ∧ w'.cell? ⟨gb643, 0, none⟩ = some (.slice Ao22 t639.length co22)) (ds := []) #[false, false, false, false, false, false, false, false, false, false, false, false, false, false, false, false, false, false, false, false, false, false] (by kernel_rfl) rfl rfl ⟨(blk_cell BK634.out 0).trans rfl, (blk_cell BK643.out 0).trans rfl⟩ (fun hHeld => ?_); refine with_tabW rubriclaw7_SetNames.tab9 rubriclaw7_SetNames.bits9 (fun HT_ HW_ => ?_)
       generalize w40.drew = w41 at HO629 HO632 HO638 HO641 BK634 BK643 HB hHeld ⊢
       refine pure_ (i := 0) (N := some 47) (v := ?_) (a' := ?_) #[true, false, false, false, false, false, false, false, false, false, false, false, false, false, false, false, false, false, false, false, false, false] rfl rfl (any_of HT_.out (by kernel_rfl)) (fun _ _ _ h => h) (Or.inl ⟨by rfl, ?_⟩) ?_ ?_
       rotate_left
       ·intro w'
        go_simp
        with_reducible rfl
       rotate_left
       ·simp only [Act.put, List.setIfInBounds_toArray, List.set_cons_zero, List.set_cons_succ, i64_w, i32_w]
        rfl
       refine pure_ (i := 1) (N := some 48) (v := ?_) (a' := ?_) #[true, true, false, false, false, false, false, false, false, false, false, false, false, false, false, false, false, false, false, false, false, false] rfl rfl (any_of HT_.out (by kernel_rfl)) (fun _ _ _ h => h) (Or.inl ⟨by rfl, ?_⟩) ?_ ?_
       rotate_left
       ·intro w'
        go_simp
        with_reducible rfl
       rotate_left
       ·simp only [Act.put, List.setIfInBounds_toArray, List.set_cons_zero, List.set_cons_succ, i64_w, i32_w]
        rfl
       refine pure_ (i := 2) (N := some 49) (v := ?_) (a' := ?_) #[true, true, true, false, false, false, false, false, false, false, false, false, false, false, false, false, false, false, false, false, false, false] rfl rfl (any_of HT_.out (by kernel_rfl)) (fun _ _ _ h => h) (Or.inl ⟨by rfl, ?_⟩) ?_ ?_
       rotate_left
       ·intro w'
        go_simp
        with_reducible rfl
       rotate_left
       ·simp only [Act.put, List.setIfInBounds_toArray, List.set_cons_zero, List.set_cons_succ, i64_w, i32_w]
        rfl
       refine pure_ (i := 3) (N := some 50) (v := ?_) (a' := ?_) #[true, true, true, true, false, false, false, false, false, false, false, false, false, false, false, false, false, false, false, false, false, false] rfl rfl (any_of HT_.out (by kernel_rfl)) (fun _ _ _ h => h) (Or.inl ⟨by rfl, ?_⟩) ?_ ?_
       rotate_left
       ·intro w'
        go_simp
        with_reducible rfl
       rotate_left
       ·simp only [Act.put, List.setIfInBounds_toArray, List.set_cons_zero, List.set_cons_succ, i64_w, i32_w]
        rfl
       refine pure_ (i := 4) (N := some 51) (v := ?_) (a' := ?_) #[true, true, true, true, true, false, false, false, false, false, false, false, false, false, false, false, false, false, false, false, false, false] rfl rfl (any_of HT_.out (by kernel_rfl)) (fun _ _ _ h => h) (Or.inl ⟨by rfl, ?_⟩) ?_ ?_
       rotate_left
       ·intro w'
        go_simp
        with_reducible rfl
       rotate_left
       ·simp only [Act.put, List.setIfInBounds_toArray, List.set_cons_zero, List.set_cons_succ, i64_w, i32_w]
        rfl
       refine take_ (i := 6) (N := some 53) (v := ?_) (a' := ?_) #[true, true, true, true, true, false, true, false, false, false, false, false, false, false, false, false, false, false, false, false, false, false] rfl rfl (take_ofW HT_.out HW_.out (by kernel_rfl)) (fun _ _ _ h => h) (Or.inl ⟨by rfl, ?_⟩) hHeld ?_ ?_
       rotate_left
       ·rintro w' ⟨s0, s1⟩
        go_simp
        with_reducible rfl
       rotate_left
       ·simp only [Act.put, List.setIfInBounds_toArray, List.set_cons_zero, List.set_cons_succ, i64_w, i32_w]
        rfl
       refine one_ (i := 5) (N := some 52) #[true, true, true, true, true, true, true, false, false, false, false, false, false, false, false, false, false, false, false, false, false, false] rfl rfl (one_of HT_.out (by kernel_rfl)) (by decide) (fun K hK => ?_)
       refine goes_ Try.func19 (by kernel_rfl) rfl #[.slice Ao42 t626.length co42] (by rfl) rfl rfl (by (try simp only [List.map_toArray, List.map_cons, List.map_nil]); first | done | rfl | (simp only [List.length_drop, List.length_take]; rfl)) ?_
       with_reducible refine (rubriclaw7_Of.calls k _ _ t626 t644 _ ?side1 ?side2 A28.out).mono ?_
       (case side1 => repeat (first | exact (Kd.R_reads' HO629.out).2.2 | (with_reducible refine Kd.C_alloc ?_ _) | (with_reducible refine Kd.C_drewN ?_ _) | (with_reducible refine Kd.C_drew ?_)))
       (case side2 => exact (Kd.R_reads' HO629.out).2.1)
       rintro e w43 ⟨v645, rfl, ho0, hb⟩
       refine ⟨_, rfl, ?_⟩
       have n0_ := Aside0.mk (Kd.R_below (S.r HO629.out) hb)
       have n1_ := Aside0.mk (Kd.R_elder' (S.r HO632.out) (Kd.R_base ho0) hb)
       have n2_ := Aside0.mk (Kd.R_below (S.r HO638.out) hb)
       have n3_ := Aside0.mk (Kd.R_elder' (S.r HO641.out) (Kd.R_base ho0) hb)
       have n4_ := Aside0.mk (Kd.R_lower (Kd.R_new' (Kd.R_new' ho0 (Kd.R_lt (S.r HO632.out))) (Kd.R_lt (S.r HO641.out))) (below_size (by repeat (first | (with_reducible first | exact HB.out | apply below_alloc | apply pw_below_drewN | apply below_drew1 | refine below_set ?_ GE634.out | refine below_set ?_ GE643.out) | exact HB.out))))
       have n5_ := Aside0.mk (blk_below (g := gb634) (o := .cells #[.slice Ao17 t630.length co17] 38 (0, 0)) (S.b BK634.out) hb)
       have n6_ := Aside0.mk (blk_below (g := gb643) (o := .cells #[.slice Ao22 t639.length co22] 38 (0, 0)) (S.b BK643.out) hb)
       have n7_ := Aside0.mk (below_step (by repeat (first | (with_reducible first | exact HB.out | apply below_alloc | apply pw_below_drewN | apply below_drew1 | refine below_set ?_ GE634.out | refine below_set ?_ GE643.out) | exact HB.out)) hb)
       clear HO629
       clear HO632
       clear HO638
       clear HO641
       clear BK634
       clear BK643
       clear HB
       have HO629 := n0_
       have HO632 := n1_
       have HO638 := n2_
       have HO641 := n3_
       have HO646 := n4_
       have BK634 := n5_
       have BK643 := n6_
       have HB := n7_
       clear n0_ n1_ n2_ n3_ n4_ n5_ n6_ n7_
       (try clear hb)
       (try clear hb2)
       (try clear hk)
       (try clear hi)
       (try clear ho0)
       obtain ⟨Ao44, co44, eo44⟩ := Kd.R_slice HO646.out
       (first | subst eo44 | (injection eo44 with f1_ f2_ f3_; have f4_ := f1_.symm; have f5_ := f3_.symm; clear f1_ f2_ f3_; subst f4_; subst f5_))
       refine hK.out _ _ ⟨(blk_cell BK634.out 0).trans rfl, (blk_cell BK643.out 0).trans rfl⟩ (fun hHeld => ?_)
       clear hK K
       refine norm_ (a' := ?_) ?_ ?_
       rotate_left
       ·show Act.put _ (some 52) _ = _
        simp only [Act.put, List.setIfInBounds_toArray, List.set_cons_zero, List.set_cons_succ, i64_w, i32_w]
        rfl
       refine one_ (i := 7) (N := some 54) #[true, true, true, true, true, true, true, true, false, false, false, false, false, false, false, false, false, false, false, false, false, false] rfl rfl (one_of HT_.out (by kernel_rfl)) (by decide) (fun K hK => ?_)
       refine goes_ Try.func18 (by kernel_rfl) rfl #[.agg #[.slice Ao44 t644.length co44], .agg #[.slice Ao17 t630.length co17]] (by rfl) rfl rfl (by (try simp only [List.map_toArray, List.map_cons, List.map_nil]); first | done | rfl | (simp only [List.length_drop, List.length_take]; rfl)) ?_
       with_reducible refine (rubricref7_Same.calls k _ _ t644 _ _ t630 true _ ?side1 ?side2 ?side3 ?side4 A29.out).mono ?_
       (case side1 => repeat (first | exact (Kd.R_reads' HO646.out).2.2 | (with_reducible refine Kd.C_alloc ?_ _) | (with_reducible refine Kd.C_drewN ?_ _) | (with_reducible refine Kd.C_drew ?_)))
       (case side2 => exact (Kd.R_reads' HO646.out).2.1)
       (case side3 => repeat (first | exact (Kd.R_reads' HO632.out).2.2 | (with_reducible refine Kd.C_alloc ?_ _) | (with_reducible refine Kd.C_drewN ?_ _) | (with_reducible refine Kd.C_drew ?_)))
       (case side4 => exact (Kd.R_reads' HO632.out).2.1)
       rintro e w45 ⟨rfl, hb⟩
       refine ⟨_, rfl, ?_⟩
       have n0_ := Aside0.mk (Kd.R_below (S.r HO629.out) hb)
       have n1_ := Aside0.mk (Kd.R_below (S.r HO632.out) hb)
       have n2_ := Aside0.mk (Kd.R_below (S.r HO638.out) hb)
       have n3_ := Aside0.mk (Kd.R_below (S.r HO641.out) hb)
       have n4_ := Aside0.mk (Kd.R_below (S.r HO646.out) hb)
       have n5_ := Aside0.mk (blk_below (g := gb634) (o := .cells #[.slice Ao17 t630.length co17] 38 (0, 0)) (S.b BK634.out) hb)
       have n6_ := Aside0.mk (blk_below (g := gb643) (o := .cells #[.slice Ao22 t639.length co22] 38 (0, 0)) (S.b BK643.out) hb)
       have n7_ := Aside0.mk (below_step (by repeat (first | (with_reducible first | exact HB.out | apply below_alloc | apply pw_below_drewN | apply below_drew1 | refine below_set ?_ GE634.out | refine below_set ?_ GE643.out) | exact HB.out)) hb)
       clear HO629
       clear HO632
       clear HO638
       clear HO641
       clear HO646
       clear BK634
       clear BK643
       clear HB
       have HO629 := n0_
       have HO632 := n1_
       have HO638 := n2_
       have HO641 := n3_
       have HO646 := n4_
       have BK634 := n5_
       have BK643 := n6_
       have HB := n7_
       clear n0_ n1_ n2_ n3_ n4_ n5_ n6_ n7_
       (try clear hb)
       (try clear hb2)
       (try clear hk)
       (try clear hi)
       obtain ⟨Ao46, co46, eo46⟩ := Kd.R_slice HO638.out
       (first | subst eo46 | (injection eo46 with f1_ f2_ f3_; have f4_ := f1_.symm; have f5_ := f3_.symm; clear f1_ f2_ f3_; subst f4_; subst f5_))
       refine hK.out _ _ ⟨(blk_cell BK634.out 0).trans rfl, (blk_cell BK643.out 0).trans rfl⟩ (fun hHeld => ?_)
       clear hK K
       refine norm_ (a' := ?_) ?_ ?_
       rotate_left
       ·show Act.put _ (some 54) _ = _
        simp only [Act.put, List.setIfInBounds_toArray, List.set_cons_zero, List.set_cons_succ, i64_w, i32_w]
        rfl
       refine pure_ (i := 8) (N := some 55) (v := ?_) (a' := ?_) #[true, true, true, true, true, true, true, true, true, false, false, false, false, false, false, false, false, false, false, false, false, false] rfl rfl (any_of HT_.out (by kernel_rfl)) (fun _ _ _ h => h) (Or.inl ⟨by rfl, ?_⟩) ?_ ?_
       rotate_left
       ·intro w'
        go_simp
        with_reducible rfl
       rotate_left
       ·simp only [Act.put, List.setIfInBounds_toArray, List.set_cons_zero, List.set_cons_succ, i64_w, i32_w]
        rfl
       refine pure_ (i := 9) (N := some 56) (v := ?_) (a' := ?_) #[true, true, true, true, true, true, true, true, true, true, false, false, false, false, false, false, false, false, false, false, false, false] rfl rfl (any_of HT_.out (by kernel_rfl)) (fun _ _ _ h => h) (Or.inl ⟨by rfl, ?_⟩) ?_ ?_
       rotate_left
       ·intro w'
        go_simp
        with_reducible rfl
       rotate_left
       ·simp only [Act.put, List.setIfInBounds_toArray, List.set_cons_zero, List.set_cons_succ, i64_w, i32_w]
        rfl
       refine pure_ (i := 10) (N := some 57) (v := ?_) (a' := ?_) #[true, true, true, true, true, true, true, true, true, true, true, false, false, false, false, false, false, false, false, false, false, false] rfl rfl (any_of HT_.out (by kernel_rfl)) (fun _ _ _ h => h) (Or.inl ⟨by rfl, ?_⟩) ?_ ?_
       rotate_left
       ·intro w'
        go_simp
        with_reducible rfl
       rotate_left
       ·simp only [Act.put, List.setIfInBounds_toArray, List.set_cons_zero, List.set_cons_succ, i64_w, i32_w]
        rfl
       refine pure_ (i := 11) (N := some 58) (v := ?_) (a' := ?_) #[true, true, true, true, true, true, true, true, true, true, true, true, false, false, false, false, false, false, false, false, false, false] rfl rfl (any_of HT_.out (by kernel_rfl)) (fun _ _ _ h => h) (Or.inl ⟨by rfl, ?_⟩) ?_ ?_
       rotate_left
       ·intro w'
        go_simp
        with_reducible rfl
       rotate_left
       ·simp only [Act.put, List.setIfInBounds_toArray, List.set_cons_zero, List.set_cons_succ, i64_w, i32_w]
        rfl
       refine pure_ (i := 12) (N := some 59) (v := ?_) (a' := ?_) #[true, true, true, true, true, true, true, true, true, true, true, true, true, false, false, false, false, false, false, false, false, false] rfl rfl (any_of HT_.out (by kernel_rfl)) (fun _ _ _ h => h) (Or.inl ⟨by rfl, ?_⟩) ?_ ?_
       rotate_left
       ·intro w'
        go_simp
        with_reducible rfl
       rotate_left
       ·simp only [Act.put, List.setIfInBounds_toArray, List.set_cons_zero, List.set_cons_succ, i64_w, i32_w]
        rfl
       refine pure_ (i := 13) (N := some 60) (v := ?_) (a' := ?_) #[true, true, true, true, true, true, true, true, true, true, true, true, true, true, false, false, false, false, false, false, false, false] rfl rfl (any_of HT_.out (by kernel_rfl)) (fun _ _ _ h => h) (Or.inl ⟨by rfl, ?_⟩) ?_ ?_
       rotate_left
       ·intro w'
        go_simp
        with_reducible rfl
       rotate_left
       ·simp only [Act.put, List.setIfInBounds_toArray, List.set_cons_zero, List.set_cons_succ, i64_w, i32_w]
        rfl
       refine pure_ (i := 14) (N := some 61) (v := ?_) (a' := ?_) #[true, true, true, true, true, true, true, true, true, true, true, true, true, true, true, false, false, false, false, false, false, false] rfl rfl (any_of HT_.out (by kernel_rfl)) (fun _ _ _ h => h) (Or.inl ⟨by rfl, ?_⟩) ?_ ?_
       rotate_left
       ·intro w'
        go_simp
        with_reducible rfl
       rotate_left
       ·simp only [Act.put, List.setIfInBounds_toArray, List.set_cons_zero, List.set_cons_succ, i64_w, i32_w]
        rfl
       refine pure_ (i := 15) (N := some 62) (v := ?_) (a' := ?_) #[true, true, true, true, true, true, true, true, true, true, true, true, true, true, true, true, false, false, false, false, false, false] rfl rfl (any_of HT_.out (by kernel_rfl)) (fun _ _ _ h => h) (Or.inl ⟨by rfl, ?_⟩) ?_ ?_
       rotate_left
       ·intro w'
        go_simp
        with_reducible rfl
       rotate_left
       ·simp only [Act.put, List.setIfInBounds_toArray, List.set_cons_zero, List.set_cons_succ, i64_w, i32_w]
        rfl
       refine pure_ (i := 16) (N := some 63) (v := ?_) (a' := ?_) #[true, true, true, true, true, true, true, true, true, true, true, true, true, true, true, true, true, false, false, false, false, false] rfl rfl (any_of HT_.out (by kernel_rfl)) (fun _ _ _ h => h) (Or.inl ⟨by rfl, ?_⟩) ?_ ?_
       rotate_left
       ·intro w'
        go_simp
        with_reducible rfl
       rotate_left
       ·simp only [Act.put, List.setIfInBounds_toArray, List.set_cons_zero, List.set_cons_succ, i64_w, i32_w]
        rfl
       refine take_ (i := 18) (N := some 65) (v := ?_) (a' := ?_) #[true, true, true, true, true, true, true, true, true, true, true, true, true, true, true, true, true, false, true, false, false, false] rfl rfl (take_ofW HT_.out HW_.out (by kernel_rfl)) (fun _ _ _ h => h) (Or.inl ⟨by rfl, ?_⟩) hHeld ?_ ?_
       rotate_left
       ·rintro w' ⟨s0, s1⟩
        go_simp
        with_reducible rfl
       rotate_left
       ·simp only [Act.put, List.setIfInBounds_toArray, List.set_cons_zero, List.set_cons_succ, i64_w, i32_w]
        rfl
       refine one_ (i := 17) (N := some 64) #[true, true, true, true, true, true, true, true, true, true, true, true, true, true, true, true, true, true, true, false, false, false] rfl rfl (one_of HT_.out (by kernel_rfl)) (by decide) (fun K hK => ?_)
       refine goes_ Try.func19 (by kernel_rfl) rfl #[.slice Ao46 t635.length co46] (by rfl) rfl rfl (by (try simp only [List.map_toArray, List.map_cons, List.map_nil]); first | done | rfl | (simp only [List.length_drop, List.length_take]; rfl)) ?_
       with_reducible refine (rubriclaw7_Of.calls k _ _ t635 t648 _ ?side1 ?side2 A38.out).mono ?_
       (case side1 => repeat (first | exact (Kd.R_reads' HO638.out).2.2 | (with_reducible refine Kd.C_alloc ?_ _) | (with_reducible refine Kd.C_drewN ?_ _) | (with_reducible refine Kd.C_drew ?_)))
       (case side2 => exact (Kd.R_reads' HO638.out).2.1)
       rintro e w47 ⟨v649, rfl, ho0, hb⟩
       refine ⟨_, rfl, ?_⟩
       have n0_ := Aside0.mk (Kd.R_below (S.r HO629.out) hb)
       have n1_ := Aside0.mk (Kd.R_elder' (S.r HO632.out) (Kd.R_base ho0) hb)
       have n2_ := Aside0.mk (Kd.R_below (S.r HO638.out) hb)
       have n3_ := Aside0.mk (Kd.R_elder' (S.r HO641.out) (Kd.R_base ho0) hb)
       have n4_ := Aside0.mk (Kd.R_elder' (S.r HO646.out) (Kd.R_base ho0) hb)
       have n5_ := Aside0.mk (Kd.R_lower (Kd.R_new' (Kd.R_new' (Kd.R_new' ho0 (Kd.R_lt (S.r HO632.out))) (Kd.R_lt (S.r HO641.out))) (Kd.R_lt (S.r HO646.out))) (below_size (by repeat (first | (with_reducible first | exact HB.out | apply below_alloc | apply pw_below_drewN | apply below_drew1 | refine below_set ?_ GE634.out | refine below_set ?_ GE643.out) | exact HB.out))))
       have n6_ := Aside0.mk (blk_below (g := gb634) (o := .cells #[.slice Ao17 t630.length co17] 38 (0, 0)) (S.b BK634.out) hb)
       have n7_ := Aside0.mk (blk_below (g := gb643) (o := .cells #[.slice Ao22 t639.length co22] 38 (0, 0)) (S.b BK643.out) hb)
       have n8_ := Aside0.mk (below_step (by repeat (first | (with_reducible first | exact HB.out | apply below_alloc | apply pw_below_drewN | apply below_drew1 | refine below_set ?_ GE634.out | refine below_set ?_ GE643.out) | exact HB.out)) hb)
       clear HO629
       clear HO632
       clear HO638
       clear HO641
       clear HO646
       clear BK634
       clear BK643
       clear HB
       have HO629 := n0_
       have HO632 := n1_
       have HO638 := n2_
       have HO641 := n3_
       have HO646 := n4_
       have HO650 := n5_
       have BK634 := n6_
       have BK643 := n7_
       have HB := n8_
       clear n0_ n1_ n2_ n3_ n4_ n5_ n6_ n7_ n8_
       (try clear hb)
       (try clear hb2)
       (try clear hk)
       (try clear hi)
       (try clear ho0)
       obtain ⟨Ao48, co48, eo48⟩ := Kd.R_slice HO650.out
       (first | subst eo48 | (injection eo48 with f1_ f2_ f3_; have f4_ := f1_.symm; have f5_ := f3_.symm; clear f1_ f2_ f3_; subst f4_; subst f5_))
       refine hK.out _ _ ⟨(blk_cell BK634.out 0).trans rfl, (blk_cell BK643.out 0).trans rfl⟩ (fun hHeld => ?_)
       clear hK K
       refine norm_ (a' := ?_) ?_ ?_
       rotate_left
       ·show Act.put _ (some 64) _ = _
        simp only [Act.put, List.setIfInBounds_toArray, List.set_cons_zero, List.set_cons_succ, i64_w, i32_w]
        rfl
       refine one_ (i := 19) (N := some 66) #[true, true, true, true, true, true, true, true, true, true, true, true, true, true, true, true, true, true, true, true, false, false] rfl rfl (one_of HT_.out (by kernel_rfl)) (by decide) (fun K hK => ?_)
       refine goes_ Try.func18 (by kernel_rfl) rfl #[.agg #[.slice Ao48 t648.length co48], .agg #[.slice Ao22 t639.length co22]] (by rfl) rfl rfl (by (try simp only [List.map_toArray, List.map_cons, List.map_nil]); first | done | rfl | (simp only [List.length_drop, List.length_take]; rfl)) ?_
       with_reducible refine (rubricref7_Same.calls k _ _ t648 _ _ t639 t651 _ ?side1 ?side2 ?side3 ?side4 A39.out).mono ?_
       (case side1 => repeat (first | exact (Kd.R_reads' HO650.out).2.2 | (with_reducible refine Kd.C_alloc ?_ _) | (with_reducible refine Kd.C_drewN ?_ _) | (with_reducible refine Kd.C_drew ?_)))
       (case side2 => exact (Kd.R_reads' HO650.out).2.1)
       (case side3 => repeat (first | exact (Kd.R_reads' HO641.out).2.2 | (with_reducible refine Kd.C_alloc ?_ _) | (with_reducible refine Kd.C_drewN ?_ _) | (with_reducible refine Kd.C_drew ?_)))
       (case side4 => exact (Kd.R_reads' HO641.out).2.1)
       rintro e w49 ⟨rfl, hb⟩
       refine ⟨_, rfl, ?_⟩
       have n0_ := Aside0.mk (Kd.R_below (S.r HO629.out) hb)
       have n1_ := Aside0.mk (Kd.R_below (S.r HO632.out) hb)
       have n2_ := Aside0.mk (Kd.R_below (S.r HO638.out) hb)
       have n3_ := Aside0.mk (Kd.R_below (S.r HO641.out) hb)
       have n4_ := Aside0.mk (Kd.R_below (S.r HO646.out) hb)
       have n5_ := Aside0.mk (Kd.R_below (S.r HO650.out) hb)
       have n6_ := Aside0.mk (blk_below (g := gb634) (o := .cells #[.slice Ao17 t630.length co17] 38 (0, 0)) (S.b BK634.out) hb)
       have n7_ := Aside0.mk (blk_below (g := gb643) (o := .cells #[.slice Ao22 t639.length co22] 38 (0, 0)) (S.b BK643.out) hb)
       have n8_ := Aside0.mk (below_step (by repeat (first | (with_reducible first | exact HB.out | apply below_alloc | apply pw_below_drewN | apply below_drew1 | refine below_set ?_ GE634.out | refine below_set ?_ GE643.out) | exact HB.out)) hb)
       clear HO629
       clear HO632
       clear HO638
       clear HO641
       clear HO646
       clear HO650
       clear BK634
       clear BK643
       clear HB
       have HO629 := n0_
       have HO632 := n1_
       have HO638 := n2_
       have HO641 := n3_
       have HO646 := n4_
       have HO650 := n5_
       have BK634 := n6_
       have BK643 := n7_
       have HB := n8_
       clear n0_ n1_ n2_ n3_ n4_ n5_ n6_ n7_ n8_
       (try clear hb)
       (try clear hb2)
       (try clear hk)
       (try clear hi)
       refine hK.out _ _ ⟨(blk_cell BK634.out 0).trans rfl, (blk_cell BK643.out 0).trans rfl⟩ (fun hHeld => ?_)
       clear hK K
       refine norm_ (a' := ?_) ?_ ?_
       rotate_left
       ·show Act.put _ (some 66) _ = _
        simp only [Act.put, List.setIfInBounds_toArray, List.set_cons_zero, List.set_cons_succ, i64_w, i32_w]
        rfl
       refine pure_ (i := 20) (N := some 67) (v := ?_) (a' := ?_) #[true, true, true, true, true, true, true, true, true, true, true, true, true, true, true, true, true, true, true, true, true, false] rfl rfl (any_of HT_.out (by kernel_rfl)) (fun _ _ _ h => h) (Or.inl ⟨by rfl, ?_⟩) ?_ ?_
       rotate_left
       ·intro w'
        go_simp
        with_reducible rfl
       rotate_left
       ·simp only [Act.put, List.setIfInBounds_toArray, List.set_cons_zero, List.set_cons_succ, i64_w, i32_w]
        rfl
       refine pure_ (i := 21) (N := some 68) (v := ?_) (a' := ?_) #[true, true, true, true, true, true, true, true, true, true, true, true, true, true, true, true, true, true, true, true, true, true] rfl rfl (any_of HT_.out (by kernel_rfl)) (fun _ _ _ h => h) (Or.inl ⟨by rfl, ?_⟩) ?_ ?_
       rotate_left
       ·intro w'
        go_simp
        with_reducible rfl
       rotate_left
       ·simp only [Act.put, List.setIfInBounds_toArray, List.set_cons_zero, List.set_cons_succ, i64_w, i32_w]
        rfl
       refine done_ (done_of HT_.out (by kernel_rfl)) ?_
       try go_wp2
       go_meet
       case rel => exact ⟨_, (!t651), (by first | rfl | (simp; done) | (simp [*]; done)), H', ⟨by first | omega | exact Nat.le_refl _⟩, ⟨by (with_reducible repeat (first | apply Kd.R_alloc | apply Kd.R_drewN | apply Kd.R_drew)); exact Kd.R_mono HO632.out (fun _ hk => hk.1.1)⟩, ⟨by (with_reducible repeat (first | apply Kd.R_alloc | apply Kd.R_drewN | apply Kd.R_drew)); exact Kd.R_mono HO641.out (fun _ hk => hk.1.1)⟩, ⟨S.b BK634.out⟩, ⟨S.b BK643.out⟩, ⟨by repeat (first | (with_reducible first | exact HB.out | apply below_alloc | apply pw_below_drewN | apply below_drew1 | refine below_set ?_ GE634.out | refine below_set ?_ GE643.out) | exact HB.out)⟩⟩
     ·replace c30 := Bool.eq_false_iff.mpr c30
      subst c30
      have H1 : (rubriclaw7_SetNames.j0 k a2 true) = some r := by rw [if_neg (show ¬ (false = true) by decide)] at H; exact H
      clear H
      have H := H1
      clear H1
      have H' := Aside0.mk H
      clear H
      try go_wp2
      have n0_ : Aside0 (Kd.R k24 24 (w21.setCell ⟨gb643, 0, none⟩ (.slice Ao22 t639.length co22)) w.heap.size (fun k_ => some k_ ≠ (v637 : Value).ownBlock) v628 t626) := ⟨by (with_reducible repeat (first | apply Kd.R_alloc | apply Kd.R_drewN | apply Kd.R_drew)); exact Kd.R_mono (Kd.R_far (p := ⟨gb643, 0, none⟩) (Kd.R_types HO629.out BK643.out (by decide)) (fun _ hk => hk.2) (.slice Ao22 t639.length co22)) (fun _ hk => hk.1.2)⟩
      have n1_ : Aside0 (Kd.R k58 58 (w21.setCell ⟨gb643, 0, none⟩ (.slice Ao22 t639.length co22)) w.heap.size (fun k_ => some k_ ≠ (.slice Ao22 t639.length co22 : Value).ownBlock) (.slice Ao17 t630.length co17) t630) := ⟨by (with_reducible repeat (first | apply Kd.R_alloc | apply Kd.R_drewN | apply Kd.R_drew)); exact Kd.R_mono (Kd.R_far (p := ⟨gb643, 0, none⟩) (Kd.R_types HO632.out BK643.out (by decide)) (fun _ hk => hk.2) (.slice Ao22 t639.length co22)) (fun _ hk => hk.1.2)⟩
      have n2_ : Aside0 (Kd.R k24 24 (w21.setCell ⟨gb643, 0, none⟩ (.slice Ao22 t639.length co22)) w.heap.size (fun k_ => some k_ ≠ (v628 : Value).ownBlock) v637 t635) := ⟨by (with_reducible repeat (first | apply Kd.R_alloc | apply Kd.R_drewN | apply Kd.R_drew)); exact Kd.R_mono (Kd.R_far (p := ⟨gb643, 0, none⟩) (Kd.R_types HO638.out BK643.out (by decide)) (fun _ hk => hk.2) (.slice Ao22 t639.length co22)) (fun _ hk => hk.1.2)⟩
      have n3_ : Aside0 (Kd.R k58 58 (w21.setCell ⟨gb643, 0, none⟩ (.slice Ao22 t639.length co22)) w.heap.size (fun k_ => some k_ ≠ (.slice Ao17 t630.length co17 : Value).ownBlock) (.slice Ao22 t639.length co22) t639) := ⟨by (with_reducible repeat (first | apply Kd.R_alloc | apply Kd.R_drewN | apply Kd.R_drew)); exact Kd.R_mono (Kd.R_far (p := ⟨gb643, 0, none⟩) (Kd.R_types HO641.out BK643.out (by decide)) (fun _ hk => hk.2) (.slice Ao22 t639.length co22)) (fun _ hk => hk.1.2)⟩
      have n4_ : Aside0 ((w21.setCell ⟨gb643, 0, none⟩ (.slice Ao22 t639.length co22)).heap[gb634]? = some (.cells #[.slice Ao17 t630.length co17] 38 (0, 0))) := ⟨by (with_reducible repeat (first | refine blk_drewN ?_ _ | refine blk_drew ?_ | refine blk_alloc ?_ _)); refine blk_far ?_ NB634_643.out _; (with_reducible repeat (first | refine blk_drewN ?_ _ | refine blk_drew ?_ | refine blk_alloc ?_ _)); exact BK634.out⟩
      have n5_ : Aside0 ((w21.setCell ⟨gb643, 0, none⟩ (.slice Ao22 t639.length co22)).heap[gb643]? = some (.cells #[.slice Ao22 t639.length co22] 38 (0, 0))) := ⟨by (with_reducible repeat (first | refine blk_drewN ?_ _ | refine blk_drew ?_ | refine blk_alloc ?_ _)); refine blk_put (cs := #[.slice none 0 0]) ?_ 0 _ rfl; (with_reducible repeat (first | refine blk_drewN ?_ _ | refine blk_drew ?_ | refine blk_alloc ?_ _)); exact BK643.out⟩
      have n6_ : Aside0 (Below w.heap.size w (w21.setCell ⟨gb643, 0, none⟩ (.slice Ao22 t639.length co22))) := ⟨by repeat (first | (with_reducible first | exact HB.out | apply below_alloc | apply pw_below_drewN | apply below_drew1 | refine below_set ?_ GE634.out | refine below_set ?_ GE643.out) | exact HB.out)⟩
      (try clear HO629)
      (try clear HO632)
      (try clear HO638)
      (try clear HO641)
      (try clear BK634)
      (try clear BK643)
      (try clear HB)
      generalize (w21.setCell ⟨gb643, 0, none⟩ (.slice Ao22 t639.length co22)) = w50 at n0_ n1_ n2_ n3_ n4_ n5_ n6_ ⊢
      have HO629 := n0_
      have HO632 := n1_
      have HO638 := n2_
      have HO641 := n3_
      have BK634 := n4_
      have BK643 := n5_
      have HB := n6_
      clear n0_ n1_ n2_ n3_ n4_ n5_ n6_
      have n0_ := Aside0.mk (Kd.R_drew HO629.out)
      have n1_ := Aside0.mk (Kd.R_drew HO632.out)
      have n2_ := Aside0.mk (Kd.R_drew HO638.out)
      have n3_ := Aside0.mk (Kd.R_drew HO641.out)
      have n4_ := Aside0.mk (blk_drew BK634.out)
      have n5_ := Aside0.mk (blk_drew BK643.out)
      have n6_ := Aside0.mk (below_drew1 HB.out)
      clear HO629
      clear HO632
      clear HO638
      clear HO641
      clear BK634
      clear BK643
      clear HB
      have HO629 := n0_
      have HO632 := n1_
      have HO638 := n2_
      have HO641 := n3_
      have BK634 := n4_
      have BK643 := n5_
      have HB := n6_
      clear n0_ n1_ n2_ n3_ n4_ n5_ n6_
      obtain ⟨Ao52, co52, eo52⟩ := Kd.R_slice HO629.out
      (first | subst eo52 | (injection eo52 with f1_ f2_ f3_; have f4_ := f1_.symm; have f5_ := f3_.symm; clear f1_ f2_ f3_; subst f4_; subst f5_))
      refine start_ (n := 22) (S := fun w' => w'.cell? ⟨gb634, 0, none⟩ = some (.slice Ao17 t630.length co17)) (ds := []) #[false, false, false, false, false, false, false, false, false, false, false, false, false, false, false, false, false, false, false, false, false, false] (by kernel_rfl) rfl rfl ((blk_cell BK634.out 0).trans rfl) (fun hHeld => ?_); refine with_tabW rubriclaw7_SetNames.tab9 rubriclaw7_SetNames.bits9 (fun HT_ HW_ => ?_)
      generalize w50.drew = w51 at HO629 HO632 HO638 HO641 BK634 BK643 HB hHeld ⊢
      refine pure_ (i := 0) (N := some 47) (v := ?_) (a' := ?_) #[true, false, false, false, false, false, false, false, false, false, false, false, false, false, false, false, false, false, false, false, false, false] rfl rfl (any_of HT_.out (by kernel_rfl)) (fun _ _ _ h => h) (Or.inl ⟨by rfl, ?_⟩) ?_ ?_
      rotate_left
      ·intro w'
       go_simp
       with_reducible rfl
      rotate_left
      ·simp only [Act.put, List.setIfInBounds_toArray, List.set_cons_zero, List.set_cons_succ, i64_w, i32_w]
       rfl
      refine pure_ (i := 1) (N := some 48) (v := ?_) (a' := ?_) #[true, true, false, false, false, false, false, false, false, false, false, false, false, false, false, false, false, false, false, false, false, false] rfl rfl (any_of HT_.out (by kernel_rfl)) (fun _ _ _ h => h) (Or.inl ⟨by rfl, ?_⟩) ?_ ?_
      rotate_left
      ·intro w'
       go_simp
       with_reducible rfl
      rotate_left
      ·simp only [Act.put, List.setIfInBounds_toArray, List.set_cons_zero, List.set_cons_succ, i64_w, i32_w]
       rfl
      refine pure_ (i := 2) (N := some 49) (v := ?_) (a' := ?_) #[true, true, true, false, false, false, false, false, false, false, false, false, false, false, false, false, false, false, false, false, false, false] rfl rfl (any_of HT_.out (by kernel_rfl)) (fun _ _ _ h => h) (Or.inl ⟨by rfl, ?_⟩) ?_ ?_
      rotate_left
      ·intro w'
       go_simp
       with_reducible rfl
      rotate_left
      ·simp only [Act.put, List.setIfInBounds_toArray, List.set_cons_zero, List.set_cons_succ, i64_w, i32_w]
       rfl
      refine pure_ (i := 3) (N := some 50) (v := ?_) (a' := ?_) #[true, true, true, true, false, false, false, false, false, false, false, false, false, false, false, false, false, false, false, false, false, false] rfl rfl (any_of HT_.out (by kernel_rfl)) (fun _ _ _ h => h) (Or.inl ⟨by rfl, ?_⟩) ?_ ?_
      rotate_left
      ·intro w'
       go_simp
       with_reducible rfl
      rotate_left
      ·simp only [Act.put, List.setIfInBounds_toArray, List.set_cons_zero, List.set_cons_succ, i64_w, i32_w]
       rfl
      refine pure_ (i := 4) (N := some 51) (v := ?_) (a' := ?_) #[true, true, true, true, true, false, false, false, false, false, false, false, false, false, false, false, false, false, false, false, false, false] rfl rfl (any_of HT_.out (by kernel_rfl)) (fun _ _ _ h => h) (Or.inl ⟨by rfl, ?_⟩) ?_ ?_
      rotate_left
      ·intro w'
       go_simp
       with_reducible rfl
      rotate_left
      ·simp only [Act.put, List.setIfInBounds_toArray, List.set_cons_zero, List.set_cons_succ, i64_w, i32_w]
       rfl
      refine take_ (i := 6) (N := some 53) (v := ?_) (a' := ?_) #[true, true, true, true, true, false, true, false, false, false, false, false, false, false, false, false, false, false, false, false, false, false] rfl rfl (take_ofW HT_.out HW_.out (by kernel_rfl)) (fun _ _ _ h => h) (Or.inl ⟨by rfl, ?_⟩) hHeld ?_ ?_
      rotate_left
      ·intro w' s0
       go_simp
       with_reducible rfl
      rotate_left
      ·simp only [Act.put, List.setIfInBounds_toArray, List.set_cons_zero, List.set_cons_succ, i64_w, i32_w]
       rfl
      refine one_ (i := 5) (N := some 52) #[true, true, true, true, true, true, true, false, false, false, false, false, false, false, false, false, false, false, false, false, false, false] rfl rfl (one_of HT_.out (by kernel_rfl)) (by decide) (fun K hK => ?_)
      refine goes_ Try.func19 (by kernel_rfl) rfl #[.slice Ao52 t626.length co52] (by rfl) rfl rfl (by (try simp only [List.map_toArray, List.map_cons, List.map_nil]); first | done | rfl | (simp only [List.length_drop, List.length_take]; rfl)) ?_
      with_reducible refine (rubriclaw7_Of.calls k _ _ t626 t644 _ ?side1 ?side2 A28.out).mono ?_
      (case side1 => repeat (first | exact (Kd.R_reads' HO629.out).2.2 | (with_reducible refine Kd.C_alloc ?_ _) | (with_reducible refine Kd.C_drewN ?_ _) | (with_reducible refine Kd.C_drew ?_)))
      (case side2 => exact (Kd.R_reads' HO629.out).2.1)
      rintro e w53 ⟨v645, rfl, ho0, hb⟩
      refine ⟨_, rfl, ?_⟩
      have n0_ := Aside0.mk (Kd.R_below (S.r HO629.out) hb)
      have n1_ := Aside0.mk (Kd.R_elder' (S.r HO632.out) (Kd.R_base ho0) hb)
      have n2_ := Aside0.mk (Kd.R_below (S.r HO638.out) hb)
      have n3_ := Aside0.mk (Kd.R_elder' (S.r HO641.out) (Kd.R_base ho0) hb)
      have n4_ := Aside0.mk (Kd.R_lower (Kd.R_new' (Kd.R_new' ho0 (Kd.R_lt (S.r HO632.out))) (Kd.R_lt (S.r HO641.out))) (below_size (by repeat (first | (with_reducible first | exact HB.out | apply below_alloc | apply pw_below_drewN | apply below_drew1 | refine below_set ?_ GE634.out | refine below_set ?_ GE643.out) | exact HB.out))))
      have n5_ := Aside0.mk (blk_below (g := gb634) (o := .cells #[.slice Ao17 t630.length co17] 38 (0, 0)) (S.b BK634.out) hb)
      have n6_ := Aside0.mk (blk_below (g := gb643) (o := .cells #[.slice Ao22 t639.length co22] 38 (0, 0)) (S.b BK643.out) hb)
      have n7_ := Aside0.mk (below_step (by repeat (first | (with_reducible first | exact HB.out | apply below_alloc | apply pw_below_drewN | apply below_drew1 | refine below_set ?_ GE634.out | refine below_set ?_ GE643.out) | exact HB.out)) hb)
      clear HO629
      clear HO632
      clear HO638
      clear HO641
      clear BK634
      clear BK643
      clear HB
      have HO629 := n0_
      have HO632 := n1_
      have HO638 := n2_
      have HO641 := n3_
      have HO646 := n4_
      have BK634 := n5_
      have BK643 := n6_
      have HB := n7_
      clear n0_ n1_ n2_ n3_ n4_ n5_ n6_ n7_
      (try clear hb)
      (try clear hb2)
      (try clear hk)
      (try clear hi)
      (try clear ho0)
      obtain ⟨Ao54, co54, eo54⟩ := Kd.R_slice HO646.out
      (first | subst eo54 | (injection eo54 with f1_ f2_ f3_; have f4_ := f1_.symm; have f5_ := f3_.symm; clear f1_ f2_ f3_; subst f4_; subst f5_))
      refine hK.out _ _ ((blk_cell BK634.out 0).trans rfl) (fun hHeld => ?_)
      clear hK K
      refine norm_ (a' := ?_) ?_ ?_
      rotate_left
      ·show Act.put _ (some 52) _ = _
       simp only [Act.put, List.setIfInBounds_toArray, List.set_cons_zero, List.set_cons_succ, i64_w, i32_w]
       rfl
      refine one_ (i := 7) (N := some 54) #[true, true, true, true, true, true, true, true, false, false, false, false, false, false, false, false, false, false, false, false, false, false] rfl rfl (one_of HT_.out (by kernel_rfl)) (by decide) (fun K hK => ?_)
      refine goes_ Try.func18 (by kernel_rfl) rfl #[.agg #[.slice Ao54 t644.length co54], .agg #[.slice Ao17 t630.length co17]] (by rfl) rfl rfl (by (try simp only [List.map_toArray, List.map_cons, List.map_nil]); first | done | rfl | (simp only [List.length_drop, List.length_take]; rfl)) ?_
      with_reducible refine (rubricref7_Same.calls k _ _ t644 _ _ t630 false _ ?side1 ?side2 ?side3 ?side4 A29.out).mono ?_
      (case side1 => repeat (first | exact (Kd.R_reads' HO646.out).2.2 | (with_reducible refine Kd.C_alloc ?_ _) | (with_reducible refine Kd.C_drewN ?_ _) | (with_reducible refine Kd.C_drew ?_)))
      (case side2 => exact (Kd.R_reads' HO646.out).2.1)
      (case side3 => repeat (first | exact (Kd.R_reads' HO632.out).2.2 | (with_reducible refine Kd.C_alloc ?_ _) | (with_reducible refine Kd.C_drewN ?_ _) | (with_reducible refine Kd.C_drew ?_)))
      (case side4 => exact (Kd.R_reads' HO632.out).2.1)
      rintro e w55 ⟨rfl, hb⟩
      refine ⟨_, rfl, ?_⟩
      have n0_ := Aside0.mk (Kd.R_below (S.r HO629.out) hb)
      have n1_ := Aside0.mk (Kd.R_below (S.r HO632.out) hb)
      have n2_ := Aside0.mk (Kd.R_below (S.r HO638.out) hb)
      have n3_ := Aside0.mk (Kd.R_below (S.r HO641.out) hb)
      have n4_ := Aside0.mk (Kd.R_below (S.r HO646.out) hb)
      have n5_ := Aside0.mk (blk_below (g := gb634) (o := .cells #[.slice Ao17 t630.length co17] 38 (0, 0)) (S.b BK634.out) hb)
      have n6_ := Aside0.mk (blk_below (g := gb643) (o := .cells #[.slice Ao22 t639.length co22] 38 (0, 0)) (S.b BK643.out) hb)
      have n7_ := Aside0.mk (below_step (by repeat (first | (with_reducible first | exact HB.out | apply below_alloc | apply pw_below_drewN | apply below_drew1 | refine below_set ?_ GE634.out | refine below_set ?_ GE643.out) | exact HB.out)) hb)
      clear HO629
      clear HO632
      clear HO638
      clear HO641
      clear HO646
      clear BK634
      clear BK643
      clear HB
      have HO629 := n0_
      have HO632 := n1_
      have HO638 := n2_
      have HO641 := n3_
      have HO646 := n4_
      have BK634 := n5_
      have BK643 := n6_
      have HB := n7_
      clear n0_ n1_ n2_ n3_ n4_ n5_ n6_ n7_
      (try clear hb)
      (try clear hb2)
      (try clear hk)
      (try clear hi)
      refine hK.out _ _ ((blk_cell BK634.out 0).trans rfl) (fun hHeld => ?_)
      clear hK K
      refine norm_ (a' := ?_) ?_ ?_
      rotate_left
      ·show Act.put _ (some 54) _ = _
       simp only [Act.put, List.setIfInBounds_toArray, List.set_cons_zero, List.set_cons_succ, i64_w, i32_w]
       rfl
      refine pure_ (i := 8) (N := some 55) (v := ?_) (a' := ?_) #[true, true, true, true, true, true, true, true, true, false, false, false, false, false, false, false, false, false, false, false, false, false] rfl rfl (any_of HT_.out (by kernel_rfl)) (fun _ _ _ h => h) (Or.inl ⟨by rfl, ?_⟩) ?_ ?_
      rotate_left
      ·intro w'
       go_simp
       with_reducible rfl
      rotate_left
      ·simp only [Act.put, List.setIfInBounds_toArray, List.set_cons_zero, List.set_cons_succ, i64_w, i32_w]
       rfl
      refine pure_ (i := 9) (N := some 56) (v := ?_) (a' := ?_) #[true, true, true, true, true, true, true, true, true, true, false, false, false, false, false, false, false, false, false, false, false, false] rfl rfl (any_of HT_.out (by kernel_rfl)) (fun _ _ _ h => h) (Or.inl ⟨by rfl, ?_⟩) ?_ ?_
      rotate_left
      ·intro w'
       go_simp
       with_reducible rfl
      rotate_left
      ·simp only [Act.put, List.setIfInBounds_toArray, List.set_cons_zero, List.set_cons_succ, i64_w, i32_w]
       rfl
      refine pure_ (i := 10) (N := some 57) (v := ?_) (a' := ?_) #[true, true, true, true, true, true, true, true, true, true, true, false, false, false, false, false, false, false, false, false, false, false] rfl rfl (any_of HT_.out (by kernel_rfl)) (fun _ _ _ h => h) (Or.inl ⟨by rfl, ?_⟩) ?_ ?_
      rotate_left
      ·intro w'
       go_simp
       with_reducible rfl
      rotate_left
      ·simp only [Act.put, List.setIfInBounds_toArray, List.set_cons_zero, List.set_cons_succ, i64_w, i32_w]
       rfl
      refine pure_ (i := 11) (N := some 58) (v := undef) (a' := ?_) #[true, true, true, true, true, true, true, true, true, true, true, true, false, false, false, false, false, false, false, false, false, false] rfl rfl (any_of HT_.out (by kernel_rfl)) (fun _ _ _ h => h) (Or.inr ⟨by rfl, rfl⟩) ?_ ?_
      rotate_left
      ·simp only [Act.put, List.setIfInBounds_toArray, List.set_cons_zero, List.set_cons_succ, i64_w, i32_w]
       rfl
      refine pure_ (i := 12) (N := some 59) (v := undef) (a' := ?_) #[true, true, true, true, true, true, true, true, true, true, true, true, true, false, false, false, false, false, false, false, false, false] rfl rfl (any_of HT_.out (by kernel_rfl)) (fun _ _ _ h => h) (Or.inr ⟨by rfl, rfl⟩) ?_ ?_
      rotate_left
      ·simp only [Act.put, List.setIfInBounds_toArray, List.set_cons_zero, List.set_cons_succ, i64_w, i32_w]
       rfl
      refine pure_ (i := 13) (N := some 60) (v := undef) (a' := ?_) #[true, true, true, true, true, true, true, true, true, true, true, true, true, true, false, false, false, false, false, false, false, false] rfl rfl (any_of HT_.out (by kernel_rfl)) (fun _ _ _ h => h) (Or.inr ⟨by rfl, rfl⟩) ?_ ?_
      rotate_left
      ·simp only [Act.put, List.setIfInBounds_toArray, List.set_cons_zero, List.set_cons_succ, i64_w, i32_w]
       rfl
      refine pure_ (i := 14) (N := some 61) (v := ?_) (a' := ?_) #[true, true, true, true, true, true, true, true, true, true, true, true, true, true, true, false, false, false, false, false, false, false] rfl rfl (any_of HT_.out (by kernel_rfl)) (fun _ _ _ h => h) (Or.inl ⟨by rfl, ?_⟩) ?_ ?_
      rotate_left
      ·intro w'
       go_simp
       with_reducible rfl
      rotate_left
      ·simp only [Act.put, List.setIfInBounds_toArray, List.set_cons_zero, List.set_cons_succ, i64_w, i32_w]
       rfl
      refine pure_ (i := 15) (N := some 62) (v := ?_) (a' := ?_) #[true, true, true, true, true, true, true, true, true, true, true, true, true, true, true, true, false, false, false, false, false, false] rfl rfl (any_of HT_.out (by kernel_rfl)) (fun _ _ _ h => h) (Or.inl ⟨by rfl, ?_⟩) ?_ ?_
      rotate_left
      ·intro w'
       go_simp
       with_reducible rfl
      rotate_left
      ·simp only [Act.put, List.setIfInBounds_toArray, List.set_cons_zero, List.set_cons_succ, i64_w, i32_w]
       rfl
      refine pure_ (i := 16) (N := some 63) (v := undef) (a' := ?_) #[true, true, true, true, true, true, true, true, true, true, true, true, true, true, true, true, true, false, false, false, false, false] rfl rfl (any_of HT_.out (by kernel_rfl)) (fun _ _ _ h => h) (Or.inr ⟨by rfl, rfl⟩) ?_ ?_
      rotate_left
      ·simp only [Act.put, List.setIfInBounds_toArray, List.set_cons_zero, List.set_cons_succ, i64_w, i32_w]
       rfl
      refine pure_ (i := 17) (N := some 64) (v := undef) (a' := ?_) #[true, true, true, true, true, true, true, true, true, true, true, true, true, true, true, true, true, true, false, false, false, false] rfl rfl (any_of HT_.out (by kernel_rfl)) (fun _ _ _ h => h) (Or.inr ⟨by rfl, rfl⟩) ?_ ?_
      rotate_left
      ·simp only [Act.put, List.setIfInBounds_toArray, List.set_cons_zero, List.set_cons_succ, i64_w, i32_w]
       rfl
      refine pure_ (i := 18) (N := some 65) (v := undef) (a' := ?_) #[true, true, true, true, true, true, true, true, true, true, true, true, true, true, true, true, true, true, true, false, false, false] rfl rfl (any_of HT_.out (by kernel_rfl)) (fun _ _ _ h => h) (Or.inr ⟨by rfl, rfl⟩) ?_ ?_
      rotate_left
      ·simp only [Act.put, List.setIfInBounds_toArray, List.set_cons_zero, List.set_cons_succ, i64_w, i32_w]
       rfl
      refine pure_ (i := 19) (N := some 66) (v := undef) (a' := ?_) #[true, true, true, true, true, true, true, true, true, true, true, true, true, true, true, true, true, true, true, true, false, false] rfl rfl (any_of HT_.out (by kernel_rfl)) (fun _ _ _ h => h) (Or.inr ⟨by rfl, rfl⟩) ?_ ?_
      rotate_left
      ·simp only [Act.put, List.setIfInBounds_toArray, List.set_cons_zero, List.set_cons_succ, i64_w, i32_w]
       rfl
      refine pure_ (i := 20) (N := some 67) (v := undef) (a' := ?_) #[true, true, true, true, true, true, true, true, true, true, true, true, true, true, true, true, true, true, true, true, true, false] rfl rfl (any_of HT_.out (by kernel_rfl)) (fun _ _ _ h => h) (Or.inr ⟨by rfl, rfl⟩) ?_ ?_
      rotate_left
      ·simp only [Act.put, List.setIfInBounds_toArray, List.set_cons_zero, List.set_cons_succ, i64_w, i32_w]
       rfl
      refine pure_ (i := 21) (N := some 68) (v := ?_) (a' := ?_) #[true, true, true, true, true, true, true, true, true, true, true, true, true, true, true, true, true, true, true, true, true, true] rfl rfl (any_of HT_.out (by kernel_rfl)) (fun _ _ _ h => h) (Or.inl ⟨by rfl, ?_⟩) ?_ ?_
      rotate_left
      ·intro w'
       go_simp
       with_reducible rfl
      rotate_left
      ·simp only [Act.put, List.setIfInBounds_toArray, List.set_cons_zero, List.set_cons_succ, i64_w, i32_w]
       rfl
      refine done_ (done_of HT_.out (by kernel_rfl)) ?_
      try go_wp2
      go_meet
      case rel => exact ⟨_, (true), (by first | rfl | (simp; done) | (simp [*]; done)), H', ⟨by first | omega | exact Nat.le_refl _⟩, ⟨by (with_reducible repeat (first | apply Kd.R_alloc | apply Kd.R_drewN | apply Kd.R_drew)); exact Kd.R_mono HO632.out (fun _ hk => hk.1)⟩, ⟨by (with_reducible repeat (first | apply Kd.R_alloc | apply Kd.R_drewN | apply Kd.R_drew)); exact Kd.R_mono HO641.out (fun _ hk => hk.1)⟩, ⟨S.b BK634.out⟩, ⟨S.b BK643.out⟩, ⟨by repeat (first | (with_reducible first | exact HB.out | apply below_alloc | apply pw_below_drewN | apply below_drew1 | refine below_set ?_ GE634.out | refine below_set ?_ GE643.out) | exact HB.out)⟩⟩
   case rest =>
    clear HC12
    try clear c1
    try clear p2
    try clear c3
    try clear c18
    try clear c19
    try clear c30
    obtain ⟨kq, x68_11, rfl, HA, HJ11, HO_635000, HO_644000, BK634, BK643, HB⟩ := hcut
    cases kq with
    | zero => exact absurd HA.out (by simp [rubriclaw7_SetNames.j0])
    | succ kj11 =>
     have H := HA.out
     clear HA
     simp only [rubriclaw7_SetNames.j0] at H
     by_cases c56 : x68_11 = true
     ·subst c56
      have H1 : (some false) = some r := by rw [if_pos rfl] at H; exact H
      clear H
      have H := H1
      clear H1
      exact absurd ((Option.some.inj H).trans HRT.out) (by decide)
     ·replace c56 := Bool.eq_false_iff.mpr c56
      subst c56
      have H1 : ((set_Escape.f kj11 105).bind fun bt652 => ((set_Escape.f kj11 99).bind fun bt656 => ((set_Escape.f kj11 115).bind fun bt660 => ((G.set_Has.f bt652.1 a2).bind fun t664 => ((char_Start.f kj11 a2).bind fun t665 => (if (t664 == t665) = true then ((G.set_Has.f bt656.1 a2).bind fun t666 => ((char_Part.f kj11 a2).bind fun t667 => (if (t666 == t667) = true then ((G.set_Has.f bt660.1 a2).bind fun t668 => ((char_White.f a2).bind fun t669 => (some (t668 == t669)))) else (some false)))) else (some false))))))) = some r := by rw [if_neg (show ¬ (false = true) by decide)] at H; exact H
      clear H
      have H := H1
      clear H1
      replace H := Option.bind_eq_some_iff.mp H
      obtain ⟨⟨t652, t653⟩, A570, H⟩ := H
      replace H : ((set_Escape.f kj11 99).bind fun bt656 => ((set_Escape.f kj11 115).bind fun bt660 => ((G.set_Has.f t652 a2).bind fun t664 => ((char_Start.f kj11 a2).bind fun t665 => (if (t664 == t665) = true then ((G.set_Has.f bt656.1 a2).bind fun t666 => ((char_Part.f kj11 a2).bind fun t667 => (if (t666 == t667) = true then ((G.set_Has.f bt660.1 a2).bind fun t668 => ((char_White.f a2).bind fun t669 => (some (t668 == t669)))) else (some false)))) else (some false)))))) = some r := H
      have A57 := Aside0.mk A570
      clear A570
      replace H := Option.bind_eq_some_iff.mp H
      obtain ⟨⟨t656, t657⟩, A580, H⟩ := H
      replace H : ((set_Escape.f kj11 115).bind fun bt660 => ((G.set_Has.f t652 a2).bind fun t664 => ((char_Start.f kj11 a2).bind fun t665 => (if (t664 == t665) = true then ((G.set_Has.f t656 a2).bind fun t666 => ((char_Part.f kj11 a2).bind fun t667 => (if (t666 == t667) = true then ((G.set_Has.f bt660.1 a2).bind fun t668 => ((char_White.f a2).bind fun t669 => (some (t668 == t669)))) else (some false)))) else (some false))))) = some r := H
      have A58 := Aside0.mk A580
      clear A580
      replace H := Option.bind_eq_some_iff.mp H
      obtain ⟨⟨t660, t661⟩, A590, H⟩ := H
      replace H : ((G.set_Has.f t652 a2).bind fun t664 => ((char_Start.f kj11 a2).bind fun t665 => (if (t664 == t665) = true then ((G.set_Has.f t656 a2).bind fun t666 => ((char_Part.f kj11 a2).bind fun t667 => (if (t666 == t667) = true then ((G.set_Has.f t660 a2).bind fun t668 => ((char_White.f a2).bind fun t669 => (some (t668 == t669)))) else (some false)))) else (some false)))) = some r := H
      have A59 := Aside0.mk A590
      clear A590
      replace H := Option.bind_eq_some_iff.mp H
      obtain ⟨t664, A600, H⟩ := H
      replace H : ((char_Start.f kj11 a2).bind fun t665 => (if (t664 == t665) = true then ((G.set_Has.f t656 a2).bind fun t666 => ((char_Part.f kj11 a2).bind fun t667 => (if (t666 == t667) = true then ((G.set_Has.f t660 a2).bind fun t668 => ((char_White.f a2).bind fun t669 => (some (t668 == t669)))) else (some false)))) else (some false))) = some r := H
      have A60 := Aside0.mk A600
      clear A600
      replace H := Option.bind_eq_some_iff.mp H
      obtain ⟨t665, A610, H⟩ := H
      replace H : (if (t664 == t665) = true then ((G.set_Has.f t656 a2).bind fun t666 => ((char_Part.f kj11 a2).bind fun t667 => (if (t666 == t667) = true then ((G.set_Has.f t660 a2).bind fun t668 => ((char_White.f a2).bind fun t669 => (some (t668 == t669)))) else (some false)))) else (some false)) = some r := H
      have A61 := Aside0.mk A610
      clear A610
      by_cases c62 : (t664 == t665) = true
      ·rw [if_pos c62] at H
       have c62b0 : (t664 == t665) = true := c62
       (try (have c62b1 : decide (t664 = t665) = true := by simpa using c62))
       (try (have c62b2 : (t664 == t665) = true := by simpa using c62))
       clear c62
       replace H := Option.bind_eq_some_iff.mp H
       obtain ⟨t666, A630, H⟩ := H
       replace H : ((char_Part.f kj11 a2).bind fun t667 => (if (t666 == t667) = true then ((G.set_Has.f t660 a2).bind fun t668 => ((char_White.f a2).bind fun t669 => (some (t668 == t669)))) else (some false))) = some r := H
       have A63 := Aside0.mk A630
       clear A630
       replace H := Option.bind_eq_some_iff.mp H
       obtain ⟨t667, A640, H⟩ := H
       replace H : (if (t666 == t667) = true then ((G.set_Has.f t660 a2).bind fun t668 => ((char_White.f a2).bind fun t669 => (some (t668 == t669)))) else (some false)) = some r := H
       have A64 := Aside0.mk A640
       clear A640
       by_cases c65 : (t666 == t667) = true
       ·rw [if_pos c65] at H
        have c65b0 : (t666 == t667) = true := c65
        (try (have c65b1 : decide (t666 = t667) = true := by simpa using c65))
        (try (have c65b2 : (t666 == t667) = true := by simpa using c65))
        clear c65
        replace H := Option.bind_eq_some_iff.mp H
        obtain ⟨t668, A660, H⟩ := H
        replace H : ((char_White.f a2).bind fun t669 => (some (t668 == t669))) = some r := H
        have A66 := Aside0.mk A660
        clear A660
        replace H := Option.bind_eq_some_iff.mp H
        obtain ⟨t669, A670, H⟩ := H
        replace H : (some (t668 == t669)) = some r := H
        have A67 := Aside0.mk A670
        clear A670
        obtain rfl := Option.some.inj H
        go_wp2_with (first | ((with_reducible refine gate_callee (f := 14) rfl ?_); refine goesL_ (some 70) rfl rfl Try.func14 (by kernel_rfl) rfl #[.int .u8 105] rfl (by (try simp only [List.map_toArray, List.map_cons, List.map_nil]); first | done | rfl | (simp only [List.length_drop, List.length_take]; rfl)) ?_; (with_reducible refine (set_Escape.calls kj11 105 t652 t653 _ A57.out).mono ?_); rintro e w68 ⟨v654, rfl, ho0, hb⟩; refine ⟨_, rfl, ?_⟩; have n0_ := Aside0.mk (Kd.R_below (S.r HO_635000.out) hb); have n1_ := Aside0.mk (Kd.R_below (S.r HO_644000.out) hb); have n2_ := Aside0.mk (Kd.R_lower ho0 (below_size (by repeat (first | (with_reducible first | exact HB.out | apply below_alloc | apply pw_below_drewN | apply below_drew1 | refine below_set ?_ GE634.out | refine below_set ?_ GE643.out) | exact HB.out)))); have n3_ := Aside0.mk (blk_below (g := gb634) (o := .cells #[.slice Ao17 t630.length co17] 38 (0, 0)) (S.b BK634.out) hb); have n4_ := Aside0.mk (blk_below (g := gb643) (o := .cells #[.slice Ao22 t639.length co22] 38 (0, 0)) (S.b BK643.out) hb); have n5_ := Aside0.mk (below_step (by repeat (first | (with_reducible first | exact HB.out | apply below_alloc | apply pw_below_drewN | apply below_drew1 | refine below_set ?_ GE634.out | refine below_set ?_ GE643.out) | exact HB.out)) hb); clear HO_635000; clear HO_644000; clear BK634; clear BK643; clear HB; have HO_635000 := n0_; have HO_644000 := n1_; have HO655 := n2_; have BK634 := n3_; have BK643 := n4_; have HB := n5_; clear n0_ n1_ n2_ n3_ n4_ n5_; (try clear hb); (try clear hb2); (try clear hk); (try clear hi); (try clear ho0)) | ((with_reducible refine gate_callee (f := 14) rfl ?_); refine goesL_ (some 74) rfl rfl Try.func14 (by kernel_rfl) rfl #[.int .u8 99] rfl (by (try simp only [List.map_toArray, List.map_cons, List.map_nil]); first | done | rfl | (simp only [List.length_drop, List.length_take]; rfl)) ?_; (with_reducible refine (set_Escape.calls kj11 99 t656 t657 _ A58.out).mono ?_); rintro e w69 ⟨v658, rfl, ho0, hb⟩; refine ⟨_, rfl, ?_⟩; have n0_ := Aside0.mk (Kd.R_below (S.r HO_635000.out) hb); have n1_ := Aside0.mk (Kd.R_below (S.r HO_644000.out) hb); have n2_ := Aside0.mk (Kd.R_elder' (S.r HO655.out) (Kd.R_base ho0) hb); have n3_ := Aside0.mk (Kd.R_lower (Kd.R_new' ho0 (Kd.R_lt (S.r HO655.out))) (below_size (by repeat (first | (with_reducible first | exact HB.out | apply below_alloc | apply pw_below_drewN | apply below_drew1 | refine below_set ?_ GE634.out | refine below_set ?_ GE643.out) | exact HB.out)))); have n4_ := Aside0.mk (blk_below (g := gb634) (o := .cells #[.slice Ao17 t630.length co17] 38 (0, 0)) (S.b BK634.out) hb); have n5_ := Aside0.mk (blk_below (g := gb643) (o := .cells #[.slice Ao22 t639.length co22] 38 (0, 0)) (S.b BK643.out) hb); have n6_ := Aside0.mk (below_step (by repeat (first | (with_reducible first | exact HB.out | apply below_alloc | apply pw_below_drewN | apply below_drew1 | refine below_set ?_ GE634.out | refine below_set ?_ GE643.out) | exact HB.out)) hb); clear HO_635000; clear HO_644000; clear HO655; clear BK634; clear BK643; clear HB; have HO_635000 := n0_; have HO_644000 := n1_; have HO655 := n2_; have HO659 := n3_; have BK634 := n4_; have BK643 := n5_; have HB := n6_; clear n0_ n1_ n2_ n3_ n4_ n5_ n6_; (try clear hb); (try clear hb2); (try clear hk); (try clear hi); (try clear ho0)) | ((with_reducible refine gate_callee (f := 14) rfl ?_); refine goesL_ (some 78) rfl rfl Try.func14 (by kernel_rfl) rfl #[.int .u8 115] rfl (by (try simp only [List.map_toArray, List.map_cons, List.map_nil]); first | done | rfl | (simp only [List.length_drop, List.length_take]; rfl)) ?_; (with_reducible refine (set_Escape.calls kj11 115 t660 t661 _ A59.out).mono ?_); rintro e w70 ⟨v662, rfl, ho0, hb⟩; refine ⟨_, rfl, ?_⟩; have n0_ := Aside0.mk (Kd.R_below (S.r HO_635000.out) hb); have n1_ := Aside0.mk (Kd.R_below (S.r HO_644000.out) hb); have n2_ := Aside0.mk (Kd.R_elder' (S.r HO655.out) (Kd.R_base ho0) hb); have n3_ := Aside0.mk (Kd.R_elder' (S.r HO659.out) (Kd.R_base ho0) hb); have n4_ := Aside0.mk (Kd.R_lower (Kd.R_new' (Kd.R_new' ho0 (Kd.R_lt (S.r HO655.out))) (Kd.R_lt (S.r HO659.out))) (below_size (by repeat (first | (with_reducible first | exact HB.out | apply below_alloc | apply pw_below_drewN | apply below_drew1 | refine below_set ?_ GE634.out | refine below_set ?_ GE643.out) | exact HB.out)))); have n5_ := Aside0.mk (blk_below (g := gb634) (o := .cells #[.slice Ao17 t630.length co17] 38 (0, 0)) (S.b BK634.out) hb); have n6_ := Aside0.mk (blk_below (g := gb643) (o := .cells #[.slice Ao22 t639.length co22] 38 (0, 0)) (S.b BK643.out) hb); have n7_ := Aside0.mk (below_step (by repeat (first | (with_reducible first | exact HB.out | apply below_alloc | apply pw_below_drewN | apply below_drew1 | refine below_set ?_ GE634.out | refine below_set ?_ GE643.out) | exact HB.out)) hb); clear HO_635000; clear HO_644000; clear HO655; clear HO659; clear BK634; clear BK643; clear HB; have HO_635000 := n0_; have HO_644000 := n1_; have HO655 := n2_; have HO659 := n3_; have HO663 := n4_; have BK634 := n5_; have BK643 := n6_; have HB := n7_; clear n0_ n1_ n2_ n3_ n4_ n5_ n6_ n7_; (try clear hb); (try clear hb2); (try clear hk); (try clear hi); (try clear ho0); obtain ⟨Ao71, co71, eo71⟩ := Kd.R_slice HO655.out; subst eo71) | ((with_reducible refine gate_callee (f := 11) rfl ?_); refine goesL_ (some 83) rfl rfl Try.func11 (by kernel_rfl) rfl #[.slice Ao71 t652.length co71, .int .i32 a2] rfl (by (try simp only [List.map_toArray, List.map_cons, List.map_nil]); first | done | rfl | (simp only [List.length_drop, List.length_take]; rfl)) ?_; (with_reducible refine (G.set_Has.calls _ _ t652 a2 t664 _ ?side1 ?side2 A60.out).mono ?_); (case side1 => repeat (first | exact (Kd.R_reads' HO655.out).2.2 | (with_reducible refine Kd.C_alloc ?_ _) | (with_reducible refine Kd.C_drewN ?_ _) | (with_reducible refine Kd.C_drew ?_))); (case side2 => exact (Kd.R_reads' HO655.out).2.1); rintro e w72 ⟨rfl, hb⟩; refine ⟨_, rfl, ?_⟩; have n0_ := Aside0.mk (Kd.R_below (S.r HO_635000.out) hb); have n1_ := Aside0.mk (Kd.R_below (S.r HO_644000.out) hb); have n2_ := Aside0.mk (Kd.R_below (S.r HO655.out) hb); have n3_ := Aside0.mk (Kd.R_below (S.r HO659.out) hb); have n4_ := Aside0.mk (Kd.R_below (S.r HO663.out) hb); have n5_ := Aside0.mk (blk_below (g := gb634) (o := .cells #[.slice Ao17 t630.length co17] 38 (0, 0)) (S.b BK634.out) hb); have n6_ := Aside0.mk (blk_below (g := gb643) (o := .cells #[.slice Ao22 t639.length co22] 38 (0, 0)) (S.b BK643.out) hb); have n7_ := Aside0.mk (below_step (by repeat (first | (with_reducible first | exact HB.out | apply below_alloc | apply pw_below_drewN | apply below_drew1 | refine below_set ?_ GE634.out | refine below_set ?_ GE643.out) | exact HB.out)) hb); clear HO_635000; clear HO_644000; clear HO655; clear HO659; clear HO663; clear BK634; clear BK643; clear HB; have HO_635000 := n0_; have HO_644000 := n1_; have HO655 := n2_; have HO659 := n3_; have HO663 := n4_; have BK634 := n5_; have BK643 := n6_; have HB := n7_; clear n0_ n1_ n2_ n3_ n4_ n5_ n6_ n7_; (try clear hb); (try clear hb2); (try clear hk); (try clear hi)) | ((with_reducible refine gate_callee (f := 20) rfl ?_); refine goesL_ (some 85) rfl rfl Try.func20 (by kernel_rfl) rfl #[.int .i32 a2] rfl (by (try simp only [List.map_toArray, List.map_cons, List.map_nil]); first | done | rfl | (simp only [List.length_drop, List.length_take]; rfl)) ?_; (with_reducible refine (char_Start.calls kj11 a2 t665 _ A61.out).mono ?_); rintro e w' ⟨rfl, ⟨nd, rfl⟩⟩; refine ⟨_, rfl, ?_⟩; obtain ⟨Ao73, co73, eo73⟩ := Kd.R_slice HO659.out; subst eo73) | (go_at_call 11; (with_reducible refine (G.set_Has.calls _ _ t656 a2 t666 _ ?side1 ?side2 A63.out).mono ?_); (case side1 => repeat (first | exact (Kd.R_reads' HO659.out).2.2 | (with_reducible refine Kd.C_alloc ?_ _) | (with_reducible refine Kd.C_drewN ?_ _) | (with_reducible refine Kd.C_drew ?_))); (case side2 => exact (Kd.R_reads' HO659.out).2.1); rintro e w74 ⟨rfl, hb⟩; have n0_ := Aside0.mk (Kd.R_below (S.r HO_635000.out) hb); have n1_ := Aside0.mk (Kd.R_below (S.r HO_644000.out) hb); have n2_ := Aside0.mk (Kd.R_below (S.r HO655.out) hb); have n3_ := Aside0.mk (Kd.R_below (S.r HO659.out) hb); have n4_ := Aside0.mk (Kd.R_below (S.r HO663.out) hb); have n5_ := Aside0.mk (blk_below (g := gb634) (o := .cells #[.slice Ao17 t630.length co17] 38 (0, 0)) (S.b BK634.out) hb); have n6_ := Aside0.mk (blk_below (g := gb643) (o := .cells #[.slice Ao22 t639.length co22] 38 (0, 0)) (S.b BK643.out) hb); have n7_ := Aside0.mk (below_step (by repeat (first | (with_reducible first | exact HB.out | apply below_alloc | apply pw_below_drewN | apply below_drew1 | refine below_set ?_ GE634.out | refine below_set ?_ GE643.out) | exact HB.out)) hb); clear HO_635000; clear HO_644000; clear HO655; clear HO659; clear HO663; clear BK634; clear BK643; clear HB; have HO_635000 := n0_; have HO_644000 := n1_; have HO655 := n2_; have HO659 := n3_; have HO663 := n4_; have BK634 := n5_; have BK643 := n6_; have HB := n7_; clear n0_ n1_ n2_ n3_ n4_ n5_ n6_ n7_; (try clear hb); (try clear hb2); (try clear hk); (try clear hi)) | (go_at_call 21; (with_reducible refine (char_Part.calls kj11 a2 t667 _ A64.out).mono ?_); rintro e w' ⟨rfl, ⟨nd, rfl⟩⟩; obtain ⟨Ao75, co75, eo75⟩ := Kd.R_slice HO663.out; subst eo75) | (go_at_call 11; (with_reducible refine (G.set_Has.calls _ _ t660 a2 t668 _ ?side1 ?side2 A66.out).mono ?_); (case side1 => repeat (first | exact (Kd.R_reads' HO663.out).2.2 | (with_reducible refine Kd.C_alloc ?_ _) | (with_reducible refine Kd.C_drewN ?_ _) | (with_reducible refine Kd.C_drew ?_))); (case side2 => exact (Kd.R_reads' HO663.out).2.1); rintro e w76 ⟨rfl, hb⟩; have n0_ := Aside0.mk (Kd.R_below (S.r HO_635000.out) hb); have n1_ := Aside0.mk (Kd.R_below (S.r HO_644000.out) hb); have n2_ := Aside0.mk (Kd.R_below (S.r HO655.out) hb); have n3_ := Aside0.mk (Kd.R_below (S.r HO659.out) hb); have n4_ := Aside0.mk (Kd.R_below (S.r HO663.out) hb); have n5_ := Aside0.mk (blk_below (g := gb634) (o := .cells #[.slice Ao17 t630.length co17] 38 (0, 0)) (S.b BK634.out) hb); have n6_ := Aside0.mk (blk_below (g := gb643) (o := .cells #[.slice Ao22 t639.length co22] 38 (0, 0)) (S.b BK643.out) hb); have n7_ := Aside0.mk (below_step (by repeat (first | (with_reducible first | exact HB.out | apply below_alloc | apply pw_below_drewN | apply below_drew1 | refine below_set ?_ GE634.out | refine below_set ?_ GE643.out) | exact HB.out)) hb); clear HO_635000; clear HO_644000; clear HO655; clear HO659; clear HO663; clear BK634; clear BK643; clear HB; have HO_635000 := n0_; have HO_644000 := n1_; have HO655 := n2_; have HO659 := n3_; have HO663 := n4_; have BK634 := n5_; have BK643 := n6_; have HB := n7_; clear n0_ n1_ n2_ n3_ n4_ n5_ n6_ n7_; (try clear hb); (try clear hb2); (try clear hk); (try clear hi)) | (go_at_call 22; (with_reducible refine (char_White.calls a2 t669 _ A67.out).mono ?_); rintro e w' ⟨rfl, ⟨nd, rfl⟩⟩))
        go_ret
        exact ⟨by first | rfl | (simp [errW_none, errW_some] <;> rfl) | (simp [*, errW_none, errW_some] <;> rfl), by repeat (first | (with_reducible first | exact HB.out | apply below_alloc | apply pw_below_drewN | apply below_drew1 | refine below_set ?_ GE634.out | refine below_set ?_ GE643.out) | exact HB.out)⟩
       ·rw [if_neg c65] at H
        have c65b0 : (t666 == t667) = false := by simpa using c65
        (try (have c65b1 : decide (t666 = t667) = false := by simpa using c65))
        (try (have c65b2 : (t666 == t667) = false := by simpa using c65))
        (try (have c65b3 : ¬ (t666 = t667) := by simpa using c65))
        clear c65
        exact absurd ((Option.some.inj H).trans HRT.out) (by decide)
      ·rw [if_neg c62] at H
       have c62b0 : (t664 == t665) = false := by simpa using c62
       (try (have c62b1 : decide (t664 = t665) = false := by simpa using c62))
       (try (have c62b2 : (t664 == t665) = false := by simpa using c62))
       (try (have c62b3 : ¬ (t664 = t665) := by simpa using c62))
       clear c62
       exact absurd ((Option.some.inj H).trans HRT.out) (by decide)
 ·replace c5 := Bool.eq_false_iff.mpr c5
  subst c5
  have H1 : (some false) = some r := by rw [if_neg (show ¬ (false = true) by decide)] at H; exact H
  clear H
  have H := H1
  clear H1
  exact absurd ((Option.some.inj H).trans HRT.out) (by decide)

/-- THE ONE PURE STATEMENT of rubriclaw7_SetNames: yours. -/
def rubriclaw7_SetNames.Pure : Prop := ∀ (a0 : Int) (a1 : ByteArray) (a2 : Int), (Lit.int .u8 a0).wf = true → a1.size ≤ 140737488351232 → (Lit.int .i32 a2).wf = true → ∃ k, rubriclaw7_SetNames.f k a0 a1 a2 = some true
theorem rubriclaw7_SetNames.walk (P : rubriclaw7_SetNames.Pure) (a0 : Int) (a1 : ByteArray) (a2 : Int) (w : World) (w0 : (Lit.int .u8 a0).wf = true) (w1 : a1.size ≤ 140737488351232) (w2 : (Lit.int .i32 a2).wf = true) :
  Calls Try.prog 5 #[.int .u8 a0, .string a1, .int .i32 a2] w fun e w' => e = .returned (.bool true) ∧ Below w.heap.size w w' := by
 obtain ⟨k, h⟩ := P a0 a1 a2 w0 w1 w2
 refine (rubriclaw7_SetNames.calls k a0 a1 a2 true w h rfl).mono ?_
 rintro e w' ⟨rfl, hd⟩
 exact ⟨rfl, hd⟩

end Go.Proofs.Ytjhmpippcndloaa.Pr
