-- printed by wip/gprint.py (ours) out of the translation, by the kit's print program with given contracts
import Derived.Test.YtjhmpippcndloaaPrx0
import Derived.Test.YtjhmpippcndloaaPrx2
import Derived.Test.YtjhmpippcndloaaPrx12
import Derived.Test.YtjhmpippcndloaaPrx13
namespace Go.Proofs.Ytjhmpippcndloaa.Pr
open Go.RowKit Go.Proofs.YtjhmpippcndloaaW.PrintWords Go.Proofs.YtjhmpippcndloaaW.PrintLast Go.Proofs.YtjhmpippcndloaaW.PrintMore
attribute [local go_sem] max2_int min2_int max_two min_two max_three min_three max_four min_four   -- for this text's walks alone
set_option linter.unusedVariables false
set_option linter.unusedSimpArgs false

attribute [local go_sem high] eqA58
/-! ### rubricref7_Escape: function 15 -/
mutual
def rubricref7_Escape.j0 : Nat → Int → Bool → Option ((List (S58)) × Bool)
 | 0, _, _ => none
 | k + 1, x0, x58 => if x58 = true then ((rubricref7_Escape.f k (wrap64 (x0 + 32))).bind fun bt602 => ((rubricref7_Set_Not.f k bt602.1).bind fun t607 => (some (t607, true)))) else (some (([] : List (S58)), false))
def rubricref7_Escape.f : Nat → Int → Option ((List (S58)) × Bool)
 | 0, _ => none
 | k + 1, a0 => if a0 = 115 then ((rubricref7_Of.f k (([(⟨9, 10⟩ : S58), (⟨13, 13⟩ : S58), (⟨32, 32⟩ : S58)] : List (S58)))).bind fun t553 => (some (t553, true))) else (if a0 = 105 then ((rubricref7_starts.f).bind fun t556 => ((rubricref7_Of.f k t556).bind fun t559 => (some (t559, true)))) else (if a0 = 99 then ((rubricref7_starts.f).bind fun t562 => ((some (([(⟨45, 46⟩ : S58), (⟨48, 57⟩ : S58), (⟨183, 183⟩ : S58)] : List (S58)) : List (S58))).bind fun y565 => (if t562.length + y565.length < 8796093022208 then ((rubricref7_Of.f k (t562 ++ y565)).bind fun t571 => (some (t571, true))) else (none)))) else (if a0 = 100 then ((rubricref7_Category.f k (⟨#[78, 100]⟩ : ByteArray)).bind fun bt574 => (some (bt574.1, bt574.2))) else (if a0 = 119 then ((rubricref7_Category.f k (⟨#[80]⟩ : ByteArray)).bind fun bt578 => ((rubricref7_Category.f k (⟨#[90]⟩ : ByteArray)).bind fun bt583 => ((rubricref7_Category.f k (⟨#[67]⟩ : ByteArray)).bind fun bt588 => ((rubricref7_Union.f k bt578.1 bt583.1).bind fun t593 => ((rubricref7_Union.f k t593 bt588.1).bind fun t596 => ((rubricref7_Set_Not.f k t596).bind fun t599 => (some (t599, true)))))))) else (if a0 = 83 then (rubricref7_Escape.j0 k a0 (a0 == 83)) else (if a0 = 73 then (rubricref7_Escape.j0 k a0 (a0 == 73)) else (if a0 = 67 then (rubricref7_Escape.j0 k a0 (a0 == 67)) else (if a0 = 68 then (rubricref7_Escape.j0 k a0 (a0 == 68)) else (rubricref7_Escape.j0 k a0 (a0 == 87))))))))))
end
theorem rubricref7_Escape.mono_l : ∀ k, (∀ y0, LeO (rubricref7_Escape.f k y0) (rubricref7_Escape.f (k + 1) y0)) ∧ (∀ y0 y1, LeO (rubricref7_Escape.j0 k y0 y1) (rubricref7_Escape.j0 (k + 1) y0 y1))
 | 0 => ⟨fun _ r h => by simp [rubricref7_Escape.f] at h, fun _ _ r h => by simp [rubricref7_Escape.j0] at h⟩
 | k + 1 => by
  obtain ⟨ih0, ih1⟩ := rubricref7_Escape.mono_l k
  refine ⟨?_, ?_⟩
  ·intro y0
   unfold rubricref7_Escape.f
   repeat' first
   | (with_reducible exact ih0 _)
   | (with_reducible exact ih1 _ _)
   | (with_reducible exact rubricref7_Category.mono _ _)
   | (with_reducible exact rubricref7_Of.mono _ _)
   | (with_reducible exact rubricref7_Set_Not.mono _ _)
   | (with_reducible exact rubricref7_Union.mono _ _ _)
   | (with_reducible exact LeO.refl _)
   | (with_reducible exact LeO.none _)
   | (with_reducible refine LeO.ite ?_ ?_)
   | (with_reducible refine LeO.bind ?_ (fun _ => ?_))
   | exact ih0 _
   | exact ih1 _ _
   | exact rubricref7_Category.mono _ _
   | exact rubricref7_Of.mono _ _
   | exact rubricref7_Set_Not.mono _ _
   | exact rubricref7_Union.mono _ _ _
   | exact LeO.none _
   | refine LeO.ite ?_ ?_
   | refine LeO.bind ?_ (fun _ => ?_)
  ·intro y0 y1
   unfold rubricref7_Escape.j0
   repeat' first
   | (with_reducible exact ih0 _)
   | (with_reducible exact ih1 _ _)
   | (with_reducible exact rubricref7_Category.mono _ _)
   | (with_reducible exact rubricref7_Of.mono _ _)
   | (with_reducible exact rubricref7_Set_Not.mono _ _)
   | (with_reducible exact rubricref7_Union.mono _ _ _)
   | (with_reducible exact LeO.refl _)
   | (with_reducible exact LeO.none _)
   | (with_reducible refine LeO.ite ?_ ?_)
   | (with_reducible refine LeO.bind ?_ (fun _ => ?_))
   | exact ih0 _
   | exact ih1 _ _
   | exact rubricref7_Category.mono _ _
   | exact rubricref7_Of.mono _ _
   | exact rubricref7_Set_Not.mono _ _
   | exact rubricref7_Union.mono _ _ _
   | exact LeO.none _
   | refine LeO.ite ?_ ?_
   | refine LeO.bind ?_ (fun _ => ?_)
theorem rubricref7_Escape.mono : ∀ a0 k, LeO (rubricref7_Escape.f k a0) (rubricref7_Escape.f (k + 1) a0) := by
 intro a0 k
 obtain ⟨ih0, ih1⟩ := rubricref7_Escape.mono_l k
 exact ih0 a0
def rubricref7_Escape.T14 : Bool × List (List Nat × List Nat) := (true, [([], []), ([], []), ([0, 1], [0, 1]), ([], []), ([2, 3, 2], [2, 3]), ([4, 4], [4]), ([5, 5, 0, 1, 2, 3, 4, 5], [5]), ([6, 0, 1, 2, 3, 4, 5, 6], [])])
def rubricref7_Escape.B14 : List Nat := [0, 0, 3, 0, 15, 31, 63, 127]
theorem rubricref7_Escape.tab14 : rtab .any (opsOf Try.f15 14) = rubricref7_Escape.T14 := by kernel_rfl
theorem rubricref7_Escape.bits14 : waitsOk rubricref7_Escape.T14.2 rubricref7_Escape.B14 = true := by kernel_rfl
set_option maxHeartbeats 8000000 in
set_option maxRecDepth 100000 in
theorem rubricref7_Escape.calls (k : Nat) : ∀ (a0 : Int) (r1 : List (S58)) (r2 : Bool) (w : World) (h : rubricref7_Escape.f k a0 = some (r1, r2)),
  Calls Try.prog 15 #[.int .i64 a0] w fun e w' => ∃ v0_ : Value, e = .returned (.tuple #[.agg #[v0_], .bool r2]) ∧ Kd.R k58 58 w' w.heap.size (fun _ => True) v0_ r1 ∧ Below w.heap.size w w' := by
 induction k using Nat.strongRecOn with
 | _ k ih =>
 intro a0 r1 r2 w h
 cases k with
 | zero => exact absurd h (by simp [rubricref7_Escape.f])
 | succ k =>
 simp only [rubricref7_Escape.f] at h
 have hu38 := Try.underlying38
 have hu58 := Try.underlying58
 have HB := Aside0.mk (Below.refl w.heap.size w)
 have H : (if a0 = 115 then ((rubricref7_Of.f k (([(⟨9, 10⟩ : S58), (⟨13, 13⟩ : S58), (⟨32, 32⟩ : S58)] : List (S58)))).bind fun t553 => (some (t553, true))) else (if a0 = 105 then ((rubricref7_starts.f).bind fun t556 => ((rubricref7_Of.f k t556).bind fun t559 => (some (t559, true)))) else (if a0 = 99 then ((rubricref7_starts.f).bind fun t562 => ((some (([(⟨45, 46⟩ : S58), (⟨48, 57⟩ : S58), (⟨183, 183⟩ : S58)] : List (S58)) : List (S58))).bind fun y565 => (if t562.length + y565.length < 8796093022208 then ((rubricref7_Of.f k (t562 ++ y565)).bind fun t571 => (some (t571, true))) else (none)))) else (if a0 = 100 then ((rubricref7_Category.f k (⟨#[78, 100]⟩ : ByteArray)).bind fun bt574 => (some (bt574.1, bt574.2))) else (if a0 = 119 then ((rubricref7_Category.f k (⟨#[80]⟩ : ByteArray)).bind fun bt578 => ((rubricref7_Category.f k (⟨#[90]⟩ : ByteArray)).bind fun bt583 => ((rubricref7_Category.f k (⟨#[67]⟩ : ByteArray)).bind fun bt588 => ((rubricref7_Union.f k bt578.1 bt583.1).bind fun t593 => ((rubricref7_Union.f k t593 bt588.1).bind fun t596 => ((rubricref7_Set_Not.f k t596).bind fun t599 => (some (t599, true)))))))) else (if a0 = 83 then (rubricref7_Escape.j0 k a0 (a0 == 83)) else (if a0 = 73 then (rubricref7_Escape.j0 k a0 (a0 == 73)) else (if a0 = 67 then (rubricref7_Escape.j0 k a0 (a0 == 67)) else (if a0 = 68 then (rubricref7_Escape.j0 k a0 (a0 == 68)) else (rubricref7_Escape.j0 k a0 (a0 == 87))))))))))) = some (r1, r2) := h
 clear h
 by_cases c2 : a0 = 115
 ·rw [if_pos c2] at H
  have c2b0 : (a0 == 115) = true := beq_iff_eq.mpr c2
  have c2b1 : (a0 != 115) = false := bne_eq_false_iff_eq.mpr c2
  clear c2
  obtain ⟨y550, hy550⟩ : ∃ y_ : List (S58), y_ = (([(⟨9, 10⟩ : S58), (⟨13, 13⟩ : S58), (⟨32, 32⟩ : S58)] : List (S58))) := ⟨_, rfl⟩
  replace H : ((rubricref7_Of.f k y550).bind fun t553 => (some (t553, true))) = some (r1, r2) := by first | (rw [hy550]; with_reducible exact H) | (have H2_ := (Option.bind_some _ _).symm.trans H; rw [hy550]; with_reducible exact H2_) | (have H2_ := (Option.bind_some _ _).symm.trans H; with_reducible exact H2_) | with_reducible exact H | (rw [hy550]; exact H) | exact H
  have Ny550 := Aside0.mk hy550
  clear hy550
  replace H := Option.bind_eq_some_iff.mp H
  obtain ⟨t553, A30, H⟩ := H
  replace H : (some (t553, true)) = some (r1, r2) := H
  have A3 := Aside0.mk A30
  clear A30
  simp only [Option.some.injEq, Prod.mk.injEq] at H
  obtain ⟨rfl, rfl⟩ := H
  go_enter Try.func15, Try.ntmps15
  go_wp2_with (first | ((with_reducible refine gate_dst (N := 2) rfl ?_); refine box_event ?hg (N := 2) ?hd (cs := #[.slice none 0 0]) (t := 38) ?hr ?_; (case hd => rfl); (case hg => rfl); (case hr => first | (go_simp; done) | (go_simp; rfl)); intro gb549 hg w4 hbox hb; have n0_ := Aside0.mk (below_step (by repeat (first | (with_reducible first | exact HB.out | apply below_alloc | apply pw_below_drewN | apply below_drew1) | exact HB.out)) hb); have n1_ := Aside0.mk (hbox); have n2_ := Aside0.mk ((by rw [hg]; exact (below_size (by repeat (first | (with_reducible first | exact HB.out | apply below_alloc | apply pw_below_drewN | apply below_drew1) | exact HB.out))) : w.heap.size ≤ gb549)); have n3_ := Aside0.mk ((by rw [hg]; exact (below_size (by repeat (first | (with_reducible first | exact HB.out | apply below_alloc | apply pw_below_drewN | apply below_drew1) | exact HB.out))) : w.heap.size ≤ gb549)); clear HB; have HB := n0_; have BK549 := n1_; have GW549 := n2_; have GE549 := n3_; clear n0_ n1_ n2_ n3_; clear hb hbox hg) | ((with_reducible refine gate_dst (N := 18) rfl ?_); refine Kd.R_lit k58 _ 58 ?hg (N := 18) ?hd (xs := ([(⟨9, 10⟩ : S58), (⟨13, 13⟩ : S58), (⟨32, 32⟩ : S58)] : List (S58))) (inner := [.int .i64 9, .int .i64 10, .int .i64 13, .int .i64 13, .int .i64 32, .int .i64 32]) (ok := fun _ => True) (okp := fun _ => True) ?hr ?hp (fun _ hk => hk) trivial (Below.refl _ _) (Nat.le_refl _) (by simp) ?_; (case hd => rfl); (case hg => rfl); (case hr => first | (go_simp; done) | (go_simp; rfl)); (case hp => exact (Reps.c2 (show Kd.M k58 _ _ _ (⟨9, 10⟩ : S58) [.int .i64 9, .int .i64 10] from (k58_mkM _ _ _ (⟨9, 10⟩ : S58) )) (Reps.c2 (show Kd.M k58 _ _ _ (⟨13, 13⟩ : S58) [.int .i64 13, .int .i64 13] from (k58_mkM _ _ _ (⟨13, 13⟩ : S58) )) (Reps.c2 (show Kd.M k58 _ _ _ (⟨32, 32⟩ : S58) [.int .i64 32, .int .i64 32] from (k58_mkM _ _ _ (⟨32, 32⟩ : S58) )) (Reps.none _ _))))); intro v551 w5 ho6 hb hg_ hnew_; clear hg_ hnew_; (first | rw [← Ny550.out] at ho6 | (simp only [Int.reduceToNat] at ho6; rw [← Ny550.out] at ho6)); have n0_ := Aside0.mk (Kd.R_lower ho6 (below_size (by repeat (first | (with_reducible first | exact HB.out | apply below_alloc | apply pw_below_drewN | apply below_drew1 | refine below_set ?_ GE549.out) | exact HB.out)))); have n1_ := Aside0.mk (blk_below (g := gb549) (o := .cells #[.slice none 0 0] 38 (0, 0)) (S.b BK549.out) hb); have n2_ := Aside0.mk (below_step (by repeat (first | (with_reducible first | exact HB.out | apply below_alloc | apply pw_below_drewN | apply below_drew1 | refine below_set ?_ GE549.out) | exact HB.out)) hb); clear BK549; clear HB; have HO552 := n0_; have BK549 := n1_; have HB := n2_; clear n0_ n1_ n2_; clear hb ho6; obtain ⟨Ao7, co7, eo7⟩ := Kd.R_slice HO552.out; subst eo7) | ((with_reducible refine gate_callee (f := 38) rfl ?_); refine goesL_ (some 19) rfl rfl Try.func38 (by kernel_rfl) rfl #[.slice Ao7 y550.length co7] rfl (by (try simp only [List.map_toArray, List.map_cons, List.map_nil]); first | done | rfl | (simp only [List.length_drop, List.length_take]; rfl)) ?_; (with_reducible refine (rubricref7_Of.calls k _ _ y550 t553 _ ?side1 ?side2 A3.out).mono ?_); (case side1 => repeat (first | exact (Kd.R_reads' HO552.out).2.2 | (with_reducible refine Kd.C_alloc ?_ _) | (with_reducible refine Kd.C_drewN ?_ _) | (with_reducible refine Kd.C_drew ?_))); (case side2 => exact (Kd.R_reads' HO552.out).2.1); rintro e w8 ⟨v554, rfl, ho0, hb⟩; refine ⟨_, rfl, ?_⟩; have n0_ := Aside0.mk (Kd.R_elder' (S.r HO552.out) (Kd.R_base ho0) hb); have n1_ := Aside0.mk (Kd.R_lower (Kd.R_new' ho0 (Kd.R_lt (S.r HO552.out))) (below_size (by repeat (first | (with_reducible first | exact HB.out | apply below_alloc | apply pw_below_drewN | apply below_drew1 | refine below_set ?_ GE549.out) | exact HB.out)))); have n2_ := Aside0.mk (blk_below (g := gb549) (o := .cells #[.slice none 0 0] 38 (0, 0)) (S.b BK549.out) hb); have n3_ := Aside0.mk (below_step (by repeat (first | (with_reducible first | exact HB.out | apply below_alloc | apply pw_below_drewN | apply below_drew1 | refine below_set ?_ GE549.out) | exact HB.out)) hb); clear HO552; clear BK549; clear HB; have HO552 := n0_; have HO555 := n1_; have BK549 := n2_; have HB := n3_; clear n0_ n1_ n2_ n3_; (try clear hb); (try clear hb2); (try clear hk); (try clear hi); (try clear ho0); obtain ⟨Ao9, co9, eo9⟩ := Kd.R_slice HO555.out; subst eo9; have hcz10_0 : w8.cell? ⟨gb549, 0, none⟩ = some (.slice none 0 0) := (blk_cell BK549.out 0).trans rfl; have hfz10_0 := blk_frozen BK549.out 0))
  refine bodyPost_ret (results_ct rfl _ _ gb549 38 #[.slice Ao9 t553.length co9] (0, 0) _ rfl (by (with_reducible repeat (first | refine blk_drewN ?_ _ | refine blk_drew ?_ | refine blk_alloc ?_ _)); refine blk_put (cs := #[.slice none 0 0]) ?_ 0 _ rfl; (with_reducible repeat (first | refine blk_drewN ?_ _ | refine blk_drew ?_ | refine blk_alloc ?_ _)); exact BK549.out) Try.underlying38 rfl (by kernel_rfl)) rfl ?_
  exact ⟨_, by first | rfl | (simp [errW_none, errW_some] <;> rfl) | (simp [*, errW_none, errW_some] <;> rfl), by (with_reducible repeat (first | apply Kd.R_alloc | apply Kd.R_drewN | apply Kd.R_drew)); exact Kd.R_mono (Kd.R_far (p := ⟨gb549, 0, none⟩) (Kd.R_types HO555.out BK549.out (by decide)) (fun _ hk => hk.2) (.slice Ao9 t553.length co9)) (fun _ hk => trivial), by repeat (first | (with_reducible first | exact HB.out | apply below_alloc | apply pw_below_drewN | apply below_drew1 | refine below_set ?_ GE549.out) | exact HB.out)⟩
 ·rw [if_neg c2] at H
  have c2b0 : (a0 == 115) = false := beq_eq_false_iff_ne.mpr c2
  have c2b1 : (a0 != 115) = true := bne_iff_ne.mpr c2
  by_cases c11 : a0 = 105
  ·rw [if_pos c11] at H
   have c11b0 : (a0 == 105) = true := beq_iff_eq.mpr c11
   have c11b1 : (a0 != 105) = false := bne_eq_false_iff_eq.mpr c11
   clear c11
   replace H := Option.bind_eq_some_iff.mp H
   obtain ⟨t556, A120, H⟩ := H
   replace H : ((rubricref7_Of.f k t556).bind fun t559 => (some (t559, true))) = some (r1, r2) := H
   have A12 := Aside0.mk A120
   clear A120
   replace H := Option.bind_eq_some_iff.mp H
   obtain ⟨t559, A130, H⟩ := H
   replace H : (some (t559, true)) = some (r1, r2) := H
   have A13 := Aside0.mk A130
   clear A130
   simp only [Option.some.injEq, Prod.mk.injEq] at H
   obtain ⟨rfl, rfl⟩ := H
   go_enter Try.func15, Try.ntmps15
   go_wp2_with (first | ((with_reducible refine gate_dst (N := 2) rfl ?_); refine box_event ?hg (N := 2) ?hd (cs := #[.slice none 0 0]) (t := 38) ?hr ?_; (case hd => rfl); (case hg => rfl); (case hr => first | (go_simp; done) | (go_simp; rfl)); intro gb549 hg w14 hbox hb; have n0_ := Aside0.mk (below_step (by repeat (first | (with_reducible first | exact HB.out | apply below_alloc | apply pw_below_drewN | apply below_drew1) | exact HB.out)) hb); have n1_ := Aside0.mk (hbox); have n2_ := Aside0.mk ((by rw [hg]; exact (below_size (by repeat (first | (with_reducible first | exact HB.out | apply below_alloc | apply pw_below_drewN | apply below_drew1) | exact HB.out))) : w.heap.size ≤ gb549)); have n3_ := Aside0.mk ((by rw [hg]; exact (below_size (by repeat (first | (with_reducible first | exact HB.out | apply below_alloc | apply pw_below_drewN | apply below_drew1) | exact HB.out))) : w.heap.size ≤ gb549)); clear HB; have HB := n0_; have BK549 := n1_; have GW549 := n2_; have GE549 := n3_; clear n0_ n1_ n2_ n3_; clear hb hbox hg) | ((with_reducible refine gate_callee (f := 39) rfl ?_); refine goesL_ (some 22) rfl rfl Try.func39 (by kernel_rfl) rfl #[] rfl (by (try simp only [List.map_toArray, List.map_cons, List.map_nil]); first | done | rfl | (simp only [List.length_drop, List.length_take]; rfl)) ?_; (with_reducible refine (rubricref7_starts.calls  t556 _ A12.out).mono ?_); rintro e w15 ⟨v557, rfl, ho0, hb⟩; refine ⟨_, rfl, ?_⟩; have n0_ := Aside0.mk (Kd.R_lower ho0 (below_size (by repeat (first | (with_reducible first | exact HB.out | apply below_alloc | apply pw_below_drewN | apply below_drew1 | refine below_set ?_ GE549.out) | exact HB.out)))); have n1_ := Aside0.mk (blk_below (g := gb549) (o := .cells #[.slice none 0 0] 38 (0, 0)) (S.b BK549.out) hb); have n2_ := Aside0.mk (below_step (by repeat (first | (with_reducible first | exact HB.out | apply below_alloc | apply pw_below_drewN | apply below_drew1 | refine below_set ?_ GE549.out) | exact HB.out)) hb); clear BK549; clear HB; have HO558 := n0_; have BK549 := n1_; have HB := n2_; clear n0_ n1_ n2_; (try clear hb); (try clear hb2); (try clear hk); (try clear hi); (try clear ho0); obtain ⟨Ao16, co16, eo16⟩ := Kd.R_slice HO558.out; subst eo16) | ((with_reducible refine gate_callee (f := 38) rfl ?_); refine goesL_ (some 23) rfl rfl Try.func38 (by kernel_rfl) rfl #[.slice Ao16 t556.length co16] rfl (by (try simp only [List.map_toArray, List.map_cons, List.map_nil]); first | done | rfl | (simp only [List.length_drop, List.length_take]; rfl)) ?_; (with_reducible refine (rubricref7_Of.calls k _ _ t556 t559 _ ?side1 ?side2 A13.out).mono ?_); (case side1 => repeat (first | exact (Kd.R_reads' HO558.out).2.2 | (with_reducible refine Kd.C_alloc ?_ _) | (with_reducible refine Kd.C_drewN ?_ _) | (with_reducible refine Kd.C_drew ?_))); (case side2 => exact (Kd.R_reads' HO558.out).2.1); rintro e w17 ⟨v560, rfl, ho0, hb⟩; refine ⟨_, rfl, ?_⟩; have n0_ := Aside0.mk (Kd.R_elder' (S.r HO558.out) (Kd.R_base ho0) hb); have n1_ := Aside0.mk (Kd.R_lower (Kd.R_new' ho0 (Kd.R_lt (S.r HO558.out))) (below_size (by repeat (first | (with_reducible first | exact HB.out | apply below_alloc | apply pw_below_drewN | apply below_drew1 | refine below_set ?_ GE549.out) | exact HB.out)))); have n2_ := Aside0.mk (blk_below (g := gb549) (o := .cells #[.slice none 0 0] 38 (0, 0)) (S.b BK549.out) hb); have n3_ := Aside0.mk (below_step (by repeat (first | (with_reducible first | exact HB.out | apply below_alloc | apply pw_below_drewN | apply below_drew1 | refine below_set ?_ GE549.out) | exact HB.out)) hb); clear HO558; clear BK549; clear HB; have HO558 := n0_; have HO561 := n1_; have BK549 := n2_; have HB := n3_; clear n0_ n1_ n2_ n3_; (try clear hb); (try clear hb2); (try clear hk); (try clear hi); (try clear ho0); obtain ⟨Ao18, co18, eo18⟩ := Kd.R_slice HO561.out; subst eo18; have hcz19_0 : w17.cell? ⟨gb549, 0, none⟩ = some (.slice none 0 0) := (blk_cell BK549.out 0).trans rfl; have hfz19_0 := blk_frozen BK549.out 0))
   refine bodyPost_ret (results_ct rfl _ _ gb549 38 #[.slice Ao18 t559.length co18] (0, 0) _ rfl (by (with_reducible repeat (first | refine blk_drewN ?_ _ | refine blk_drew ?_ | refine blk_alloc ?_ _)); refine blk_put (cs := #[.slice none 0 0]) ?_ 0 _ rfl; (with_reducible repeat (first | refine blk_drewN ?_ _ | refine blk_drew ?_ | refine blk_alloc ?_ _)); exact BK549.out) Try.underlying38 rfl (by kernel_rfl)) rfl ?_
   exact ⟨_, by first | rfl | (simp [errW_none, errW_some] <;> rfl) | (simp [*, errW_none, errW_some] <;> rfl), by (with_reducible repeat (first | apply Kd.R_alloc | apply Kd.R_drewN | apply Kd.R_drew)); exact Kd.R_mono (Kd.R_far (p := ⟨gb549, 0, none⟩) (Kd.R_types HO561.out BK549.out (by decide)) (fun _ hk => hk.2) (.slice Ao18 t559.length co18)) (fun _ hk => trivial), by repeat (first | (with_reducible first | exact HB.out | apply below_alloc | apply pw_below_drewN | apply below_drew1 | refine below_set ?_ GE549.out) | exact HB.out)⟩
  ·rw [if_neg c11] at H
   have c11b0 : (a0 == 105) = false := beq_eq_false_iff_ne.mpr c11
   have c11b1 : (a0 != 105) = true := bne_iff_ne.mpr c11
   by_cases c20 : a0 = 99
   ·rw [if_pos c20] at H
    have c20b0 : (a0 == 99) = true := beq_iff_eq.mpr c20
    have c20b1 : (a0 != 99) = false := bne_eq_false_iff_eq.mpr c20
    clear c20
    replace H := Option.bind_eq_some_iff.mp H
    obtain ⟨t562, A210, H⟩ := H
    replace H : ((some (([(⟨45, 46⟩ : S58), (⟨48, 57⟩ : S58), (⟨183, 183⟩ : S58)] : List (S58)) : List (S58))).bind fun y565 => (if t562.length + y565.length < 8796093022208 then ((rubricref7_Of.f k (t562 ++ y565)).bind fun t571 => (some (t571, true))) else (none))) = some (r1, r2) := H
    have A21 := Aside0.mk A210
    clear A210
    obtain ⟨y565, hy565⟩ : ∃ y_ : List (S58), y_ = (([(⟨45, 46⟩ : S58), (⟨48, 57⟩ : S58), (⟨183, 183⟩ : S58)] : List (S58))) := ⟨_, rfl⟩
    replace H : (if t562.length + y565.length < 8796093022208 then ((rubricref7_Of.f k (t562 ++ y565)).bind fun t571 => (some (t571, true))) else (none)) = some (r1, r2) := by first | (rw [hy565]; with_reducible exact H) | (have H2_ := (Option.bind_some _ _).symm.trans H; rw [hy565]; with_reducible exact H2_) | (have H2_ := (Option.bind_some _ _).symm.trans H; with_reducible exact H2_) | with_reducible exact H | (rw [hy565]; exact H) | exact H
    have Ny565 := Aside0.mk hy565
    clear hy565
    by_cases c22 : t562.length + y565.length < 8796093022208
    ·rw [if_pos c22] at H
     have LMc22 := Aside0.mk c22
     clear c22
     obtain ⟨y568, hy568⟩ : ∃ y_ : List (S58), y_ = (t562 ++ y565) := ⟨_, rfl⟩
     replace H : ((rubricref7_Of.f k y568).bind fun t571 => (some (t571, true))) = some (r1, r2) := by first | (rw [hy568]; with_reducible exact H) | (have H2_ := (Option.bind_some _ _).symm.trans H; rw [hy568]; with_reducible exact H2_) | (have H2_ := (Option.bind_some _ _).symm.trans H; with_reducible exact H2_) | with_reducible exact H | (rw [hy568]; exact H) | exact H
     have Ny568 := Aside0.mk hy568
     clear hy568
     replace H := Option.bind_eq_some_iff.mp H
     obtain ⟨t571, A230, H⟩ := H
     replace H : (some (t571, true)) = some (r1, r2) := H
     have A23 := Aside0.mk A230
     clear A230
     simp only [Option.some.injEq, Prod.mk.injEq] at H
     obtain ⟨rfl, rfl⟩ := H
     go_enter Try.func15, Try.ntmps15
     go_wp2_with (first | ((with_reducible refine gate_dst (N := 2) rfl ?_); refine box_event ?hg (N := 2) ?hd (cs := #[.slice none 0 0]) (t := 38) ?hr ?_; (case hd => rfl); (case hg => rfl); (case hr => first | (go_simp; done) | (go_simp; rfl)); intro gb549 hg w24 hbox hb; have n0_ := Aside0.mk (below_step (by repeat (first | (with_reducible first | exact HB.out | apply below_alloc | apply pw_below_drewN | apply below_drew1) | exact HB.out)) hb); have n1_ := Aside0.mk (hbox); have n2_ := Aside0.mk ((by rw [hg]; exact (below_size (by repeat (first | (with_reducible first | exact HB.out | apply below_alloc | apply pw_below_drewN | apply below_drew1) | exact HB.out))) : w.heap.size ≤ gb549)); have n3_ := Aside0.mk ((by rw [hg]; exact (below_size (by repeat (first | (with_reducible first | exact HB.out | apply below_alloc | apply pw_below_drewN | apply below_drew1) | exact HB.out))) : w.heap.size ≤ gb549)); clear HB; have HB := n0_; have BK549 := n1_; have GW549 := n2_; have GE549 := n3_; clear n0_ n1_ n2_ n3_; clear hb hbox hg) | ((with_reducible refine gate_callee (f := 39) rfl ?_); refine goesL_ (some 26) rfl rfl Try.func39 (by kernel_rfl) rfl #[] rfl (by (try simp only [List.map_toArray, List.map_cons, List.map_nil]); first | done | rfl | (simp only [List.length_drop, List.length_take]; rfl)) ?_; (with_reducible refine (rubricref7_starts.calls  t562 _ A21.out).mono ?_); rintro e w25 ⟨v563, rfl, ho0, hb⟩; refine ⟨_, rfl, ?_⟩; have n0_ := Aside0.mk (Kd.R_lower ho0 (below_size (by repeat (first | (with_reducible first | exact HB.out | apply below_alloc | apply pw_below_drewN | apply below_drew1 | refine below_set ?_ GE549.out) | exact HB.out)))); have n1_ := Aside0.mk (blk_below (g := gb549) (o := .cells #[.slice none 0 0] 38 (0, 0)) (S.b BK549.out) hb); have n2_ := Aside0.mk (below_step (by repeat (first | (with_reducible first | exact HB.out | apply below_alloc | apply pw_below_drewN | apply below_drew1 | refine below_set ?_ GE549.out) | exact HB.out)) hb); clear BK549; clear HB; have HO564 := n0_; have BK549 := n1_; have HB := n2_; clear n0_ n1_ n2_; (try clear hb); (try clear hb2); (try clear hk); (try clear hi); (try clear ho0)) | ((with_reducible refine gate_dst (N := 30) rfl ?_); refine Kd.R_lit k58 _ 58 ?hg (N := 30) ?hd (xs := ([(⟨45, 46⟩ : S58), (⟨48, 57⟩ : S58), (⟨183, 183⟩ : S58)] : List (S58))) (inner := [.int .i64 45, .int .i64 46, .int .i64 48, .int .i64 57, .int .i64 183, .int .i64 183]) (ok := fun _ => True) (okp := fun _ => True) ?hr ?hp (fun _ hk => hk) trivial (Below.refl _ _) (Nat.le_refl _) (by simp) ?_; (case hd => rfl); (case hg => rfl); (case hr => first | (go_simp; done) | (go_simp; rfl)); (case hp => exact (Reps.c2 (show Kd.M k58 _ _ _ (⟨45, 46⟩ : S58) [.int .i64 45, .int .i64 46] from (k58_mkM _ _ _ (⟨45, 46⟩ : S58) )) (Reps.c2 (show Kd.M k58 _ _ _ (⟨48, 57⟩ : S58) [.int .i64 48, .int .i64 57] from (k58_mkM _ _ _ (⟨48, 57⟩ : S58) )) (Reps.c2 (show Kd.M k58 _ _ _ (⟨183, 183⟩ : S58) [.int .i64 183, .int .i64 183] from (k58_mkM _ _ _ (⟨183, 183⟩ : S58) )) (Reps.none _ _))))); intro v566 w26 ho27 hb hg_ hnew_; clear hg_ hnew_; (first | rw [← Ny565.out] at ho27 | (simp only [Int.reduceToNat] at ho27; rw [← Ny565.out] at ho27)); have n0_ := Aside0.mk (Kd.R_elder' (S.r HO564.out) (Kd.R_base ho27) hb); have n1_ := Aside0.mk (Kd.R_lower (Kd.R_new' ho27 (Kd.R_lt (S.r HO564.out))) (below_size (by repeat (first | (with_reducible first | exact HB.out | apply below_alloc | apply pw_below_drewN | apply below_drew1 | refine below_set ?_ GE549.out) | exact HB.out)))); have n2_ := Aside0.mk (blk_below (g := gb549) (o := .cells #[.slice none 0 0] 38 (0, 0)) (S.b BK549.out) hb); have n3_ := Aside0.mk (below_step (by repeat (first | (with_reducible first | exact HB.out | apply below_alloc | apply pw_below_drewN | apply below_drew1 | refine below_set ?_ GE549.out) | exact HB.out)) hb); clear HO564; clear BK549; clear HB; have HO564 := n0_; have HO567 := n1_; have BK549 := n2_; have HB := n3_; clear n0_ n1_ n2_ n3_; clear hb ho27; obtain ⟨Ao29, co29, eo29⟩ := Kd.R_slice HO567.out; subst eo29) | ((with_reducible refine gate_builtin (b := .append) (xs := #[.tmp 26, .tmp 30]) rfl ?_); at_builtin; refine Kd.R_append_rows k58 (w0 := w) w.heap.size rfl (.tmp 26) (.tmp 30) 36 58 (.agg #[(.int .i64 0), (.int .i64 0)]) 16 rfl Try.underlying36 info58 rfl (by decide) (by omega) v563 t562 y565 _ _ _ (fun k_ => some k_ ≠ (.slice Ao29 y565.length co29 : Value).ownBlock) (fun _ => False) rfl rfl ?aO ?aR (fun _ _ h => h) (fun _ h => h.elim) ?aF ?aB ?aS ?aL ?_; (case aR => repeat (first | exact (Kd.R_reads' HO567.out).2.2 | (with_reducible refine Kd.C_alloc ?_ _) | (with_reducible refine Kd.C_drewN ?_ _) | (with_reducible refine Kd.C_drew ?_))); (case aB => exact (by repeat (first | (with_reducible first | exact HB.out | apply below_alloc | apply pw_below_drewN | apply below_drew1 | refine below_set ?_ GE549.out) | exact HB.out))); (case aF => exact (fun k_ hk => Kd.fresh' (Kd.R_lt (S.r HO567.out)) k_ hk)); (case aO => exact (by (with_reducible repeat (first | apply Kd.R_alloc | apply Kd.R_drewN | apply Kd.R_drew)); exact Kd.R_mono HO564.out (fun _ hk => hk.2))); (case aS => exact (below_size (by repeat (first | (with_reducible first | exact HB.out | apply below_alloc | apply pw_below_drewN | apply below_drew1 | refine below_set ?_ GE549.out) | exact HB.out)))); (case aL => have := LMc22.out; omega); intro v569 w28 ho hb hg hat; rw [← Ny568.out] at ho; have n0_ := Aside0.mk (blk_grown (g := gb549) (o := .cells #[.slice none 0 0] 38 (0, 0)) (S.b BK549.out) hg (Kd.R_ne HO564.out BK549.out (by decide))); have n1_ := Aside0.mk (Kd.R_after (ok := (fun _ => True)) (S.r HO567.out) hg hat); have n2_ := Aside0.mk (hb); have n3_ := Aside0.mk (ho); clear BK549; clear HO567; clear HB; clear HO564; have BK549 := n0_; have HO567 := n1_; have HB := n2_; have HO570 := n3_; clear n0_ n1_ n2_ n3_; clear ho hb hg hat; obtain ⟨Ao30, co30, eo30⟩ := Kd.R_slice HO570.out; subst eo30) | ((with_reducible refine gate_callee (f := 38) rfl ?_); refine goesL_ (some 32) rfl rfl Try.func38 (by kernel_rfl) rfl #[.slice Ao30 y568.length co30] rfl (by (try simp only [List.map_toArray, List.map_cons, List.map_nil]); first | done | rfl | (simp only [List.length_drop, List.length_take]; rfl)) ?_; (with_reducible refine (rubricref7_Of.calls k _ _ y568 t571 _ ?side1 ?side2 A23.out).mono ?_); (case side1 => repeat (first | exact (Kd.R_reads' HO570.out).2.2 | (with_reducible refine Kd.C_alloc ?_ _) | (with_reducible refine Kd.C_drewN ?_ _) | (with_reducible refine Kd.C_drew ?_))); (case side2 => exact (Kd.R_reads' HO570.out).2.1); rintro e w31 ⟨v572, rfl, ho0, hb⟩; refine ⟨_, rfl, ?_⟩; have n0_ := Aside0.mk (Kd.R_elder' (S.r HO567.out) (Kd.R_base ho0) hb); have n1_ := Aside0.mk (Kd.R_elder' (S.r HO570.out) (Kd.R_base ho0) hb); have n2_ := Aside0.mk (Kd.R_lower (Kd.R_new' (Kd.R_new' ho0 (Kd.R_lt (S.r HO567.out))) (Kd.R_lt (S.r HO570.out))) (below_size (by repeat (first | (with_reducible first | exact HB.out | apply below_alloc | apply pw_below_drewN | apply below_drew1 | refine below_set ?_ GE549.out) | exact HB.out)))); have n3_ := Aside0.mk (blk_below (g := gb549) (o := .cells #[.slice none 0 0] 38 (0, 0)) (S.b BK549.out) hb); have n4_ := Aside0.mk (below_step (by repeat (first | (with_reducible first | exact HB.out | apply below_alloc | apply pw_below_drewN | apply below_drew1 | refine below_set ?_ GE549.out) | exact HB.out)) hb); clear HO567; clear HO570; clear BK549; clear HB; have HO567 := n0_; have HO570 := n1_; have HO573 := n2_; have BK549 := n3_; have HB := n4_; clear n0_ n1_ n2_ n3_ n4_; (try clear hb); (try clear hb2); (try clear hk); (try clear hi); (try clear ho0); obtain ⟨Ao32, co32, eo32⟩ := Kd.R_slice HO573.out; subst eo32; have hcz33_0 : w31.cell? ⟨gb549, 0, none⟩ = some (.slice none 0 0) := (blk_cell BK549.out 0).trans rfl; have hfz33_0 := blk_frozen BK549.out 0))
     refine bodyPost_ret (results_ct rfl _ _ gb549 38 #[.slice Ao32 t571.length co32] (0, 0) _ rfl (by (with_reducible repeat (first | refine blk_drewN ?_ _ | refine blk_drew ?_ | refine blk_alloc ?_ _)); refine blk_put (cs := #[.slice none 0 0]) ?_ 0 _ rfl; (with_reducible repeat (first | refine blk_drewN ?_ _ | refine blk_drew ?_ | refine blk_alloc ?_ _)); exact BK549.out) Try.underlying38 rfl (by kernel_rfl)) rfl ?_
     exact ⟨_, by first | rfl | (simp [errW_none, errW_some] <;> rfl) | (simp [*, errW_none, errW_some] <;> rfl), by (with_reducible repeat (first | apply Kd.R_alloc | apply Kd.R_drewN | apply Kd.R_drew)); exact Kd.R_mono (Kd.R_far (p := ⟨gb549, 0, none⟩) (Kd.R_types HO573.out BK549.out (by decide)) (fun _ hk => hk.2) (.slice Ao32 t571.length co32)) (fun _ hk => trivial), by repeat (first | (with_reducible first | exact HB.out | apply below_alloc | apply pw_below_drewN | apply below_drew1 | refine below_set ?_ GE549.out) | exact HB.out)⟩
    ·rw [if_neg c22] at H
     exact absurd H (by simp)
   ·rw [if_neg c20] at H
    have c20b0 : (a0 == 99) = false := beq_eq_false_iff_ne.mpr c20
    have c20b1 : (a0 != 99) = true := bne_iff_ne.mpr c20
    by_cases c34 : a0 = 100
    ·rw [if_pos c34] at H
     have c34b0 : (a0 == 100) = true := beq_iff_eq.mpr c34
     have c34b1 : (a0 != 100) = false := bne_eq_false_iff_eq.mpr c34
     clear c34
     replace H := Option.bind_eq_some_iff.mp H
     obtain ⟨⟨t574, t577⟩, A350, H⟩ := H
     replace H : (some (t574, t577)) = some (r1, r2) := H
     have A35 := Aside0.mk A350
     clear A350
     simp only [Option.some.injEq, Prod.mk.injEq] at H
     obtain ⟨rfl, rfl⟩ := H
     go_enter Try.func15, Try.ntmps15
     go_wp2_with (first | ((with_reducible refine gate_dst (N := 2) rfl ?_); refine box_event ?hg (N := 2) ?hd (cs := #[.slice none 0 0]) (t := 38) ?hr ?_; (case hd => rfl); (case hg => rfl); (case hr => first | (go_simp; done) | (go_simp; rfl)); intro gb549 hg w36 hbox hb; have n0_ := Aside0.mk (below_step (by repeat (first | (with_reducible first | exact HB.out | apply below_alloc | apply pw_below_drewN | apply below_drew1) | exact HB.out)) hb); have n1_ := Aside0.mk (hbox); have n2_ := Aside0.mk ((by rw [hg]; exact (below_size (by repeat (first | (with_reducible first | exact HB.out | apply below_alloc | apply pw_below_drewN | apply below_drew1) | exact HB.out))) : w.heap.size ≤ gb549)); have n3_ := Aside0.mk ((by rw [hg]; exact (below_size (by repeat (first | (with_reducible first | exact HB.out | apply below_alloc | apply pw_below_drewN | apply below_drew1) | exact HB.out))) : w.heap.size ≤ gb549)); clear HB; have HB := n0_; have BK549 := n1_; have GW549 := n2_; have GE549 := n3_; clear n0_ n1_ n2_ n3_; clear hb hbox hg) | ((with_reducible refine gate_callee (f := 17) rfl ?_); refine goesL_ (some 35) rfl rfl Try.func17 (by kernel_rfl) rfl #[.string (⟨#[78, 100]⟩ : ByteArray)] rfl (by (try simp only [List.map_toArray, List.map_cons, List.map_nil]); first | done | rfl | (simp only [List.length_drop, List.length_take]; rfl)) ?_; (with_reducible refine (rubricref7_Category.calls k (⟨#[78, 100]⟩ : ByteArray) t574 t577 _ A35.out).mono ?_); rintro e w37 ⟨v575, rfl, ho0, hb⟩; refine ⟨_, rfl, ?_⟩; have n0_ := Aside0.mk (Kd.R_lower ho0 (below_size (by repeat (first | (with_reducible first | exact HB.out | apply below_alloc | apply pw_below_drewN | apply below_drew1 | refine below_set ?_ GE549.out) | exact HB.out)))); have n1_ := Aside0.mk (blk_below (g := gb549) (o := .cells #[.slice none 0 0] 38 (0, 0)) (S.b BK549.out) hb); have n2_ := Aside0.mk (below_step (by repeat (first | (with_reducible first | exact HB.out | apply below_alloc | apply pw_below_drewN | apply below_drew1 | refine below_set ?_ GE549.out) | exact HB.out)) hb); clear BK549; clear HB; have HO576 := n0_; have BK549 := n1_; have HB := n2_; clear n0_ n1_ n2_; (try clear hb); (try clear hb2); (try clear hk); (try clear hi); (try clear ho0); obtain ⟨Ao38, co38, eo38⟩ := Kd.R_slice HO576.out; subst eo38; have hcz39_0 : w37.cell? ⟨gb549, 0, none⟩ = some (.slice none 0 0) := (blk_cell BK549.out 0).trans rfl; have hfz39_0 := blk_frozen BK549.out 0))
     refine bodyPost_ret (results_ct rfl _ _ gb549 38 #[.slice Ao38 t574.length co38] (0, 0) _ rfl (by (with_reducible repeat (first | refine blk_drewN ?_ _ | refine blk_drew ?_ | refine blk_alloc ?_ _)); refine blk_put (cs := #[.slice none 0 0]) ?_ 0 _ rfl; (with_reducible repeat (first | refine blk_drewN ?_ _ | refine blk_drew ?_ | refine blk_alloc ?_ _)); exact BK549.out) Try.underlying38 rfl (by kernel_rfl)) rfl ?_
     exact ⟨_, by first | rfl | (simp [errW_none, errW_some] <;> rfl) | (simp [*, errW_none, errW_some] <;> rfl), by (with_reducible repeat (first | apply Kd.R_alloc | apply Kd.R_drewN | apply Kd.R_drew)); exact Kd.R_mono (Kd.R_far (p := ⟨gb549, 0, none⟩) (Kd.R_types HO576.out BK549.out (by decide)) (fun _ hk => hk.2) (.slice Ao38 t574.length co38)) (fun _ hk => trivial), by repeat (first | (with_reducible first | exact HB.out | apply below_alloc | apply pw_below_drewN | apply below_drew1 | refine below_set ?_ GE549.out) | exact HB.out)⟩
    ·rw [if_neg c34] at H
     have c34b0 : (a0 == 100) = false := beq_eq_false_iff_ne.mpr c34
     have c34b1 : (a0 != 100) = true := bne_iff_ne.mpr c34
     by_cases c40 : a0 = 119
     ·rw [if_pos c40] at H
      have c40b0 : (a0 == 119) = true := beq_iff_eq.mpr c40
      have c40b1 : (a0 != 119) = false := bne_eq_false_iff_eq.mpr c40
      clear c40
      replace H := Option.bind_eq_some_iff.mp H
      obtain ⟨⟨t578, t581⟩, A410, H⟩ := H
      replace H : ((rubricref7_Category.f k (⟨#[90]⟩ : ByteArray)).bind fun bt583 => ((rubricref7_Category.f k (⟨#[67]⟩ : ByteArray)).bind fun bt588 => ((rubricref7_Union.f k t578 bt583.1).bind fun t593 => ((rubricref7_Union.f k t593 bt588.1).bind fun t596 => ((rubricref7_Set_Not.f k t596).bind fun t599 => (some (t599, true))))))) = some (r1, r2) := H
      have A41 := Aside0.mk A410
      clear A410
      replace H := Option.bind_eq_some_iff.mp H
      obtain ⟨⟨t583, t586⟩, A420, H⟩ := H
      replace H : ((rubricref7_Category.f k (⟨#[67]⟩ : ByteArray)).bind fun bt588 => ((rubricref7_Union.f k t578 t583).bind fun t593 => ((rubricref7_Union.f k t593 bt588.1).bind fun t596 => ((rubricref7_Set_Not.f k t596).bind fun t599 => (some (t599, true)))))) = some (r1, r2) := H
      have A42 := Aside0.mk A420
      clear A420
      replace H := Option.bind_eq_some_iff.mp H
      obtain ⟨⟨t588, t591⟩, A430, H⟩ := H
      replace H : ((rubricref7_Union.f k t578 t583).bind fun t593 => ((rubricref7_Union.f k t593 t588).bind fun t596 => ((rubricref7_Set_Not.f k t596).bind fun t599 => (some (t599, true))))) = some (r1, r2) := H
      have A43 := Aside0.mk A430
      clear A430
      replace H := Option.bind_eq_some_iff.mp H
      obtain ⟨t593, A440, H⟩ := H
      replace H : ((rubricref7_Union.f k t593 t588).bind fun t596 => ((rubricref7_Set_Not.f k t596).bind fun t599 => (some (t599, true)))) = some (r1, r2) := H
      have A44 := Aside0.mk A440
      clear A440
      replace H := Option.bind_eq_some_iff.mp H
      obtain ⟨t596, A450, H⟩ := H
      replace H : ((rubricref7_Set_Not.f k t596).bind fun t599 => (some (t599, true))) = some (r1, r2) := H
      have A45 := Aside0.mk A450
      clear A450
      replace H := Option.bind_eq_some_iff.mp H
      obtain ⟨t599, A460, H⟩ := H
      replace H : (some (t599, true)) = some (r1, r2) := H
      have A46 := Aside0.mk A460
      clear A460
      simp only [Option.some.injEq, Prod.mk.injEq] at H
      obtain ⟨rfl, rfl⟩ := H
      go_enter Try.func15, Try.ntmps15
      try go_wp2_with (first | ((with_reducible refine gate_dst (N := 2) rfl ?_); refine box_event ?hg (N := 2) ?hd (cs := #[.slice none 0 0]) (t := 38) ?hr ?_; (case hd => rfl); (case hg => rfl); (case hr => first | (go_simp; done) | (go_simp; rfl)); intro gb549 hg w47 hbox hb; have n0_ := Aside0.mk (below_step (by repeat (first | (with_reducible first | exact HB.out | apply below_alloc | apply pw_below_drewN | apply below_drew1) | exact HB.out)) hb); have n1_ := Aside0.mk (hbox); have n2_ := Aside0.mk ((by rw [hg]; exact (below_size (by repeat (first | (with_reducible first | exact HB.out | apply below_alloc | apply pw_below_drewN | apply below_drew1) | exact HB.out))) : w.heap.size ≤ gb549)); have n3_ := Aside0.mk ((by rw [hg]; exact (below_size (by repeat (first | (with_reducible first | exact HB.out | apply below_alloc | apply pw_below_drewN | apply below_drew1) | exact HB.out))) : w.heap.size ≤ gb549)); clear HB; have HB := n0_; have BK549 := n1_; have GW549 := n2_; have GE549 := n3_; clear n0_ n1_ n2_ n3_; clear hb hbox hg) | ((with_reducible refine gate_callee (f := 17) rfl ?_); refine goesL_ (some 41) rfl rfl Try.func17 (by kernel_rfl) rfl #[.string (⟨#[80]⟩ : ByteArray)] rfl (by (try simp only [List.map_toArray, List.map_cons, List.map_nil]); first | done | rfl | (simp only [List.length_drop, List.length_take]; rfl)) ?_; (with_reducible refine (rubricref7_Category.calls k (⟨#[80]⟩ : ByteArray) t578 t581 _ A41.out).mono ?_); rintro e w48 ⟨v579, rfl, ho0, hb⟩; refine ⟨_, rfl, ?_⟩; have n0_ := Aside0.mk (Kd.R_lower ho0 (below_size (by repeat (first | (with_reducible first | exact HB.out | apply below_alloc | apply pw_below_drewN | apply below_drew1 | refine below_set ?_ GE549.out) | exact HB.out)))); have n1_ := Aside0.mk (blk_below (g := gb549) (o := .cells #[.slice none 0 0] 38 (0, 0)) (S.b BK549.out) hb); have n2_ := Aside0.mk (below_step (by repeat (first | (with_reducible first | exact HB.out | apply below_alloc | apply pw_below_drewN | apply below_drew1 | refine below_set ?_ GE549.out) | exact HB.out)) hb); clear BK549; clear HB; have HO580 := n0_; have BK549 := n1_; have HB := n2_; clear n0_ n1_ n2_; (try clear hb); (try clear hb2); (try clear hk); (try clear hi); (try clear ho0)) | ((with_reducible refine gate_dst (N := 4) rfl ?_); refine box_event ?hg (N := 4) ?hd (cs := #[.slice none 0 0]) (t := 38) ?hr ?_; (case hd => rfl); (case hg => rfl); (case hr => first | (go_simp; done) | (go_simp; rfl)); intro gb582 hg w49 hbox hb; have n0_ := Aside0.mk (Kd.R_below (S.r HO580.out) hb); have n1_ := Aside0.mk (blk_below (g := gb549) (o := .cells #[.slice none 0 0] 38 (0, 0)) (S.b BK549.out) hb); have n2_ := Aside0.mk (below_step (by repeat (first | (with_reducible first | exact HB.out | apply below_alloc | apply pw_below_drewN | apply below_drew1 | refine below_set ?_ GE549.out) | exact HB.out)) hb); have n3_ := Aside0.mk (hbox); have n4_ := Aside0.mk ((by rw [hg]; exact (below_size (by repeat (first | (with_reducible first | exact HB.out | apply below_alloc | apply pw_below_drewN | apply below_drew1 | refine below_set ?_ GE549.out) | exact HB.out))) : w.heap.size ≤ gb582)); have n5_ := Aside0.mk ((by rw [hg]; exact (below_size (by repeat (first | (with_reducible first | exact HB.out | apply below_alloc | apply pw_below_drewN | apply below_drew1 | refine below_set ?_ GE549.out) | exact HB.out))) : w.heap.size ≤ gb582)); have n6_ := Aside0.mk ((by rw [hg]; exact Nat.ne_of_lt (blk_lt (g := gb549) (o := .cells #[.slice none 0 0] 38 (0, 0)) (S.b BK549.out)) : gb549 ≠ gb582)); have n7_ := Aside0.mk ((by rw [hg]; exact Nat.ne_of_gt (blk_lt (g := gb549) (o := .cells #[.slice none 0 0] 38 (0, 0)) (S.b BK549.out)) : gb582 ≠ gb549)); clear HO580; clear BK549; clear HB; have HO580 := n0_; have BK549 := n1_; have HB := n2_; have BK582 := n3_; have GW582 := n4_; have GE582 := n5_; have NB549_582 := n6_; have NB582_549 := n7_; clear n0_ n1_ n2_ n3_ n4_ n5_ n6_ n7_; clear hb hbox hg; obtain ⟨Ao50, co50, eo50⟩ := Kd.R_slice HO580.out; subst eo50; have hnb51 := NB582_549.out; have hnc51 := NB549_582.out; have hcz52_0 : w49.cell? ⟨gb582, 0, none⟩ = some (.slice none 0 0) := (blk_cell BK582.out 0).trans rfl; have hfz52_0 := blk_frozen BK582.out 0) | ((with_reducible refine gate_callee (f := 17) rfl ?_); refine goesL_ (some 45) rfl rfl Try.func17 (by kernel_rfl) rfl #[.string (⟨#[90]⟩ : ByteArray)] rfl (by (try simp only [List.map_toArray, List.map_cons, List.map_nil]); first | done | rfl | (simp only [List.length_drop, List.length_take]; rfl)) ?_; (with_reducible refine (rubricref7_Category.calls k (⟨#[90]⟩ : ByteArray) t583 t586 _ A42.out).mono ?_); rintro e w53 ⟨v584, rfl, ho0, hb⟩; refine ⟨_, rfl, ?_⟩; have n0_ := Aside0.mk (Kd.R_elder' (by (with_reducible repeat (first | apply Kd.R_alloc | apply Kd.R_drewN | apply Kd.R_drew)); exact (Kd.R_mono (Kd.R_far (p := ⟨gb582, 0, none⟩) (Kd.R_types HO580.out BK582.out (by decide)) (fun _ hk => hk.2) (.slice Ao50 t578.length co50)) (fun _ h_ => h_.1))) (Kd.R_base ho0) hb); have n1_ := Aside0.mk (Kd.R_lower (Kd.R_new' ho0 (Kd.R_lt (by (with_reducible repeat (first | apply Kd.R_alloc | apply Kd.R_drewN | apply Kd.R_drew)); exact (Kd.R_mono (Kd.R_far (p := ⟨gb582, 0, none⟩) (Kd.R_types HO580.out BK582.out (by decide)) (fun _ hk => hk.2) (.slice Ao50 t578.length co50)) (fun _ h_ => h_.1))))) (below_size (by repeat (first | (with_reducible first | exact HB.out | apply below_alloc | apply pw_below_drewN | apply below_drew1 | refine below_set ?_ GE549.out | refine below_set ?_ GE582.out) | exact HB.out)))); have n2_ := Aside0.mk (blk_below (g := gb549) (o := .cells #[.slice none 0 0] 38 (0, 0)) (by (with_reducible repeat (first | refine blk_drewN ?_ _ | refine blk_drew ?_ | refine blk_alloc ?_ _)); refine blk_far ?_ NB549_582.out _; (with_reducible repeat (first | refine blk_drewN ?_ _ | refine blk_drew ?_ | refine blk_alloc ?_ _)); exact BK549.out) hb); have n3_ := Aside0.mk (blk_below (g := gb582) (o := .cells #[.slice Ao50 t578.length co50] 38 (0, 0)) (by (with_reducible repeat (first | refine blk_drewN ?_ _ | refine blk_drew ?_ | refine blk_alloc ?_ _)); refine blk_put (cs := #[.slice none 0 0]) ?_ 0 _ rfl; (with_reducible repeat (first | refine blk_drewN ?_ _ | refine blk_drew ?_ | refine blk_alloc ?_ _)); exact BK582.out) hb); have n4_ := Aside0.mk (below_step (by repeat (first | (with_reducible first | exact HB.out | apply below_alloc | apply pw_below_drewN | apply below_drew1 | refine below_set ?_ GE549.out | refine below_set ?_ GE582.out) | exact HB.out)) hb); clear HO580; clear BK549; clear BK582; clear HB; have HO580 := n0_; have HO585 := n1_; have BK549 := n2_; have BK582 := n3_; have HB := n4_; clear n0_ n1_ n2_ n3_ n4_; (try clear hb); (try clear hb2); (try clear hk); (try clear hi); (try clear ho0)) | ((with_reducible refine gate_dst (N := 6) rfl ?_); refine box_event ?hg (N := 6) ?hd (cs := #[.slice none 0 0]) (t := 38) ?hr ?_; (case hd => rfl); (case hg => rfl); (case hr => first | (go_simp; done) | (go_simp; rfl)); intro gb587 hg w54 hbox hb; have n0_ := Aside0.mk (Kd.R_below (S.r HO580.out) hb); have n1_ := Aside0.mk (Kd.R_below (S.r HO585.out) hb); have n2_ := Aside0.mk (blk_below (g := gb549) (o := .cells #[.slice none 0 0] 38 (0, 0)) (S.b BK549.out) hb); have n3_ := Aside0.mk (blk_below (g := gb582) (o := .cells #[.slice Ao50 t578.length co50] 38 (0, 0)) (S.b BK582.out) hb); have n4_ := Aside0.mk (below_step (by repeat (first | (with_reducible first | exact HB.out | apply below_alloc | apply pw_below_drewN | apply below_drew1 | refine below_set ?_ GE549.out | refine below_set ?_ GE582.out) | exact HB.out)) hb); have n5_ := Aside0.mk (hbox); have n6_ := Aside0.mk ((by rw [hg]; exact (below_size (by repeat (first | (with_reducible first | exact HB.out | apply below_alloc | apply pw_below_drewN | apply below_drew1 | refine below_set ?_ GE549.out | refine below_set ?_ GE582.out) | exact HB.out))) : w.heap.size ≤ gb587)); have n7_ := Aside0.mk ((by rw [hg]; exact (below_size (by repeat (first | (with_reducible first | exact HB.out | apply below_alloc | apply pw_below_drewN | apply below_drew1 | refine below_set ?_ GE549.out | refine below_set ?_ GE582.out) | exact HB.out))) : w.heap.size ≤ gb587)); have n8_ := Aside0.mk ((by rw [hg]; exact Nat.ne_of_lt (blk_lt (g := gb549) (o := .cells #[.slice none 0 0] 38 (0, 0)) (S.b BK549.out)) : gb549 ≠ gb587)); have n9_ := Aside0.mk ((by rw [hg]; exact Nat.ne_of_gt (blk_lt (g := gb549) (o := .cells #[.slice none 0 0] 38 (0, 0)) (S.b BK549.out)) : gb587 ≠ gb549)); have n10_ := Aside0.mk ((by rw [hg]; exact Nat.ne_of_lt (blk_lt (g := gb582) (o := .cells #[.slice Ao50 t578.length co50] 38 (0, 0)) (S.b BK582.out)) : gb582 ≠ gb587)); have n11_ := Aside0.mk ((by rw [hg]; exact Nat.ne_of_gt (blk_lt (g := gb582) (o := .cells #[.slice Ao50 t578.length co50] 38 (0, 0)) (S.b BK582.out)) : gb587 ≠ gb582)); clear HO580; clear HO585; clear BK549; clear BK582; clear HB; have HO580 := n0_; have HO585 := n1_; have BK549 := n2_; have BK582 := n3_; have HB := n4_; have BK587 := n5_; have GW587 := n6_; have GE587 := n7_; have NB549_587 := n8_; have NB587_549 := n9_; have NB582_587 := n10_; have NB587_582 := n11_; clear n0_ n1_ n2_ n3_ n4_ n5_ n6_ n7_ n8_ n9_ n10_ n11_; clear hb hbox hg; obtain ⟨Ao55, co55, eo55⟩ := Kd.R_slice HO585.out; subst eo55; have hnb56 := NB587_549.out; have hnc56 := NB549_587.out; have hnb57 := NB587_582.out; have hnc57 := NB582_587.out; have hcz58_0 : w54.cell? ⟨gb587, 0, none⟩ = some (.slice none 0 0) := (blk_cell BK587.out 0).trans rfl; have hfz58_0 := blk_frozen BK587.out 0) | ((with_reducible refine gate_callee (f := 17) rfl ?_); refine goesL_ (some 49) rfl rfl Try.func17 (by kernel_rfl) rfl #[.string (⟨#[67]⟩ : ByteArray)] rfl (by (try simp only [List.map_toArray, List.map_cons, List.map_nil]); first | done | rfl | (simp only [List.length_drop, List.length_take]; rfl)) ?_; (with_reducible refine (rubricref7_Category.calls k (⟨#[67]⟩ : ByteArray) t588 t591 _ A43.out).mono ?_); rintro e w59 ⟨v589, rfl, ho0, hb⟩; refine ⟨_, rfl, ?_⟩; have n0_ := Aside0.mk (Kd.R_elder' (by (with_reducible repeat (first | apply Kd.R_alloc | apply Kd.R_drewN | apply Kd.R_drew)); exact (Kd.R_mono (Kd.R_far (p := ⟨gb587, 0, none⟩) (Kd.R_types HO580.out BK587.out (by decide)) (fun _ hk => hk.2) (.slice Ao55 t583.length co55)) (fun _ h_ => h_.1))) (Kd.R_base ho0) hb); have n1_ := Aside0.mk (Kd.R_elder' (by (with_reducible repeat (first | apply Kd.R_alloc | apply Kd.R_drewN | apply Kd.R_drew)); exact (Kd.R_mono (Kd.R_far (p := ⟨gb587, 0, none⟩) (Kd.R_types HO585.out BK587.out (by decide)) (fun _ hk => hk.2) (.slice Ao55 t583.length co55)) (fun _ h_ => h_.1))) (Kd.R_base ho0) hb); have n2_ := Aside0.mk (Kd.R_lower (Kd.R_new' (Kd.R_new' ho0 (Kd.R_lt (by (with_reducible repeat (first | apply Kd.R_alloc | apply Kd.R_drewN | apply Kd.R_drew)); exact (Kd.R_mono (Kd.R_far (p := ⟨gb587, 0, none⟩) (Kd.R_types HO580.out BK587.out (by decide)) (fun _ hk => hk.2) (.slice Ao55 t583.length co55)) (fun _ h_ => h_.1))))) (Kd.R_lt (by (with_reducible repeat (first | apply Kd.R_alloc | apply Kd.R_drewN | apply Kd.R_drew)); exact (Kd.R_mono (Kd.R_far (p := ⟨gb587, 0, none⟩) (Kd.R_types HO585.out BK587.out (by decide)) (fun _ hk => hk.2) (.slice Ao55 t583.length co55)) (fun _ h_ => h_.1))))) (below_size (by repeat (first | (with_reducible first | exact HB.out | apply below_alloc | apply pw_below_drewN | apply below_drew1 | refine below_set ?_ GE549.out | refine below_set ?_ GE582.out | refine below_set ?_ GE587.out) | exact HB.out)))); have n3_ := Aside0.mk (blk_below (g := gb549) (o := .cells #[.slice none 0 0] 38 (0, 0)) (by (with_reducible repeat (first | refine blk_drewN ?_ _ | refine blk_drew ?_ | refine blk_alloc ?_ _)); refine blk_far ?_ NB549_587.out _; (with_reducible repeat (first | refine blk_drewN ?_ _ | refine blk_drew ?_ | refine blk_alloc ?_ _)); exact BK549.out) hb); have n4_ := Aside0.mk (blk_below (g := gb582) (o := .cells #[.slice Ao50 t578.length co50] 38 (0, 0)) (by (with_reducible repeat (first | refine blk_drewN ?_ _ | refine blk_drew ?_ | refine blk_alloc ?_ _)); refine blk_far ?_ NB582_587.out _; (with_reducible repeat (first | refine blk_drewN ?_ _ | refine blk_drew ?_ | refine blk_alloc ?_ _)); exact BK582.out) hb); have n5_ := Aside0.mk (blk_below (g := gb587) (o := .cells #[.slice Ao55 t583.length co55] 38 (0, 0)) (by (with_reducible repeat (first | refine blk_drewN ?_ _ | refine blk_drew ?_ | refine blk_alloc ?_ _)); refine blk_put (cs := #[.slice none 0 0]) ?_ 0 _ rfl; (with_reducible repeat (first | refine blk_drewN ?_ _ | refine blk_drew ?_ | refine blk_alloc ?_ _)); exact BK587.out) hb); have n6_ := Aside0.mk (below_step (by repeat (first | (with_reducible first | exact HB.out | apply below_alloc | apply pw_below_drewN | apply below_drew1 | refine below_set ?_ GE549.out | refine below_set ?_ GE582.out | refine below_set ?_ GE587.out) | exact HB.out)) hb); clear HO580; clear HO585; clear BK549; clear BK582; clear BK587; clear HB; have HO580 := n0_; have HO585 := n1_; have HO590 := n2_; have BK549 := n3_; have BK582 := n4_; have BK587 := n5_; have HB := n6_; clear n0_ n1_ n2_ n3_ n4_ n5_ n6_; (try clear hb); (try clear hb2); (try clear hk); (try clear hi); (try clear ho0)) | ((with_reducible refine gate_dst (N := 8) rfl ?_); refine box_event ?hg (N := 8) ?hd (cs := #[.slice none 0 0]) (t := 38) ?hr ?_; (case hd => rfl); (case hg => rfl); (case hr => first | (go_simp; done) | (go_simp; rfl)); intro gb592 hg w60 hbox hb; have n0_ := Aside0.mk (Kd.R_below (S.r HO580.out) hb); have n1_ := Aside0.mk (Kd.R_below (S.r HO585.out) hb); have n2_ := Aside0.mk (Kd.R_below (S.r HO590.out) hb); have n3_ := Aside0.mk (blk_below (g := gb549) (o := .cells #[.slice none 0 0] 38 (0, 0)) (S.b BK549.out) hb); have n4_ := Aside0.mk (blk_below (g := gb582) (o := .cells #[.slice Ao50 t578.length co50] 38 (0, 0)) (S.b BK582.out) hb); have n5_ := Aside0.mk (blk_below (g := gb587) (o := .cells #[.slice Ao55 t583.length co55] 38 (0, 0)) (S.b BK587.out) hb); have n6_ := Aside0.mk (below_step (by repeat (first | (with_reducible first | exact HB.out | apply below_alloc | apply pw_below_drewN | apply below_drew1 | refine below_set ?_ GE549.out | refine below_set ?_ GE582.out | refine below_set ?_ GE587.out) | exact HB.out)) hb); have n7_ := Aside0.mk (hbox); have n8_ := Aside0.mk ((by rw [hg]; exact (below_size (by repeat (first | (with_reducible first | exact HB.out | apply below_alloc | apply pw_below_drewN | apply below_drew1 | refine below_set ?_ GE549.out | refine below_set ?_ GE582.out | refine below_set ?_ GE587.out) | exact HB.out))) : w.heap.size ≤ gb592)); have n9_ := Aside0.mk ((by rw [hg]; exact (below_size (by repeat (first | (with_reducible first | exact HB.out | apply below_alloc | apply pw_below_drewN | apply below_drew1 | refine below_set ?_ GE549.out | refine below_set ?_ GE582.out | refine below_set ?_ GE587.out) | exact HB.out))) : w.heap.size ≤ gb592)); have n10_ := Aside0.mk ((by rw [hg]; exact Nat.ne_of_lt (blk_lt (g := gb549) (o := .cells #[.slice none 0 0] 38 (0, 0)) (S.b BK549.out)) : gb549 ≠ gb592)); have n11_ := Aside0.mk ((by rw [hg]; exact Nat.ne_of_gt (blk_lt (g := gb549) (o := .cells #[.slice none 0 0] 38 (0, 0)) (S.b BK549.out)) : gb592 ≠ gb549)); have n12_ := Aside0.mk ((by rw [hg]; exact Nat.ne_of_lt (blk_lt (g := gb582) (o := .cells #[.slice Ao50 t578.length co50] 38 (0, 0)) (S.b BK582.out)) : gb582 ≠ gb592)); have n13_ := Aside0.mk ((by rw [hg]; exact Nat.ne_of_gt (blk_lt (g := gb582) (o := .cells #[.slice Ao50 t578.length co50] 38 (0, 0)) (S.b BK582.out)) : gb592 ≠ gb582)); have n14_ := Aside0.mk ((by rw [hg]; exact Nat.ne_of_lt (blk_lt (g := gb587) (o := .cells #[.slice Ao55 t583.length co55] 38 (0, 0)) (S.b BK587.out)) : gb587 ≠ gb592)); have n15_ := Aside0.mk ((by rw [hg]; exact Nat.ne_of_gt (blk_lt (g := gb587) (o := .cells #[.slice Ao55 t583.length co55] 38 (0, 0)) (S.b BK587.out)) : gb592 ≠ gb587)); clear HO580; clear HO585; clear HO590; clear BK549; clear BK582; clear BK587; clear HB; have HO580 := n0_; have HO585 := n1_; have HO590 := n2_; have BK549 := n3_; have BK582 := n4_; have BK587 := n5_; have HB := n6_; have BK592 := n7_; have GW592 := n8_; have GE592 := n9_; have NB549_592 := n10_; have NB592_549 := n11_; have NB582_592 := n12_; have NB592_582 := n13_; have NB587_592 := n14_; have NB592_587 := n15_; clear n0_ n1_ n2_ n3_ n4_ n5_ n6_ n7_ n8_ n9_ n10_ n11_ n12_ n13_ n14_ n15_; clear hb hbox hg; obtain ⟨Ao61, co61, eo61⟩ := Kd.R_slice HO590.out; subst eo61; have hnb62 := NB592_549.out; have hnc62 := NB549_592.out; have hnb63 := NB592_582.out; have hnc63 := NB582_592.out; have hnb64 := NB592_587.out; have hnc64 := NB587_592.out; have hcz65_0 : w60.cell? ⟨gb592, 0, none⟩ = some (.slice none 0 0) := (blk_cell BK592.out 0).trans rfl; have hfz65_0 := blk_frozen BK592.out 0))
      have n0_ : Aside0 (Kd.R k58 58 (w60.setCell ⟨gb592, 0, none⟩ (.slice Ao61 t588.length co61)) w.heap.size (fun k_ => some k_ ≠ (.slice Ao55 t583.length co55 : Value).ownBlock ∧ some k_ ≠ (.slice Ao61 t588.length co61 : Value).ownBlock) (.slice Ao50 t578.length co50) t578) := ⟨by (with_reducible repeat (first | apply Kd.R_alloc | apply Kd.R_drewN | apply Kd.R_drew)); exact Kd.R_mono (Kd.R_far (p := ⟨gb592, 0, none⟩) (Kd.R_types HO580.out BK592.out (by decide)) (fun _ hk => hk.2) (.slice Ao61 t588.length co61)) (fun _ hk => ⟨hk.1.1.2, hk.1.2⟩)⟩
      have n1_ : Aside0 (Kd.R k58 58 (w60.setCell ⟨gb592, 0, none⟩ (.slice Ao61 t588.length co61)) w.heap.size (fun k_ => some k_ ≠ (.slice Ao50 t578.length co50 : Value).ownBlock ∧ some k_ ≠ (.slice Ao61 t588.length co61 : Value).ownBlock) (.slice Ao55 t583.length co55) t583) := ⟨by (with_reducible repeat (first | apply Kd.R_alloc | apply Kd.R_drewN | apply Kd.R_drew)); exact Kd.R_mono (Kd.R_far (p := ⟨gb592, 0, none⟩) (Kd.R_types HO585.out BK592.out (by decide)) (fun _ hk => hk.2) (.slice Ao61 t588.length co61)) (fun _ hk => ⟨hk.1.1.2, hk.1.2⟩)⟩
      have n2_ : Aside0 (Kd.R k58 58 (w60.setCell ⟨gb592, 0, none⟩ (.slice Ao61 t588.length co61)) w.heap.size (fun k_ => some k_ ≠ (.slice Ao50 t578.length co50 : Value).ownBlock ∧ some k_ ≠ (.slice Ao55 t583.length co55 : Value).ownBlock) (.slice Ao61 t588.length co61) t588) := ⟨by (with_reducible repeat (first | apply Kd.R_alloc | apply Kd.R_drewN | apply Kd.R_drew)); exact Kd.R_mono (Kd.R_far (p := ⟨gb592, 0, none⟩) (Kd.R_types HO590.out BK592.out (by decide)) (fun _ hk => hk.2) (.slice Ao61 t588.length co61)) (fun _ hk => ⟨hk.1.1.2, hk.1.2⟩)⟩
      have n3_ : Aside0 ((w60.setCell ⟨gb592, 0, none⟩ (.slice Ao61 t588.length co61)).heap[gb549]? = some (.cells #[.slice none 0 0] 38 (0, 0))) := ⟨by (with_reducible repeat (first | refine blk_drewN ?_ _ | refine blk_drew ?_ | refine blk_alloc ?_ _)); refine blk_far ?_ NB549_592.out _; (with_reducible repeat (first | refine blk_drewN ?_ _ | refine blk_drew ?_ | refine blk_alloc ?_ _)); exact BK549.out⟩
      have n4_ : Aside0 ((w60.setCell ⟨gb592, 0, none⟩ (.slice Ao61 t588.length co61)).heap[gb582]? = some (.cells #[.slice Ao50 t578.length co50] 38 (0, 0))) := ⟨by (with_reducible repeat (first | refine blk_drewN ?_ _ | refine blk_drew ?_ | refine blk_alloc ?_ _)); refine blk_far ?_ NB582_592.out _; (with_reducible repeat (first | refine blk_drewN ?_ _ | refine blk_drew ?_ | refine blk_alloc ?_ _)); exact BK582.out⟩
      have n5_ : Aside0 ((w60.setCell ⟨gb592, 0, none⟩ (.slice Ao61 t588.length co61)).heap[gb587]? = some (.cells #[.slice Ao55 t583.length co55] 38 (0, 0))) := ⟨by (with_reducible repeat (first | refine blk_drewN ?_ _ | refine blk_drew ?_ | refine blk_alloc ?_ _)); refine blk_far ?_ NB587_592.out _; (with_reducible repeat (first | refine blk_drewN ?_ _ | refine blk_drew ?_ | refine blk_alloc ?_ _)); exact BK587.out⟩
      have n6_ : Aside0 ((w60.setCell ⟨gb592, 0, none⟩ (.slice Ao61 t588.length co61)).heap[gb592]? = some (.cells #[.slice Ao61 t588.length co61] 38 (0, 0))) := ⟨by (with_reducible repeat (first | refine blk_drewN ?_ _ | refine blk_drew ?_ | refine blk_alloc ?_ _)); refine blk_put (cs := #[.slice none 0 0]) ?_ 0 _ rfl; (with_reducible repeat (first | refine blk_drewN ?_ _ | refine blk_drew ?_ | refine blk_alloc ?_ _)); exact BK592.out⟩
      have n7_ : Aside0 (Below w.heap.size w (w60.setCell ⟨gb592, 0, none⟩ (.slice Ao61 t588.length co61))) := ⟨by repeat (first | (with_reducible first | exact HB.out | apply below_alloc | apply pw_below_drewN | apply below_drew1 | refine below_set ?_ GE549.out | refine below_set ?_ GE582.out | refine below_set ?_ GE587.out | refine below_set ?_ GE592.out) | exact HB.out)⟩
      (try clear HO580)
      (try clear HO585)
      (try clear HO590)
      (try clear BK549)
      (try clear BK582)
      (try clear BK587)
      (try clear BK592)
      (try clear HB)
      generalize (w60.setCell ⟨gb592, 0, none⟩ (.slice Ao61 t588.length co61)) = w66 at n0_ n1_ n2_ n3_ n4_ n5_ n6_ n7_ ⊢
      have HO580 := n0_
      have HO585 := n1_
      have HO590 := n2_
      have BK549 := n3_
      have BK582 := n4_
      have BK587 := n5_
      have BK592 := n6_
      have HB := n7_
      clear n0_ n1_ n2_ n3_ n4_ n5_ n6_ n7_
      have n0_ := Aside0.mk (Kd.R_drew HO580.out)
      have n1_ := Aside0.mk (Kd.R_drew HO585.out)
      have n2_ := Aside0.mk (Kd.R_drew HO590.out)
      have n3_ := Aside0.mk (blk_drew BK549.out)
      have n4_ := Aside0.mk (blk_drew BK582.out)
      have n5_ := Aside0.mk (blk_drew BK587.out)
      have n6_ := Aside0.mk (blk_drew BK592.out)
      have n7_ := Aside0.mk (below_drew1 HB.out)
      clear HO580
      clear HO585
      clear HO590
      clear BK549
      clear BK582
      clear BK587
      clear BK592
      clear HB
      have HO580 := n0_
      have HO585 := n1_
      have HO590 := n2_
      have BK549 := n3_
      have BK582 := n4_
      have BK587 := n5_
      have BK592 := n6_
      have HB := n7_
      clear n0_ n1_ n2_ n3_ n4_ n5_ n6_ n7_
      refine start_ (n := 8) (S := fun w' => w'.cell? ⟨gb582, 0, none⟩ = some (.slice Ao50 t578.length co50) ∧ w'.cell? ⟨gb587, 0, none⟩ = some (.slice Ao55 t583.length co55) ∧ w'.cell? ⟨gb592, 0, none⟩ = some (.slice Ao61 t588.length co61)) (ds := []) #[false, false, false, false, false, false, false, false] (by kernel_rfl) rfl rfl ⟨(blk_cell BK582.out 0).trans rfl, (blk_cell BK587.out 0).trans rfl, (blk_cell BK592.out 0).trans rfl⟩ (fun hHeld => ?_); refine with_tabW rubricref7_Escape.tab14 rubricref7_Escape.bits14 (fun HT_ HW_ => ?_)
      generalize w66.drew = w67 at HO580 HO585 HO590 BK549 BK582 BK587 BK592 HB hHeld ⊢
      refine take_ (i := 0) (N := some 52) (v := ?_) (a' := ?_) #[true, false, false, false, false, false, false, false] rfl rfl (take_ofW HT_.out HW_.out (by kernel_rfl)) (fun _ _ _ h => h) (Or.inl ⟨by rfl, ?_⟩) hHeld ?_ ?_
      rotate_left
      ·rintro w' ⟨s0, s1, s2⟩
       go_simp
       with_reducible rfl
      rotate_left
      ·simp only [Act.put, List.setIfInBounds_toArray, List.set_cons_zero, List.set_cons_succ, i64_w, i32_w]
       rfl
      refine take_ (i := 1) (N := some 53) (v := ?_) (a' := ?_) #[true, true, false, false, false, false, false, false] rfl rfl (take_ofW HT_.out HW_.out (by kernel_rfl)) (fun _ _ _ h => h) (Or.inl ⟨by rfl, ?_⟩) hHeld ?_ ?_
      rotate_left
      ·rintro w' ⟨s0, s1, s2⟩
       go_simp
       with_reducible rfl
      rotate_left
      ·simp only [Act.put, List.setIfInBounds_toArray, List.set_cons_zero, List.set_cons_succ, i64_w, i32_w]
       rfl
      refine take_ (i := 3) (N := some 55) (v := ?_) (a' := ?_) #[true, true, false, true, false, false, false, false] rfl rfl (take_ofW HT_.out HW_.out (by kernel_rfl)) (fun _ _ _ h => h) (Or.inl ⟨by rfl, ?_⟩) hHeld ?_ ?_
      rotate_left
      ·rintro w' ⟨s0, s1, s2⟩
       go_simp
       with_reducible rfl
      rotate_left
      ·simp only [Act.put, List.setIfInBounds_toArray, List.set_cons_zero, List.set_cons_succ, i64_w, i32_w]
       rfl
      refine one_ (i := 2) (N := some 54) #[true, true, true, true, false, false, false, false] rfl rfl (one_of HT_.out (by kernel_rfl)) (by decide) (fun K hK => ?_)
      refine goes_ Try.func40 (by kernel_rfl) rfl #[.agg #[.slice Ao50 t578.length co50], .agg #[.slice Ao55 t583.length co55]] (by rfl) rfl rfl (by (try simp only [List.map_toArray, List.map_cons, List.map_nil]); first | done | rfl | (simp only [List.length_drop, List.length_take]; rfl)) ?_
      with_reducible refine (rubricref7_Union.calls k _ _ t578 _ _ t583 t593 _ ?side1 ?side2 ?side3 ?side4 A44.out).mono ?_
      (case side1 => repeat (first | exact (Kd.R_reads' HO580.out).2.2 | (with_reducible refine Kd.C_alloc ?_ _) | (with_reducible refine Kd.C_drewN ?_ _) | (with_reducible refine Kd.C_drew ?_)))
      (case side2 => exact (Kd.R_reads' HO580.out).2.1)
      (case side3 => repeat (first | exact (Kd.R_reads' HO585.out).2.2 | (with_reducible refine Kd.C_alloc ?_ _) | (with_reducible refine Kd.C_drewN ?_ _) | (with_reducible refine Kd.C_drew ?_)))
      (case side4 => exact (Kd.R_reads' HO585.out).2.1)
      rintro e w68 ⟨v594, rfl, ho0, hb⟩
      refine ⟨_, rfl, ?_⟩
      have n0_ := Aside0.mk (Kd.R_elder' (S.r HO580.out) (Kd.R_base ho0) hb)
      have n1_ := Aside0.mk (Kd.R_elder' (S.r HO585.out) (Kd.R_base ho0) hb)
      have n2_ := Aside0.mk (Kd.R_elder' (S.r HO590.out) (Kd.R_base ho0) hb)
      have n3_ := Aside0.mk (Kd.R_lower (Kd.R_new' (Kd.R_new' (Kd.R_new' ho0 (Kd.R_lt (S.r HO580.out))) (Kd.R_lt (S.r HO585.out))) (Kd.R_lt (S.r HO590.out))) (below_size (by repeat (first | (with_reducible first | exact HB.out | apply below_alloc | apply pw_below_drewN | apply below_drew1 | refine below_set ?_ GE549.out | refine below_set ?_ GE582.out | refine below_set ?_ GE587.out | refine below_set ?_ GE592.out) | exact HB.out))))
      have n4_ := Aside0.mk (blk_below (g := gb549) (o := .cells #[.slice none 0 0] 38 (0, 0)) (S.b BK549.out) hb)
      have n5_ := Aside0.mk (blk_below (g := gb582) (o := .cells #[.slice Ao50 t578.length co50] 38 (0, 0)) (S.b BK582.out) hb)
      have n6_ := Aside0.mk (blk_below (g := gb587) (o := .cells #[.slice Ao55 t583.length co55] 38 (0, 0)) (S.b BK587.out) hb)
      have n7_ := Aside0.mk (blk_below (g := gb592) (o := .cells #[.slice Ao61 t588.length co61] 38 (0, 0)) (S.b BK592.out) hb)
      have n8_ := Aside0.mk (below_step (by repeat (first | (with_reducible first | exact HB.out | apply below_alloc | apply pw_below_drewN | apply below_drew1 | refine below_set ?_ GE549.out | refine below_set ?_ GE582.out | refine below_set ?_ GE587.out | refine below_set ?_ GE592.out) | exact HB.out)) hb)
      clear HO580
      clear HO585
      clear HO590
      clear BK549
      clear BK582
      clear BK587
      clear BK592
      clear HB
      have HO580 := n0_
      have HO585 := n1_
      have HO590 := n2_
      have HO595 := n3_
      have BK549 := n4_
      have BK582 := n5_
      have BK587 := n6_
      have BK592 := n7_
      have HB := n8_
      clear n0_ n1_ n2_ n3_ n4_ n5_ n6_ n7_ n8_
      (try clear hb)
      (try clear hb2)
      (try clear hk)
      (try clear hi)
      (try clear ho0)
      obtain ⟨Ao69, co69, eo69⟩ := Kd.R_slice HO595.out
      (first | subst eo69 | (injection eo69 with f1_ f2_ f3_; have f4_ := f1_.symm; have f5_ := f3_.symm; clear f1_ f2_ f3_; subst f4_; subst f5_))
      refine hK.out _ _ ⟨(blk_cell BK582.out 0).trans rfl, (blk_cell BK587.out 0).trans rfl, (blk_cell BK592.out 0).trans rfl⟩ (fun hHeld => ?_)
      clear hK K
      refine norm_ (a' := ?_) ?_ ?_
      rotate_left
      ·show Act.put _ (some 54) _ = _
       simp only [Act.put, List.setIfInBounds_toArray, List.set_cons_zero, List.set_cons_succ, i64_w, i32_w]
       rfl
      refine one_ (i := 4) (N := some 56) #[true, true, true, true, true, false, false, false] rfl rfl (one_of HT_.out (by kernel_rfl)) (by decide) (fun K hK => ?_)
      refine goes_ Try.func40 (by kernel_rfl) rfl #[.agg #[.slice Ao69 t593.length co69], .agg #[.slice Ao61 t588.length co61]] (by rfl) rfl rfl (by (try simp only [List.map_toArray, List.map_cons, List.map_nil]); first | done | rfl | (simp only [List.length_drop, List.length_take]; rfl)) ?_
      with_reducible refine (rubricref7_Union.calls k _ _ t593 _ _ t588 t596 _ ?side1 ?side2 ?side3 ?side4 A45.out).mono ?_
      (case side1 => repeat (first | exact (Kd.R_reads' HO595.out).2.2 | (with_reducible refine Kd.C_alloc ?_ _) | (with_reducible refine Kd.C_drewN ?_ _) | (with_reducible refine Kd.C_drew ?_)))
      (case side2 => exact (Kd.R_reads' HO595.out).2.1)
      (case side3 => repeat (first | exact (Kd.R_reads' HO590.out).2.2 | (with_reducible refine Kd.C_alloc ?_ _) | (with_reducible refine Kd.C_drewN ?_ _) | (with_reducible refine Kd.C_drew ?_)))
      (case side4 => exact (Kd.R_reads' HO590.out).2.1)
      rintro e w70 ⟨v597, rfl, ho0, hb⟩
      refine ⟨_, rfl, ?_⟩
      have n0_ := Aside0.mk (Kd.R_elder' (S.r HO580.out) (Kd.R_base ho0) hb)
      have n1_ := Aside0.mk (Kd.R_elder' (S.r HO585.out) (Kd.R_base ho0) hb)
      have n2_ := Aside0.mk (Kd.R_elder' (S.r HO590.out) (Kd.R_base ho0) hb)
      have n3_ := Aside0.mk (Kd.R_elder' (S.r HO595.out) (Kd.R_base ho0) hb)
      have n4_ := Aside0.mk (Kd.R_lower (Kd.R_new' (Kd.R_new' (Kd.R_new' (Kd.R_new' ho0 (Kd.R_lt (S.r HO580.out))) (Kd.R_lt (S.r HO585.out))) (Kd.R_lt (S.r HO590.out))) (Kd.R_lt (S.r HO595.out))) (below_size (by repeat (first | (with_reducible first | exact HB.out | apply below_alloc | apply pw_below_drewN | apply below_drew1 | refine below_set ?_ GE549.out | refine below_set ?_ GE582.out | refine below_set ?_ GE587.out | refine below_set ?_ GE592.out) | exact HB.out))))
      have n5_ := Aside0.mk (blk_below (g := gb549) (o := .cells #[.slice none 0 0] 38 (0, 0)) (S.b BK549.out) hb)
      have n6_ := Aside0.mk (blk_below (g := gb582) (o := .cells #[.slice Ao50 t578.length co50] 38 (0, 0)) (S.b BK582.out) hb)
      have n7_ := Aside0.mk (blk_below (g := gb587) (o := .cells #[.slice Ao55 t583.length co55] 38 (0, 0)) (S.b BK587.out) hb)
      have n8_ := Aside0.mk (blk_below (g := gb592) (o := .cells #[.slice Ao61 t588.length co61] 38 (0, 0)) (S.b BK592.out) hb)
      have n9_ := Aside0.mk (below_step (by repeat (first | (with_reducible first | exact HB.out | apply below_alloc | apply pw_below_drewN | apply below_drew1 | refine below_set ?_ GE549.out | refine below_set ?_ GE582.out | refine below_set ?_ GE587.out | refine below_set ?_ GE592.out) | exact HB.out)) hb)
      clear HO580
      clear HO585
      clear HO590
      clear HO595
      clear BK549
      clear BK582
      clear BK587
      clear BK592
      clear HB
      have HO580 := n0_
      have HO585 := n1_
      have HO590 := n2_
      have HO595 := n3_
      have HO598 := n4_
      have BK549 := n5_
      have BK582 := n6_
      have BK587 := n7_
      have BK592 := n8_
      have HB := n9_
      clear n0_ n1_ n2_ n3_ n4_ n5_ n6_ n7_ n8_ n9_
      (try clear hb)
      (try clear hb2)
      (try clear hk)
      (try clear hi)
      (try clear ho0)
      obtain ⟨Ao71, co71, eo71⟩ := Kd.R_slice HO598.out
      (first | subst eo71 | (injection eo71 with f1_ f2_ f3_; have f4_ := f1_.symm; have f5_ := f3_.symm; clear f1_ f2_ f3_; subst f4_; subst f5_))
      refine hK.out _ _ ⟨(blk_cell BK582.out 0).trans rfl, (blk_cell BK587.out 0).trans rfl, (blk_cell BK592.out 0).trans rfl⟩ (fun hHeld => ?_)
      clear hK K
      refine norm_ (a' := ?_) ?_ ?_
      rotate_left
      ·show Act.put _ (some 56) _ = _
       simp only [Act.put, List.setIfInBounds_toArray, List.set_cons_zero, List.set_cons_succ, i64_w, i32_w]
       rfl
      refine one_ (i := 5) (N := some 57) #[true, true, true, true, true, true, false, false] rfl rfl (one_of HT_.out (by kernel_rfl)) (by decide) (fun K hK => ?_)
      refine goes_ Try.func41 (by kernel_rfl) rfl #[.agg #[.slice Ao71 t596.length co71]] (by rfl) rfl rfl (by (try simp only [List.map_toArray, List.map_cons, List.map_nil]); first | done | rfl | (simp only [List.length_drop, List.length_take]; rfl)) ?_
      with_reducible refine (rubricref7_Set_Not.calls k _ _ t596 t599 _ ?side1 ?side2 A46.out).mono ?_
      (case side1 => repeat (first | exact (Kd.R_reads' HO598.out).2.2 | (with_reducible refine Kd.C_alloc ?_ _) | (with_reducible refine Kd.C_drewN ?_ _) | (with_reducible refine Kd.C_drew ?_)))
      (case side2 => exact (Kd.R_reads' HO598.out).2.1)
      rintro e w72 ⟨v600, rfl, ho0, hb⟩
      refine ⟨_, rfl, ?_⟩
      have n0_ := Aside0.mk (Kd.R_elder' (S.r HO580.out) (Kd.R_base ho0) hb)
      have n1_ := Aside0.mk (Kd.R_elder' (S.r HO585.out) (Kd.R_base ho0) hb)
      have n2_ := Aside0.mk (Kd.R_elder' (S.r HO590.out) (Kd.R_base ho0) hb)
      have n3_ := Aside0.mk (Kd.R_elder' (S.r HO595.out) (Kd.R_base ho0) hb)
      have n4_ := Aside0.mk (Kd.R_elder' (S.r HO598.out) (Kd.R_base ho0) hb)
      have n5_ := Aside0.mk (Kd.R_lower (Kd.R_new' (Kd.R_new' (Kd.R_new' (Kd.R_new' (Kd.R_new' ho0 (Kd.R_lt (S.r HO580.out))) (Kd.R_lt (S.r HO585.out))) (Kd.R_lt (S.r HO590.out))) (Kd.R_lt (S.r HO595.out))) (Kd.R_lt (S.r HO598.out))) (below_size (by repeat (first | (with_reducible first | exact HB.out | apply below_alloc | apply pw_below_drewN | apply below_drew1 | refine below_set ?_ GE549.out | refine below_set ?_ GE582.out | refine below_set ?_ GE587.out | refine below_set ?_ GE592.out) | exact HB.out))))
      have n6_ := Aside0.mk (blk_below (g := gb549) (o := .cells #[.slice none 0 0] 38 (0, 0)) (S.b BK549.out) hb)
      have n7_ := Aside0.mk (blk_below (g := gb582) (o := .cells #[.slice Ao50 t578.length co50] 38 (0, 0)) (S.b BK582.out) hb)
      have n8_ := Aside0.mk (blk_below (g := gb587) (o := .cells #[.slice Ao55 t583.length co55] 38 (0, 0)) (S.b BK587.out) hb)
      have n9_ := Aside0.mk (blk_below (g := gb592) (o := .cells #[.slice Ao61 t588.length co61] 38 (0, 0)) (S.b BK592.out) hb)
      have n10_ := Aside0.mk (below_step (by repeat (first | (with_reducible first | exact HB.out | apply below_alloc | apply pw_below_drewN | apply below_drew1 | refine below_set ?_ GE549.out | refine below_set ?_ GE582.out | refine below_set ?_ GE587.out | refine below_set ?_ GE592.out) | exact HB.out)) hb)
      clear HO580
      clear HO585
      clear HO590
      clear HO595
      clear HO598
      clear BK549
      clear BK582
      clear BK587
      clear BK592
      clear HB
      have HO580 := n0_
      have HO585 := n1_
      have HO590 := n2_
      have HO595 := n3_
      have HO598 := n4_
      have HO601 := n5_
      have BK549 := n6_
      have BK582 := n7_
      have BK587 := n8_
      have BK592 := n9_
      have HB := n10_
      clear n0_ n1_ n2_ n3_ n4_ n5_ n6_ n7_ n8_ n9_ n10_
      (try clear hb)
      (try clear hb2)
      (try clear hk)
      (try clear hi)
      (try clear ho0)
      obtain ⟨Ao73, co73, eo73⟩ := Kd.R_slice HO601.out
      (first | subst eo73 | (injection eo73 with f1_ f2_ f3_; have f4_ := f1_.symm; have f5_ := f3_.symm; clear f1_ f2_ f3_; subst f4_; subst f5_))
      refine hK.out _ _ ⟨(blk_cell BK582.out 0).trans rfl, (blk_cell BK587.out 0).trans rfl, (blk_cell BK592.out 0).trans rfl⟩ (fun hHeld => ?_)
      clear hK K
      refine norm_ (a' := ?_) ?_ ?_
      rotate_left
      ·show Act.put _ (some 57) _ = _
       simp only [Act.put, List.setIfInBounds_toArray, List.set_cons_zero, List.set_cons_succ, i64_w, i32_w]
       rfl
      refine one_ (i := 6) (N := none) #[true, true, true, true, true, true, true, false] rfl rfl (one_of HT_.out (by kernel_rfl)) (by decide) (fun K hK => ?_)
      have hs74 : w72.cell? ⟨gb549, 0, none⟩ = some (.slice none 0 0) := (blk_cell BK549.out 0).trans rfl
      have hfs74 := blk_frozen BK549.out 0
      have hns74_1 := NB582_549.out
      have hns74_2 := NB587_549.out
      have hns74_3 := NB592_549.out
      have hms74_1 := NB549_582.out
      have hms74_2 := NB549_587.out
      have hms74_3 := NB549_592.out
      refine skip_ (w1 := ?_) (by rfl) rfl ?_ ?_
      rotate_left
      ·go_simp
       rfl
      refine hK.out _ _ ⟨((cell_far (p := ⟨gb549, _, none⟩) NB582_549.out _).trans (hHeld.1)), ((cell_far (p := ⟨gb549, _, none⟩) NB587_549.out _).trans (hHeld.2.1)), ((cell_far (p := ⟨gb549, _, none⟩) NB592_549.out _).trans (hHeld.2.2))⟩ (fun hHeld => ?_)
      clear hK K
      refine pure_ (i := 7) (N := some 3) (v := ?_) (a' := ?_) #[true, true, true, true, true, true, true, true] rfl rfl (any_of HT_.out (by kernel_rfl)) (fun _ _ _ h => h) (Or.inl ⟨by rfl, ?_⟩) ?_ ?_
      rotate_left
      ·intro w'
       go_simp
       with_reducible rfl
      rotate_left
      ·simp only [Act.put, List.setIfInBounds_toArray, List.set_cons_zero, List.set_cons_succ, i64_w, i32_w]
       rfl
      refine done_ (done_of HT_.out (by kernel_rfl)) ?_
      try go_wp2
      refine bodyPost_ret (results_ct rfl _ _ gb549 38 #[.slice Ao73 t599.length co73] (0, 0) _ rfl (by (with_reducible repeat (first | refine blk_drewN ?_ _ | refine blk_drew ?_ | refine blk_alloc ?_ _)); refine blk_put (cs := #[.slice none 0 0]) ?_ 0 _ rfl; (with_reducible repeat (first | refine blk_drewN ?_ _ | refine blk_drew ?_ | refine blk_alloc ?_ _)); exact BK549.out) Try.underlying38 rfl (by kernel_rfl)) rfl ?_
      exact ⟨_, by first | rfl | (simp [errW_none, errW_some] <;> rfl) | (simp [*, errW_none, errW_some] <;> rfl), by (with_reducible repeat (first | apply Kd.R_alloc | apply Kd.R_drewN | apply Kd.R_drew)); exact Kd.R_mono (Kd.R_far (p := ⟨gb549, 0, none⟩) (Kd.R_types HO601.out BK549.out (by decide)) (fun _ hk => hk.2) (.slice Ao73 t599.length co73)) (fun _ hk => trivial), by repeat (first | (with_reducible first | exact HB.out | apply below_alloc | apply pw_below_drewN | apply below_drew1 | refine below_set ?_ GE549.out | refine below_set ?_ GE582.out | refine below_set ?_ GE587.out | refine below_set ?_ GE592.out) | exact HB.out)⟩
     ·rw [if_neg c40] at H
      have c40b0 : (a0 == 119) = false := beq_eq_false_iff_ne.mpr c40
      have c40b1 : (a0 != 119) = true := bne_iff_ne.mpr c40
      have HC75 := Aside0.mk H
      clear H
      go_enter Try.func15, Try.ntmps15
      go_upto_if 58 with (first | ((with_reducible refine gate_dst (N := 2) rfl ?_); refine box_event ?hg (N := 2) ?hd (cs := #[.slice none 0 0]) (t := 38) ?hr ?_; (case hd => rfl); (case hg => rfl); (case hr => first | (go_simp; done) | (go_simp; rfl)); intro gb549 hg w76 hbox hb; have n0_ := Aside0.mk (below_step (by repeat (first | (with_reducible first | exact HB.out | apply below_alloc | apply pw_below_drewN | apply below_drew1) | exact HB.out)) hb); have n1_ := Aside0.mk (hbox); have n2_ := Aside0.mk ((by rw [hg]; exact (below_size (by repeat (first | (with_reducible first | exact HB.out | apply below_alloc | apply pw_below_drewN | apply below_drew1) | exact HB.out))) : w.heap.size ≤ gb549)); have n3_ := Aside0.mk ((by rw [hg]; exact (below_size (by repeat (first | (with_reducible first | exact HB.out | apply below_alloc | apply pw_below_drewN | apply below_drew1) | exact HB.out))) : w.heap.size ≤ gb549)); clear HB; have HB := n0_; have BK549 := n1_; have GW549 := n2_; have GE549 := n3_; clear n0_ n1_ n2_ n3_; clear hb hbox hg))
      (try simp only [Act.put, List.setIfInBounds_toArray, List.set_cons_zero, List.set_cons_succ])
      go_cut [58] (fun v58 wc => ∃ (kq : Nat) (x58_74 : Bool), v58 = .bool x58_74 ∧ Aside0 (rubricref7_Escape.j0 kq a0 x58_74 = some (r1, r2)) ∧ Aside0 (kq ≤ k) ∧ Aside0 (wc.heap[gb549]? = some (.cells #[(.slice none 0 0)] 38 (0, 0))) ∧ Aside0 (Below w.heap.size w wc))
      case first =>
       have H := HC75.out
       clear HC75
       by_cases c77 : a0 = 83
       ·rw [if_pos c77] at H
        have c77b0 : (a0 == 83) = true := beq_iff_eq.mpr c77
        have c77b1 : (a0 != 83) = false := bne_eq_false_iff_eq.mpr c77
        clear c77
        (first | rw [c77b0] | (simp only [i64_w, i32_w]; rw [c77b0]) | skip)
        have H' := Aside0.mk H
        clear H
        go_wp2
        go_meet
        case rel => exact ⟨_, ((a0 == 83)), (by first | rfl | (simp; done) | (simp [*]; done)), H', ⟨by first | omega | exact Nat.le_refl _⟩, ⟨S.b BK549.out⟩, ⟨by repeat (first | (with_reducible first | exact HB.out | apply below_alloc | apply pw_below_drewN | apply below_drew1 | refine below_set ?_ GE549.out) | exact HB.out)⟩⟩
       ·rw [if_neg c77] at H
        have c77b0 : (a0 == 83) = false := beq_eq_false_iff_ne.mpr c77
        have c77b1 : (a0 != 83) = true := bne_iff_ne.mpr c77
        (first | rw [c77b0] | (simp only [i64_w, i32_w]; rw [c77b0]) | skip)
        by_cases c78 : a0 = 73
        ·rw [if_pos c78] at H
         have c78b0 : (a0 == 73) = true := beq_iff_eq.mpr c78
         have c78b1 : (a0 != 73) = false := bne_eq_false_iff_eq.mpr c78
         clear c78
         have H' := Aside0.mk H
         clear H
         go_wp2
         go_meet
         case rel => exact ⟨_, ((a0 == 73)), (by first | rfl | (simp; done) | (simp [*]; done)), H', ⟨by first | omega | exact Nat.le_refl _⟩, ⟨S.b BK549.out⟩, ⟨by repeat (first | (with_reducible first | exact HB.out | apply below_alloc | apply pw_below_drewN | apply below_drew1 | refine below_set ?_ GE549.out) | exact HB.out)⟩⟩
        ·rw [if_neg c78] at H
         have c78b0 : (a0 == 73) = false := beq_eq_false_iff_ne.mpr c78
         have c78b1 : (a0 != 73) = true := bne_iff_ne.mpr c78
         by_cases c79 : a0 = 67
         ·rw [if_pos c79] at H
          have c79b0 : (a0 == 67) = true := beq_iff_eq.mpr c79
          have c79b1 : (a0 != 67) = false := bne_eq_false_iff_eq.mpr c79
          clear c79
          have H' := Aside0.mk H
          clear H
          go_wp2
          go_meet
          case rel => exact ⟨_, ((a0 == 67)), (by first | rfl | (simp; done) | (simp [*]; done)), H', ⟨by first | omega | exact Nat.le_refl _⟩, ⟨S.b BK549.out⟩, ⟨by repeat (first | (with_reducible first | exact HB.out | apply below_alloc | apply pw_below_drewN | apply below_drew1 | refine below_set ?_ GE549.out) | exact HB.out)⟩⟩
         ·rw [if_neg c79] at H
          have c79b0 : (a0 == 67) = false := beq_eq_false_iff_ne.mpr c79
          have c79b1 : (a0 != 67) = true := bne_iff_ne.mpr c79
          by_cases c80 : a0 = 68
          ·rw [if_pos c80] at H
           have c80b0 : (a0 == 68) = true := beq_iff_eq.mpr c80
           have c80b1 : (a0 != 68) = false := bne_eq_false_iff_eq.mpr c80
           clear c80
           have H' := Aside0.mk H
           clear H
           go_wp2
           go_meet
           case rel => exact ⟨_, ((a0 == 68)), (by first | rfl | (simp; done) | (simp [*]; done)), H', ⟨by first | omega | exact Nat.le_refl _⟩, ⟨S.b BK549.out⟩, ⟨by repeat (first | (with_reducible first | exact HB.out | apply below_alloc | apply pw_below_drewN | apply below_drew1 | refine below_set ?_ GE549.out) | exact HB.out)⟩⟩
          ·rw [if_neg c80] at H
           have c80b0 : (a0 == 68) = false := beq_eq_false_iff_ne.mpr c80
           have c80b1 : (a0 != 68) = true := bne_iff_ne.mpr c80
           have H' := Aside0.mk H
           clear H
           go_wp2
           go_meet
           case rel => exact ⟨_, ((a0 == 87)), (by first | rfl | (simp; done) | (simp [*]; done)), H', ⟨by first | omega | exact Nat.le_refl _⟩, ⟨S.b BK549.out⟩, ⟨by repeat (first | (with_reducible first | exact HB.out | apply below_alloc | apply pw_below_drewN | apply below_drew1 | refine below_set ?_ GE549.out) | exact HB.out)⟩⟩
      case rest =>
       clear HC75
       try clear c1
       try clear c2
       try clear c2b0
       try clear c2b1
       try clear p2
       try clear c3
       try clear c4
       try clear c5
       try clear c6
       try clear c7
       try clear c8
       try clear c11
       try clear c11b0
       try clear c11b1
       try clear c15
       try clear c17
       try clear c20
       try clear c20b0
       try clear c20b1
       try clear c22
       try clear c34
       try clear c34b0
       try clear c34b1
       try clear c38
       try clear c39
       try clear c40
       try clear c40b0
       try clear c40b1
       try clear c41
       try clear c51
       try clear c56
       try clear c57
       try clear c62
       try clear c63
       try clear c64
       try clear c77
       try clear c77b0
       try clear c77b1
       try clear c78
       try clear c78b0
       try clear c78b1
       try clear c79
       try clear c79b0
       try clear c79b1
       try clear c80
       try clear c80b0
       try clear c80b1
       try clear hcz10_0
       try clear hcz19_0
       try clear hcz33_0
       try clear hcz39_0
       try clear hcz52_0
       try clear hcz58_0
       try clear hcz65_0
       try clear hfz10_0
       try clear hfz19_0
       try clear hfz33_0
       try clear hfz39_0
       try clear hfz52_0
       try clear hfz58_0
       try clear hfz65_0
       obtain ⟨kq, x58_74, rfl, HA, HJ74, BK549, HB⟩ := hcut
       cases kq with
       | zero => exact absurd HA.out (by simp [rubricref7_Escape.j0])
       | succ kj74 =>
        have H := HA.out
        clear HA
        simp only [rubricref7_Escape.j0] at H
        by_cases c81 : x58_74 = true
        ·subst c81
         have H1 : ((rubricref7_Escape.f kj74 (wrap64 (a0 + 32))).bind fun bt602 => ((rubricref7_Set_Not.f kj74 bt602.1).bind fun t607 => (some (t607, true)))) = some (r1, r2) := by rw [if_pos rfl] at H; exact H
         clear H
         have H := H1
         clear H1
         replace H := Option.bind_eq_some_iff.mp H
         obtain ⟨⟨t602, t605⟩, A820, H⟩ := H
         replace H : ((rubricref7_Set_Not.f kj74 t602).bind fun t607 => (some (t607, true))) = some (r1, r2) := H
         have A82 := Aside0.mk A820
         clear A820
         replace H := Option.bind_eq_some_iff.mp H
         obtain ⟨t607, A830, H⟩ := H
         replace H : (some (t607, true)) = some (r1, r2) := H
         have A83 := Aside0.mk A830
         clear A830
         simp only [Option.some.injEq, Prod.mk.injEq] at H
         obtain ⟨rfl, rfl⟩ := H
         go_wp2_with (first | ((with_reducible refine gate_callee (f := 15) rfl ?_); refine goesL_ (some 67) rfl rfl Try.func15 (by kernel_rfl) rfl #[.int .i64 (wrap64 (a0 + 32))] rfl (by (try simp only [List.map_toArray, List.map_cons, List.map_nil]); first | done | rfl | (simp only [List.length_drop, List.length_take]; rfl)) ?_; (with_reducible refine (ih kj74 (by have := HJ74.out; omega) (wrap64 (a0 + 32)) t602 t605 _ A82.out).mono ?_); rintro e w84 ⟨v603, rfl, ho0, hb⟩; refine ⟨_, rfl, ?_⟩; have n0_ := Aside0.mk (Kd.R_lower ho0 (below_size (by repeat (first | (with_reducible first | exact HB.out | apply below_alloc | apply pw_below_drewN | apply below_drew1 | refine below_set ?_ GE549.out) | exact HB.out)))); have n1_ := Aside0.mk (blk_below (g := gb549) (o := .cells #[.slice none 0 0] 38 (0, 0)) (S.b BK549.out) hb); have n2_ := Aside0.mk (below_step (by repeat (first | (with_reducible first | exact HB.out | apply below_alloc | apply pw_below_drewN | apply below_drew1 | refine below_set ?_ GE549.out) | exact HB.out)) hb); clear BK549; clear HB; have HO604 := n0_; have BK549 := n1_; have HB := n2_; clear n0_ n1_ n2_; (try clear hb); (try clear hb2); (try clear hk); (try clear hi); (try clear ho0)) | ((with_reducible refine gate_dst (N := 10) rfl ?_); refine box_event ?hg (N := 10) ?hd (cs := #[.slice none 0 0]) (t := 38) ?hr ?_; (case hd => rfl); (case hg => rfl); (case hr => first | (go_simp; done) | (go_simp; rfl)); intro gb606 hg w85 hbox hb; have n0_ := Aside0.mk (Kd.R_below (S.r HO604.out) hb); have n1_ := Aside0.mk (blk_below (g := gb549) (o := .cells #[.slice none 0 0] 38 (0, 0)) (S.b BK549.out) hb); have n2_ := Aside0.mk (below_step (by repeat (first | (with_reducible first | exact HB.out | apply below_alloc | apply pw_below_drewN | apply below_drew1 | refine below_set ?_ GE549.out) | exact HB.out)) hb); have n3_ := Aside0.mk (hbox); have n4_ := Aside0.mk ((by rw [hg]; exact (below_size (by repeat (first | (with_reducible first | exact HB.out | apply below_alloc | apply pw_below_drewN | apply below_drew1 | refine below_set ?_ GE549.out) | exact HB.out))) : w.heap.size ≤ gb606)); have n5_ := Aside0.mk ((by rw [hg]; exact (below_size (by repeat (first | (with_reducible first | exact HB.out | apply below_alloc | apply pw_below_drewN | apply below_drew1 | refine below_set ?_ GE549.out) | exact HB.out))) : w.heap.size ≤ gb606)); have n6_ := Aside0.mk ((by rw [hg]; exact Nat.ne_of_lt (blk_lt (g := gb549) (o := .cells #[.slice none 0 0] 38 (0, 0)) (S.b BK549.out)) : gb549 ≠ gb606)); have n7_ := Aside0.mk ((by rw [hg]; exact Nat.ne_of_gt (blk_lt (g := gb549) (o := .cells #[.slice none 0 0] 38 (0, 0)) (S.b BK549.out)) : gb606 ≠ gb549)); clear HO604; clear BK549; clear HB; have HO604 := n0_; have BK549 := n1_; have HB := n2_; have BK606 := n3_; have GW606 := n4_; have GE606 := n5_; have NB549_606 := n6_; have NB606_549 := n7_; clear n0_ n1_ n2_ n3_ n4_ n5_ n6_ n7_; clear hb hbox hg; obtain ⟨Ao86, co86, eo86⟩ := Kd.R_slice HO604.out; subst eo86; have hnb87 := NB606_549.out; have hnc87 := NB549_606.out; have hcz88_0 : w85.cell? ⟨gb606, 0, none⟩ = some (.slice none 0 0) := (blk_cell BK606.out 0).trans rfl; have hfz88_0 := blk_frozen BK606.out 0) | ((with_reducible refine gate_callee (f := 41) rfl ?_); refine goesL_ (some 71) rfl rfl Try.func41 (by kernel_rfl) rfl #[.agg #[.slice Ao86 t602.length co86]] rfl (by (try simp only [List.map_toArray, List.map_cons, List.map_nil]); first | done | rfl | (simp only [List.length_drop, List.length_take]; rfl)) ?_; (with_reducible refine (rubricref7_Set_Not.calls kj74 _ _ t602 t607 _ ?side1 ?side2 A83.out).mono ?_); (case side1 => refine (Kd.R_reads' (e := 58) (base := w.heap.size) (ok := fun k_ => True) (n := t602.length) (c := co86) ?_).2.2; exact (by (with_reducible repeat (first | apply Kd.R_alloc | apply Kd.R_drewN | apply Kd.R_drew)); exact (Kd.R_mono (Kd.R_far (p := ⟨gb606, 0, none⟩) (Kd.R_types HO604.out BK606.out (by decide)) (fun _ hk => hk.2) (.slice Ao86 t602.length co86)) (fun _ h_ => h_.1)))); (case side2 => exact (Kd.R_reads' HO604.out).2.1); rintro e w89 ⟨v608, rfl, ho0, hb⟩; refine ⟨_, rfl, ?_⟩; have n0_ := Aside0.mk (Kd.R_elder' (by (with_reducible repeat (first | apply Kd.R_alloc | apply Kd.R_drewN | apply Kd.R_drew)); exact (Kd.R_mono (Kd.R_far (p := ⟨gb606, 0, none⟩) (Kd.R_types HO604.out BK606.out (by decide)) (fun _ hk => hk.2) (.slice Ao86 t602.length co86)) (fun _ h_ => h_.1))) (Kd.R_base ho0) hb); have n1_ := Aside0.mk (Kd.R_lower (Kd.R_new' ho0 (Kd.R_lt (by (with_reducible repeat (first | apply Kd.R_alloc | apply Kd.R_drewN | apply Kd.R_drew)); exact (Kd.R_mono (Kd.R_far (p := ⟨gb606, 0, none⟩) (Kd.R_types HO604.out BK606.out (by decide)) (fun _ hk => hk.2) (.slice Ao86 t602.length co86)) (fun _ h_ => h_.1))))) (below_size (by repeat (first | (with_reducible first | exact HB.out | apply below_alloc | apply pw_below_drewN | apply below_drew1 | refine below_set ?_ GE549.out | refine below_set ?_ GE606.out) | exact HB.out)))); have n2_ := Aside0.mk (blk_below (g := gb549) (o := .cells #[.slice none 0 0] 38 (0, 0)) (by (with_reducible repeat (first | refine blk_drewN ?_ _ | refine blk_drew ?_ | refine blk_alloc ?_ _)); refine blk_far ?_ NB549_606.out _; (with_reducible repeat (first | refine blk_drewN ?_ _ | refine blk_drew ?_ | refine blk_alloc ?_ _)); exact BK549.out) hb); have n3_ := Aside0.mk (blk_below (g := gb606) (o := .cells #[.slice Ao86 t602.length co86] 38 (0, 0)) (by (with_reducible repeat (first | refine blk_drewN ?_ _ | refine blk_drew ?_ | refine blk_alloc ?_ _)); refine blk_put (cs := #[.slice none 0 0]) ?_ 0 _ rfl; (with_reducible repeat (first | refine blk_drewN ?_ _ | refine blk_drew ?_ | refine blk_alloc ?_ _)); exact BK606.out) hb); have n4_ := Aside0.mk (below_step (by repeat (first | (with_reducible first | exact HB.out | apply below_alloc | apply pw_below_drewN | apply below_drew1 | refine below_set ?_ GE549.out | refine below_set ?_ GE606.out) | exact HB.out)) hb); clear HO604; clear BK549; clear BK606; clear HB; have HO604 := n0_; have HO609 := n1_; have BK549 := n2_; have BK606 := n3_; have HB := n4_; clear n0_ n1_ n2_ n3_ n4_; (try clear hb); (try clear hb2); (try clear hk); (try clear hi); (try clear ho0); obtain ⟨Ao90, co90, eo90⟩ := Kd.R_slice HO609.out; subst eo90; have hcz91_0 : w89.cell? ⟨gb549, 0, none⟩ = some (.slice none 0 0) := (blk_cell BK549.out 0).trans rfl; have hfz91_0 := blk_frozen BK549.out 0))
         refine bodyPost_ret (results_ct rfl _ _ gb549 38 #[.slice Ao90 t607.length co90] (0, 0) _ rfl (by (with_reducible repeat (first | refine blk_drewN ?_ _ | refine blk_drew ?_ | refine blk_alloc ?_ _)); refine blk_put (cs := #[.slice none 0 0]) ?_ 0 _ rfl; (with_reducible repeat (first | refine blk_drewN ?_ _ | refine blk_drew ?_ | refine blk_alloc ?_ _)); exact BK549.out) Try.underlying38 rfl (by kernel_rfl)) rfl ?_
         exact ⟨_, by first | rfl | (simp [errW_none, errW_some] <;> rfl) | (simp [*, errW_none, errW_some] <;> rfl), by (with_reducible repeat (first | apply Kd.R_alloc | apply Kd.R_drewN | apply Kd.R_drew)); exact Kd.R_mono (Kd.R_far (p := ⟨gb549, 0, none⟩) (Kd.R_types HO609.out BK549.out (by decide)) (fun _ hk => hk.2) (.slice Ao90 t607.length co90)) (fun _ hk => trivial), by repeat (first | (with_reducible first | exact HB.out | apply below_alloc | apply pw_below_drewN | apply below_drew1 | refine below_set ?_ GE549.out | refine below_set ?_ GE606.out) | exact HB.out)⟩
        ·replace c81 := Bool.eq_false_iff.mpr c81
         subst c81
         have H1 : (some (([] : List (S58)), false)) = some (r1, r2) := by rw [if_neg (show ¬ (false = true) by decide)] at H; exact H
         clear H
         have H := H1
         clear H1
         simp only [Option.some.injEq, Prod.mk.injEq] at H
         obtain ⟨rfl, rfl⟩ := H
         have hcz92_0 : wc.cell? ⟨gb549, 0, none⟩ = some (.slice none 0 0) := (blk_cell BK549.out 0).trans rfl
         have hfz92_0 := blk_frozen BK549.out 0
         go_wp2
         refine bodyPost_ret (results_ct rfl _ _ gb549 38 #[.slice none 0 0] (0, 0) _ rfl (by (with_reducible repeat (first | refine blk_drewN ?_ _ | refine blk_drew ?_ | refine blk_alloc ?_ _)); refine blk_put (cs := #[.slice none 0 0]) ?_ 0 _ rfl; (with_reducible repeat (first | refine blk_drewN ?_ _ | refine blk_drew ?_ | refine blk_alloc ?_ _)); exact BK549.out) Try.underlying38 rfl (by kernel_rfl)) rfl ?_
         exact ⟨_, by first | rfl | (simp [errW_none, errW_some] <;> rfl) | (simp [*, errW_none, errW_some] <;> rfl), by first | exact Kd.R_nil _ _ _ _ _ | exact Kd.N_nil _ _ _ _ _ | exact Kd.V_nil _ _ _ _ _ | exact Kd.Q_nil _ _ _ _ _ | exact Kd.S_nil _ _ _ _ _, by repeat (first | (with_reducible first | exact HB.out | apply below_alloc | apply pw_below_drewN | apply below_drew1 | refine below_set ?_ GE549.out) | exact HB.out)⟩

/-! ### rubricref7_Same: function 18 -/
def rubricref7_Same.l0 : Nat → Int → List (S58) → List (S58) → Option (Bool)
 | 0, _, _, _ => none
 | k + 1, x5, x611000, x612000 => if x5 < (x611000.length : Int) then (if 0 ≤ x5 then (if x5 < (x612000.length : Int) then (if (!(((rd_T58 x611000 x5).f0) == ((rd_T58 x612000 x5).f0)) || (!(((rd_T58 x611000 x5).f1) == ((rd_T58 x612000 x5).f1)))) = true then (some false) else (rubricref7_Same.l0 k (wrap64 (x5 + 1)) x611000 x612000)) else (none)) else (none)) else (some true)
def rubricref7_Same.f (k : Nat) (l0_0 : List (S58)) (l1_0 : List (S58)) : Option (Bool) := if (l0_0.length : Int) = (l1_0.length : Int) then (rubricref7_Same.l0 k 0 l0_0 l1_0) else (some false)
theorem rubricref7_Same.mono_l : ∀ k, (∀ y0 y1 y2, LeO (rubricref7_Same.l0 k y0 y1 y2) (rubricref7_Same.l0 (k + 1) y0 y1 y2))
 | 0 => fun _ _ _ r h => by simp [rubricref7_Same.l0] at h
 | k + 1 => by
  have ih0 := rubricref7_Same.mono_l k
  ·intro y0 y1 y2
   unfold rubricref7_Same.l0
   repeat' first
   | (with_reducible exact ih0 _ _ _)
   | (with_reducible exact LeO.refl _)
   | (with_reducible exact LeO.none _)
   | (with_reducible refine LeO.ite ?_ ?_)
   | (with_reducible refine LeO.bind ?_ (fun _ => ?_))
   | exact ih0 _ _ _
   | exact LeO.none _
   | refine LeO.ite ?_ ?_
   | refine LeO.bind ?_ (fun _ => ?_)
theorem rubricref7_Same.mono : ∀ a0 a1 k, LeO (rubricref7_Same.f k a0 a1) (rubricref7_Same.f (k + 1) a0 a1) := by
 intro a0 a1 k
 have ih0 := rubricref7_Same.mono_l k
 unfold rubricref7_Same.f
 repeat' first
   | (with_reducible exact ih0 _ _ _)
   | (with_reducible exact LeO.refl _)
   | (with_reducible exact LeO.none _)
   | (with_reducible refine LeO.ite ?_ ?_)
   | (with_reducible refine LeO.bind ?_ (fun _ => ?_))
   | exact ih0 _ _ _
   | exact LeO.none _
   | refine LeO.ite ?_ ?_
   | refine LeO.bind ?_ (fun _ => ?_)
set_option maxHeartbeats 8000000 in
set_option maxRecDepth 100000 in
theorem rubricref7_Same.calls (k : Nat) (A0_0 : Option Addr) (c0_0 : Nat) (l0_0 : List (S58)) (A1_0 : Option Addr) (c1_0 : Nat) (l1_0 : List (S58)) (r : Bool) (w : World) (hr0_0 : Kd.C k58 w A0_0 l0_0.length l0_0) (hc0_0 : l0_0.length ≤ c0_0) (hr1_0 : Kd.C k58 w A1_0 l1_0.length l1_0) (hc1_0 : l1_0.length ≤ c1_0) (h : rubricref7_Same.f k l0_0 l1_0 = some r) :
  Calls Try.prog 18 #[.agg #[.slice A0_0 l0_0.length c0_0], .agg #[.slice A1_0 l1_0.length c1_0]] w fun e w' => e = .returned (.bool r) ∧ Below w.heap.size w w' := by
 have hu38 := Try.underlying38
 have hu58 := Try.underlying58
 have HR0_0 := Aside0.mk hr0_0
 have HC0_0 := Aside0.mk hc0_0
 clear hr0_0 hc0_0
 have HR1_0 := Aside0.mk hr1_0
 have HC1_0 := Aside0.mk hc1_0
 clear hr1_0 hc1_0
 have HB := Aside0.mk (Below.refl w.heap.size w)
 have H : (if (l0_0.length : Int) = (l1_0.length : Int) then (rubricref7_Same.l0 k 0 l0_0 l1_0) else (some false)) = some r := h
 clear h
 by_cases c3 : (l0_0.length : Int) = (l1_0.length : Int)
 ·rw [if_pos c3] at H
  have c3b0 : ((l0_0.length : Int) == (l1_0.length : Int)) = true := beq_iff_eq.mpr c3
  have c3b1 : ((l0_0.length : Int) != (l1_0.length : Int)) = false := bne_eq_false_iff_eq.mpr c3
  have c3b2 : (l0_0.length == l1_0.length) = true := by first | simpa using c3 | (simp at c3 ⊢; omega)
  clear c3
  have H' := Aside0.mk H
  clear H
  go_enter Try.func18, Try.ntmps18
  go_wp2_with (first | ((with_reducible refine gate_dst (N := 2) rfl ?_); refine box_event ?hg (N := 2) ?hd (cs := #[.slice A0_0 l0_0.length c0_0]) (t := 38) ?hr ?_; (case hd => rfl); (case hg => rfl); (case hr => first | (go_simp; done) | (go_simp; rfl)); intro gb610 hg w4 hbox hb; have n0_ := Aside0.mk (below_step (by repeat (first | (with_reducible first | exact HB.out | apply below_alloc | apply pw_below_drewN | apply below_drew1) | exact HB.out)) hb); have n1_ := Aside0.mk (hbox); have n2_ := Aside0.mk ((by rw [hg]; exact (below_size (by repeat (first | (with_reducible first | exact HB.out | apply below_alloc | apply pw_below_drewN | apply below_drew1) | exact HB.out))) : w.heap.size ≤ gb610)); have n3_ := Aside0.mk ((by rw [hg]; exact (below_size (by repeat (first | (with_reducible first | exact HB.out | apply below_alloc | apply pw_below_drewN | apply below_drew1) | exact HB.out))) : w.heap.size ≤ gb610)); clear HB; have HB := n0_; have BK610 := n1_; have GW610 := n2_; have GE610 := n3_; clear n0_ n1_ n2_ n3_; clear hb hbox hg) | ((with_reducible refine gate_dst (N := 3) rfl ?_); refine box_event ?hg (N := 3) ?hd (cs := #[.slice A1_0 l1_0.length c1_0]) (t := 38) ?hr ?_; (case hd => rfl); (case hg => rfl); (case hr => first | (go_simp; done) | (go_simp; rfl)); intro gb611 hg w5 hbox hb; have n0_ := Aside0.mk (blk_below (g := gb610) (o := .cells #[.slice A0_0 l0_0.length c0_0] 38 (0, 0)) (S.b BK610.out) hb); have n1_ := Aside0.mk (below_step (by repeat (first | (with_reducible first | exact HB.out | apply below_alloc | apply pw_below_drewN | apply below_drew1 | refine below_set ?_ GE610.out) | exact HB.out)) hb); have n2_ := Aside0.mk (hbox); have n3_ := Aside0.mk ((by rw [hg]; exact (below_size (by repeat (first | (with_reducible first | exact HB.out | apply below_alloc | apply pw_below_drewN | apply below_drew1 | refine below_set ?_ GE610.out) | exact HB.out))) : w.heap.size ≤ gb611)); have n4_ := Aside0.mk ((by rw [hg]; exact (below_size (by repeat (first | (with_reducible first | exact HB.out | apply below_alloc | apply pw_below_drewN | apply below_drew1 | refine below_set ?_ GE610.out) | exact HB.out))) : w.heap.size ≤ gb611)); have n5_ := Aside0.mk ((by rw [hg]; exact Nat.ne_of_lt (blk_lt (g := gb610) (o := .cells #[.slice A0_0 l0_0.length c0_0] 38 (0, 0)) (S.b BK610.out)) : gb610 ≠ gb611)); have n6_ := Aside0.mk ((by rw [hg]; exact Nat.ne_of_gt (blk_lt (g := gb610) (o := .cells #[.slice A0_0 l0_0.length c0_0] 38 (0, 0)) (S.b BK610.out)) : gb611 ≠ gb610)); clear BK610; clear HB; have BK610 := n0_; have HB := n1_; have BK611 := n2_; have GW611 := n3_; have GE611 := n4_; have NB610_611 := n5_; have NB611_610 := n6_; clear n0_ n1_ n2_ n3_ n4_ n5_ n6_; clear hb hbox hg; have hnb6 := NB610_611.out; have hnc6 := NB611_610.out; have hcz7_0 : w5.cell? ⟨gb610, 0, none⟩ = some (.slice A0_0 l0_0.length c0_0) := (blk_cell BK610.out 0).trans rfl; have hfz7_0 := blk_frozen BK610.out 0; have hcz8_0 : w5.cell? ⟨gb611, 0, none⟩ = some (.slice A1_0 l1_0.length c1_0) := (blk_cell BK611.out 0).trans rfl; have hfz8_0 := blk_frozen BK611.out 0))
  repeat (go_quiet (first | ((with_reducible refine gate_dst (N := 2) rfl ?_); refine box_event ?hg (N := 2) ?hd (cs := #[.slice A0_0 l0_0.length c0_0]) (t := 38) ?hr ?_; (case hd => rfl); (case hg => rfl); (case hr => first | (go_simp; done) | (go_simp; rfl)); intro gb610 hg w4 hbox hb; have n0_ := Aside0.mk (below_step (by repeat (first | (with_reducible first | exact HB.out | apply below_alloc | apply pw_below_drewN | apply below_drew1) | exact HB.out)) hb); have n1_ := Aside0.mk (hbox); have n2_ := Aside0.mk ((by rw [hg]; exact (below_size (by repeat (first | (with_reducible first | exact HB.out | apply below_alloc | apply pw_below_drewN | apply below_drew1) | exact HB.out))) : w.heap.size ≤ gb610)); have n3_ := Aside0.mk ((by rw [hg]; exact (below_size (by repeat (first | (with_reducible first | exact HB.out | apply below_alloc | apply pw_below_drewN | apply below_drew1) | exact HB.out))) : w.heap.size ≤ gb610)); clear HB; have HB := n0_; have BK610 := n1_; have GW610 := n2_; have GE610 := n3_; clear n0_ n1_ n2_ n3_; clear hb hbox hg) | ((with_reducible refine gate_dst (N := 3) rfl ?_); refine box_event ?hg (N := 3) ?hd (cs := #[.slice A1_0 l1_0.length c1_0]) (t := 38) ?hr ?_; (case hd => rfl); (case hg => rfl); (case hr => first | (go_simp; done) | (go_simp; rfl)); intro gb611 hg w5 hbox hb; have n0_ := Aside0.mk (blk_below (g := gb610) (o := .cells #[.slice A0_0 l0_0.length c0_0] 38 (0, 0)) (S.b BK610.out) hb); have n1_ := Aside0.mk (below_step (by repeat (first | (with_reducible first | exact HB.out | apply below_alloc | apply pw_below_drewN | apply below_drew1 | refine below_set ?_ GE610.out) | exact HB.out)) hb); have n2_ := Aside0.mk (hbox); have n3_ := Aside0.mk ((by rw [hg]; exact (below_size (by repeat (first | (with_reducible first | exact HB.out | apply below_alloc | apply pw_below_drewN | apply below_drew1 | refine below_set ?_ GE610.out) | exact HB.out))) : w.heap.size ≤ gb611)); have n4_ := Aside0.mk ((by rw [hg]; exact (below_size (by repeat (first | (with_reducible first | exact HB.out | apply below_alloc | apply pw_below_drewN | apply below_drew1 | refine below_set ?_ GE610.out) | exact HB.out))) : w.heap.size ≤ gb611)); have n5_ := Aside0.mk ((by rw [hg]; exact Nat.ne_of_lt (blk_lt (g := gb610) (o := .cells #[.slice A0_0 l0_0.length c0_0] 38 (0, 0)) (S.b BK610.out)) : gb610 ≠ gb611)); have n6_ := Aside0.mk ((by rw [hg]; exact Nat.ne_of_gt (blk_lt (g := gb610) (o := .cells #[.slice A0_0 l0_0.length c0_0] 38 (0, 0)) (S.b BK610.out)) : gb611 ≠ gb610)); clear BK610; clear HB; have BK610 := n0_; have HB := n1_; have BK611 := n2_; have GW611 := n3_; have GE611 := n4_; have NB610_611 := n5_; have NB611_610 := n6_; clear n0_ n1_ n2_ n3_ n4_ n5_ n6_; clear hb hbox hg; have hnb6 := NB610_611.out; have hnc6 := NB611_610.out; have hcz7_0 : w5.cell? ⟨gb610, 0, none⟩ = some (.slice A0_0 l0_0.length c0_0) := (blk_cell BK610.out 0).trans rfl; have hfz7_0 := blk_frozen BK610.out 0; have hcz8_0 : w5.cell? ⟨gb611, 0, none⟩ = some (.slice A1_0 l1_0.length c1_0) := (blk_cell BK611.out 0).trans rfl; have hfz8_0 := blk_frozen BK611.out 0)); try go_wp2_with (first | ((with_reducible refine gate_dst (N := 2) rfl ?_); refine box_event ?hg (N := 2) ?hd (cs := #[.slice A0_0 l0_0.length c0_0]) (t := 38) ?hr ?_; (case hd => rfl); (case hg => rfl); (case hr => first | (go_simp; done) | (go_simp; rfl)); intro gb610 hg w4 hbox hb; have n0_ := Aside0.mk (below_step (by repeat (first | (with_reducible first | exact HB.out | apply below_alloc | apply pw_below_drewN | apply below_drew1) | exact HB.out)) hb); have n1_ := Aside0.mk (hbox); have n2_ := Aside0.mk ((by rw [hg]; exact (below_size (by repeat (first | (with_reducible first | exact HB.out | apply below_alloc | apply pw_below_drewN | apply below_drew1) | exact HB.out))) : w.heap.size ≤ gb610)); have n3_ := Aside0.mk ((by rw [hg]; exact (below_size (by repeat (first | (with_reducible first | exact HB.out | apply below_alloc | apply pw_below_drewN | apply below_drew1) | exact HB.out))) : w.heap.size ≤ gb610)); clear HB; have HB := n0_; have BK610 := n1_; have GW610 := n2_; have GE610 := n3_; clear n0_ n1_ n2_ n3_; clear hb hbox hg) | ((with_reducible refine gate_dst (N := 3) rfl ?_); refine box_event ?hg (N := 3) ?hd (cs := #[.slice A1_0 l1_0.length c1_0]) (t := 38) ?hr ?_; (case hd => rfl); (case hg => rfl); (case hr => first | (go_simp; done) | (go_simp; rfl)); intro gb611 hg w5 hbox hb; have n0_ := Aside0.mk (blk_below (g := gb610) (o := .cells #[.slice A0_0 l0_0.length c0_0] 38 (0, 0)) (S.b BK610.out) hb); have n1_ := Aside0.mk (below_step (by repeat (first | (with_reducible first | exact HB.out | apply below_alloc | apply pw_below_drewN | apply below_drew1 | refine below_set ?_ GE610.out) | exact HB.out)) hb); have n2_ := Aside0.mk (hbox); have n3_ := Aside0.mk ((by rw [hg]; exact (below_size (by repeat (first | (with_reducible first | exact HB.out | apply below_alloc | apply pw_below_drewN | apply below_drew1 | refine below_set ?_ GE610.out) | exact HB.out))) : w.heap.size ≤ gb611)); have n4_ := Aside0.mk ((by rw [hg]; exact (below_size (by repeat (first | (with_reducible first | exact HB.out | apply below_alloc | apply pw_below_drewN | apply below_drew1 | refine below_set ?_ GE610.out) | exact HB.out))) : w.heap.size ≤ gb611)); have n5_ := Aside0.mk ((by rw [hg]; exact Nat.ne_of_lt (blk_lt (g := gb610) (o := .cells #[.slice A0_0 l0_0.length c0_0] 38 (0, 0)) (S.b BK610.out)) : gb610 ≠ gb611)); have n6_ := Aside0.mk ((by rw [hg]; exact Nat.ne_of_gt (blk_lt (g := gb610) (o := .cells #[.slice A0_0 l0_0.length c0_0] 38 (0, 0)) (S.b BK610.out)) : gb611 ≠ gb610)); clear BK610; clear HB; have BK610 := n0_; have HB := n1_; have BK611 := n2_; have GW611 := n3_; have GE611 := n4_; have NB610_611 := n5_; have NB611_610 := n6_; clear n0_ n1_ n2_ n3_ n4_ n5_ n6_; clear hb hbox hg; have hnb6 := NB610_611.out; have hnc6 := NB611_610.out; have hcz7_0 : w5.cell? ⟨gb610, 0, none⟩ = some (.slice A0_0 l0_0.length c0_0) := (blk_cell BK610.out 0).trans rfl; have hfz7_0 := blk_frozen BK610.out 0; have hcz8_0 : w5.cell? ⟨gb611, 0, none⟩ = some (.slice A1_0 l1_0.length c1_0) := (blk_cell BK611.out 0).trans rfl; have hfz8_0 := blk_frozen BK611.out 0)))
  go_loopg [5] k (fun kq v5 w' => ∃ (x5_1 : Int), v5 = .int .i64 x5_1 ∧ Aside0 (rubricref7_Same.l0 kq x5_1 l0_0 l1_0 = some r) ∧ Aside0 (kq ≤ k) ∧ Aside0 (w'.heap[gb610]? = some (.cells #[(.slice A0_0 l0_0.length c0_0)] 38 (0, 0))) ∧ Aside0 (w'.heap[gb611]? = some (.cells #[(.slice A1_0 l1_0.length c1_0)] 38 (0, 0))) ∧ Aside0 (Below w.heap.size w w'))
  case atStart => exact ⟨(0), (by first | rfl | (simp; done) | (simp [*]; done)), H', ⟨Nat.le_refl _⟩, ⟨S.b BK610.out⟩, ⟨S.b BK611.out⟩, ⟨by repeat (first | (with_reducible first | exact HB.out | apply below_alloc | apply pw_below_drewN | apply below_drew1 | refine below_set ?_ GE610.out | refine below_set ?_ GE611.out) | exact HB.out)⟩⟩
  case round =>
   clear H'
   try clear c1
   try clear p2
   try clear c3
   try clear c3b0
   try clear c3b1
   try clear c3b2
   try clear c6
   try clear hcz7_0
   try clear hcz8_0
   try clear hfz7_0
   try clear hfz8_0
   obtain ⟨x5_1, rfl, HA, HK1, BK610, BK611, HB⟩ := hrel
   cases gk with
   | zero => exact absurd HA.out (by simp [rubricref7_Same.l0])
   | succ k1 =>
    have H := HA.out
    clear HA
    simp only [rubricref7_Same.l0] at H
    by_cases c9 : x5_1 < (l0_0.length : Int)
    ·rw [if_pos c9] at H
     have c9b0 : decide (x5_1 < (l0_0.length : Int)) = true := decide_eq_true c9
     clear c9
     by_cases c10 : 0 ≤ x5_1
     ·rw [if_pos c10] at H
      have c10b0 : decide (0 ≤ x5_1) = true := decide_eq_true c10
      clear c10
      by_cases c11 : x5_1 < (l1_0.length : Int)
      ·rw [if_pos c11] at H
       have c11b0 : decide (x5_1 < (l1_0.length : Int)) = true := decide_eq_true c11
       clear c11
       by_cases c12 : (!(((rd_T58 l0_0 x5_1).f0) == ((rd_T58 l1_0 x5_1).f0)) || (!(((rd_T58 l0_0 x5_1).f1) == ((rd_T58 l1_0 x5_1).f1)))) = true
       ·rw [if_pos c12] at H
        have c12b0 : (!(((rd_T58 l0_0 x5_1).f0) == ((rd_T58 l1_0 x5_1).f0)) || (!(((rd_T58 l0_0 x5_1).f1) == ((rd_T58 l1_0 x5_1).f1)))) = true := c12
        clear c12
        obtain rfl := Option.some.inj H
        have hnb13 := NB610_611.out
        have hnc13 := NB611_610.out
        have hcz14_0 : wr.cell? ⟨gb610, 0, none⟩ = some (.slice A0_0 l0_0.length c0_0) := (blk_cell BK610.out 0).trans rfl
        have hfz14_0 := blk_frozen BK610.out 0
        have p612 : 0 ≤ (x5_1 : Int) := of_decide_eq_true (by first | (with_reducible assumption) | assumption)
        have q612 : x5_1 < (l0_0.length : Int) := of_decide_eq_true (by first | (with_reducible assumption) | assumption)
        obtain ⟨ad612, e612, hx612_0, hx612_1⟩ := at_T58 HR0_0.out x5_1 p612 q612
        cases e612
        replace hx612_0 := (HB.out.cell (World.block_lt_of_cell? w _ hx612_0)).trans hx612_0
        replace hx612_1 := (HB.out.cell (World.block_lt_of_cell? w _ hx612_1)).trans hx612_1
        replace p612 := eq_true p612
        replace q612 := eq_true q612
        have hcz15_0 : wr.cell? ⟨gb611, 0, none⟩ = some (.slice A1_0 l1_0.length c1_0) := (blk_cell BK611.out 0).trans rfl
        have hfz15_0 := blk_frozen BK611.out 0
        have p613 : 0 ≤ (x5_1 : Int) := of_decide_eq_true (by first | (with_reducible assumption) | assumption)
        have q613 : x5_1 < (l1_0.length : Int) := of_decide_eq_true (by first | (with_reducible assumption) | assumption)
        obtain ⟨ad613, e613, hx613_0, hx613_1⟩ := at_T58 HR1_0.out x5_1 p613 q613
        cases e613
        replace hx613_0 := (HB.out.cell (World.block_lt_of_cell? w _ hx613_0)).trans hx613_0
        replace hx613_1 := (HB.out.cell (World.block_lt_of_cell? w _ hx613_1)).trans hx613_1
        replace p613 := eq_true p613
        replace q613 := eq_true q613
        go_wp2
        repeat (go_quiet (fail); try go_wp2)
        go_ret
        exact ⟨by first | rfl | (simp [errW_none, errW_some] <;> rfl) | (simp [*, errW_none, errW_some] <;> rfl), by repeat (first | (with_reducible first | exact HB.out | apply below_alloc | apply pw_below_drewN | apply below_drew1 | refine below_set ?_ GE610.out | refine below_set ?_ GE611.out) | exact HB.out)⟩
       ·rw [if_neg c12] at H
        have c12b0 : (!(((rd_T58 l0_0 x5_1).f0) == ((rd_T58 l1_0 x5_1).f0)) || (!(((rd_T58 l0_0 x5_1).f1) == ((rd_T58 l1_0 x5_1).f1)))) = false := by simpa using c12
        clear c12
        have H' := Aside0.mk H
        clear H
        have hnb16 := NB610_611.out
        have hnc16 := NB611_610.out
        have hcz17_0 : wr.cell? ⟨gb610, 0, none⟩ = some (.slice A0_0 l0_0.length c0_0) := (blk_cell BK610.out 0).trans rfl
        have hfz17_0 := blk_frozen BK610.out 0
        have p612 : 0 ≤ (x5_1 : Int) := of_decide_eq_true (by first | (with_reducible assumption) | assumption)
        have q612 : x5_1 < (l0_0.length : Int) := of_decide_eq_true (by first | (with_reducible assumption) | assumption)
        obtain ⟨ad612, e612, hx612_0, hx612_1⟩ := at_T58 HR0_0.out x5_1 p612 q612
        cases e612
        replace hx612_0 := (HB.out.cell (World.block_lt_of_cell? w _ hx612_0)).trans hx612_0
        replace hx612_1 := (HB.out.cell (World.block_lt_of_cell? w _ hx612_1)).trans hx612_1
        replace p612 := eq_true p612
        replace q612 := eq_true q612
        have hcz18_0 : wr.cell? ⟨gb611, 0, none⟩ = some (.slice A1_0 l1_0.length c1_0) := (blk_cell BK611.out 0).trans rfl
        have hfz18_0 := blk_frozen BK611.out 0
        have p613 : 0 ≤ (x5_1 : Int) := of_decide_eq_true (by first | (with_reducible assumption) | assumption)
        have q613 : x5_1 < (l1_0.length : Int) := of_decide_eq_true (by first | (with_reducible assumption) | assumption)
        obtain ⟨ad613, e613, hx613_0, hx613_1⟩ := at_T58 HR1_0.out x5_1 p613 q613
        cases e613
        replace hx613_0 := (HB.out.cell (World.block_lt_of_cell? w _ hx613_0)).trans hx613_0
        replace hx613_1 := (HB.out.cell (World.block_lt_of_cell? w _ hx613_1)).trans hx613_1
        replace p613 := eq_true p613
        replace q613 := eq_true q613
        go_wp2
        repeat (go_quiet (fail); try go_wp2)
        go_roundg k1
        case measure => have := HK1.out; omega
        case rel => exact ⟨(wrap64 (x5_1 + 1)), (by first | rfl | (simp; done) | (simp [*]; done)), H', ⟨by have := HK1.out; omega⟩, ⟨S.b BK610.out⟩, ⟨S.b BK611.out⟩, ⟨by repeat (first | (with_reducible first | exact HB.out | apply below_alloc | apply pw_below_drewN | apply below_drew1 | refine below_set ?_ GE610.out | refine below_set ?_ GE611.out) | exact HB.out)⟩⟩
      ·rw [if_neg c11] at H
       exact absurd H (by simp)
     ·rw [if_neg c10] at H
      exact absurd H (by simp)
    ·rw [if_neg c9] at H
     have c9b0 : decide (x5_1 < (l0_0.length : Int)) = false := decide_eq_false c9
     clear c9
     obtain rfl := Option.some.inj H
     have hnb19 := NB610_611.out
     have hnc19 := NB611_610.out
     have hcz20_0 : wr.cell? ⟨gb610, 0, none⟩ = some (.slice A0_0 l0_0.length c0_0) := (blk_cell BK610.out 0).trans rfl
     have hfz20_0 := blk_frozen BK610.out 0
     go_wp2
     repeat (go_quiet (fail); try go_wp2)
     go_ret
     exact ⟨by first | rfl | (simp [errW_none, errW_some] <;> rfl) | (simp [*, errW_none, errW_some] <;> rfl), by repeat (first | (with_reducible first | exact HB.out | apply below_alloc | apply pw_below_drewN | apply below_drew1 | refine below_set ?_ GE610.out | refine below_set ?_ GE611.out) | exact HB.out)⟩
 ·rw [if_neg c3] at H
  have c3b0 : ((l0_0.length : Int) == (l1_0.length : Int)) = false := beq_eq_false_iff_ne.mpr c3
  have c3b1 : ((l0_0.length : Int) != (l1_0.length : Int)) = true := bne_iff_ne.mpr c3
  have c3b2 : (l0_0.length == l1_0.length) = false := by first | simpa using c3 | (simp at c3 ⊢; omega)
  obtain rfl := Option.some.inj H
  go_enter Try.func18, Try.ntmps18
  go_wp2_with (first | ((with_reducible refine gate_dst (N := 2) rfl ?_); refine box_event ?hg (N := 2) ?hd (cs := #[.slice A0_0 l0_0.length c0_0]) (t := 38) ?hr ?_; (case hd => rfl); (case hg => rfl); (case hr => first | (go_simp; done) | (go_simp; rfl)); intro gb610 hg w21 hbox hb; have n0_ := Aside0.mk (below_step (by repeat (first | (with_reducible first | exact HB.out | apply below_alloc | apply pw_below_drewN | apply below_drew1) | exact HB.out)) hb); have n1_ := Aside0.mk (hbox); have n2_ := Aside0.mk ((by rw [hg]; exact (below_size (by repeat (first | (with_reducible first | exact HB.out | apply below_alloc | apply pw_below_drewN | apply below_drew1) | exact HB.out))) : w.heap.size ≤ gb610)); have n3_ := Aside0.mk ((by rw [hg]; exact (below_size (by repeat (first | (with_reducible first | exact HB.out | apply below_alloc | apply pw_below_drewN | apply below_drew1) | exact HB.out))) : w.heap.size ≤ gb610)); clear HB; have HB := n0_; have BK610 := n1_; have GW610 := n2_; have GE610 := n3_; clear n0_ n1_ n2_ n3_; clear hb hbox hg) | ((with_reducible refine gate_dst (N := 3) rfl ?_); refine box_event ?hg (N := 3) ?hd (cs := #[.slice A1_0 l1_0.length c1_0]) (t := 38) ?hr ?_; (case hd => rfl); (case hg => rfl); (case hr => first | (go_simp; done) | (go_simp; rfl)); intro gb611 hg w22 hbox hb; have n0_ := Aside0.mk (blk_below (g := gb610) (o := .cells #[.slice A0_0 l0_0.length c0_0] 38 (0, 0)) (S.b BK610.out) hb); have n1_ := Aside0.mk (below_step (by repeat (first | (with_reducible first | exact HB.out | apply below_alloc | apply pw_below_drewN | apply below_drew1 | refine below_set ?_ GE610.out) | exact HB.out)) hb); have n2_ := Aside0.mk (hbox); have n3_ := Aside0.mk ((by rw [hg]; exact (below_size (by repeat (first | (with_reducible first | exact HB.out | apply below_alloc | apply pw_below_drewN | apply below_drew1 | refine below_set ?_ GE610.out) | exact HB.out))) : w.heap.size ≤ gb611)); have n4_ := Aside0.mk ((by rw [hg]; exact (below_size (by repeat (first | (with_reducible first | exact HB.out | apply below_alloc | apply pw_below_drewN | apply below_drew1 | refine below_set ?_ GE610.out) | exact HB.out))) : w.heap.size ≤ gb611)); have n5_ := Aside0.mk ((by rw [hg]; exact Nat.ne_of_lt (blk_lt (g := gb610) (o := .cells #[.slice A0_0 l0_0.length c0_0] 38 (0, 0)) (S.b BK610.out)) : gb610 ≠ gb611)); have n6_ := Aside0.mk ((by rw [hg]; exact Nat.ne_of_gt (blk_lt (g := gb610) (o := .cells #[.slice A0_0 l0_0.length c0_0] 38 (0, 0)) (S.b BK610.out)) : gb611 ≠ gb610)); clear BK610; clear HB; have BK610 := n0_; have HB := n1_; have BK611 := n2_; have GW611 := n3_; have GE611 := n4_; have NB610_611 := n5_; have NB611_610 := n6_; clear n0_ n1_ n2_ n3_ n4_ n5_ n6_; clear hb hbox hg; have hnb23 := NB610_611.out; have hnc23 := NB611_610.out; have hcz24_0 : w22.cell? ⟨gb610, 0, none⟩ = some (.slice A0_0 l0_0.length c0_0) := (blk_cell BK610.out 0).trans rfl; have hfz24_0 := blk_frozen BK610.out 0; have hcz25_0 : w22.cell? ⟨gb611, 0, none⟩ = some (.slice A1_0 l1_0.length c1_0) := (blk_cell BK611.out 0).trans rfl; have hfz25_0 := blk_frozen BK611.out 0))
  repeat (go_quiet (first | ((with_reducible refine gate_dst (N := 2) rfl ?_); refine box_event ?hg (N := 2) ?hd (cs := #[.slice A0_0 l0_0.length c0_0]) (t := 38) ?hr ?_; (case hd => rfl); (case hg => rfl); (case hr => first | (go_simp; done) | (go_simp; rfl)); intro gb610 hg w21 hbox hb; have n0_ := Aside0.mk (below_step (by repeat (first | (with_reducible first | exact HB.out | apply below_alloc | apply pw_below_drewN | apply below_drew1) | exact HB.out)) hb); have n1_ := Aside0.mk (hbox); have n2_ := Aside0.mk ((by rw [hg]; exact (below_size (by repeat (first | (with_reducible first | exact HB.out | apply below_alloc | apply pw_below_drewN | apply below_drew1) | exact HB.out))) : w.heap.size ≤ gb610)); have n3_ := Aside0.mk ((by rw [hg]; exact (below_size (by repeat (first | (with_reducible first | exact HB.out | apply below_alloc | apply pw_below_drewN | apply below_drew1) | exact HB.out))) : w.heap.size ≤ gb610)); clear HB; have HB := n0_; have BK610 := n1_; have GW610 := n2_; have GE610 := n3_; clear n0_ n1_ n2_ n3_; clear hb hbox hg) | ((with_reducible refine gate_dst (N := 3) rfl ?_); refine box_event ?hg (N := 3) ?hd (cs := #[.slice A1_0 l1_0.length c1_0]) (t := 38) ?hr ?_; (case hd => rfl); (case hg => rfl); (case hr => first | (go_simp; done) | (go_simp; rfl)); intro gb611 hg w22 hbox hb; have n0_ := Aside0.mk (blk_below (g := gb610) (o := .cells #[.slice A0_0 l0_0.length c0_0] 38 (0, 0)) (S.b BK610.out) hb); have n1_ := Aside0.mk (below_step (by repeat (first | (with_reducible first | exact HB.out | apply below_alloc | apply pw_below_drewN | apply below_drew1 | refine below_set ?_ GE610.out) | exact HB.out)) hb); have n2_ := Aside0.mk (hbox); have n3_ := Aside0.mk ((by rw [hg]; exact (below_size (by repeat (first | (with_reducible first | exact HB.out | apply below_alloc | apply pw_below_drewN | apply below_drew1 | refine below_set ?_ GE610.out) | exact HB.out))) : w.heap.size ≤ gb611)); have n4_ := Aside0.mk ((by rw [hg]; exact (below_size (by repeat (first | (with_reducible first | exact HB.out | apply below_alloc | apply pw_below_drewN | apply below_drew1 | refine below_set ?_ GE610.out) | exact HB.out))) : w.heap.size ≤ gb611)); have n5_ := Aside0.mk ((by rw [hg]; exact Nat.ne_of_lt (blk_lt (g := gb610) (o := .cells #[.slice A0_0 l0_0.length c0_0] 38 (0, 0)) (S.b BK610.out)) : gb610 ≠ gb611)); have n6_ := Aside0.mk ((by rw [hg]; exact Nat.ne_of_gt (blk_lt (g := gb610) (o := .cells #[.slice A0_0 l0_0.length c0_0] 38 (0, 0)) (S.b BK610.out)) : gb611 ≠ gb610)); clear BK610; clear HB; have BK610 := n0_; have HB := n1_; have BK611 := n2_; have GW611 := n3_; have GE611 := n4_; have NB610_611 := n5_; have NB611_610 := n6_; clear n0_ n1_ n2_ n3_ n4_ n5_ n6_; clear hb hbox hg; have hnb23 := NB610_611.out; have hnc23 := NB611_610.out; have hcz24_0 : w22.cell? ⟨gb610, 0, none⟩ = some (.slice A0_0 l0_0.length c0_0) := (blk_cell BK610.out 0).trans rfl; have hfz24_0 := blk_frozen BK610.out 0; have hcz25_0 : w22.cell? ⟨gb611, 0, none⟩ = some (.slice A1_0 l1_0.length c1_0) := (blk_cell BK611.out 0).trans rfl; have hfz25_0 := blk_frozen BK611.out 0)); try go_wp2_with (first | ((with_reducible refine gate_dst (N := 2) rfl ?_); refine box_event ?hg (N := 2) ?hd (cs := #[.slice A0_0 l0_0.length c0_0]) (t := 38) ?hr ?_; (case hd => rfl); (case hg => rfl); (case hr => first | (go_simp; done) | (go_simp; rfl)); intro gb610 hg w21 hbox hb; have n0_ := Aside0.mk (below_step (by repeat (first | (with_reducible first | exact HB.out | apply below_alloc | apply pw_below_drewN | apply below_drew1) | exact HB.out)) hb); have n1_ := Aside0.mk (hbox); have n2_ := Aside0.mk ((by rw [hg]; exact (below_size (by repeat (first | (with_reducible first | exact HB.out | apply below_alloc | apply pw_below_drewN | apply below_drew1) | exact HB.out))) : w.heap.size ≤ gb610)); have n3_ := Aside0.mk ((by rw [hg]; exact (below_size (by repeat (first | (with_reducible first | exact HB.out | apply below_alloc | apply pw_below_drewN | apply below_drew1) | exact HB.out))) : w.heap.size ≤ gb610)); clear HB; have HB := n0_; have BK610 := n1_; have GW610 := n2_; have GE610 := n3_; clear n0_ n1_ n2_ n3_; clear hb hbox hg) | ((with_reducible refine gate_dst (N := 3) rfl ?_); refine box_event ?hg (N := 3) ?hd (cs := #[.slice A1_0 l1_0.length c1_0]) (t := 38) ?hr ?_; (case hd => rfl); (case hg => rfl); (case hr => first | (go_simp; done) | (go_simp; rfl)); intro gb611 hg w22 hbox hb; have n0_ := Aside0.mk (blk_below (g := gb610) (o := .cells #[.slice A0_0 l0_0.length c0_0] 38 (0, 0)) (S.b BK610.out) hb); have n1_ := Aside0.mk (below_step (by repeat (first | (with_reducible first | exact HB.out | apply below_alloc | apply pw_below_drewN | apply below_drew1 | refine below_set ?_ GE610.out) | exact HB.out)) hb); have n2_ := Aside0.mk (hbox); have n3_ := Aside0.mk ((by rw [hg]; exact (below_size (by repeat (first | (with_reducible first | exact HB.out | apply below_alloc | apply pw_below_drewN | apply below_drew1 | refine below_set ?_ GE610.out) | exact HB.out))) : w.heap.size ≤ gb611)); have n4_ := Aside0.mk ((by rw [hg]; exact (below_size (by repeat (first | (with_reducible first | exact HB.out | apply below_alloc | apply pw_below_drewN | apply below_drew1 | refine below_set ?_ GE610.out) | exact HB.out))) : w.heap.size ≤ gb611)); have n5_ := Aside0.mk ((by rw [hg]; exact Nat.ne_of_lt (blk_lt (g := gb610) (o := .cells #[.slice A0_0 l0_0.length c0_0] 38 (0, 0)) (S.b BK610.out)) : gb610 ≠ gb611)); have n6_ := Aside0.mk ((by rw [hg]; exact Nat.ne_of_gt (blk_lt (g := gb610) (o := .cells #[.slice A0_0 l0_0.length c0_0] 38 (0, 0)) (S.b BK610.out)) : gb611 ≠ gb610)); clear BK610; clear HB; have BK610 := n0_; have HB := n1_; have BK611 := n2_; have GW611 := n3_; have GE611 := n4_; have NB610_611 := n5_; have NB611_610 := n6_; clear n0_ n1_ n2_ n3_ n4_ n5_ n6_; clear hb hbox hg; have hnb23 := NB610_611.out; have hnc23 := NB611_610.out; have hcz24_0 : w22.cell? ⟨gb610, 0, none⟩ = some (.slice A0_0 l0_0.length c0_0) := (blk_cell BK610.out 0).trans rfl; have hfz24_0 := blk_frozen BK610.out 0; have hcz25_0 : w22.cell? ⟨gb611, 0, none⟩ = some (.slice A1_0 l1_0.length c1_0) := (blk_cell BK611.out 0).trans rfl; have hfz25_0 := blk_frozen BK611.out 0)))
  go_ret
  exact ⟨by first | rfl | (simp [errW_none, errW_some] <;> rfl) | (simp [*, errW_none, errW_some] <;> rfl), by repeat (first | (with_reducible first | exact HB.out | apply below_alloc | apply pw_below_drewN | apply below_drew1 | refine below_set ?_ GE610.out | refine below_set ?_ GE611.out) | exact HB.out)⟩

end Go.Proofs.Ytjhmpippcndloaa.Pr
