-- printed by wip/gprint.py (ours) out of the translation, by the kit's print program with given contracts
import Derived.Test.YtjhmpippcndloaaPrx0
import Derived.Test.YtjhmpippcndloaaPrx12
namespace Go.Proofs.Ytjhmpippcndloaa.Pr
open Go.RowKit Go.Proofs.YtjhmpippcndloaaW.PrintWords Go.Proofs.YtjhmpippcndloaaW.PrintLast Go.Proofs.YtjhmpippcndloaaW.PrintMore
attribute [local go_sem] max2_int min2_int max_two min_two max_three min_three max_four min_four   -- for this text's walks alone
set_option linter.unusedVariables false
set_option linter.unusedSimpArgs false

/-! ### rubricref7_Category: function 17 -/
def rubricref7_Category.j0 : Nat → ByteArray → Bool → Option ((List (S58)) × Bool)
 | 0, _, _ => none
 | k + 1, x4, x21 => if x21 = true then ((rubricref7_Of.f k (([(⟨48, 57⟩ : S58)] : List (S58)))).bind fun t489 => (some (t489, true))) else (if x4.toList = ([80] : List UInt8) then ((rubricref7_letters.f k (⟨#[33, 34, 35, 37, 38, 39, 40, 41, 42, 44, 45, 46, 47, 58, 59, 63, 64, 91, 92, 93, 95, 123, 125]⟩ : ByteArray)).bind fun t492 => ((rubricref7_Of.f k t492).bind fun t495 => (some (t495, true)))) else (if x4.toList = ([83] : List UInt8) then ((rubricref7_letters.f k (⟨#[36, 43, 60, 61, 62, 94, 124, 126]⟩ : ByteArray)).bind fun t498 => (if t498.length < 8796093022208 then ((rubricref7_Of.f k (t498 ++ [(⟨96, 96⟩ : S58)])).bind fun t504 => (some (t504, true))) else (none))) else (if x4.toList = ([90] : List UInt8) then ((rubricref7_Of.f k (([(⟨32, 32⟩ : S58), (⟨160, 160⟩ : S58)] : List (S58)))).bind fun t510 => (some (t510, true))) else (if x4.toList = ([67] : List UInt8) then ((rubricref7_Of.f k (([(⟨0, 31⟩ : S58), (⟨127, 159⟩ : S58)] : List (S58)))).bind fun t516 => (some (t516, true))) else (some (([] : List (S58)), false))))))
def rubricref7_Category.f (k : Nat) (a0 : ByteArray) : Option ((List (S58)) × Bool) := if a0.toList = ([76, 117] : List UInt8) then ((rubricref7_Of.f k (([(⟨65, 90⟩ : S58)] : List (S58)))).bind fun t471 => (some (t471, true))) else (if a0.toList = ([76, 108] : List UInt8) then ((rubricref7_Of.f k (([(⟨97, 122⟩ : S58)] : List (S58)))).bind fun t477 => (some (t477, true))) else (if a0.toList = ([76] : List UInt8) then ((rubricref7_Of.f k (([(⟨65, 90⟩ : S58), (⟨97, 122⟩ : S58)] : List (S58)))).bind fun t483 => (some (t483, true))) else (if a0.toList = ([78, 100] : List UInt8) then (rubricref7_Category.j0 k a0 (a0.toList == ([78, 100] : List UInt8))) else (rubricref7_Category.j0 k a0 (a0.toList == ([78] : List UInt8))))))
theorem rubricref7_Category.mono_l : ∀ k, (∀ y0 y1, LeO (rubricref7_Category.j0 k y0 y1) (rubricref7_Category.j0 (k + 1) y0 y1))
 | 0 => fun _ _ r h => by simp [rubricref7_Category.j0] at h
 | k + 1 => by
  have ih0 := rubricref7_Category.mono_l k
  ·intro y0 y1
   unfold rubricref7_Category.j0
   repeat' first
   | (with_reducible exact ih0 _ _)
   | (with_reducible exact rubricref7_Of.mono _ _)
   | (with_reducible exact rubricref7_letters.mono _ _)
   | (with_reducible exact LeO.refl _)
   | (with_reducible exact LeO.none _)
   | (with_reducible refine LeO.ite ?_ ?_)
   | (with_reducible refine LeO.bind ?_ (fun _ => ?_))
   | exact ih0 _ _
   | exact rubricref7_Of.mono _ _
   | exact rubricref7_letters.mono _ _
   | exact LeO.none _
   | refine LeO.ite ?_ ?_
   | refine LeO.bind ?_ (fun _ => ?_)
theorem rubricref7_Category.mono : ∀ a0 k, LeO (rubricref7_Category.f k a0) (rubricref7_Category.f (k + 1) a0) := by
 intro a0 k
 have ih0 := rubricref7_Category.mono_l k
 unfold rubricref7_Category.f
 repeat' first
   | (with_reducible exact ih0 _ _)
   | (with_reducible exact rubricref7_Of.mono _ _)
   | (with_reducible exact rubricref7_letters.mono _ _)
   | (with_reducible exact LeO.refl _)
   | (with_reducible exact LeO.none _)
   | (with_reducible refine LeO.ite ?_ ?_)
   | (with_reducible refine LeO.bind ?_ (fun _ => ?_))
   | exact ih0 _ _
   | exact rubricref7_Of.mono _ _
   | exact rubricref7_letters.mono _ _
   | exact LeO.none _
   | refine LeO.ite ?_ ?_
   | refine LeO.bind ?_ (fun _ => ?_)
set_option maxHeartbeats 8000000 in
set_option maxRecDepth 100000 in
theorem rubricref7_Category.calls (k : Nat) (a0 : ByteArray) (r1 : List (S58)) (r2 : Bool) (w : World) (h : rubricref7_Category.f k a0 = some (r1, r2)) :
  Calls Try.prog 17 #[.string a0] w fun e w' => ∃ v0_ : Value, e = .returned (.tuple #[.agg #[v0_], .bool r2]) ∧ Kd.R k58 58 w' w.heap.size (fun _ => True) v0_ r1 ∧ Below w.heap.size w w' := by
 have hu38 := Try.underlying38
 have hu58 := Try.underlying58
 have HB := Aside0.mk (Below.refl w.heap.size w)
 have H : (if a0.toList = ([76, 117] : List UInt8) then ((rubricref7_Of.f k (([(⟨65, 90⟩ : S58)] : List (S58)))).bind fun t471 => (some (t471, true))) else (if a0.toList = ([76, 108] : List UInt8) then ((rubricref7_Of.f k (([(⟨97, 122⟩ : S58)] : List (S58)))).bind fun t477 => (some (t477, true))) else (if a0.toList = ([76] : List UInt8) then ((rubricref7_Of.f k (([(⟨65, 90⟩ : S58), (⟨97, 122⟩ : S58)] : List (S58)))).bind fun t483 => (some (t483, true))) else (if a0.toList = ([78, 100] : List UInt8) then (rubricref7_Category.j0 k a0 (a0.toList == ([78, 100] : List UInt8))) else (rubricref7_Category.j0 k a0 (a0.toList == ([78] : List UInt8))))))) = some (r1, r2) := h
 clear h
 by_cases c2 : a0.toList = ([76, 117] : List UInt8)
 ·rw [if_pos c2] at H
  have c2b0 : (a0.toList == ([76, 117] : List UInt8)) = true := beq_iff_eq.mpr c2
  have c2b1 : (a0.toList != ([76, 117] : List UInt8)) = false := bne_eq_false_iff_eq.mpr c2
  clear c2
  obtain ⟨y468, hy468⟩ : ∃ y_ : List (S58), y_ = (([(⟨65, 90⟩ : S58)] : List (S58))) := ⟨_, rfl⟩
  replace H : ((rubricref7_Of.f k y468).bind fun t471 => (some (t471, true))) = some (r1, r2) := by first | (rw [hy468]; with_reducible exact H) | (have H2_ := (Option.bind_some _ _).symm.trans H; rw [hy468]; with_reducible exact H2_) | (have H2_ := (Option.bind_some _ _).symm.trans H; with_reducible exact H2_) | with_reducible exact H | (rw [hy468]; exact H) | exact H
  have Ny468 := Aside0.mk hy468
  clear hy468
  replace H := Option.bind_eq_some_iff.mp H
  obtain ⟨t471, A30, H⟩ := H
  replace H : (some (t471, true)) = some (r1, r2) := H
  have A3 := Aside0.mk A30
  clear A30
  simp only [Option.some.injEq, Prod.mk.injEq] at H
  obtain ⟨rfl, rfl⟩ := H
  go_enter Try.func17, Try.ntmps17
  go_wp2_with (first | ((with_reducible refine gate_dst (N := 2) rfl ?_); refine box_event ?hg (N := 2) ?hd (cs := #[.slice none 0 0]) (t := 38) ?hr ?_; (case hd => rfl); (case hg => rfl); (case hr => first | (go_simp; done) | (go_simp; rfl)); intro gb467 hg w4 hbox hb; have n0_ := Aside0.mk (below_step (by repeat (first | (with_reducible first | exact HB.out | apply below_alloc | apply pw_below_drewN | apply below_drew1) | exact HB.out)) hb); have n1_ := Aside0.mk (hbox); have n2_ := Aside0.mk ((by rw [hg]; exact (below_size (by repeat (first | (with_reducible first | exact HB.out | apply below_alloc | apply pw_below_drewN | apply below_drew1) | exact HB.out))) : w.heap.size ≤ gb467)); have n3_ := Aside0.mk ((by rw [hg]; exact (below_size (by repeat (first | (with_reducible first | exact HB.out | apply below_alloc | apply pw_below_drewN | apply below_drew1) | exact HB.out))) : w.heap.size ≤ gb467)); clear HB; have HB := n0_; have BK467 := n1_; have GW467 := n2_; have GE467 := n3_; clear n0_ n1_ n2_ n3_; clear hb hbox hg) | ((with_reducible refine gate_dst (N := 8) rfl ?_); refine Kd.R_lit k58 _ 58 ?hg (N := 8) ?hd (xs := ([(⟨65, 90⟩ : S58)] : List (S58))) (inner := [.int .i64 65, .int .i64 90]) (ok := fun _ => True) (okp := fun _ => True) ?hr ?hp (fun _ hk => hk) trivial (Below.refl _ _) (Nat.le_refl _) (by simp) ?_; (case hd => rfl); (case hg => rfl); (case hr => first | (go_simp; done) | (go_simp; rfl)); (case hp => exact (Reps.c2 (show Kd.M k58 _ _ _ (⟨65, 90⟩ : S58) [.int .i64 65, .int .i64 90] from (k58_mkM _ _ _ (⟨65, 90⟩ : S58) )) (Reps.none _ _))); intro v469 w5 ho6 hb hg_ hnew_; clear hg_ hnew_; (first | rw [← Ny468.out] at ho6 | (simp only [Int.reduceToNat] at ho6; rw [← Ny468.out] at ho6)); have n0_ := Aside0.mk (Kd.R_lower ho6 (below_size (by repeat (first | (with_reducible first | exact HB.out | apply below_alloc | apply pw_below_drewN | apply below_drew1 | refine below_set ?_ GE467.out) | exact HB.out)))); have n1_ := Aside0.mk (blk_below (g := gb467) (o := .cells #[.slice none 0 0] 38 (0, 0)) (S.b BK467.out) hb); have n2_ := Aside0.mk (below_step (by repeat (first | (with_reducible first | exact HB.out | apply below_alloc | apply pw_below_drewN | apply below_drew1 | refine below_set ?_ GE467.out) | exact HB.out)) hb); clear BK467; clear HB; have HO470 := n0_; have BK467 := n1_; have HB := n2_; clear n0_ n1_ n2_; clear hb ho6; obtain ⟨Ao7, co7, eo7⟩ := Kd.R_slice HO470.out; subst eo7) | ((with_reducible refine gate_callee (f := 38) rfl ?_); refine goesL_ (some 9) rfl rfl Try.func38 (by kernel_rfl) rfl #[.slice Ao7 y468.length co7] rfl (by (try simp only [List.map_toArray, List.map_cons, List.map_nil]); first | done | rfl | (simp only [List.length_drop, List.length_take]; rfl)) ?_; (with_reducible refine (rubricref7_Of.calls k _ _ y468 t471 _ ?side1 ?side2 A3.out).mono ?_); (case side1 => repeat (first | exact (Kd.R_reads' HO470.out).2.2 | (with_reducible refine Kd.C_alloc ?_ _) | (with_reducible refine Kd.C_drewN ?_ _) | (with_reducible refine Kd.C_drew ?_))); (case side2 => exact (Kd.R_reads' HO470.out).2.1); rintro e w8 ⟨v472, rfl, ho0, hb⟩; refine ⟨_, rfl, ?_⟩; have n0_ := Aside0.mk (Kd.R_elder' (S.r HO470.out) (Kd.R_base ho0) hb); have n1_ := Aside0.mk (Kd.R_lower (Kd.R_new' ho0 (Kd.R_lt (S.r HO470.out))) (below_size (by repeat (first | (with_reducible first | exact HB.out | apply below_alloc | apply pw_below_drewN | apply below_drew1 | refine below_set ?_ GE467.out) | exact HB.out)))); have n2_ := Aside0.mk (blk_below (g := gb467) (o := .cells #[.slice none 0 0] 38 (0, 0)) (S.b BK467.out) hb); have n3_ := Aside0.mk (below_step (by repeat (first | (with_reducible first | exact HB.out | apply below_alloc | apply pw_below_drewN | apply below_drew1 | refine below_set ?_ GE467.out) | exact HB.out)) hb); clear HO470; clear BK467; clear HB; have HO470 := n0_; have HO473 := n1_; have BK467 := n2_; have HB := n3_; clear n0_ n1_ n2_ n3_; (try clear hb); (try clear hb2); (try clear hk); (try clear hi); (try clear ho0); obtain ⟨Ao9, co9, eo9⟩ := Kd.R_slice HO473.out; subst eo9; have hcz10_0 : w8.cell? ⟨gb467, 0, none⟩ = some (.slice none 0 0) := (blk_cell BK467.out 0).trans rfl; have hfz10_0 := blk_frozen BK467.out 0))
  refine bodyPost_ret (results_ct rfl _ _ gb467 38 #[.slice Ao9 t471.length co9] (0, 0) _ rfl (by (with_reducible repeat (first | refine blk_drewN ?_ _ | refine blk_drew ?_ | refine blk_alloc ?_ _)); refine blk_put (cs := #[.slice none 0 0]) ?_ 0 _ rfl; (with_reducible repeat (first | refine blk_drewN ?_ _ | refine blk_drew ?_ | refine blk_alloc ?_ _)); exact BK467.out) Try.underlying38 rfl (by kernel_rfl)) rfl ?_
  exact ⟨_, by first | rfl | (simp [errW_none, errW_some] <;> rfl) | (simp [*, errW_none, errW_some] <;> rfl), by (with_reducible repeat (first | apply Kd.R_alloc | apply Kd.R_drewN | apply Kd.R_drew)); exact Kd.R_mono (Kd.R_far (p := ⟨gb467, 0, none⟩) (Kd.R_types HO473.out BK467.out (by decide)) (fun _ hk => hk.2) (.slice Ao9 t471.length co9)) (fun _ hk => trivial), by repeat (first | (with_reducible first | exact HB.out | apply below_alloc | apply pw_below_drewN | apply below_drew1 | refine below_set ?_ GE467.out) | exact HB.out)⟩
 ·rw [if_neg c2] at H
  have c2b0 : (a0.toList == ([76, 117] : List UInt8)) = false := beq_eq_false_iff_ne.mpr c2
  have c2b1 : (a0.toList != ([76, 117] : List UInt8)) = true := bne_iff_ne.mpr c2
  by_cases c11 : a0.toList = ([76, 108] : List UInt8)
  ·rw [if_pos c11] at H
   have c11b0 : (a0.toList == ([76, 108] : List UInt8)) = true := beq_iff_eq.mpr c11
   have c11b1 : (a0.toList != ([76, 108] : List UInt8)) = false := bne_eq_false_iff_eq.mpr c11
   clear c11
   obtain ⟨y474, hy474⟩ : ∃ y_ : List (S58), y_ = (([(⟨97, 122⟩ : S58)] : List (S58))) := ⟨_, rfl⟩
   replace H : ((rubricref7_Of.f k y474).bind fun t477 => (some (t477, true))) = some (r1, r2) := by first | (rw [hy474]; with_reducible exact H) | (have H2_ := (Option.bind_some _ _).symm.trans H; rw [hy474]; with_reducible exact H2_) | (have H2_ := (Option.bind_some _ _).symm.trans H; with_reducible exact H2_) | with_reducible exact H | (rw [hy474]; exact H) | exact H
   have Ny474 := Aside0.mk hy474
   clear hy474
   replace H := Option.bind_eq_some_iff.mp H
   obtain ⟨t477, A120, H⟩ := H
   replace H : (some (t477, true)) = some (r1, r2) := H
   have A12 := Aside0.mk A120
   clear A120
   simp only [Option.some.injEq, Prod.mk.injEq] at H
   obtain ⟨rfl, rfl⟩ := H
   go_enter Try.func17, Try.ntmps17
   go_wp2_with (first | ((with_reducible refine gate_dst (N := 2) rfl ?_); refine box_event ?hg (N := 2) ?hd (cs := #[.slice none 0 0]) (t := 38) ?hr ?_; (case hd => rfl); (case hg => rfl); (case hr => first | (go_simp; done) | (go_simp; rfl)); intro gb467 hg w13 hbox hb; have n0_ := Aside0.mk (below_step (by repeat (first | (with_reducible first | exact HB.out | apply below_alloc | apply pw_below_drewN | apply below_drew1) | exact HB.out)) hb); have n1_ := Aside0.mk (hbox); have n2_ := Aside0.mk ((by rw [hg]; exact (below_size (by repeat (first | (with_reducible first | exact HB.out | apply below_alloc | apply pw_below_drewN | apply below_drew1) | exact HB.out))) : w.heap.size ≤ gb467)); have n3_ := Aside0.mk ((by rw [hg]; exact (below_size (by repeat (first | (with_reducible first | exact HB.out | apply below_alloc | apply pw_below_drewN | apply below_drew1) | exact HB.out))) : w.heap.size ≤ gb467)); clear HB; have HB := n0_; have BK467 := n1_; have GW467 := n2_; have GE467 := n3_; clear n0_ n1_ n2_ n3_; clear hb hbox hg) | ((with_reducible refine gate_dst (N := 13) rfl ?_); refine Kd.R_lit k58 _ 58 ?hg (N := 13) ?hd (xs := ([(⟨97, 122⟩ : S58)] : List (S58))) (inner := [.int .i64 97, .int .i64 122]) (ok := fun _ => True) (okp := fun _ => True) ?hr ?hp (fun _ hk => hk) trivial (Below.refl _ _) (Nat.le_refl _) (by simp) ?_; (case hd => rfl); (case hg => rfl); (case hr => first | (go_simp; done) | (go_simp; rfl)); (case hp => exact (Reps.c2 (show Kd.M k58 _ _ _ (⟨97, 122⟩ : S58) [.int .i64 97, .int .i64 122] from (k58_mkM _ _ _ (⟨97, 122⟩ : S58) )) (Reps.none _ _))); intro v475 w14 ho15 hb hg_ hnew_; clear hg_ hnew_; (first | rw [← Ny474.out] at ho15 | (simp only [Int.reduceToNat] at ho15; rw [← Ny474.out] at ho15)); have n0_ := Aside0.mk (Kd.R_lower ho15 (below_size (by repeat (first | (with_reducible first | exact HB.out | apply below_alloc | apply pw_below_drewN | apply below_drew1 | refine below_set ?_ GE467.out) | exact HB.out)))); have n1_ := Aside0.mk (blk_below (g := gb467) (o := .cells #[.slice none 0 0] 38 (0, 0)) (S.b BK467.out) hb); have n2_ := Aside0.mk (below_step (by repeat (first | (with_reducible first | exact HB.out | apply below_alloc | apply pw_below_drewN | apply below_drew1 | refine below_set ?_ GE467.out) | exact HB.out)) hb); clear BK467; clear HB; have HO476 := n0_; have BK467 := n1_; have HB := n2_; clear n0_ n1_ n2_; clear hb ho15; obtain ⟨Ao16, co16, eo16⟩ := Kd.R_slice HO476.out; subst eo16) | ((with_reducible refine gate_callee (f := 38) rfl ?_); refine goesL_ (some 14) rfl rfl Try.func38 (by kernel_rfl) rfl #[.slice Ao16 y474.length co16] rfl (by (try simp only [List.map_toArray, List.map_cons, List.map_nil]); first | done | rfl | (simp only [List.length_drop, List.length_take]; rfl)) ?_; (with_reducible refine (rubricref7_Of.calls k _ _ y474 t477 _ ?side1 ?side2 A12.out).mono ?_); (case side1 => repeat (first | exact (Kd.R_reads' HO476.out).2.2 | (with_reducible refine Kd.C_alloc ?_ _) | (with_reducible refine Kd.C_drewN ?_ _) | (with_reducible refine Kd.C_drew ?_))); (case side2 => exact (Kd.R_reads' HO476.out).2.1); rintro e w17 ⟨v478, rfl, ho0, hb⟩; refine ⟨_, rfl, ?_⟩; have n0_ := Aside0.mk (Kd.R_elder' (S.r HO476.out) (Kd.R_base ho0) hb); have n1_ := Aside0.mk (Kd.R_lower (Kd.R_new' ho0 (Kd.R_lt (S.r HO476.out))) (below_size (by repeat (first | (with_reducible first | exact HB.out | apply below_alloc | apply pw_below_drewN | apply below_drew1 | refine below_set ?_ GE467.out) | exact HB.out)))); have n2_ := Aside0.mk (blk_below (g := gb467) (o := .cells #[.slice none 0 0] 38 (0, 0)) (S.b BK467.out) hb); have n3_ := Aside0.mk (below_step (by repeat (first | (with_reducible first | exact HB.out | apply below_alloc | apply pw_below_drewN | apply below_drew1 | refine below_set ?_ GE467.out) | exact HB.out)) hb); clear HO476; clear BK467; clear HB; have HO476 := n0_; have HO479 := n1_; have BK467 := n2_; have HB := n3_; clear n0_ n1_ n2_ n3_; (try clear hb); (try clear hb2); (try clear hk); (try clear hi); (try clear ho0); obtain ⟨Ao18, co18, eo18⟩ := Kd.R_slice HO479.out; subst eo18; have hcz19_0 : w17.cell? ⟨gb467, 0, none⟩ = some (.slice none 0 0) := (blk_cell BK467.out 0).trans rfl; have hfz19_0 := blk_frozen BK467.out 0))
   refine bodyPost_ret (results_ct rfl _ _ gb467 38 #[.slice Ao18 t477.length co18] (0, 0) _ rfl (by (with_reducible repeat (first | refine blk_drewN ?_ _ | refine blk_drew ?_ | refine blk_alloc ?_ _)); refine blk_put (cs := #[.slice none 0 0]) ?_ 0 _ rfl; (with_reducible repeat (first | refine blk_drewN ?_ _ | refine blk_drew ?_ | refine blk_alloc ?_ _)); exact BK467.out) Try.underlying38 rfl (by kernel_rfl)) rfl ?_
   exact ⟨_, by first | rfl | (simp [errW_none, errW_some] <;> rfl) | (simp [*, errW_none, errW_some] <;> rfl), by (with_reducible repeat (first | apply Kd.R_alloc | apply Kd.R_drewN | apply Kd.R_drew)); exact Kd.R_mono (Kd.R_far (p := ⟨gb467, 0, none⟩) (Kd.R_types HO479.out BK467.out (by decide)) (fun _ hk => hk.2) (.slice Ao18 t477.length co18)) (fun _ hk => trivial), by repeat (first | (with_reducible first | exact HB.out | apply below_alloc | apply pw_below_drewN | apply below_drew1 | refine below_set ?_ GE467.out) | exact HB.out)⟩
  ·rw [if_neg c11] at H
   have c11b0 : (a0.toList == ([76, 108] : List UInt8)) = false := beq_eq_false_iff_ne.mpr c11
   have c11b1 : (a0.toList != ([76, 108] : List UInt8)) = true := bne_iff_ne.mpr c11
   by_cases c20 : a0.toList = ([76] : List UInt8)
   ·rw [if_pos c20] at H
    have c20b0 : (a0.toList == ([76] : List UInt8)) = true := beq_iff_eq.mpr c20
    have c20b1 : (a0.toList != ([76] : List UInt8)) = false := bne_eq_false_iff_eq.mpr c20
    clear c20
    obtain ⟨y480, hy480⟩ : ∃ y_ : List (S58), y_ = (([(⟨65, 90⟩ : S58), (⟨97, 122⟩ : S58)] : List (S58))) := ⟨_, rfl⟩
    replace H : ((rubricref7_Of.f k y480).bind fun t483 => (some (t483, true))) = some (r1, r2) := by first | (rw [hy480]; with_reducible exact H) | (have H2_ := (Option.bind_some _ _).symm.trans H; rw [hy480]; with_reducible exact H2_) | (have H2_ := (Option.bind_some _ _).symm.trans H; with_reducible exact H2_) | with_reducible exact H | (rw [hy480]; exact H) | exact H
    have Ny480 := Aside0.mk hy480
    clear hy480
    replace H := Option.bind_eq_some_iff.mp H
    obtain ⟨t483, A210, H⟩ := H
    replace H : (some (t483, true)) = some (r1, r2) := H
    have A21 := Aside0.mk A210
    clear A210
    simp only [Option.some.injEq, Prod.mk.injEq] at H
    obtain ⟨rfl, rfl⟩ := H
    go_enter Try.func17, Try.ntmps17
    go_wp2_with (first | ((with_reducible refine gate_dst (N := 2) rfl ?_); refine box_event ?hg (N := 2) ?hd (cs := #[.slice none 0 0]) (t := 38) ?hr ?_; (case hd => rfl); (case hg => rfl); (case hr => first | (go_simp; done) | (go_simp; rfl)); intro gb467 hg w22 hbox hb; have n0_ := Aside0.mk (below_step (by repeat (first | (with_reducible first | exact HB.out | apply below_alloc | apply pw_below_drewN | apply below_drew1) | exact HB.out)) hb); have n1_ := Aside0.mk (hbox); have n2_ := Aside0.mk ((by rw [hg]; exact (below_size (by repeat (first | (with_reducible first | exact HB.out | apply below_alloc | apply pw_below_drewN | apply below_drew1) | exact HB.out))) : w.heap.size ≤ gb467)); have n3_ := Aside0.mk ((by rw [hg]; exact (below_size (by repeat (first | (with_reducible first | exact HB.out | apply below_alloc | apply pw_below_drewN | apply below_drew1) | exact HB.out))) : w.heap.size ≤ gb467)); clear HB; have HB := n0_; have BK467 := n1_; have GW467 := n2_; have GE467 := n3_; clear n0_ n1_ n2_ n3_; clear hb hbox hg) | ((with_reducible refine gate_dst (N := 19) rfl ?_); refine Kd.R_lit k58 _ 58 ?hg (N := 19) ?hd (xs := ([(⟨65, 90⟩ : S58), (⟨97, 122⟩ : S58)] : List (S58))) (inner := [.int .i64 65, .int .i64 90, .int .i64 97, .int .i64 122]) (ok := fun _ => True) (okp := fun _ => True) ?hr ?hp (fun _ hk => hk) trivial (Below.refl _ _) (Nat.le_refl _) (by simp) ?_; (case hd => rfl); (case hg => rfl); (case hr => first | (go_simp; done) | (go_simp; rfl)); (case hp => exact (Reps.c2 (show Kd.M k58 _ _ _ (⟨65, 90⟩ : S58) [.int .i64 65, .int .i64 90] from (k58_mkM _ _ _ (⟨65, 90⟩ : S58) )) (Reps.c2 (show Kd.M k58 _ _ _ (⟨97, 122⟩ : S58) [.int .i64 97, .int .i64 122] from (k58_mkM _ _ _ (⟨97, 122⟩ : S58) )) (Reps.none _ _)))); intro v481 w23 ho24 hb hg_ hnew_; clear hg_ hnew_; (first | rw [← Ny480.out] at ho24 | (simp only [Int.reduceToNat] at ho24; rw [← Ny480.out] at ho24)); have n0_ := Aside0.mk (Kd.R_lower ho24 (below_size (by repeat (first | (with_reducible first | exact HB.out | apply below_alloc | apply pw_below_drewN | apply below_drew1 | refine below_set ?_ GE467.out) | exact HB.out)))); have n1_ := Aside0.mk (blk_below (g := gb467) (o := .cells #[.slice none 0 0] 38 (0, 0)) (S.b BK467.out) hb); have n2_ := Aside0.mk (below_step (by repeat (first | (with_reducible first | exact HB.out | apply below_alloc | apply pw_below_drewN | apply below_drew1 | refine below_set ?_ GE467.out) | exact HB.out)) hb); clear BK467; clear HB; have HO482 := n0_; have BK467 := n1_; have HB := n2_; clear n0_ n1_ n2_; clear hb ho24; obtain ⟨Ao25, co25, eo25⟩ := Kd.R_slice HO482.out; subst eo25) | ((with_reducible refine gate_callee (f := 38) rfl ?_); refine goesL_ (some 20) rfl rfl Try.func38 (by kernel_rfl) rfl #[.slice Ao25 y480.length co25] rfl (by (try simp only [List.map_toArray, List.map_cons, List.map_nil]); first | done | rfl | (simp only [List.length_drop, List.length_take]; rfl)) ?_; (with_reducible refine (rubricref7_Of.calls k _ _ y480 t483 _ ?side1 ?side2 A21.out).mono ?_); (case side1 => repeat (first | exact (Kd.R_reads' HO482.out).2.2 | (with_reducible refine Kd.C_alloc ?_ _) | (with_reducible refine Kd.C_drewN ?_ _) | (with_reducible refine Kd.C_drew ?_))); (case side2 => exact (Kd.R_reads' HO482.out).2.1); rintro e w26 ⟨v484, rfl, ho0, hb⟩; refine ⟨_, rfl, ?_⟩; have n0_ := Aside0.mk (Kd.R_elder' (S.r HO482.out) (Kd.R_base ho0) hb); have n1_ := Aside0.mk (Kd.R_lower (Kd.R_new' ho0 (Kd.R_lt (S.r HO482.out))) (below_size (by repeat (first | (with_reducible first | exact HB.out | apply below_alloc | apply pw_below_drewN | apply below_drew1 | refine below_set ?_ GE467.out) | exact HB.out)))); have n2_ := Aside0.mk (blk_below (g := gb467) (o := .cells #[.slice none 0 0] 38 (0, 0)) (S.b BK467.out) hb); have n3_ := Aside0.mk (below_step (by repeat (first | (with_reducible first | exact HB.out | apply below_alloc | apply pw_below_drewN | apply below_drew1 | refine below_set ?_ GE467.out) | exact HB.out)) hb); clear HO482; clear BK467; clear HB; have HO482 := n0_; have HO485 := n1_; have BK467 := n2_; have HB := n3_; clear n0_ n1_ n2_ n3_; (try clear hb); (try clear hb2); (try clear hk); (try clear hi); (try clear ho0); obtain ⟨Ao27, co27, eo27⟩ := Kd.R_slice HO485.out; subst eo27; have hcz28_0 : w26.cell? ⟨gb467, 0, none⟩ = some (.slice none 0 0) := (blk_cell BK467.out 0).trans rfl; have hfz28_0 := blk_frozen BK467.out 0))
    refine bodyPost_ret (results_ct rfl _ _ gb467 38 #[.slice Ao27 t483.length co27] (0, 0) _ rfl (by (with_reducible repeat (first | refine blk_drewN ?_ _ | refine blk_drew ?_ | refine blk_alloc ?_ _)); refine blk_put (cs := #[.slice none 0 0]) ?_ 0 _ rfl; (with_reducible repeat (first | refine blk_drewN ?_ _ | refine blk_drew ?_ | refine blk_alloc ?_ _)); exact BK467.out) Try.underlying38 rfl (by kernel_rfl)) rfl ?_
    exact ⟨_, by first | rfl | (simp [errW_none, errW_some] <;> rfl) | (simp [*, errW_none, errW_some] <;> rfl), by (with_reducible repeat (first | apply Kd.R_alloc | apply Kd.R_drewN | apply Kd.R_drew)); exact Kd.R_mono (Kd.R_far (p := ⟨gb467, 0, none⟩) (Kd.R_types HO485.out BK467.out (by decide)) (fun _ hk => hk.2) (.slice Ao27 t483.length co27)) (fun _ hk => trivial), by repeat (first | (with_reducible first | exact HB.out | apply below_alloc | apply pw_below_drewN | apply below_drew1 | refine below_set ?_ GE467.out) | exact HB.out)⟩
   ·rw [if_neg c20] at H
    have c20b0 : (a0.toList == ([76] : List UInt8)) = false := beq_eq_false_iff_ne.mpr c20
    have c20b1 : (a0.toList != ([76] : List UInt8)) = true := bne_iff_ne.mpr c20
    have HC29 := Aside0.mk H
    clear H
    go_enter Try.func17, Try.ntmps17
    go_upto_if 21 with (first | ((with_reducible refine gate_dst (N := 2) rfl ?_); refine box_event ?hg (N := 2) ?hd (cs := #[.slice none 0 0]) (t := 38) ?hr ?_; (case hd => rfl); (case hg => rfl); (case hr => first | (go_simp; done) | (go_simp; rfl)); intro gb467 hg w30 hbox hb; have n0_ := Aside0.mk (below_step (by repeat (first | (with_reducible first | exact HB.out | apply below_alloc | apply pw_below_drewN | apply below_drew1) | exact HB.out)) hb); have n1_ := Aside0.mk (hbox); have n2_ := Aside0.mk ((by rw [hg]; exact (below_size (by repeat (first | (with_reducible first | exact HB.out | apply below_alloc | apply pw_below_drewN | apply below_drew1) | exact HB.out))) : w.heap.size ≤ gb467)); have n3_ := Aside0.mk ((by rw [hg]; exact (below_size (by repeat (first | (with_reducible first | exact HB.out | apply below_alloc | apply pw_below_drewN | apply below_drew1) | exact HB.out))) : w.heap.size ≤ gb467)); clear HB; have HB := n0_; have BK467 := n1_; have GW467 := n2_; have GE467 := n3_; clear n0_ n1_ n2_ n3_; clear hb hbox hg))
    (try simp only [Act.put, List.setIfInBounds_toArray, List.set_cons_zero, List.set_cons_succ])
    go_cut [21] (fun v21 wc => ∃ (kq : Nat) (x21_28 : Bool), v21 = .bool x21_28 ∧ Aside0 (rubricref7_Category.j0 kq a0 x21_28 = some (r1, r2)) ∧ Aside0 (kq ≤ k) ∧ Aside0 (wc.heap[gb467]? = some (.cells #[(.slice none 0 0)] 38 (0, 0))) ∧ Aside0 (Below w.heap.size w wc))
    case first =>
     have H := HC29.out
     clear HC29
     by_cases c31 : a0.toList = ([78, 100] : List UInt8)
     ·rw [if_pos c31] at H
      have c31b0 : (a0.toList == ([78, 100] : List UInt8)) = true := beq_iff_eq.mpr c31
      have c31b1 : (a0.toList != ([78, 100] : List UInt8)) = false := bne_eq_false_iff_eq.mpr c31
      clear c31
      (first | rw [c31b0] | (simp only [i64_w, i32_w]; rw [c31b0]) | skip)
      have H' := Aside0.mk H
      clear H
      go_wp2
      go_meet
      case rel => exact ⟨_, ((a0.toList == ([78, 100] : List UInt8))), (by first | rfl | (simp; done) | (simp [*]; done)), H', ⟨by first | omega | exact Nat.le_refl _⟩, ⟨S.b BK467.out⟩, ⟨by repeat (first | (with_reducible first | exact HB.out | apply below_alloc | apply pw_below_drewN | apply below_drew1 | refine below_set ?_ GE467.out) | exact HB.out)⟩⟩
     ·rw [if_neg c31] at H
      have c31b0 : (a0.toList == ([78, 100] : List UInt8)) = false := beq_eq_false_iff_ne.mpr c31
      have c31b1 : (a0.toList != ([78, 100] : List UInt8)) = true := bne_iff_ne.mpr c31
      (first | rw [c31b0] | (simp only [i64_w, i32_w]; rw [c31b0]) | skip)
      have H' := Aside0.mk H
      clear H
      go_wp2
      go_meet
      case rel => exact ⟨_, ((a0.toList == ([78] : List UInt8))), (by first | rfl | (simp; done) | (simp [*]; done)), H', ⟨by first | omega | exact Nat.le_refl _⟩, ⟨S.b BK467.out⟩, ⟨by repeat (first | (with_reducible first | exact HB.out | apply below_alloc | apply pw_below_drewN | apply below_drew1 | refine below_set ?_ GE467.out) | exact HB.out)⟩⟩
    case rest =>
     clear HC29
     try clear c1
     try clear c2
     try clear c2b0
     try clear c2b1
     try clear p2
     try clear c3
     try clear c11
     try clear c11b0
     try clear c11b1
     try clear c17
     try clear c20
     try clear c20b0
     try clear c20b1
     try clear c31
     try clear c31b0
     try clear c31b1
     try clear hcz10_0
     try clear hcz19_0
     try clear hcz28_0
     try clear hfz10_0
     try clear hfz19_0
     try clear hfz28_0
     obtain ⟨kq, x21_28, rfl, HA, HJ28, BK467, HB⟩ := hcut
     cases kq with
     | zero => exact absurd HA.out (by simp [rubricref7_Category.j0])
     | succ kj28 =>
      have H := HA.out
      clear HA
      simp only [rubricref7_Category.j0] at H
      by_cases c32 : x21_28 = true
      ·subst c32
       have H1 : ((rubricref7_Of.f kj28 (([(⟨48, 57⟩ : S58)] : List (S58)))).bind fun t489 => (some (t489, true))) = some (r1, r2) := by rw [if_pos rfl] at H; exact H
       clear H
       have H := H1
       clear H1
       obtain ⟨y486, hy486⟩ : ∃ y_ : List (S58), y_ = (([(⟨48, 57⟩ : S58)] : List (S58))) := ⟨_, rfl⟩
       replace H : ((rubricref7_Of.f kj28 y486).bind fun t489 => (some (t489, true))) = some (r1, r2) := by first | (rw [hy486]; with_reducible exact H) | (have H2_ := (Option.bind_some _ _).symm.trans H; rw [hy486]; with_reducible exact H2_) | (have H2_ := (Option.bind_some _ _).symm.trans H; with_reducible exact H2_) | with_reducible exact H | (rw [hy486]; exact H) | exact H
       have Ny486 := Aside0.mk hy486
       clear hy486
       replace H := Option.bind_eq_some_iff.mp H
       obtain ⟨t489, A330, H⟩ := H
       replace H : (some (t489, true)) = some (r1, r2) := H
       have A33 := Aside0.mk A330
       clear A330
       simp only [Option.some.injEq, Prod.mk.injEq] at H
       obtain ⟨rfl, rfl⟩ := H
       go_wp2_with (first | ((with_reducible refine gate_dst (N := 25) rfl ?_); refine Kd.R_lit k58 _ 58 ?hg (N := 25) ?hd (xs := ([(⟨48, 57⟩ : S58)] : List (S58))) (inner := [.int .i64 48, .int .i64 57]) (ok := fun _ => True) (okp := fun _ => True) ?hr ?hp (fun _ hk => hk) trivial (Below.refl _ _) (Nat.le_refl _) (by simp) ?_; (case hd => rfl); (case hg => rfl); (case hr => first | (go_simp; done) | (go_simp; rfl)); (case hp => exact (Reps.c2 (show Kd.M k58 _ _ _ (⟨48, 57⟩ : S58) [.int .i64 48, .int .i64 57] from (k58_mkM _ _ _ (⟨48, 57⟩ : S58) )) (Reps.none _ _))); intro v487 w34 ho35 hb hg_ hnew_; clear hg_ hnew_; (first | rw [← Ny486.out] at ho35 | (simp only [Int.reduceToNat] at ho35; rw [← Ny486.out] at ho35)); have n0_ := Aside0.mk (Kd.R_lower ho35 (below_size (by repeat (first | (with_reducible first | exact HB.out | apply below_alloc | apply pw_below_drewN | apply below_drew1 | refine below_set ?_ GE467.out) | exact HB.out)))); have n1_ := Aside0.mk (blk_below (g := gb467) (o := .cells #[.slice none 0 0] 38 (0, 0)) (S.b BK467.out) hb); have n2_ := Aside0.mk (below_step (by repeat (first | (with_reducible first | exact HB.out | apply below_alloc | apply pw_below_drewN | apply below_drew1 | refine below_set ?_ GE467.out) | exact HB.out)) hb); clear BK467; clear HB; have HO488 := n0_; have BK467 := n1_; have HB := n2_; clear n0_ n1_ n2_; clear hb ho35; obtain ⟨Ao36, co36, eo36⟩ := Kd.R_slice HO488.out; subst eo36) | ((with_reducible refine gate_callee (f := 38) rfl ?_); refine goesL_ (some 26) rfl rfl Try.func38 (by kernel_rfl) rfl #[.slice Ao36 y486.length co36] rfl (by (try simp only [List.map_toArray, List.map_cons, List.map_nil]); first | done | rfl | (simp only [List.length_drop, List.length_take]; rfl)) ?_; (with_reducible refine (rubricref7_Of.calls kj28 _ _ y486 t489 _ ?side1 ?side2 A33.out).mono ?_); (case side1 => repeat (first | exact (Kd.R_reads' HO488.out).2.2 | (with_reducible refine Kd.C_alloc ?_ _) | (with_reducible refine Kd.C_drewN ?_ _) | (with_reducible refine Kd.C_drew ?_))); (case side2 => exact (Kd.R_reads' HO488.out).2.1); rintro e w37 ⟨v490, rfl, ho0, hb⟩; refine ⟨_, rfl, ?_⟩; have n0_ := Aside0.mk (Kd.R_elder' (S.r HO488.out) (Kd.R_base ho0) hb); have n1_ := Aside0.mk (Kd.R_lower (Kd.R_new' ho0 (Kd.R_lt (S.r HO488.out))) (below_size (by repeat (first | (with_reducible first | exact HB.out | apply below_alloc | apply pw_below_drewN | apply below_drew1 | refine below_set ?_ GE467.out) | exact HB.out)))); have n2_ := Aside0.mk (blk_below (g := gb467) (o := .cells #[.slice none 0 0] 38 (0, 0)) (S.b BK467.out) hb); have n3_ := Aside0.mk (below_step (by repeat (first | (with_reducible first | exact HB.out | apply below_alloc | apply pw_below_drewN | apply below_drew1 | refine below_set ?_ GE467.out) | exact HB.out)) hb); clear HO488; clear BK467; clear HB; have HO488 := n0_; have HO491 := n1_; have BK467 := n2_; have HB := n3_; clear n0_ n1_ n2_ n3_; (try clear hb); (try clear hb2); (try clear hk); (try clear hi); (try clear ho0); obtain ⟨Ao38, co38, eo38⟩ := Kd.R_slice HO491.out; subst eo38; have hcz39_0 : w37.cell? ⟨gb467, 0, none⟩ = some (.slice none 0 0) := (blk_cell BK467.out 0).trans rfl; have hfz39_0 := blk_frozen BK467.out 0))
       refine bodyPost_ret (results_ct rfl _ _ gb467 38 #[.slice Ao38 t489.length co38] (0, 0) _ rfl (by (with_reducible repeat (first | refine blk_drewN ?_ _ | refine blk_drew ?_ | refine blk_alloc ?_ _)); refine blk_put (cs := #[.slice none 0 0]) ?_ 0 _ rfl; (with_reducible repeat (first | refine blk_drewN ?_ _ | refine blk_drew ?_ | refine blk_alloc ?_ _)); exact BK467.out) Try.underlying38 rfl (by kernel_rfl)) rfl ?_
       exact ⟨_, by first | rfl | (simp [errW_none, errW_some] <;> rfl) | (simp [*, errW_none, errW_some] <;> rfl), by (with_reducible repeat (first | apply Kd.R_alloc | apply Kd.R_drewN | apply Kd.R_drew)); exact Kd.R_mono (Kd.R_far (p := ⟨gb467, 0, none⟩) (Kd.R_types HO491.out BK467.out (by decide)) (fun _ hk => hk.2) (.slice Ao38 t489.length co38)) (fun _ hk => trivial), by repeat (first | (with_reducible first | exact HB.out | apply below_alloc | apply pw_below_drewN | apply below_drew1 | refine below_set ?_ GE467.out) | exact HB.out)⟩
      ·replace c32 := Bool.eq_false_iff.mpr c32
       subst c32
       have H1 : (if a0.toList = ([80] : List UInt8) then ((rubricref7_letters.f kj28 (⟨#[33, 34, 35, 37, 38, 39, 40, 41, 42, 44, 45, 46, 47, 58, 59, 63, 64, 91, 92, 93, 95, 123, 125]⟩ : ByteArray)).bind fun t492 => ((rubricref7_Of.f kj28 t492).bind fun t495 => (some (t495, true)))) else (if a0.toList = ([83] : List UInt8) then ((rubricref7_letters.f kj28 (⟨#[36, 43, 60, 61, 62, 94, 124, 126]⟩ : ByteArray)).bind fun t498 => (if t498.length < 8796093022208 then ((rubricref7_Of.f kj28 (t498 ++ [(⟨96, 96⟩ : S58)])).bind fun t504 => (some (t504, true))) else (none))) else (if a0.toList = ([90] : List UInt8) then ((rubricref7_Of.f kj28 (([(⟨32, 32⟩ : S58), (⟨160, 160⟩ : S58)] : List (S58)))).bind fun t510 => (some (t510, true))) else (if a0.toList = ([67] : List UInt8) then ((rubricref7_Of.f kj28 (([(⟨0, 31⟩ : S58), (⟨127, 159⟩ : S58)] : List (S58)))).bind fun t516 => (some (t516, true))) else (some (([] : List (S58)), false)))))) = some (r1, r2) := by rw [if_neg (show ¬ (false = true) by decide)] at H; exact H
       clear H
       have H := H1
       clear H1
       by_cases c40 : a0.toList = ([80] : List UInt8)
       ·rw [if_pos c40] at H
        have c40b0 : (a0.toList == ([80] : List UInt8)) = true := beq_iff_eq.mpr c40
        have c40b1 : (a0.toList != ([80] : List UInt8)) = false := bne_eq_false_iff_eq.mpr c40
        clear c40
        replace H := Option.bind_eq_some_iff.mp H
        obtain ⟨t492, A410, H⟩ := H
        replace H : ((rubricref7_Of.f kj28 t492).bind fun t495 => (some (t495, true))) = some (r1, r2) := H
        have A41 := Aside0.mk A410
        clear A410
        replace H := Option.bind_eq_some_iff.mp H
        obtain ⟨t495, A420, H⟩ := H
        replace H : (some (t495, true)) = some (r1, r2) := H
        have A42 := Aside0.mk A420
        clear A420
        simp only [Option.some.injEq, Prod.mk.injEq] at H
        obtain ⟨rfl, rfl⟩ := H
        go_wp2_with (first | ((with_reducible refine gate_callee (f := 42) rfl ?_); refine goesL_ (some 29) rfl rfl Try.func42 (by kernel_rfl) rfl #[.string (⟨#[33, 34, 35, 37, 38, 39, 40, 41, 42, 44, 45, 46, 47, 58, 59, 63, 64, 91, 92, 93, 95, 123, 125]⟩ : ByteArray)] rfl (by (try simp only [List.map_toArray, List.map_cons, List.map_nil]); first | done | rfl | (simp only [List.length_drop, List.length_take]; rfl)) ?_; (with_reducible refine (rubricref7_letters.calls kj28 (⟨#[33, 34, 35, 37, 38, 39, 40, 41, 42, 44, 45, 46, 47, 58, 59, 63, 64, 91, 92, 93, 95, 123, 125]⟩ : ByteArray) t492 _ A41.out).mono ?_); rintro e w43 ⟨v493, rfl, ho0, hb⟩; refine ⟨_, rfl, ?_⟩; have n0_ := Aside0.mk (Kd.R_lower ho0 (below_size (by repeat (first | (with_reducible first | exact HB.out | apply below_alloc | apply pw_below_drewN | apply below_drew1 | refine below_set ?_ GE467.out) | exact HB.out)))); have n1_ := Aside0.mk (blk_below (g := gb467) (o := .cells #[.slice none 0 0] 38 (0, 0)) (S.b BK467.out) hb); have n2_ := Aside0.mk (below_step (by repeat (first | (with_reducible first | exact HB.out | apply below_alloc | apply pw_below_drewN | apply below_drew1 | refine below_set ?_ GE467.out) | exact HB.out)) hb); clear BK467; clear HB; have HO494 := n0_; have BK467 := n1_; have HB := n2_; clear n0_ n1_ n2_; (try clear hb); (try clear hb2); (try clear hk); (try clear hi); (try clear ho0); obtain ⟨Ao44, co44, eo44⟩ := Kd.R_slice HO494.out; subst eo44) | ((with_reducible refine gate_callee (f := 38) rfl ?_); refine goesL_ (some 30) rfl rfl Try.func38 (by kernel_rfl) rfl #[.slice Ao44 t492.length co44] rfl (by (try simp only [List.map_toArray, List.map_cons, List.map_nil]); first | done | rfl | (simp only [List.length_drop, List.length_take]; rfl)) ?_; (with_reducible refine (rubricref7_Of.calls kj28 _ _ t492 t495 _ ?side1 ?side2 A42.out).mono ?_); (case side1 => repeat (first | exact (Kd.R_reads' HO494.out).2.2 | (with_reducible refine Kd.C_alloc ?_ _) | (with_reducible refine Kd.C_drewN ?_ _) | (with_reducible refine Kd.C_drew ?_))); (case side2 => exact (Kd.R_reads' HO494.out).2.1); rintro e w45 ⟨v496, rfl, ho0, hb⟩; refine ⟨_, rfl, ?_⟩; have n0_ := Aside0.mk (Kd.R_elder' (S.r HO494.out) (Kd.R_base ho0) hb); have n1_ := Aside0.mk (Kd.R_lower (Kd.R_new' ho0 (Kd.R_lt (S.r HO494.out))) (below_size (by repeat (first | (with_reducible first | exact HB.out | apply below_alloc | apply pw_below_drewN | apply below_drew1 | refine below_set ?_ GE467.out) | exact HB.out)))); have n2_ := Aside0.mk (blk_below (g := gb467) (o := .cells #[.slice none 0 0] 38 (0, 0)) (S.b BK467.out) hb); have n3_ := Aside0.mk (below_step (by repeat (first | (with_reducible first | exact HB.out | apply below_alloc | apply pw_below_drewN | apply below_drew1 | refine below_set ?_ GE467.out) | exact HB.out)) hb); clear HO494; clear BK467; clear HB; have HO494 := n0_; have HO497 := n1_; have BK467 := n2_; have HB := n3_; clear n0_ n1_ n2_ n3_; (try clear hb); (try clear hb2); (try clear hk); (try clear hi); (try clear ho0); obtain ⟨Ao46, co46, eo46⟩ := Kd.R_slice HO497.out; subst eo46; have hcz47_0 : w45.cell? ⟨gb467, 0, none⟩ = some (.slice none 0 0) := (blk_cell BK467.out 0).trans rfl; have hfz47_0 := blk_frozen BK467.out 0))
        refine bodyPost_ret (results_ct rfl _ _ gb467 38 #[.slice Ao46 t495.length co46] (0, 0) _ rfl (by (with_reducible repeat (first | refine blk_drewN ?_ _ | refine blk_drew ?_ | refine blk_alloc ?_ _)); refine blk_put (cs := #[.slice none 0 0]) ?_ 0 _ rfl; (with_reducible repeat (first | refine blk_drewN ?_ _ | refine blk_drew ?_ | refine blk_alloc ?_ _)); exact BK467.out) Try.underlying38 rfl (by kernel_rfl)) rfl ?_
        exact ⟨_, by first | rfl | (simp [errW_none, errW_some] <;> rfl) | (simp [*, errW_none, errW_some] <;> rfl), by (with_reducible repeat (first | apply Kd.R_alloc | apply Kd.R_drewN | apply Kd.R_drew)); exact Kd.R_mono (Kd.R_far (p := ⟨gb467, 0, none⟩) (Kd.R_types HO497.out BK467.out (by decide)) (fun _ hk => hk.2) (.slice Ao46 t495.length co46)) (fun _ hk => trivial), by repeat (first | (with_reducible first | exact HB.out | apply below_alloc | apply pw_below_drewN | apply below_drew1 | refine below_set ?_ GE467.out) | exact HB.out)⟩
       ·rw [if_neg c40] at H
        have c40b0 : (a0.toList == ([80] : List UInt8)) = false := beq_eq_false_iff_ne.mpr c40
        have c40b1 : (a0.toList != ([80] : List UInt8)) = true := bne_iff_ne.mpr c40
        by_cases c48 : a0.toList = ([83] : List UInt8)
        ·rw [if_pos c48] at H
         have c48b0 : (a0.toList == ([83] : List UInt8)) = true := beq_iff_eq.mpr c48
         have c48b1 : (a0.toList != ([83] : List UInt8)) = false := bne_eq_false_iff_eq.mpr c48
         clear c48
         replace H := Option.bind_eq_some_iff.mp H
         obtain ⟨t498, A490, H⟩ := H
         replace H : (if t498.length < 8796093022208 then ((rubricref7_Of.f kj28 (t498 ++ [(⟨96, 96⟩ : S58)])).bind fun t504 => (some (t504, true))) else (none)) = some (r1, r2) := H
         have A49 := Aside0.mk A490
         clear A490
         by_cases c50 : t498.length < 8796093022208
         ·rw [if_pos c50] at H
          have LMc50 := Aside0.mk c50
          clear c50
          obtain ⟨y501, hy501⟩ : ∃ y_ : List (S58), y_ = (t498 ++ [(⟨96, 96⟩ : S58)]) := ⟨_, rfl⟩
          replace H : ((rubricref7_Of.f kj28 y501).bind fun t504 => (some (t504, true))) = some (r1, r2) := by first | (rw [hy501]; with_reducible exact H) | (have H2_ := (Option.bind_some _ _).symm.trans H; rw [hy501]; with_reducible exact H2_) | (have H2_ := (Option.bind_some _ _).symm.trans H; with_reducible exact H2_) | with_reducible exact H | (rw [hy501]; exact H) | exact H
          have Ny501 := Aside0.mk hy501
          clear hy501
          replace H := Option.bind_eq_some_iff.mp H
          obtain ⟨t504, A510, H⟩ := H
          replace H : (some (t504, true)) = some (r1, r2) := H
          have A51 := Aside0.mk A510
          clear A510
          simp only [Option.some.injEq, Prod.mk.injEq] at H
          obtain ⟨rfl, rfl⟩ := H
          go_wp2_with (first | ((with_reducible refine gate_callee (f := 42) rfl ?_); refine goesL_ (some 33) rfl rfl Try.func42 (by kernel_rfl) rfl #[.string (⟨#[36, 43, 60, 61, 62, 94, 124, 126]⟩ : ByteArray)] rfl (by (try simp only [List.map_toArray, List.map_cons, List.map_nil]); first | done | rfl | (simp only [List.length_drop, List.length_take]; rfl)) ?_; (with_reducible refine (rubricref7_letters.calls kj28 (⟨#[36, 43, 60, 61, 62, 94, 124, 126]⟩ : ByteArray) t498 _ A49.out).mono ?_); rintro e w52 ⟨v499, rfl, ho0, hb⟩; refine ⟨_, rfl, ?_⟩; have n0_ := Aside0.mk (Kd.R_lower ho0 (below_size (by repeat (first | (with_reducible first | exact HB.out | apply below_alloc | apply pw_below_drewN | apply below_drew1 | refine below_set ?_ GE467.out) | exact HB.out)))); have n1_ := Aside0.mk (blk_below (g := gb467) (o := .cells #[.slice none 0 0] 38 (0, 0)) (S.b BK467.out) hb); have n2_ := Aside0.mk (below_step (by repeat (first | (with_reducible first | exact HB.out | apply below_alloc | apply pw_below_drewN | apply below_drew1 | refine below_set ?_ GE467.out) | exact HB.out)) hb); clear BK467; clear HB; have HO500 := n0_; have BK467 := n1_; have HB := n2_; clear n0_ n1_ n2_; (try clear hb); (try clear hb2); (try clear hk); (try clear hi); (try clear ho0)) | ((with_reducible refine gate_builtin (b := .append) (xs := #[.tmp 33, .tmp 35]) rfl ?_); at_builtin; refine Kd.R_append k58 (w0 := w) w.heap.size rfl (.tmp 33) (.tmp 35) 36 58 (.agg #[(.int .i64 0), (.int .i64 0)]) 16 rfl Try.underlying36 info58 rfl (by decide) (by omega) v499 t498 (⟨96, 96⟩ : S58) [.int .i64 96, .int .i64 96] (fun _ => True) (fun _ => False) rfl rfl ?aP (fun _ hk => hk.elim) ?aF ?aO ?aB ?aS ?aL ?_; (case aP => exact k58_mkM _ _ _ (⟨96, 96⟩ : S58)); (case aB => exact (by repeat (first | (with_reducible first | exact HB.out | apply below_alloc | apply pw_below_drewN | apply below_drew1 | refine below_set ?_ GE467.out) | exact HB.out))); (case aF => exact (fun _ _ => trivial)); (case aO => exact (S.r HO500.out)); (case aS => exact (below_size (by repeat (first | (with_reducible first | exact HB.out | apply below_alloc | apply pw_below_drewN | apply below_drew1 | refine below_set ?_ GE467.out) | exact HB.out)))); (case aL => have := LMc50.out; omega); intro v502 w53 ho hb hg hat; rw [← Ny501.out] at ho; have n0_ := Aside0.mk (blk_grown (g := gb467) (o := .cells #[.slice none 0 0] 38 (0, 0)) (S.b BK467.out) hg (Kd.R_ne HO500.out BK467.out (by decide))); have n1_ := Aside0.mk (hb); have n2_ := Aside0.mk (ho); clear BK467; clear HB; clear HO500; have BK467 := n0_; have HB := n1_; have HO503 := n2_; clear n0_ n1_ n2_; clear ho hb hg hat; obtain ⟨Ao54, co54, eo54⟩ := Kd.R_slice HO503.out; subst eo54) | ((with_reducible refine gate_callee (f := 38) rfl ?_); refine goesL_ (some 37) rfl rfl Try.func38 (by kernel_rfl) rfl #[.slice Ao54 y501.length co54] rfl (by (try simp only [List.map_toArray, List.map_cons, List.map_nil]); first | done | rfl | (simp only [List.length_drop, List.length_take]; rfl)) ?_; (with_reducible refine (rubricref7_Of.calls kj28 _ _ y501 t504 _ ?side1 ?side2 A51.out).mono ?_); (case side1 => repeat (first | exact (Kd.R_reads' HO503.out).2.2 | (with_reducible refine Kd.C_alloc ?_ _) | (with_reducible refine Kd.C_drewN ?_ _) | (with_reducible refine Kd.C_drew ?_))); (case side2 => exact (Kd.R_reads' HO503.out).2.1); rintro e w55 ⟨v505, rfl, ho0, hb⟩; refine ⟨_, rfl, ?_⟩; have n0_ := Aside0.mk (Kd.R_elder' (S.r HO503.out) (Kd.R_base ho0) hb); have n1_ := Aside0.mk (Kd.R_lower (Kd.R_new' ho0 (Kd.R_lt (S.r HO503.out))) (below_size (by repeat (first | (with_reducible first | exact HB.out | apply below_alloc | apply pw_below_drewN | apply below_drew1 | refine below_set ?_ GE467.out) | exact HB.out)))); have n2_ := Aside0.mk (blk_below (g := gb467) (o := .cells #[.slice none 0 0] 38 (0, 0)) (S.b BK467.out) hb); have n3_ := Aside0.mk (below_step (by repeat (first | (with_reducible first | exact HB.out | apply below_alloc | apply pw_below_drewN | apply below_drew1 | refine below_set ?_ GE467.out) | exact HB.out)) hb); clear HO503; clear BK467; clear HB; have HO503 := n0_; have HO506 := n1_; have BK467 := n2_; have HB := n3_; clear n0_ n1_ n2_ n3_; (try clear hb); (try clear hb2); (try clear hk); (try clear hi); (try clear ho0); obtain ⟨Ao56, co56, eo56⟩ := Kd.R_slice HO506.out; subst eo56; have hcz57_0 : w55.cell? ⟨gb467, 0, none⟩ = some (.slice none 0 0) := (blk_cell BK467.out 0).trans rfl; have hfz57_0 := blk_frozen BK467.out 0))
          refine bodyPost_ret (results_ct rfl _ _ gb467 38 #[.slice Ao56 t504.length co56] (0, 0) _ rfl (by (with_reducible repeat (first | refine blk_drewN ?_ _ | refine blk_drew ?_ | refine blk_alloc ?_ _)); refine blk_put (cs := #[.slice none 0 0]) ?_ 0 _ rfl; (with_reducible repeat (first | refine blk_drewN ?_ _ | refine blk_drew ?_ | refine blk_alloc ?_ _)); exact BK467.out) Try.underlying38 rfl (by kernel_rfl)) rfl ?_
          exact ⟨_, by first | rfl | (simp [errW_none, errW_some] <;> rfl) | (simp [*, errW_none, errW_some] <;> rfl), by (with_reducible repeat (first | apply Kd.R_alloc | apply Kd.R_drewN | apply Kd.R_drew)); exact Kd.R_mono (Kd.R_far (p := ⟨gb467, 0, none⟩) (Kd.R_types HO506.out BK467.out (by decide)) (fun _ hk => hk.2) (.slice Ao56 t504.length co56)) (fun _ hk => trivial), by repeat (first | (with_reducible first | exact HB.out | apply below_alloc | apply pw_below_drewN | apply below_drew1 | refine below_set ?_ GE467.out) | exact HB.out)⟩
         ·rw [if_neg c50] at H
          exact absurd H (by simp)
        ·rw [if_neg c48] at H
         have c48b0 : (a0.toList == ([83] : List UInt8)) = false := beq_eq_false_iff_ne.mpr c48
         have c48b1 : (a0.toList != ([83] : List UInt8)) = true := bne_iff_ne.mpr c48
         by_cases c58 : a0.toList = ([90] : List UInt8)
         ·rw [if_pos c58] at H
          have c58b0 : (a0.toList == ([90] : List UInt8)) = true := beq_iff_eq.mpr c58
          have c58b1 : (a0.toList != ([90] : List UInt8)) = false := bne_eq_false_iff_eq.mpr c58
          clear c58
          obtain ⟨y507, hy507⟩ : ∃ y_ : List (S58), y_ = (([(⟨32, 32⟩ : S58), (⟨160, 160⟩ : S58)] : List (S58))) := ⟨_, rfl⟩
          replace H : ((rubricref7_Of.f kj28 y507).bind fun t510 => (some (t510, true))) = some (r1, r2) := by first | (rw [hy507]; with_reducible exact H) | (have H2_ := (Option.bind_some _ _).symm.trans H; rw [hy507]; with_reducible exact H2_) | (have H2_ := (Option.bind_some _ _).symm.trans H; with_reducible exact H2_) | with_reducible exact H | (rw [hy507]; exact H) | exact H
          have Ny507 := Aside0.mk hy507
          clear hy507
          replace H := Option.bind_eq_some_iff.mp H
          obtain ⟨t510, A590, H⟩ := H
          replace H : (some (t510, true)) = some (r1, r2) := H
          have A59 := Aside0.mk A590
          clear A590
          simp only [Option.some.injEq, Prod.mk.injEq] at H
          obtain ⟨rfl, rfl⟩ := H
          go_wp2_with (first | ((with_reducible refine gate_dst (N := 42) rfl ?_); refine Kd.R_lit k58 _ 58 ?hg (N := 42) ?hd (xs := ([(⟨32, 32⟩ : S58), (⟨160, 160⟩ : S58)] : List (S58))) (inner := [.int .i64 32, .int .i64 32, .int .i64 160, .int .i64 160]) (ok := fun _ => True) (okp := fun _ => True) ?hr ?hp (fun _ hk => hk) trivial (Below.refl _ _) (Nat.le_refl _) (by simp) ?_; (case hd => rfl); (case hg => rfl); (case hr => first | (go_simp; done) | (go_simp; rfl)); (case hp => exact (Reps.c2 (show Kd.M k58 _ _ _ (⟨32, 32⟩ : S58) [.int .i64 32, .int .i64 32] from (k58_mkM _ _ _ (⟨32, 32⟩ : S58) )) (Reps.c2 (show Kd.M k58 _ _ _ (⟨160, 160⟩ : S58) [.int .i64 160, .int .i64 160] from (k58_mkM _ _ _ (⟨160, 160⟩ : S58) )) (Reps.none _ _)))); intro v508 w60 ho61 hb hg_ hnew_; clear hg_ hnew_; (first | rw [← Ny507.out] at ho61 | (simp only [Int.reduceToNat] at ho61; rw [← Ny507.out] at ho61)); have n0_ := Aside0.mk (Kd.R_lower ho61 (below_size (by repeat (first | (with_reducible first | exact HB.out | apply below_alloc | apply pw_below_drewN | apply below_drew1 | refine below_set ?_ GE467.out) | exact HB.out)))); have n1_ := Aside0.mk (blk_below (g := gb467) (o := .cells #[.slice none 0 0] 38 (0, 0)) (S.b BK467.out) hb); have n2_ := Aside0.mk (below_step (by repeat (first | (with_reducible first | exact HB.out | apply below_alloc | apply pw_below_drewN | apply below_drew1 | refine below_set ?_ GE467.out) | exact HB.out)) hb); clear BK467; clear HB; have HO509 := n0_; have BK467 := n1_; have HB := n2_; clear n0_ n1_ n2_; clear hb ho61; obtain ⟨Ao62, co62, eo62⟩ := Kd.R_slice HO509.out; subst eo62) | ((with_reducible refine gate_callee (f := 38) rfl ?_); refine goesL_ (some 43) rfl rfl Try.func38 (by kernel_rfl) rfl #[.slice Ao62 y507.length co62] rfl (by (try simp only [List.map_toArray, List.map_cons, List.map_nil]); first | done | rfl | (simp only [List.length_drop, List.length_take]; rfl)) ?_; (with_reducible refine (rubricref7_Of.calls kj28 _ _ y507 t510 _ ?side1 ?side2 A59.out).mono ?_); (case side1 => repeat (first | exact (Kd.R_reads' HO509.out).2.2 | (with_reducible refine Kd.C_alloc ?_ _) | (with_reducible refine Kd.C_drewN ?_ _) | (with_reducible refine Kd.C_drew ?_))); (case side2 => exact (Kd.R_reads' HO509.out).2.1); rintro e w63 ⟨v511, rfl, ho0, hb⟩; refine ⟨_, rfl, ?_⟩; have n0_ := Aside0.mk (Kd.R_elder' (S.r HO509.out) (Kd.R_base ho0) hb); have n1_ := Aside0.mk (Kd.R_lower (Kd.R_new' ho0 (Kd.R_lt (S.r HO509.out))) (below_size (by repeat (first | (with_reducible first | exact HB.out | apply below_alloc | apply pw_below_drewN | apply below_drew1 | refine below_set ?_ GE467.out) | exact HB.out)))); have n2_ := Aside0.mk (blk_below (g := gb467) (o := .cells #[.slice none 0 0] 38 (0, 0)) (S.b BK467.out) hb); have n3_ := Aside0.mk (below_step (by repeat (first | (with_reducible first | exact HB.out | apply below_alloc | apply pw_below_drewN | apply below_drew1 | refine below_set ?_ GE467.out) | exact HB.out)) hb); clear HO509; clear BK467; clear HB; have HO509 := n0_; have HO512 := n1_; have BK467 := n2_; have HB := n3_; clear n0_ n1_ n2_ n3_; (try clear hb); (try clear hb2); (try clear hk); (try clear hi); (try clear ho0); obtain ⟨Ao64, co64, eo64⟩ := Kd.R_slice HO512.out; subst eo64; have hcz65_0 : w63.cell? ⟨gb467, 0, none⟩ = some (.slice none 0 0) := (blk_cell BK467.out 0).trans rfl; have hfz65_0 := blk_frozen BK467.out 0))
          refine bodyPost_ret (results_ct rfl _ _ gb467 38 #[.slice Ao64 t510.length co64] (0, 0) _ rfl (by (with_reducible repeat (first | refine blk_drewN ?_ _ | refine blk_drew ?_ | refine blk_alloc ?_ _)); refine blk_put (cs := #[.slice none 0 0]) ?_ 0 _ rfl; (with_reducible repeat (first | refine blk_drewN ?_ _ | refine blk_drew ?_ | refine blk_alloc ?_ _)); exact BK467.out) Try.underlying38 rfl (by kernel_rfl)) rfl ?_
          exact ⟨_, by first | rfl | (simp [errW_none, errW_some] <;> rfl) | (simp [*, errW_none, errW_some] <;> rfl), by (with_reducible repeat (first | apply Kd.R_alloc | apply Kd.R_drewN | apply Kd.R_drew)); exact Kd.R_mono (Kd.R_far (p := ⟨gb467, 0, none⟩) (Kd.R_types HO512.out BK467.out (by decide)) (fun _ hk => hk.2) (.slice Ao64 t510.length co64)) (fun _ hk => trivial), by repeat (first | (with_reducible first | exact HB.out | apply below_alloc | apply pw_below_drewN | apply below_drew1 | refine below_set ?_ GE467.out) | exact HB.out)⟩
         ·rw [if_neg c58] at H
          have c58b0 : (a0.toList == ([90] : List UInt8)) = false := beq_eq_false_iff_ne.mpr c58
          have c58b1 : (a0.toList != ([90] : List UInt8)) = true := bne_iff_ne.mpr c58
          by_cases c66 : a0.toList = ([67] : List UInt8)
          ·rw [if_pos c66] at H
           have c66b0 : (a0.toList == ([67] : List UInt8)) = true := beq_iff_eq.mpr c66
           have c66b1 : (a0.toList != ([67] : List UInt8)) = false := bne_eq_false_iff_eq.mpr c66
           clear c66
           obtain ⟨y513, hy513⟩ : ∃ y_ : List (S58), y_ = (([(⟨0, 31⟩ : S58), (⟨127, 159⟩ : S58)] : List (S58))) := ⟨_, rfl⟩
           replace H : ((rubricref7_Of.f kj28 y513).bind fun t516 => (some (t516, true))) = some (r1, r2) := by first | (rw [hy513]; with_reducible exact H) | (have H2_ := (Option.bind_some _ _).symm.trans H; rw [hy513]; with_reducible exact H2_) | (have H2_ := (Option.bind_some _ _).symm.trans H; with_reducible exact H2_) | with_reducible exact H | (rw [hy513]; exact H) | exact H
           have Ny513 := Aside0.mk hy513
           clear hy513
           replace H := Option.bind_eq_some_iff.mp H
           obtain ⟨t516, A670, H⟩ := H
           replace H : (some (t516, true)) = some (r1, r2) := H
           have A67 := Aside0.mk A670
           clear A670
           simp only [Option.some.injEq, Prod.mk.injEq] at H
           obtain ⟨rfl, rfl⟩ := H
           go_wp2_with (first | ((with_reducible refine gate_dst (N := 48) rfl ?_); refine Kd.R_lit k58 _ 58 ?hg (N := 48) ?hd (xs := ([(⟨0, 31⟩ : S58), (⟨127, 159⟩ : S58)] : List (S58))) (inner := [.int .i64 0, .int .i64 31, .int .i64 127, .int .i64 159]) (ok := fun _ => True) (okp := fun _ => True) ?hr ?hp (fun _ hk => hk) trivial (Below.refl _ _) (Nat.le_refl _) (by simp) ?_; (case hd => rfl); (case hg => rfl); (case hr => first | (go_simp; done) | (go_simp; rfl)); (case hp => exact (Reps.c2 (show Kd.M k58 _ _ _ (⟨0, 31⟩ : S58) [.int .i64 0, .int .i64 31] from (k58_mkM _ _ _ (⟨0, 31⟩ : S58) )) (Reps.c2 (show Kd.M k58 _ _ _ (⟨127, 159⟩ : S58) [.int .i64 127, .int .i64 159] from (k58_mkM _ _ _ (⟨127, 159⟩ : S58) )) (Reps.none _ _)))); intro v514 w68 ho69 hb hg_ hnew_; clear hg_ hnew_; (first | rw [← Ny513.out] at ho69 | (simp only [Int.reduceToNat] at ho69; rw [← Ny513.out] at ho69)); have n0_ := Aside0.mk (Kd.R_lower ho69 (below_size (by repeat (first | (with_reducible first | exact HB.out | apply below_alloc | apply pw_below_drewN | apply below_drew1 | refine below_set ?_ GE467.out) | exact HB.out)))); have n1_ := Aside0.mk (blk_below (g := gb467) (o := .cells #[.slice none 0 0] 38 (0, 0)) (S.b BK467.out) hb); have n2_ := Aside0.mk (below_step (by repeat (first | (with_reducible first | exact HB.out | apply below_alloc | apply pw_below_drewN | apply below_drew1 | refine below_set ?_ GE467.out) | exact HB.out)) hb); clear BK467; clear HB; have HO515 := n0_; have BK467 := n1_; have HB := n2_; clear n0_ n1_ n2_; clear hb ho69; obtain ⟨Ao70, co70, eo70⟩ := Kd.R_slice HO515.out; subst eo70) | ((with_reducible refine gate_callee (f := 38) rfl ?_); refine goesL_ (some 49) rfl rfl Try.func38 (by kernel_rfl) rfl #[.slice Ao70 y513.length co70] rfl (by (try simp only [List.map_toArray, List.map_cons, List.map_nil]); first | done | rfl | (simp only [List.length_drop, List.length_take]; rfl)) ?_; (with_reducible refine (rubricref7_Of.calls kj28 _ _ y513 t516 _ ?side1 ?side2 A67.out).mono ?_); (case side1 => repeat (first | exact (Kd.R_reads' HO515.out).2.2 | (with_reducible refine Kd.C_alloc ?_ _) | (with_reducible refine Kd.C_drewN ?_ _) | (with_reducible refine Kd.C_drew ?_))); (case side2 => exact (Kd.R_reads' HO515.out).2.1); rintro e w71 ⟨v517, rfl, ho0, hb⟩; refine ⟨_, rfl, ?_⟩; have n0_ := Aside0.mk (Kd.R_elder' (S.r HO515.out) (Kd.R_base ho0) hb); have n1_ := Aside0.mk (Kd.R_lower (Kd.R_new' ho0 (Kd.R_lt (S.r HO515.out))) (below_size (by repeat (first | (with_reducible first | exact HB.out | apply below_alloc | apply pw_below_drewN | apply below_drew1 | refine below_set ?_ GE467.out) | exact HB.out)))); have n2_ := Aside0.mk (blk_below (g := gb467) (o := .cells #[.slice none 0 0] 38 (0, 0)) (S.b BK467.out) hb); have n3_ := Aside0.mk (below_step (by repeat (first | (with_reducible first | exact HB.out | apply below_alloc | apply pw_below_drewN | apply below_drew1 | refine below_set ?_ GE467.out) | exact HB.out)) hb); clear HO515; clear BK467; clear HB; have HO515 := n0_; have HO518 := n1_; have BK467 := n2_; have HB := n3_; clear n0_ n1_ n2_ n3_; (try clear hb); (try clear hb2); (try clear hk); (try clear hi); (try clear ho0); obtain ⟨Ao72, co72, eo72⟩ := Kd.R_slice HO518.out; subst eo72; have hcz73_0 : w71.cell? ⟨gb467, 0, none⟩ = some (.slice none 0 0) := (blk_cell BK467.out 0).trans rfl; have hfz73_0 := blk_frozen BK467.out 0))
           refine bodyPost_ret (results_ct rfl _ _ gb467 38 #[.slice Ao72 t516.length co72] (0, 0) _ rfl (by (with_reducible repeat (first | refine blk_drewN ?_ _ | refine blk_drew ?_ | refine blk_alloc ?_ _)); refine blk_put (cs := #[.slice none 0 0]) ?_ 0 _ rfl; (with_reducible repeat (first | refine blk_drewN ?_ _ | refine blk_drew ?_ | refine blk_alloc ?_ _)); exact BK467.out) Try.underlying38 rfl (by kernel_rfl)) rfl ?_
           exact ⟨_, by first | rfl | (simp [errW_none, errW_some] <;> rfl) | (simp [*, errW_none, errW_some] <;> rfl), by (with_reducible repeat (first | apply Kd.R_alloc | apply Kd.R_drewN | apply Kd.R_drew)); exact Kd.R_mono (Kd.R_far (p := ⟨gb467, 0, none⟩) (Kd.R_types HO518.out BK467.out (by decide)) (fun _ hk => hk.2) (.slice Ao72 t516.length co72)) (fun _ hk => trivial), by repeat (first | (with_reducible first | exact HB.out | apply below_alloc | apply pw_below_drewN | apply below_drew1 | refine below_set ?_ GE467.out) | exact HB.out)⟩
          ·rw [if_neg c66] at H
           have c66b0 : (a0.toList == ([67] : List UInt8)) = false := beq_eq_false_iff_ne.mpr c66
           have c66b1 : (a0.toList != ([67] : List UInt8)) = true := bne_iff_ne.mpr c66
           simp only [Option.some.injEq, Prod.mk.injEq] at H
           obtain ⟨rfl, rfl⟩ := H
           have hcz74_0 : wc.cell? ⟨gb467, 0, none⟩ = some (.slice none 0 0) := (blk_cell BK467.out 0).trans rfl
           have hfz74_0 := blk_frozen BK467.out 0
           go_wp2
           refine bodyPost_ret (results_ct rfl _ _ gb467 38 #[.slice none 0 0] (0, 0) _ rfl (by (with_reducible repeat (first | refine blk_drewN ?_ _ | refine blk_drew ?_ | refine blk_alloc ?_ _)); refine blk_put (cs := #[.slice none 0 0]) ?_ 0 _ rfl; (with_reducible repeat (first | refine blk_drewN ?_ _ | refine blk_drew ?_ | refine blk_alloc ?_ _)); exact BK467.out) Try.underlying38 rfl (by kernel_rfl)) rfl ?_
           exact ⟨_, by first | rfl | (simp [errW_none, errW_some] <;> rfl) | (simp [*, errW_none, errW_some] <;> rfl), by first | exact Kd.R_nil _ _ _ _ _ | exact Kd.N_nil _ _ _ _ _ | exact Kd.V_nil _ _ _ _ _ | exact Kd.Q_nil _ _ _ _ _ | exact Kd.S_nil _ _ _ _ _, by repeat (first | (with_reducible first | exact HB.out | apply below_alloc | apply pw_below_drewN | apply below_drew1 | refine below_set ?_ GE467.out) | exact HB.out)⟩

/-! ### rubricref7_starts: function 39 -/
def rubricref7_starts.f  : Option ((List (S58))) := some (([(⟨58, 58⟩ : S58), (⟨65, 90⟩ : S58), (⟨95, 95⟩ : S58), (⟨97, 122⟩ : S58), (⟨192, 214⟩ : S58), (⟨216, 246⟩ : S58), (⟨248, 55295⟩ : S58), (⟨57344, 65533⟩ : S58), (⟨65536, 1114111⟩ : S58)] : List (S58)))
set_option maxHeartbeats 8000000 in
set_option maxRecDepth 100000 in
theorem rubricref7_starts.calls  (r : List (S58)) (w : World) (h : rubricref7_starts.f  = some r) :
  Calls Try.prog 39 #[] w fun e w' => ∃ v0_ : Value, e = .returned (v0_) ∧ Kd.R k58 58 w' w.heap.size (fun _ => True) v0_ r ∧ Below w.heap.size w w' := by
 have hu58 := Try.underlying58
 have HB := Aside0.mk (Below.refl w.heap.size w)
 have H : (some (([(⟨58, 58⟩ : S58), (⟨65, 90⟩ : S58), (⟨95, 95⟩ : S58), (⟨97, 122⟩ : S58), (⟨192, 214⟩ : S58), (⟨216, 246⟩ : S58), (⟨248, 55295⟩ : S58), (⟨57344, 65533⟩ : S58), (⟨65536, 1114111⟩ : S58)] : List (S58)))) = some r := h
 clear h
 obtain ⟨y519, hy519⟩ : ∃ y_ : List (S58), y_ = (([(⟨58, 58⟩ : S58), (⟨65, 90⟩ : S58), (⟨95, 95⟩ : S58), (⟨97, 122⟩ : S58), (⟨192, 214⟩ : S58), (⟨216, 246⟩ : S58), (⟨248, 55295⟩ : S58), (⟨57344, 65533⟩ : S58), (⟨65536, 1114111⟩ : S58)] : List (S58))) := ⟨_, rfl⟩
 replace H : (some y519) = some r := by first | (rw [hy519]; with_reducible exact H) | (have H2_ := (Option.bind_some _ _).symm.trans H; rw [hy519]; with_reducible exact H2_) | (have H2_ := (Option.bind_some _ _).symm.trans H; with_reducible exact H2_) | with_reducible exact H | (rw [hy519]; exact H) | exact H
 have Ny519 := Aside0.mk hy519
 clear hy519
 obtain rfl := Option.some.inj H
 go_enter Try.func39, Try.ntmps39
 go_wp2_with (first | ((with_reducible refine gate_dst (N := 10) rfl ?_); refine Kd.R_lit k58 _ 58 ?hg (N := 10) ?hd (xs := ([(⟨58, 58⟩ : S58), (⟨65, 90⟩ : S58), (⟨95, 95⟩ : S58), (⟨97, 122⟩ : S58), (⟨192, 214⟩ : S58), (⟨216, 246⟩ : S58), (⟨248, 55295⟩ : S58), (⟨57344, 65533⟩ : S58), (⟨65536, 1114111⟩ : S58)] : List (S58))) (inner := [.int .i64 58, .int .i64 58, .int .i64 65, .int .i64 90, .int .i64 95, .int .i64 95, .int .i64 97, .int .i64 122, .int .i64 192, .int .i64 214, .int .i64 216, .int .i64 246, .int .i64 248, .int .i64 55295, .int .i64 57344, .int .i64 65533, .int .i64 65536, .int .i64 1114111]) (ok := fun _ => True) (okp := fun _ => True) ?hr ?hp (fun _ hk => hk) trivial (Below.refl _ _) (Nat.le_refl _) (by simp) ?_; (case hd => rfl); (case hg => rfl); (case hr => first | (go_simp; done) | (go_simp; rfl)); (case hp => exact (Reps.c2 (show Kd.M k58 _ _ _ (⟨58, 58⟩ : S58) [.int .i64 58, .int .i64 58] from (k58_mkM _ _ _ (⟨58, 58⟩ : S58) )) (Reps.c2 (show Kd.M k58 _ _ _ (⟨65, 90⟩ : S58) [.int .i64 65, .int .i64 90] from (k58_mkM _ _ _ (⟨65, 90⟩ : S58) )) (Reps.c2 (show Kd.M k58 _ _ _ (⟨95, 95⟩ : S58) [.int .i64 95, .int .i64 95] from (k58_mkM _ _ _ (⟨95, 95⟩ : S58) )) (Reps.c2 (show Kd.M k58 _ _ _ (⟨97, 122⟩ : S58) [.int .i64 97, .int .i64 122] from (k58_mkM _ _ _ (⟨97, 122⟩ : S58) )) (Reps.c2 (show Kd.M k58 _ _ _ (⟨192, 214⟩ : S58) [.int .i64 192, .int .i64 214] from (k58_mkM _ _ _ (⟨192, 214⟩ : S58) )) (Reps.c2 (show Kd.M k58 _ _ _ (⟨216, 246⟩ : S58) [.int .i64 216, .int .i64 246] from (k58_mkM _ _ _ (⟨216, 246⟩ : S58) )) (Reps.c2 (show Kd.M k58 _ _ _ (⟨248, 55295⟩ : S58) [.int .i64 248, .int .i64 55295] from (k58_mkM _ _ _ (⟨248, 55295⟩ : S58) )) (Reps.c2 (show Kd.M k58 _ _ _ (⟨57344, 65533⟩ : S58) [.int .i64 57344, .int .i64 65533] from (k58_mkM _ _ _ (⟨57344, 65533⟩ : S58) )) (Reps.c2 (show Kd.M k58 _ _ _ (⟨65536, 1114111⟩ : S58) [.int .i64 65536, .int .i64 1114111] from (k58_mkM _ _ _ (⟨65536, 1114111⟩ : S58) )) (Reps.none _ _))))))))))); intro v520 w1 ho2 hb hg_ hnew_; clear hg_ hnew_; (first | rw [← Ny519.out] at ho2 | (simp only [Int.reduceToNat] at ho2; rw [← Ny519.out] at ho2)); have n0_ := Aside0.mk (Kd.R_lower ho2 (below_size (by repeat (first | (with_reducible first | exact HB.out | apply below_alloc | apply pw_below_drewN | apply below_drew1) | exact HB.out)))); have n1_ := Aside0.mk (below_step (by repeat (first | (with_reducible first | exact HB.out | apply below_alloc | apply pw_below_drewN | apply below_drew1) | exact HB.out)) hb); clear HB; have HO521 := n0_; have HB := n1_; clear n0_ n1_; clear hb ho2))
 go_ret
 exact ⟨_, by first | rfl | (simp [errW_none, errW_some] <;> rfl) | (simp [*, errW_none, errW_some] <;> rfl), S.r HO521.out, by repeat (first | (with_reducible first | exact HB.out | apply below_alloc | apply pw_below_drewN | apply below_drew1) | exact HB.out)⟩

/-! ### rubricref7_Union: function 40 -/
def rubricref7_Union.f (k : Nat) (l0_0 : List (S58)) (l1_0 : List (S58)) : Option ((List (S58))) := (some (([] : List (S58)) : List (S58))).bind fun y525 => (if y525.length + l0_0.length < 8796093022208 then ((some (y525 ++ l0_0 : List (S58))).bind fun y528 => (if y528.length + l1_0.length < 8796093022208 then ((rubricref7_Of.f k (y528 ++ l1_0)).bind fun t534 => (some t534)) else (none))) else (none))
theorem rubricref7_Union.mono : ∀ a0 a1 k, LeO (rubricref7_Union.f k a0 a1) (rubricref7_Union.f (k + 1) a0 a1) := by
 intro a0 a1 k
 unfold rubricref7_Union.f
 repeat' first
   | (with_reducible exact rubricref7_Of.mono _ _)
   | (with_reducible exact LeO.refl _)
   | (with_reducible exact LeO.none _)
   | (with_reducible refine LeO.ite ?_ ?_)
   | (with_reducible refine LeO.bind ?_ (fun _ => ?_))
   | exact rubricref7_Of.mono _ _
   | exact LeO.none _
   | refine LeO.ite ?_ ?_
   | refine LeO.bind ?_ (fun _ => ?_)
def rubricref7_Union.T1 : Bool × List (List Nat × List Nat) := (true, [([], []), ([], []), ([1], [1]), ([0, 2], [0, 2]), ([], []), ([4], [4]), ([3, 5, 3], [3, 5]), ([6, 6], [6]), ([7, 7, 0, 1, 2, 3, 4, 5, 6, 7], [7])])
def rubricref7_Union.B1 : List Nat := [0, 0, 2, 7, 0, 16, 63, 127, 255]
theorem rubricref7_Union.tab1 : rtab .any (opsOf Try.f40 1) = rubricref7_Union.T1 := by kernel_rfl
theorem rubricref7_Union.bits1 : waitsOk rubricref7_Union.T1.2 rubricref7_Union.B1 = true := by kernel_rfl
set_option maxHeartbeats 8000000 in
set_option maxRecDepth 100000 in
theorem rubricref7_Union.calls (k : Nat) (A0_0 : Option Addr) (c0_0 : Nat) (l0_0 : List (S58)) (A1_0 : Option Addr) (c1_0 : Nat) (l1_0 : List (S58)) (r : List (S58)) (w : World) (hr0_0 : Kd.C k58 w A0_0 l0_0.length l0_0) (hc0_0 : l0_0.length ≤ c0_0) (hr1_0 : Kd.C k58 w A1_0 l1_0.length l1_0) (hc1_0 : l1_0.length ≤ c1_0) (h : rubricref7_Union.f k l0_0 l1_0 = some r) :
  Calls Try.prog 40 #[.agg #[.slice A0_0 l0_0.length c0_0], .agg #[.slice A1_0 l1_0.length c1_0]] w fun e w' => ∃ v0_ : Value, e = .returned (.agg #[v0_]) ∧ Kd.R k58 58 w' w.heap.size (fun _ => True) v0_ r ∧ Below w.heap.size w w' := by
 have hu38 := Try.underlying38
 have HR0_0 := Aside0.mk hr0_0
 have HC0_0 := Aside0.mk hc0_0
 clear hr0_0 hc0_0
 have HR1_0 := Aside0.mk hr1_0
 have HC1_0 := Aside0.mk hc1_0
 clear hr1_0 hc1_0
 have HB := Aside0.mk (Below.refl w.heap.size w)
 have H : ((some (([] : List (S58)) : List (S58))).bind fun y525 => (if y525.length + l0_0.length < 8796093022208 then ((some (y525 ++ l0_0 : List (S58))).bind fun y528 => (if y528.length + l1_0.length < 8796093022208 then ((rubricref7_Of.f k (y528 ++ l1_0)).bind fun t534 => (some t534)) else (none))) else (none))) = some r := h
 clear h
 obtain ⟨y525, hy525⟩ : ∃ y_ : List (S58), y_ = (([] : List (S58))) := ⟨_, rfl⟩
 replace H : (if y525.length + l0_0.length < 8796093022208 then ((some (y525 ++ l0_0 : List (S58))).bind fun y528 => (if y528.length + l1_0.length < 8796093022208 then ((rubricref7_Of.f k (y528 ++ l1_0)).bind fun t534 => (some t534)) else (none))) else (none)) = some r := by first | (rw [hy525]; with_reducible exact H) | (have H2_ := (Option.bind_some _ _).symm.trans H; rw [hy525]; with_reducible exact H2_) | (have H2_ := (Option.bind_some _ _).symm.trans H; with_reducible exact H2_) | with_reducible exact H | (rw [hy525]; exact H) | exact H
 have Ny525 := Aside0.mk hy525
 clear hy525
 by_cases c3 : y525.length + l0_0.length < 8796093022208
 ·rw [if_pos c3] at H
  have LMc3 := Aside0.mk c3
  clear c3
  obtain ⟨y528, hy528⟩ : ∃ y_ : List (S58), y_ = (y525 ++ l0_0) := ⟨_, rfl⟩
  replace H : (if y528.length + l1_0.length < 8796093022208 then ((rubricref7_Of.f k (y528 ++ l1_0)).bind fun t534 => (some t534)) else (none)) = some r := by first | (rw [hy528]; with_reducible exact H) | (have H2_ := (Option.bind_some _ _).symm.trans H; rw [hy528]; with_reducible exact H2_) | (have H2_ := (Option.bind_some _ _).symm.trans H; with_reducible exact H2_) | with_reducible exact H | (rw [hy528]; exact H) | exact H
  have Ny528 := Aside0.mk hy528
  clear hy528
  by_cases c4 : y528.length + l1_0.length < 8796093022208
  ·rw [if_pos c4] at H
   have LMc4 := Aside0.mk c4
   clear c4
   obtain ⟨y531, hy531⟩ : ∃ y_ : List (S58), y_ = (y528 ++ l1_0) := ⟨_, rfl⟩
   replace H : ((rubricref7_Of.f k y531).bind fun t534 => (some t534)) = some r := by first | (rw [hy531]; with_reducible exact H) | (have H2_ := (Option.bind_some _ _).symm.trans H; rw [hy531]; with_reducible exact H2_) | (have H2_ := (Option.bind_some _ _).symm.trans H; with_reducible exact H2_) | with_reducible exact H | (rw [hy531]; exact H) | exact H
   have Ny531 := Aside0.mk hy531
   clear hy531
   replace H := Option.bind_eq_some_iff.mp H
   obtain ⟨t534, A50, H⟩ := H
   replace H : (some t534) = some r := H
   have A5 := Aside0.mk A50
   clear A50
   obtain rfl := Option.some.inj H
   go_enter Try.func40, Try.ntmps40
   try go_wp2_with (first | ((with_reducible refine gate_dst (N := 2) rfl ?_); refine box_event ?hg (N := 2) ?hd (cs := #[.slice A0_0 l0_0.length c0_0]) (t := 38) ?hr ?_; (case hd => rfl); (case hg => rfl); (case hr => first | (go_simp; done) | (go_simp; rfl)); intro gb522 hg w6 hbox hb; have n0_ := Aside0.mk (below_step (by repeat (first | (with_reducible first | exact HB.out | apply below_alloc | apply pw_below_drewN | apply below_drew1) | exact HB.out)) hb); have n1_ := Aside0.mk (hbox); have n2_ := Aside0.mk ((by rw [hg]; exact (below_size (by repeat (first | (with_reducible first | exact HB.out | apply below_alloc | apply pw_below_drewN | apply below_drew1) | exact HB.out))) : w.heap.size ≤ gb522)); have n3_ := Aside0.mk ((by rw [hg]; exact (below_size (by repeat (first | (with_reducible first | exact HB.out | apply below_alloc | apply pw_below_drewN | apply below_drew1) | exact HB.out))) : w.heap.size ≤ gb522)); clear HB; have HB := n0_; have BK522 := n1_; have GW522 := n2_; have GE522 := n3_; clear n0_ n1_ n2_ n3_; clear hb hbox hg) | ((with_reducible refine gate_dst (N := 3) rfl ?_); refine box_event ?hg (N := 3) ?hd (cs := #[.slice A1_0 l1_0.length c1_0]) (t := 38) ?hr ?_; (case hd => rfl); (case hg => rfl); (case hr => first | (go_simp; done) | (go_simp; rfl)); intro gb523 hg w7 hbox hb; have n0_ := Aside0.mk (blk_below (g := gb522) (o := .cells #[.slice A0_0 l0_0.length c0_0] 38 (0, 0)) (S.b BK522.out) hb); have n1_ := Aside0.mk (below_step (by repeat (first | (with_reducible first | exact HB.out | apply below_alloc | apply pw_below_drewN | apply below_drew1 | refine below_set ?_ GE522.out) | exact HB.out)) hb); have n2_ := Aside0.mk (hbox); have n3_ := Aside0.mk ((by rw [hg]; exact (below_size (by repeat (first | (with_reducible first | exact HB.out | apply below_alloc | apply pw_below_drewN | apply below_drew1 | refine below_set ?_ GE522.out) | exact HB.out))) : w.heap.size ≤ gb523)); have n4_ := Aside0.mk ((by rw [hg]; exact (below_size (by repeat (first | (with_reducible first | exact HB.out | apply below_alloc | apply pw_below_drewN | apply below_drew1 | refine below_set ?_ GE522.out) | exact HB.out))) : w.heap.size ≤ gb523)); have n5_ := Aside0.mk ((by rw [hg]; exact Nat.ne_of_lt (blk_lt (g := gb522) (o := .cells #[.slice A0_0 l0_0.length c0_0] 38 (0, 0)) (S.b BK522.out)) : gb522 ≠ gb523)); have n6_ := Aside0.mk ((by rw [hg]; exact Nat.ne_of_gt (blk_lt (g := gb522) (o := .cells #[.slice A0_0 l0_0.length c0_0] 38 (0, 0)) (S.b BK522.out)) : gb523 ≠ gb522)); clear BK522; clear HB; have BK522 := n0_; have HB := n1_; have BK523 := n2_; have GW523 := n3_; have GE523 := n4_; have NB522_523 := n5_; have NB523_522 := n6_; clear n0_ n1_ n2_ n3_ n4_ n5_ n6_; clear hb hbox hg) | ((with_reducible refine gate_dst (N := 4) rfl ?_); refine box_event ?hg (N := 4) ?hd (cs := #[.slice none 0 0]) (t := 38) ?hr ?_; (case hd => rfl); (case hg => rfl); (case hr => first | (go_simp; done) | (go_simp; rfl)); intro gb524 hg w8 hbox hb; have n0_ := Aside0.mk (blk_below (g := gb522) (o := .cells #[.slice A0_0 l0_0.length c0_0] 38 (0, 0)) (S.b BK522.out) hb); have n1_ := Aside0.mk (blk_below (g := gb523) (o := .cells #[.slice A1_0 l1_0.length c1_0] 38 (0, 0)) (S.b BK523.out) hb); have n2_ := Aside0.mk (below_step (by repeat (first | (with_reducible first | exact HB.out | apply below_alloc | apply pw_below_drewN | apply below_drew1 | refine below_set ?_ GE522.out | refine below_set ?_ GE523.out) | exact HB.out)) hb); have n3_ := Aside0.mk (hbox); have n4_ := Aside0.mk ((by rw [hg]; exact (below_size (by repeat (first | (with_reducible first | exact HB.out | apply below_alloc | apply pw_below_drewN | apply below_drew1 | refine below_set ?_ GE522.out | refine below_set ?_ GE523.out) | exact HB.out))) : w.heap.size ≤ gb524)); have n5_ := Aside0.mk ((by rw [hg]; exact (below_size (by repeat (first | (with_reducible first | exact HB.out | apply below_alloc | apply pw_below_drewN | apply below_drew1 | refine below_set ?_ GE522.out | refine below_set ?_ GE523.out) | exact HB.out))) : w.heap.size ≤ gb524)); have n6_ := Aside0.mk ((by rw [hg]; exact Nat.ne_of_lt (blk_lt (g := gb522) (o := .cells #[.slice A0_0 l0_0.length c0_0] 38 (0, 0)) (S.b BK522.out)) : gb522 ≠ gb524)); have n7_ := Aside0.mk ((by rw [hg]; exact Nat.ne_of_gt (blk_lt (g := gb522) (o := .cells #[.slice A0_0 l0_0.length c0_0] 38 (0, 0)) (S.b BK522.out)) : gb524 ≠ gb522)); have n8_ := Aside0.mk ((by rw [hg]; exact Nat.ne_of_lt (blk_lt (g := gb523) (o := .cells #[.slice A1_0 l1_0.length c1_0] 38 (0, 0)) (S.b BK523.out)) : gb523 ≠ gb524)); have n9_ := Aside0.mk ((by rw [hg]; exact Nat.ne_of_gt (blk_lt (g := gb523) (o := .cells #[.slice A1_0 l1_0.length c1_0] 38 (0, 0)) (S.b BK523.out)) : gb524 ≠ gb523)); clear BK522; clear BK523; clear HB; have BK522 := n0_; have BK523 := n1_; have HB := n2_; have BK524 := n3_; have GW524 := n4_; have GE524 := n5_; have NB522_524 := n6_; have NB524_522 := n7_; have NB523_524 := n8_; have NB524_523 := n9_; clear n0_ n1_ n2_ n3_ n4_ n5_ n6_ n7_ n8_ n9_; clear hb hbox hg))
   have n0_ := Aside0.mk (blk_drew BK522.out)
   have n1_ := Aside0.mk (blk_drew BK523.out)
   have n2_ := Aside0.mk (blk_drew BK524.out)
   have n3_ := Aside0.mk (below_drew1 HB.out)
   clear BK522
   clear BK523
   clear BK524
   clear HB
   have BK522 := n0_
   have BK523 := n1_
   have BK524 := n2_
   have HB := n3_
   clear n0_ n1_ n2_ n3_
   refine start_ (n := 9) (S := fun w' => w'.cell? ⟨gb522, 0, none⟩ = some (.slice A0_0 l0_0.length c0_0) ∧ w'.cell? ⟨gb523, 0, none⟩ = some (.slice A1_0 l1_0.length c1_0)) (ds := []) #[false, false, false, false, false, false, false, false, false] (by kernel_rfl) rfl rfl ⟨(blk_cell BK522.out 0).trans rfl, (blk_cell BK523.out 0).trans rfl⟩ (fun hHeld => ?_); refine with_tabW rubricref7_Union.tab1 rubricref7_Union.bits1 (fun HT_ HW_ => ?_)
   generalize w8.drew = w9 at BK522 BK523 BK524 HB hHeld ⊢
   refine pure_ (i := 1) (N := some 6) (v := ?_) (a' := ?_) #[false, true, false, false, false, false, false, false, false] rfl rfl (any_of HT_.out (by kernel_rfl)) (fun _ _ _ h => h) (Or.inl ⟨by rfl, ?_⟩) ?_ ?_
   rotate_left
   ·intro w'
    go_simp
    with_reducible rfl
   rotate_left
   ·simp only [Act.put, List.setIfInBounds_toArray, List.set_cons_zero, List.set_cons_succ, i64_w, i32_w]
    rfl
   refine pure_ (i := 4) (N := some 9) (v := ?_) (a' := ?_) #[false, true, false, false, true, false, false, false, false] rfl rfl (any_of HT_.out (by kernel_rfl)) (fun _ _ _ h => h) (Or.inl ⟨by rfl, ?_⟩) ?_ ?_
   rotate_left
   ·intro w'
    go_simp
    with_reducible rfl
   rotate_left
   ·simp only [Act.put, List.setIfInBounds_toArray, List.set_cons_zero, List.set_cons_succ, i64_w, i32_w]
    rfl
   refine take_ (i := 2) (N := some 7) (v := ?_) (a' := ?_) #[false, true, true, false, true, false, false, false, false] rfl rfl (take_ofW HT_.out HW_.out (by kernel_rfl)) (fun _ _ _ h => h) (Or.inl ⟨by rfl, ?_⟩) hHeld ?_ ?_
   rotate_left
   ·rintro w' ⟨s0, s1⟩
    go_simp
    with_reducible rfl
   rotate_left
   ·simp only [Act.put, List.setIfInBounds_toArray, List.set_cons_zero, List.set_cons_succ, i64_w, i32_w]
    rfl
   refine take_ (i := 5) (N := some 10) (v := ?_) (a' := ?_) #[false, true, true, false, true, true, false, false, false] rfl rfl (take_ofW HT_.out HW_.out (by kernel_rfl)) (fun _ _ _ h => h) (Or.inl ⟨by rfl, ?_⟩) hHeld ?_ ?_
   rotate_left
   ·rintro w' ⟨s0, s1⟩
    go_simp
    with_reducible rfl
   rotate_left
   ·simp only [Act.put, List.setIfInBounds_toArray, List.set_cons_zero, List.set_cons_succ, i64_w, i32_w]
    rfl
   refine one_ (i := 0) (N := some 5) #[true, true, true, false, true, true, false, false, false] rfl rfl (one_of HT_.out (by kernel_rfl)) (by decide) (fun K hK => ?_)
   refine Kd.R_lit_step k58 _ 58 ?hg (N := 5) ?hd (xs := ([] : List (S58))) (inner := []) (ok := fun _ => True) (okp := fun _ => True) ?hr ?hp (fun _ hk => hk) trivial (Below.refl _ _) (Nat.le_refl _) (by simp) ?_; (case hd => rfl); (case hg => rfl); (case hr => first | (go_simp; done) | (go_simp; rfl)); (case hp => exact (Reps.none _ _))
   intro v526 w10 ho11 hb hg_ hnew_
   clear hg_ hnew_
   (first | rw [← Ny525.out] at ho11 | (simp only [Int.reduceToNat] at ho11; rw [← Ny525.out] at ho11))
   have n0_ := Aside0.mk (Kd.R_lower ho11 (below_size (by repeat (first | (with_reducible first | exact HB.out | apply below_alloc | apply pw_below_drewN | apply below_drew1 | refine below_set ?_ GE522.out | refine below_set ?_ GE523.out | refine below_set ?_ GE524.out) | exact HB.out))))
   have n1_ := Aside0.mk (blk_below (g := gb522) (o := .cells #[.slice A0_0 l0_0.length c0_0] 38 (0, 0)) (S.b BK522.out) hb)
   have n2_ := Aside0.mk (blk_below (g := gb523) (o := .cells #[.slice A1_0 l1_0.length c1_0] 38 (0, 0)) (S.b BK523.out) hb)
   have n3_ := Aside0.mk (blk_below (g := gb524) (o := .cells #[.slice none 0 0] 38 (0, 0)) (S.b BK524.out) hb)
   have n4_ := Aside0.mk (below_step (by repeat (first | (with_reducible first | exact HB.out | apply below_alloc | apply pw_below_drewN | apply below_drew1 | refine below_set ?_ GE522.out | refine below_set ?_ GE523.out | refine below_set ?_ GE524.out) | exact HB.out)) hb)
   clear BK522
   clear BK523
   clear BK524
   clear HB
   have HO527 := n0_
   have BK522 := n1_
   have BK523 := n2_
   have BK524 := n3_
   have HB := n4_
   clear n0_ n1_ n2_ n3_ n4_
   clear hb ho11
   refine hK.out _ _ ⟨(blk_cell BK522.out 0).trans rfl, (blk_cell BK523.out 0).trans rfl⟩ (fun hHeld => ?_)
   clear hK K
   refine norm_ (a' := ?_) ?_ ?_
   rotate_left
   ·show Act.put _ (some 5) _ = _
    simp only [Act.put, List.setIfInBounds_toArray, List.set_cons_zero, List.set_cons_succ, i64_w, i32_w]
    rfl
   refine one_ (i := 3) (N := some 8) #[true, true, true, true, true, true, false, false, false] rfl rfl (one_of HT_.out (by kernel_rfl)) (by decide) (fun K hK => ?_)
   refine Kd.R_append_rows_step k58 (w0 := w) w.heap.size (by rfl) (.tmp 5) (.tmp 7) 36 58 (.agg #[(.int .i64 0), (.int .i64 0)]) 16 rfl Try.underlying36 info58 rfl (by decide) (by omega) v526 y525 l0_0 _ _ _ (fun _ => True) (fun _ => False) rfl rfl ?aO ?aR (fun _ _ h => h) (fun _ h => h.elim) ?aF ?aB ?aS ?aL ?_
   (case aR => repeat (first | exact (Kd.C_below HR0_0.out HB.out) | (with_reducible refine Kd.C_alloc ?_ _) | (with_reducible refine Kd.C_drewN ?_ _) | (with_reducible refine Kd.C_drew ?_)))
   (case aB => exact (by repeat (first | (with_reducible first | exact HB.out | apply below_alloc | apply pw_below_drewN | apply below_drew1 | refine below_set ?_ GE522.out | refine below_set ?_ GE523.out | refine below_set ?_ GE524.out) | exact HB.out)))
   (case aF => exact (fun _ _ => trivial))
   (case aO => exact (S.r HO527.out))
   (case aS => exact (below_size (by repeat (first | (with_reducible first | exact HB.out | apply below_alloc | apply pw_below_drewN | apply below_drew1 | refine below_set ?_ GE522.out | refine below_set ?_ GE523.out | refine below_set ?_ GE524.out) | exact HB.out))))
   (case aL => have := LMc3.out; omega)
   intro v529 w12 ho hb hg hat
   rw [← Ny528.out] at ho
   have n0_ := Aside0.mk (blk_grown (g := gb522) (o := .cells #[.slice A0_0 l0_0.length c0_0] 38 (0, 0)) (S.b BK522.out) hg (Kd.R_ne HO527.out BK522.out (by decide)))
   have n1_ := Aside0.mk (blk_grown (g := gb523) (o := .cells #[.slice A1_0 l1_0.length c1_0] 38 (0, 0)) (S.b BK523.out) hg (Kd.R_ne HO527.out BK523.out (by decide)))
   have n2_ := Aside0.mk (blk_grown (g := gb524) (o := .cells #[.slice none 0 0] 38 (0, 0)) (S.b BK524.out) hg (Kd.R_ne HO527.out BK524.out (by decide)))
   have n3_ := Aside0.mk (hb)
   have n4_ := Aside0.mk (ho)
   clear BK522
   clear BK523
   clear BK524
   clear HB
   clear HO527
   have BK522 := n0_
   have BK523 := n1_
   have BK524 := n2_
   have HB := n3_
   have HO530 := n4_
   clear n0_ n1_ n2_ n3_ n4_
   clear ho hb hg hat
   refine hK.out _ _ ⟨(blk_cell BK522.out 0).trans rfl, (blk_cell BK523.out 0).trans rfl⟩ (fun hHeld => ?_)
   clear hK K
   refine norm_ (a' := ?_) ?_ ?_
   rotate_left
   ·show Act.put _ (some 8) _ = _
    simp only [Act.put, List.setIfInBounds_toArray, List.set_cons_zero, List.set_cons_succ, i64_w, i32_w]
    rfl
   refine one_ (i := 6) (N := some 11) #[true, true, true, true, true, true, true, false, false] rfl rfl (one_of HT_.out (by kernel_rfl)) (by decide) (fun K hK => ?_)
   refine Kd.R_append_rows_step k58 (w0 := w) w.heap.size (by rfl) (.tmp 8) (.tmp 10) 36 58 (.agg #[(.int .i64 0), (.int .i64 0)]) 16 rfl Try.underlying36 info58 rfl (by decide) (by omega) v529 y528 l1_0 _ _ _ (fun _ => True) (fun _ => False) rfl rfl ?aO ?aR (fun _ _ h => h) (fun _ h => h.elim) ?aF ?aB ?aS ?aL ?_
   (case aR => repeat (first | exact (Kd.C_below HR1_0.out HB.out) | (with_reducible refine Kd.C_alloc ?_ _) | (with_reducible refine Kd.C_drewN ?_ _) | (with_reducible refine Kd.C_drew ?_)))
   (case aB => exact (by repeat (first | (with_reducible first | exact HB.out | apply below_alloc | apply pw_below_drewN | apply below_drew1 | refine below_set ?_ GE522.out | refine below_set ?_ GE523.out | refine below_set ?_ GE524.out) | exact HB.out)))
   (case aF => exact (fun _ _ => trivial))
   (case aO => exact (S.r HO530.out))
   (case aS => exact (below_size (by repeat (first | (with_reducible first | exact HB.out | apply below_alloc | apply pw_below_drewN | apply below_drew1 | refine below_set ?_ GE522.out | refine below_set ?_ GE523.out | refine below_set ?_ GE524.out) | exact HB.out))))
   (case aL => have := LMc4.out; omega)
   intro v532 w13 ho hb hg hat
   rw [← Ny531.out] at ho
   have n0_ := Aside0.mk (blk_grown (g := gb522) (o := .cells #[.slice A0_0 l0_0.length c0_0] 38 (0, 0)) (S.b BK522.out) hg (Kd.R_ne HO530.out BK522.out (by decide)))
   have n1_ := Aside0.mk (blk_grown (g := gb523) (o := .cells #[.slice A1_0 l1_0.length c1_0] 38 (0, 0)) (S.b BK523.out) hg (Kd.R_ne HO530.out BK523.out (by decide)))
   have n2_ := Aside0.mk (blk_grown (g := gb524) (o := .cells #[.slice none 0 0] 38 (0, 0)) (S.b BK524.out) hg (Kd.R_ne HO530.out BK524.out (by decide)))
   have n3_ := Aside0.mk (hb)
   have n4_ := Aside0.mk (ho)
   clear BK522
   clear BK523
   clear BK524
   clear HB
   clear HO530
   have BK522 := n0_
   have BK523 := n1_
   have BK524 := n2_
   have HB := n3_
   have HO533 := n4_
   clear n0_ n1_ n2_ n3_ n4_
   clear ho hb hg hat
   obtain ⟨Ao14, co14, eo14⟩ := Kd.R_slice HO533.out
   (first | subst eo14 | (injection eo14 with f1_ f2_ f3_; have f4_ := f1_.symm; have f5_ := f3_.symm; clear f1_ f2_ f3_; subst f4_; subst f5_))
   refine hK.out _ _ ⟨(blk_cell BK522.out 0).trans rfl, (blk_cell BK523.out 0).trans rfl⟩ (fun hHeld => ?_)
   clear hK K
   refine norm_ (a' := ?_) ?_ ?_
   rotate_left
   ·show Act.put _ (some 11) _ = _
    simp only [Act.put, List.setIfInBounds_toArray, List.set_cons_zero, List.set_cons_succ, i64_w, i32_w]
    rfl
   refine one_ (i := 7) (N := some 12) #[true, true, true, true, true, true, true, true, false] rfl rfl (one_of HT_.out (by kernel_rfl)) (by decide) (fun K hK => ?_)
   refine goes_ Try.func38 (by kernel_rfl) rfl #[.slice Ao14 y531.length co14] (by rfl) rfl rfl (by (try simp only [List.map_toArray, List.map_cons, List.map_nil]); first | done | rfl | (simp only [List.length_drop, List.length_take]; rfl)) ?_
   with_reducible refine (rubricref7_Of.calls k _ _ y531 t534 _ ?side1 ?side2 A5.out).mono ?_
   (case side1 => repeat (first | exact (Kd.R_reads' HO533.out).2.2 | (with_reducible refine Kd.C_alloc ?_ _) | (with_reducible refine Kd.C_drewN ?_ _) | (with_reducible refine Kd.C_drew ?_)))
   (case side2 => exact (Kd.R_reads' HO533.out).2.1)
   rintro e w15 ⟨v535, rfl, ho0, hb⟩
   refine ⟨_, rfl, ?_⟩
   have n0_ := Aside0.mk (Kd.R_elder' (S.r HO533.out) (Kd.R_base ho0) hb)
   have n1_ := Aside0.mk (Kd.R_lower (Kd.R_new' ho0 (Kd.R_lt (S.r HO533.out))) (below_size (by repeat (first | (with_reducible first | exact HB.out | apply below_alloc | apply pw_below_drewN | apply below_drew1 | refine below_set ?_ GE522.out | refine below_set ?_ GE523.out | refine below_set ?_ GE524.out) | exact HB.out))))
   have n2_ := Aside0.mk (blk_below (g := gb522) (o := .cells #[.slice A0_0 l0_0.length c0_0] 38 (0, 0)) (S.b BK522.out) hb)
   have n3_ := Aside0.mk (blk_below (g := gb523) (o := .cells #[.slice A1_0 l1_0.length c1_0] 38 (0, 0)) (S.b BK523.out) hb)
   have n4_ := Aside0.mk (blk_below (g := gb524) (o := .cells #[.slice none 0 0] 38 (0, 0)) (S.b BK524.out) hb)
   have n5_ := Aside0.mk (below_step (by repeat (first | (with_reducible first | exact HB.out | apply below_alloc | apply pw_below_drewN | apply below_drew1 | refine below_set ?_ GE522.out | refine below_set ?_ GE523.out | refine below_set ?_ GE524.out) | exact HB.out)) hb)
   clear HO533
   clear BK522
   clear BK523
   clear BK524
   clear HB
   have HO533 := n0_
   have HO536 := n1_
   have BK522 := n2_
   have BK523 := n3_
   have BK524 := n4_
   have HB := n5_
   clear n0_ n1_ n2_ n3_ n4_ n5_
   (try clear hb)
   (try clear hb2)
   (try clear hk)
   (try clear hi)
   (try clear ho0)
   obtain ⟨Ao16, co16, eo16⟩ := Kd.R_slice HO536.out
   (first | subst eo16 | (injection eo16 with f1_ f2_ f3_; have f4_ := f1_.symm; have f5_ := f3_.symm; clear f1_ f2_ f3_; subst f4_; subst f5_))
   refine hK.out _ _ ⟨(blk_cell BK522.out 0).trans rfl, (blk_cell BK523.out 0).trans rfl⟩ (fun hHeld => ?_)
   clear hK K
   refine norm_ (a' := ?_) ?_ ?_
   rotate_left
   ·show Act.put _ (some 12) _ = _
    simp only [Act.put, List.setIfInBounds_toArray, List.set_cons_zero, List.set_cons_succ, i64_w, i32_w]
    rfl
   refine one_ (i := 8) (N := none) #[true, true, true, true, true, true, true, true, true] rfl rfl (one_of HT_.out (by kernel_rfl)) (by decide) (fun K hK => ?_)
   have hs17 : w15.cell? ⟨gb524, 0, none⟩ = some (.slice none 0 0) := (blk_cell BK524.out 0).trans rfl
   have hfs17 := blk_frozen BK524.out 0
   have hns17_0 := NB522_524.out
   have hns17_1 := NB523_524.out
   have hms17_0 := NB524_522.out
   have hms17_1 := NB524_523.out
   refine skip_ (w1 := ?_) (by rfl) rfl ?_ ?_
   rotate_left
   ·go_simp
    rfl
   refine hK.out _ _ ⟨((cell_far (p := ⟨gb524, _, none⟩) NB522_524.out _).trans (hHeld.1)), ((cell_far (p := ⟨gb524, _, none⟩) NB523_524.out _).trans (hHeld.2))⟩ (fun hHeld => ?_)
   clear hK K
   refine done_ (done_of HT_.out (by kernel_rfl)) ?_
   try go_wp2
   refine bodyPost_ret (results_cell_row rfl _ _ gb524 38 #[.slice Ao16 t534.length co16] (0, 0) _ rfl (by (with_reducible repeat (first | refine blk_drewN ?_ _ | refine blk_drew ?_ | refine blk_alloc ?_ _)); refine blk_put (cs := #[.slice none 0 0]) ?_ 0 _ rfl; (with_reducible repeat (first | refine blk_drewN ?_ _ | refine blk_drew ?_ | refine blk_alloc ?_ _)); exact BK524.out) Try.underlying38 rfl (by kernel_rfl)) rfl ?_
   exact ⟨_, by first | rfl | (simp [errW_none, errW_some] <;> rfl) | (simp [*, errW_none, errW_some] <;> rfl), by (with_reducible repeat (first | apply Kd.R_alloc | apply Kd.R_drewN | apply Kd.R_drew)); exact Kd.R_mono (Kd.R_far (p := ⟨gb524, 0, none⟩) (Kd.R_types HO536.out BK524.out (by decide)) (fun _ hk => hk.2) (.slice Ao16 t534.length co16)) (fun _ hk => trivial), by repeat (first | (with_reducible first | exact HB.out | apply below_alloc | apply pw_below_drewN | apply below_drew1 | refine below_set ?_ GE522.out | refine below_set ?_ GE523.out | refine below_set ?_ GE524.out) | exact HB.out)⟩
  ·rw [if_neg c4] at H
   exact absurd H (by simp)
 ·rw [if_neg c3] at H
  exact absurd H (by simp)

/-! ### rubricref7_Set_Not: function 41 -/
def rubricref7_Set_Not.l0 : Nat → List (S58) → Int → Int → List (S58) → Option ((List (S58)))
 | 0, _, _, _, _ => none
 | k + 1, x3, x4, x5, x538000 => if x5 < (x538000.length : Int) then (if 0 ≤ x5 then (if ((rd_T58 x538000 x5).f0) > x4 then (if x3.length < 8796093022208 then (rubricref7_Set_Not.l0 k (x3 ++ [(⟨x4, wrap64 (((rd_T58 x538000 x5).f0) - 1)⟩ : S58)]) (wrap64 (((rd_T58 x538000 x5).f1) + 1)) (wrap64 (x5 + 1)) x538000) else (none)) else (rubricref7_Set_Not.l0 k x3 (wrap64 (((rd_T58 x538000 x5).f1) + 1)) (wrap64 (x5 + 1)) x538000)) else (none)) else (if x4 ≤ 1114111 then (if x3.length < 8796093022208 then (some (x3 ++ [(⟨x4, 1114111⟩ : S58)])) else (none)) else (some x3))
def rubricref7_Set_Not.f (k : Nat) (l0_0 : List (S58)) : Option ((List (S58))) := rubricref7_Set_Not.l0 k ([] : List (S58)) 0 0 l0_0
theorem rubricref7_Set_Not.mono_l : ∀ k, (∀ y0 y1 y2 y3, LeO (rubricref7_Set_Not.l0 k y0 y1 y2 y3) (rubricref7_Set_Not.l0 (k + 1) y0 y1 y2 y3))
 | 0 => fun _ _ _ _ r h => by simp [rubricref7_Set_Not.l0] at h
 | k + 1 => by
  have ih0 := rubricref7_Set_Not.mono_l k
  ·intro y0 y1 y2 y3
   unfold rubricref7_Set_Not.l0
   repeat' first
   | (with_reducible exact ih0 _ _ _ _)
   | (with_reducible exact LeO.refl _)
   | (with_reducible exact LeO.none _)
   | (with_reducible refine LeO.ite ?_ ?_)
   | (with_reducible refine LeO.bind ?_ (fun _ => ?_))
   | exact ih0 _ _ _ _
   | exact LeO.none _
   | refine LeO.ite ?_ ?_
   | refine LeO.bind ?_ (fun _ => ?_)
theorem rubricref7_Set_Not.mono : ∀ a0 k, LeO (rubricref7_Set_Not.f k a0) (rubricref7_Set_Not.f (k + 1) a0) := by
 intro a0 k
 have ih0 := rubricref7_Set_Not.mono_l k
 unfold rubricref7_Set_Not.f
 repeat' first
   | (with_reducible exact ih0 _ _ _ _)
   | (with_reducible exact LeO.refl _)
   | (with_reducible exact LeO.none _)
   | (with_reducible refine LeO.ite ?_ ?_)
   | (with_reducible refine LeO.bind ?_ (fun _ => ?_))
   | exact ih0 _ _ _ _
   | exact LeO.none _
   | refine LeO.ite ?_ ?_
   | refine LeO.bind ?_ (fun _ => ?_)
set_option maxHeartbeats 8000000 in
set_option maxRecDepth 100000 in
theorem rubricref7_Set_Not.calls (k : Nat) (A0_0 : Option Addr) (c0_0 : Nat) (l0_0 : List (S58)) (r : List (S58)) (w : World) (hr0_0 : Kd.C k58 w A0_0 l0_0.length l0_0) (hc0_0 : l0_0.length ≤ c0_0) (h : rubricref7_Set_Not.f k l0_0 = some r) :
  Calls Try.prog 41 #[.agg #[.slice A0_0 l0_0.length c0_0]] w fun e w' => ∃ v0_ : Value, e = .returned (.agg #[v0_]) ∧ Kd.R k58 58 w' w.heap.size (fun _ => True) v0_ r ∧ Below w.heap.size w w' := by
 have hu38 := Try.underlying38
 have hu58 := Try.underlying58
 have HR0_0 := Aside0.mk hr0_0
 have HC0_0 := Aside0.mk hc0_0
 clear hr0_0 hc0_0
 have HB := Aside0.mk (Below.refl w.heap.size w)
 have H : (rubricref7_Set_Not.l0 k ([] : List (S58)) 0 0 l0_0) = some r := h
 clear h
 have H' := Aside0.mk H
 clear H
 go_enter Try.func41, Try.ntmps41
 go_wp2_with (first | ((with_reducible refine gate_dst (N := 1) rfl ?_); refine box_event ?hg (N := 1) ?hd (cs := #[.slice A0_0 l0_0.length c0_0]) (t := 38) ?hr ?_; (case hd => rfl); (case hg => rfl); (case hr => first | (go_simp; done) | (go_simp; rfl)); intro gb537 hg w2 hbox hb; have n0_ := Aside0.mk (below_step (by repeat (first | (with_reducible first | exact HB.out | apply below_alloc | apply pw_below_drewN | apply below_drew1) | exact HB.out)) hb); have n1_ := Aside0.mk (hbox); have n2_ := Aside0.mk ((by rw [hg]; exact (below_size (by repeat (first | (with_reducible first | exact HB.out | apply below_alloc | apply pw_below_drewN | apply below_drew1) | exact HB.out))) : w.heap.size ≤ gb537)); have n3_ := Aside0.mk ((by rw [hg]; exact (below_size (by repeat (first | (with_reducible first | exact HB.out | apply below_alloc | apply pw_below_drewN | apply below_drew1) | exact HB.out))) : w.heap.size ≤ gb537)); clear HB; have HB := n0_; have BK537 := n1_; have GW537 := n2_; have GE537 := n3_; clear n0_ n1_ n2_ n3_; clear hb hbox hg) | ((with_reducible refine gate_dst (N := 2) rfl ?_); refine box_event ?hg (N := 2) ?hd (cs := #[.slice none 0 0]) (t := 38) ?hr ?_; (case hd => rfl); (case hg => rfl); (case hr => first | (go_simp; done) | (go_simp; rfl)); intro gb538 hg w3 hbox hb; have n0_ := Aside0.mk (blk_below (g := gb537) (o := .cells #[.slice A0_0 l0_0.length c0_0] 38 (0, 0)) (S.b BK537.out) hb); have n1_ := Aside0.mk (below_step (by repeat (first | (with_reducible first | exact HB.out | apply below_alloc | apply pw_below_drewN | apply below_drew1 | refine below_set ?_ GE537.out) | exact HB.out)) hb); have n2_ := Aside0.mk (hbox); have n3_ := Aside0.mk ((by rw [hg]; exact (below_size (by repeat (first | (with_reducible first | exact HB.out | apply below_alloc | apply pw_below_drewN | apply below_drew1 | refine below_set ?_ GE537.out) | exact HB.out))) : w.heap.size ≤ gb538)); have n4_ := Aside0.mk ((by rw [hg]; exact (below_size (by repeat (first | (with_reducible first | exact HB.out | apply below_alloc | apply pw_below_drewN | apply below_drew1 | refine below_set ?_ GE537.out) | exact HB.out))) : w.heap.size ≤ gb538)); have n5_ := Aside0.mk ((by rw [hg]; exact Nat.ne_of_lt (blk_lt (g := gb537) (o := .cells #[.slice A0_0 l0_0.length c0_0] 38 (0, 0)) (S.b BK537.out)) : gb537 ≠ gb538)); have n6_ := Aside0.mk ((by rw [hg]; exact Nat.ne_of_gt (blk_lt (g := gb537) (o := .cells #[.slice A0_0 l0_0.length c0_0] 38 (0, 0)) (S.b BK537.out)) : gb538 ≠ gb537)); clear BK537; clear HB; have BK537 := n0_; have HB := n1_; have BK538 := n2_; have GW538 := n3_; have GE538 := n4_; have NB537_538 := n5_; have NB538_537 := n6_; clear n0_ n1_ n2_ n3_ n4_ n5_ n6_; clear hb hbox hg))
 go_loopg [3, 4, 5] k (fun kq v3 v4 v5 w' => ∃ (x3_1 : List (S58)) (x4_1 : Int) (x5_1 : Int), v4 = .int .i64 x4_1 ∧ v5 = .int .i64 x5_1 ∧ Aside0 (rubricref7_Set_Not.l0 kq x3_1 x4_1 x5_1 l0_0 = some r) ∧ Aside0 (kq ≤ k) ∧ Aside0 (Kd.R k58 58 w' w.heap.size (fun _ => True) v3 x3_1) ∧ Aside0 (w'.heap[gb537]? = some (.cells #[(.slice A0_0 l0_0.length c0_0)] 38 (0, 0))) ∧ Aside0 (w'.heap[gb538]? = some (.cells #[(.slice none 0 0)] 38 (0, 0))) ∧ Aside0 (Below w.heap.size w w'))
 case atStart => exact ⟨(([] : List (S58))), (0), (0), (by first | rfl | (simp; done) | (simp [*]; done)), (by first | rfl | (simp; done) | (simp [*]; done)), H', ⟨Nat.le_refl _⟩, ⟨by first | exact Kd.R_nil _ _ _ _ _ | exact Kd.N_nil _ _ _ _ _ | exact Kd.V_nil _ _ _ _ _ | exact Kd.Q_nil _ _ _ _ _ | exact Kd.S_nil _ _ _ _ _⟩, ⟨S.b BK537.out⟩, ⟨S.b BK538.out⟩, ⟨by repeat (first | (with_reducible first | exact HB.out | apply below_alloc | apply pw_below_drewN | apply below_drew1 | refine below_set ?_ GE537.out | refine below_set ?_ GE538.out) | exact HB.out)⟩⟩
 case round =>
  clear H'
  try clear p2
  obtain ⟨x3_1, x4_1, x5_1, rfl, rfl, HA, HK1, HO_3, BK537, BK538, HB⟩ := hrel
  cases gk with
  | zero => exact absurd HA.out (by simp [rubricref7_Set_Not.l0])
  | succ k1 =>
   have H := HA.out
   clear HA
   simp only [rubricref7_Set_Not.l0] at H
   by_cases c4 : x5_1 < (l0_0.length : Int)
   ·rw [if_pos c4] at H
    have c4b0 : decide (x5_1 < (l0_0.length : Int)) = true := decide_eq_true c4
    clear c4
    by_cases c5 : 0 ≤ x5_1
    ·rw [if_pos c5] at H
     have c5b0 : decide (0 ≤ x5_1) = true := decide_eq_true c5
     clear c5
     by_cases c6 : ((rd_T58 l0_0 x5_1).f0) > x4_1
     ·rw [if_pos c6] at H
      have c6b0 : decide (x4_1 < ((rd_T58 l0_0 x5_1).f0)) = true := decide_eq_true c6
      clear c6
      by_cases c7 : x3_1.length < 8796093022208
      ·rw [if_pos c7] at H
       have LMc7 := Aside0.mk c7
       clear c7
       obtain ⟨y541, hy541⟩ : ∃ y_ : List (S58), y_ = (x3_1 ++ [(⟨x4_1, wrap64 (((rd_T58 l0_0 x5_1).f0) - 1)⟩ : S58)]) := ⟨_, rfl⟩
       replace H : (rubricref7_Set_Not.l0 k1 y541 (wrap64 (((rd_T58 l0_0 x5_1).f1) + 1)) (wrap64 (x5_1 + 1)) l0_0) = some r := by first | (rw [hy541]; with_reducible exact H) | (have H2_ := (Option.bind_some _ _).symm.trans H; rw [hy541]; with_reducible exact H2_) | (have H2_ := (Option.bind_some _ _).symm.trans H; with_reducible exact H2_) | with_reducible exact H | (rw [hy541]; exact H) | exact H
       have Ny541 := Aside0.mk hy541
       clear hy541
       have H' := Aside0.mk H
       clear H
       have hnb8 := NB537_538.out
       have hnc8 := NB538_537.out
       have hcz9_0 : wr.cell? ⟨gb537, 0, none⟩ = some (.slice A0_0 l0_0.length c0_0) := (blk_cell BK537.out 0).trans rfl
       have hfz9_0 := blk_frozen BK537.out 0
       have p539 : 0 ≤ (x5_1 : Int) := of_decide_eq_true (by first | (with_reducible assumption) | assumption)
       have q539 : x5_1 < (l0_0.length : Int) := of_decide_eq_true (by first | (with_reducible assumption) | assumption)
       obtain ⟨ad539, e539, hx539_0, hx539_1⟩ := at_T58 HR0_0.out x5_1 p539 q539
       cases e539
       replace hx539_0 := (HB.out.cell (World.block_lt_of_cell? w _ hx539_0)).trans hx539_0
       replace hx539_1 := (HB.out.cell (World.block_lt_of_cell? w _ hx539_1)).trans hx539_1
       replace p539 := eq_true p539
       replace q539 := eq_true q539
       have p540 : 0 ≤ (x5_1 : Int) := of_decide_eq_true (by first | (with_reducible assumption) | assumption)
       have q540 : x5_1 < (l0_0.length : Int) := of_decide_eq_true (by first | (with_reducible assumption) | assumption)
       obtain ⟨ad540, e540, hx540_0, hx540_1⟩ := at_T58 HR0_0.out x5_1 p540 q540
       obtain rfl : ad539 = ad540 := (by injection e540)
       replace hx540_0 := (HB.out.cell (World.block_lt_of_cell? w _ hx540_0)).trans hx540_0
       replace hx540_1 := (HB.out.cell (World.block_lt_of_cell? w _ hx540_1)).trans hx540_1
       replace p540 := eq_true p540
       replace q540 := eq_true q540
       go_wp2_with (first | ((with_reducible refine gate_builtin (b := .append) (xs := #[.tmp 21, .tmp 31]) rfl ?_); at_builtin; refine Kd.R_append k58 (w0 := w) w.heap.size rfl (.tmp 21) (.tmp 31) 36 58 (.agg #[(.int .i64 0), (.int .i64 0)]) 16 rfl Try.underlying36 info58 rfl (by decide) (by omega) u3 x3_1 (⟨x4_1, wrap64 (((rd_T58 l0_0 x5_1).f0) - 1)⟩ : S58) [.int .i64 x4_1, .int .i64 (wrap64 (((rd_T58 l0_0 x5_1).f0) - 1))] (fun _ => True) (fun _ => False) rfl rfl ?aP (fun _ hk => hk.elim) ?aF ?aO ?aB ?aS ?aL ?_; (case aP => exact k58_mkM _ _ _ (⟨x4_1, wrap64 (((rd_T58 l0_0 x5_1).f0) - 1)⟩ : S58)); (case aB => exact (by repeat (first | (with_reducible first | exact HB.out | apply below_alloc | apply pw_below_drewN | apply below_drew1 | refine below_set ?_ GE537.out | refine below_set ?_ GE538.out) | exact HB.out))); (case aF => exact (fun _ _ => trivial)); (case aO => exact (S.r HO_3.out)); (case aS => exact (below_size (by repeat (first | (with_reducible first | exact HB.out | apply below_alloc | apply pw_below_drewN | apply below_drew1 | refine below_set ?_ GE537.out | refine below_set ?_ GE538.out) | exact HB.out)))); (case aL => have := LMc7.out; omega); intro v542 w10 ho hb hg hat; rw [← Ny541.out] at ho; have n0_ := Aside0.mk (blk_grown (g := gb537) (o := .cells #[.slice (some ad539) l0_0.length c0_0] 38 (0, 0)) (S.b BK537.out) hg (Kd.R_ne HO_3.out BK537.out (by decide))); have n1_ := Aside0.mk (blk_grown (g := gb538) (o := .cells #[.slice none 0 0] 38 (0, 0)) (S.b BK538.out) hg (Kd.R_ne HO_3.out BK538.out (by decide))); have n2_ := Aside0.mk (hb); have n3_ := Aside0.mk (ho); clear BK537; clear BK538; clear HB; clear HO_3; have BK537 := n0_; have BK538 := n1_; have HB := n2_; have HO543 := n3_; clear n0_ n1_ n2_ n3_; clear ho hb hg hat; have hcz11_0 : w10.cell? ⟨gb537, 0, none⟩ = some (.slice (some ad539) l0_0.length c0_0) := (blk_cell BK537.out 0).trans rfl; have hfz11_0 := blk_frozen BK537.out 0; have p544 : 0 ≤ (x5_1 : Int) := of_decide_eq_true (by first | (with_reducible assumption) | assumption); have q544 : x5_1 < (l0_0.length : Int) := of_decide_eq_true (by first | (with_reducible assumption) | assumption); obtain ⟨ad544, e544, hx544_0, hx544_1⟩ := at_T58 HR0_0.out x5_1 p544 q544; obtain rfl : ad539 = ad544 := (by injection e544); replace hx544_0 := (HB.out.cell (World.block_lt_of_cell? w _ hx544_0)).trans hx544_0; replace hx544_1 := (HB.out.cell (World.block_lt_of_cell? w _ hx544_1)).trans hx544_1; replace p544 := eq_true p544; replace q544 := eq_true q544))
       go_roundg k1
       case measure => have := HK1.out; omega
       case rel => exact ⟨(y541), (wrap64 (((rd_T58 l0_0 x5_1).f1) + 1)), (wrap64 (x5_1 + 1)), (by first | rfl | (simp; done) | (simp [*]; done)), (by first | rfl | (simp; done) | (simp [*]; done)), H', ⟨by have := HK1.out; omega⟩, ⟨S.r HO543.out⟩, ⟨S.b BK537.out⟩, ⟨S.b BK538.out⟩, ⟨by repeat (first | (with_reducible first | exact HB.out | apply below_alloc | apply pw_below_drewN | apply below_drew1 | refine below_set ?_ GE537.out | refine below_set ?_ GE538.out) | exact HB.out)⟩⟩
      ·rw [if_neg c7] at H
       exact absurd H (by simp)
     ·rw [if_neg c6] at H
      have c6b0 : decide (x4_1 < ((rd_T58 l0_0 x5_1).f0)) = false := decide_eq_false c6
      clear c6
      have H' := Aside0.mk H
      clear H
      have hnb12 := NB537_538.out
      have hnc12 := NB538_537.out
      have hcz13_0 : wr.cell? ⟨gb537, 0, none⟩ = some (.slice A0_0 l0_0.length c0_0) := (blk_cell BK537.out 0).trans rfl
      have hfz13_0 := blk_frozen BK537.out 0
      have p539 : 0 ≤ (x5_1 : Int) := of_decide_eq_true (by first | (with_reducible assumption) | assumption)
      have q539 : x5_1 < (l0_0.length : Int) := of_decide_eq_true (by first | (with_reducible assumption) | assumption)
      obtain ⟨ad539, e539, hx539_0, hx539_1⟩ := at_T58 HR0_0.out x5_1 p539 q539
      cases e539
      replace hx539_0 := (HB.out.cell (World.block_lt_of_cell? w _ hx539_0)).trans hx539_0
      replace hx539_1 := (HB.out.cell (World.block_lt_of_cell? w _ hx539_1)).trans hx539_1
      replace p539 := eq_true p539
      replace q539 := eq_true q539
      have p545 : 0 ≤ (x5_1 : Int) := of_decide_eq_true (by first | (with_reducible assumption) | assumption)
      have q545 : x5_1 < (l0_0.length : Int) := of_decide_eq_true (by first | (with_reducible assumption) | assumption)
      obtain ⟨ad545, e545, hx545_0, hx545_1⟩ := at_T58 HR0_0.out x5_1 p545 q545
      obtain rfl : ad539 = ad545 := (by injection e545)
      replace hx545_0 := (HB.out.cell (World.block_lt_of_cell? w _ hx545_0)).trans hx545_0
      replace hx545_1 := (HB.out.cell (World.block_lt_of_cell? w _ hx545_1)).trans hx545_1
      replace p545 := eq_true p545
      replace q545 := eq_true q545
      go_wp2
      go_roundg k1
      case measure => have := HK1.out; omega
      case rel => exact ⟨(x3_1), (wrap64 (((rd_T58 l0_0 x5_1).f1) + 1)), (wrap64 (x5_1 + 1)), (by first | rfl | (simp; done) | (simp [*]; done)), (by first | rfl | (simp; done) | (simp [*]; done)), H', ⟨by have := HK1.out; omega⟩, ⟨S.r HO_3.out⟩, ⟨S.b BK537.out⟩, ⟨S.b BK538.out⟩, ⟨by repeat (first | (with_reducible first | exact HB.out | apply below_alloc | apply pw_below_drewN | apply below_drew1 | refine below_set ?_ GE537.out | refine below_set ?_ GE538.out) | exact HB.out)⟩⟩
    ·rw [if_neg c5] at H
     exact absurd H (by simp)
   ·rw [if_neg c4] at H
    have c4b0 : decide (x5_1 < (l0_0.length : Int)) = false := decide_eq_false c4
    clear c4
    by_cases c14 : x4_1 ≤ 1114111
    ·rw [if_pos c14] at H
     have c14b0 : decide (x4_1 ≤ 1114111) = true := decide_eq_true c14
     clear c14
     by_cases c15 : x3_1.length < 8796093022208
     ·rw [if_pos c15] at H
      have LMc15 := Aside0.mk c15
      clear c15
      obtain ⟨y546, hy546⟩ : ∃ y_ : List (S58), y_ = (x3_1 ++ [(⟨x4_1, 1114111⟩ : S58)]) := ⟨_, rfl⟩
      replace H : (some y546) = some r := by first | (rw [hy546]; with_reducible exact H) | (have H2_ := (Option.bind_some _ _).symm.trans H; rw [hy546]; with_reducible exact H2_) | (have H2_ := (Option.bind_some _ _).symm.trans H; with_reducible exact H2_) | with_reducible exact H | (rw [hy546]; exact H) | exact H
      have Ny546 := Aside0.mk hy546
      clear hy546
      obtain rfl := Option.some.inj H
      have hnb16 := NB537_538.out
      have hnc16 := NB538_537.out
      have hcz17_0 : wr.cell? ⟨gb537, 0, none⟩ = some (.slice A0_0 l0_0.length c0_0) := (blk_cell BK537.out 0).trans rfl
      have hfz17_0 := blk_frozen BK537.out 0
      go_wp2_with (first | ((with_reducible refine gate_builtin (b := .append) (xs := #[.tmp 42, .tmp 45]) rfl ?_); at_builtin; refine Kd.R_append k58 (w0 := w) w.heap.size rfl (.tmp 42) (.tmp 45) 36 58 (.agg #[(.int .i64 0), (.int .i64 0)]) 16 rfl Try.underlying36 info58 rfl (by decide) (by omega) u3 x3_1 (⟨x4_1, 1114111⟩ : S58) [.int .i64 x4_1, .int .i64 1114111] (fun _ => True) (fun _ => False) rfl rfl ?aP (fun _ hk => hk.elim) ?aF ?aO ?aB ?aS ?aL ?_; (case aP => exact k58_mkM _ _ _ (⟨x4_1, 1114111⟩ : S58)); (case aB => exact (by repeat (first | (with_reducible first | exact HB.out | apply below_alloc | apply pw_below_drewN | apply below_drew1 | refine below_set ?_ GE537.out | refine below_set ?_ GE538.out) | exact HB.out))); (case aF => exact (fun _ _ => trivial)); (case aO => exact (S.r HO_3.out)); (case aS => exact (below_size (by repeat (first | (with_reducible first | exact HB.out | apply below_alloc | apply pw_below_drewN | apply below_drew1 | refine below_set ?_ GE537.out | refine below_set ?_ GE538.out) | exact HB.out)))); (case aL => have := LMc15.out; omega); intro v547 w18 ho hb hg hat; rw [← Ny546.out] at ho; have n0_ := Aside0.mk (blk_grown (g := gb537) (o := .cells #[.slice A0_0 l0_0.length c0_0] 38 (0, 0)) (S.b BK537.out) hg (Kd.R_ne HO_3.out BK537.out (by decide))); have n1_ := Aside0.mk (blk_grown (g := gb538) (o := .cells #[.slice none 0 0] 38 (0, 0)) (S.b BK538.out) hg (Kd.R_ne HO_3.out BK538.out (by decide))); have n2_ := Aside0.mk (hb); have n3_ := Aside0.mk (ho); clear BK537; clear BK538; clear HB; clear HO_3; have BK537 := n0_; have BK538 := n1_; have HB := n2_; have HO548 := n3_; clear n0_ n1_ n2_ n3_; clear ho hb hg hat; obtain ⟨Ao19, co19, eo19⟩ := Kd.R_slice HO548.out; subst eo19; have hcz20_0 : w18.cell? ⟨gb538, 0, none⟩ = some (.slice none 0 0) := (blk_cell BK538.out 0).trans rfl; have hfz20_0 := blk_frozen BK538.out 0))
      refine bodyPost_ret (results_cell_row rfl _ _ gb538 38 #[.slice Ao19 y546.length co19] (0, 0) _ rfl (by (with_reducible repeat (first | refine blk_drewN ?_ _ | refine blk_drew ?_ | refine blk_alloc ?_ _)); refine blk_put (cs := #[.slice none 0 0]) ?_ 0 _ rfl; (with_reducible repeat (first | refine blk_drewN ?_ _ | refine blk_drew ?_ | refine blk_alloc ?_ _)); exact BK538.out) Try.underlying38 rfl (by kernel_rfl)) rfl ?_
      exact ⟨_, by first | rfl | (simp [errW_none, errW_some] <;> rfl) | (simp [*, errW_none, errW_some] <;> rfl), by (with_reducible repeat (first | apply Kd.R_alloc | apply Kd.R_drewN | apply Kd.R_drew)); exact Kd.R_mono (Kd.R_far (p := ⟨gb538, 0, none⟩) (Kd.R_types HO548.out BK538.out (by decide)) (fun _ hk => hk.2) (.slice Ao19 y546.length co19)) (fun _ hk => trivial), by repeat (first | (with_reducible first | exact HB.out | apply below_alloc | apply pw_below_drewN | apply below_drew1 | refine below_set ?_ GE537.out | refine below_set ?_ GE538.out) | exact HB.out)⟩
     ·rw [if_neg c15] at H
      exact absurd H (by simp)
    ·rw [if_neg c14] at H
     have c14b0 : decide (x4_1 ≤ 1114111) = false := decide_eq_false c14
     clear c14
     obtain rfl := Option.some.inj H
     have hnb21 := NB537_538.out
     have hnc21 := NB538_537.out
     have hcz22_0 : wr.cell? ⟨gb537, 0, none⟩ = some (.slice A0_0 l0_0.length c0_0) := (blk_cell BK537.out 0).trans rfl
     have hfz22_0 := blk_frozen BK537.out 0
     obtain ⟨Ao23, co23, eo23⟩ := Kd.R_slice HO_3.out
     subst eo23
     have hcz24_0 : wr.cell? ⟨gb538, 0, none⟩ = some (.slice none 0 0) := (blk_cell BK538.out 0).trans rfl
     have hfz24_0 := blk_frozen BK538.out 0
     go_wp2
     refine bodyPost_ret (results_cell_row rfl _ _ gb538 38 #[.slice Ao23 x3_1.length co23] (0, 0) _ rfl (by (with_reducible repeat (first | refine blk_drewN ?_ _ | refine blk_drew ?_ | refine blk_alloc ?_ _)); refine blk_put (cs := #[.slice none 0 0]) ?_ 0 _ rfl; (with_reducible repeat (first | refine blk_drewN ?_ _ | refine blk_drew ?_ | refine blk_alloc ?_ _)); exact BK538.out) Try.underlying38 rfl (by kernel_rfl)) rfl ?_
     exact ⟨_, by first | rfl | (simp [errW_none, errW_some] <;> rfl) | (simp [*, errW_none, errW_some] <;> rfl), by (with_reducible repeat (first | apply Kd.R_alloc | apply Kd.R_drewN | apply Kd.R_drew)); exact Kd.R_mono (Kd.R_far (p := ⟨gb538, 0, none⟩) (Kd.R_types HO_3.out BK538.out (by decide)) (fun _ hk => hk.2) (.slice Ao23 x3_1.length co23)) (fun _ hk => trivial), by repeat (first | (with_reducible first | exact HB.out | apply below_alloc | apply pw_below_drewN | apply below_drew1 | refine below_set ?_ GE537.out | refine below_set ?_ GE538.out) | exact HB.out)⟩

end Go.Proofs.Ytjhmpippcndloaa.Pr
