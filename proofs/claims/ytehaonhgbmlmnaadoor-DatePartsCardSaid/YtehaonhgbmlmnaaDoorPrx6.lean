-- printed by wip/gprint.py (ours) out of the translation, by the kit's print program with given contracts
import Derived.Test.YtehaonhgbmlmnaaDoorPrx0
import Derived.Test.YtehaonhgbmlmnaaDoorPrx3
import Derived.Test.YtehaonhgbmlmnaaDoorPrx5
namespace Go.Proofs.YtehaonhgbmlmnaaDoor.Pr
open Go.RowKit Go.Proofs.YtehaonhgbmlmnaaDoorW.PrintWords Go.Proofs.YtehaonhgbmlmnaaDoorW.PrintLast Go.Proofs.YtehaonhgbmlmnaaDoorW.PrintMore
attribute [local go_sem] max2_int min2_int max_two min_two max_three min_three max_four min_four   -- for this text's walks alone
set_option linter.unusedVariables false
set_option linter.unusedSimpArgs false

/-! ### date_CmpSpan: function 16 -/
def date_CmpSpan.l0 : Nat → Int → List (S24) → Int → Int → Int → Int → Int → Int → Int → Int → Option (Int)
 | 0, _, _, _, _, _, _, _, _, _, _ => none
 | k + 1, x5, x13, x14, x15, x152000, x152001, x152002, x153000, x153001, x153002 => if x15 < x14 then (if 0 ≤ x15 then (if x15 < (x13.length : Int) then ((date_Add.f k ((rd_T24 x13 x15).f0) ((rd_T24 x13 x15).f1) ((rd_T24 x13 x15).f2) ((rd_T24 x13 x15).f3) ((rd_T24 x13 x15).f4) ((rd_T24 x13 x15).f5) ((rd_T24 x13 x15).f6) ((rd_T24 x13 x15).f7) x152000 x152001 x152002).bind fun bt158 => ((date_Add.f k ((rd_T24 x13 x15).f0) ((rd_T24 x13 x15).f1) ((rd_T24 x13 x15).f2) ((rd_T24 x13 x15).f3) ((rd_T24 x13 x15).f4) ((rd_T24 x13 x15).f5) ((rd_T24 x13 x15).f6) ((rd_T24 x13 x15).f7) x153000 x153001 x153002).bind fun bt166 => ((date_at.f k bt158.1 bt158.2.1 bt158.2.2.1 bt158.2.2.2.1 bt158.2.2.2.2.1 bt158.2.2.2.2.2.1 bt158.2.2.2.2.2.2.1 bt158.2.2.2.2.2.2.2 0 bt166.1 bt166.2.1 bt166.2.2.1 bt166.2.2.2.1 bt166.2.2.2.2.1 bt166.2.2.2.2.2.1 bt166.2.2.2.2.2.2.1 bt166.2.2.2.2.2.2.2 0).bind fun t174 => (if x15 > 0 then (if t174 = x5 then (date_CmpSpan.l0 k t174 x13 x14 (wrap64 (x15 + 1)) x152000 x152001 x152002 x153000 x153001 x153002) else (some 2)) else (date_CmpSpan.l0 k t174 x13 x14 (wrap64 (x15 + 1)) x152000 x152001 x152002 x153000 x153001 x153002))))) else (none)) else (none)) else (some x5)
def date_CmpSpan.f (k : Nat) (a0_0 : Int) (a0_1 : Int) (a0_2 : Int) (a1_0 : Int) (a1_1 : Int) (a1_2 : Int) : Option (Int) := (some (([(⟨0, 1696, 9, 1, 0, 0, false, 0⟩ : S24), (⟨0, 1697, 2, 1, 0, 0, false, 0⟩ : S24), (⟨0, 1903, 3, 1, 0, 0, false, 0⟩ : S24), (⟨0, 1903, 7, 1, 0, 0, false, 0⟩ : S24)] : List (S24)) : List (S24))).bind fun y153 => (date_CmpSpan.l0 k 2 y153 (y153.length : Int) 0 a0_0 a0_1 a0_2 a1_0 a1_1 a1_2)
theorem date_CmpSpan.mono_l : ∀ k, (∀ y0 y1 y2 y3 y4 y5 y6 y7 y8 y9, LeO (date_CmpSpan.l0 k y0 y1 y2 y3 y4 y5 y6 y7 y8 y9) (date_CmpSpan.l0 (k + 1) y0 y1 y2 y3 y4 y5 y6 y7 y8 y9))
 | 0 => fun _ _ _ _ _ _ _ _ _ _ r h => by simp [date_CmpSpan.l0] at h
 | k + 1 => by
  have ih0 := date_CmpSpan.mono_l k
  ·intro y0 y1 y2 y3 y4 y5 y6 y7 y8 y9
   unfold date_CmpSpan.l0
   repeat' first
   | (with_reducible exact ih0 _ _ _ _ _ _ _ _ _ _)
   | (with_reducible exact date_Add.mono _ _ _ _ _ _ _ _ _ _ _ _)
   | (with_reducible exact date_at.mono _ _ _ _ _ _ _ _ _ _ _ _ _ _ _ _ _ _ _)
   | (with_reducible exact LeO.refl _)
   | (with_reducible exact LeO.none _)
   | (with_reducible refine LeO.ite ?_ ?_)
   | (with_reducible refine LeO.bind ?_ (fun _ => ?_))
   | exact ih0 _ _ _ _ _ _ _ _ _ _
   | exact date_Add.mono _ _ _ _ _ _ _ _ _ _ _ _
   | exact date_at.mono _ _ _ _ _ _ _ _ _ _ _ _ _ _ _ _ _ _ _
   | exact LeO.none _
   | refine LeO.ite ?_ ?_
   | refine LeO.bind ?_ (fun _ => ?_)
theorem date_CmpSpan.mono : ∀ a0 a1 a2 a3 a4 a5 k, LeO (date_CmpSpan.f k a0 a1 a2 a3 a4 a5) (date_CmpSpan.f (k + 1) a0 a1 a2 a3 a4 a5) := by
 intro a0 a1 a2 a3 a4 a5 k
 have ih0 := date_CmpSpan.mono_l k
 unfold date_CmpSpan.f
 repeat' first
   | (with_reducible exact ih0 _ _ _ _ _ _ _ _ _ _)
   | (with_reducible exact date_Add.mono _ _ _ _ _ _ _ _ _ _ _ _)
   | (with_reducible exact date_at.mono _ _ _ _ _ _ _ _ _ _ _ _ _ _ _ _ _ _ _)
   | (with_reducible exact LeO.refl _)
   | (with_reducible exact LeO.none _)
   | (with_reducible refine LeO.ite ?_ ?_)
   | (with_reducible refine LeO.bind ?_ (fun _ => ?_))
   | exact ih0 _ _ _ _ _ _ _ _ _ _
   | exact date_Add.mono _ _ _ _ _ _ _ _ _ _ _ _
   | exact date_at.mono _ _ _ _ _ _ _ _ _ _ _ _ _ _ _ _ _ _ _
   | exact LeO.none _
   | refine LeO.ite ?_ ?_
   | refine LeO.bind ?_ (fun _ => ?_)
def date_CmpSpan.T5 : Bool × List (List Nat × List Nat) := (true, [([], []), ([], []), ([0, 1], [0, 1]), ([], []), ([], []), ([3, 4, 2], [3, 4]), ([2, 5, 5], [2, 5]), ([6, 6, 0, 1, 2, 3, 4, 5, 6], [6])])
def date_CmpSpan.B5 : List Nat := [0, 0, 3, 0, 0, 31, 63, 127]
theorem date_CmpSpan.tab5 : rtab .any (opsOf Tryd.f16 5) = date_CmpSpan.T5 := by kernel_rfl
theorem date_CmpSpan.bits5 : waitsOk date_CmpSpan.T5.2 date_CmpSpan.B5 = true := by kernel_rfl
set_option maxHeartbeats 8000000 in
set_option maxRecDepth 100000 in
theorem date_CmpSpan.calls (k : Nat) (a0_0 : Int) (a0_1 : Int) (a0_2 : Int) (a1_0 : Int) (a1_1 : Int) (a1_2 : Int) (r : Int) (w : World) (h : date_CmpSpan.f k a0_0 a0_1 a0_2 a1_0 a1_1 a1_2 = some r) :
  Calls Tryd.prog 16 #[.agg #[.int .i64 a0_0, .int .i64 a0_1, .int .i64 a0_2], .agg #[.int .i64 a1_0, .int .i64 a1_1, .int .i64 a1_2]] w fun e w' => e = .returned (.int .i64 r) ∧ Below w.heap.size w w' := by
 have hu34 := Tryd.underlying34
 have hu24 := Tryd.underlying24
 have HB := Aside0.mk (Below.refl w.heap.size w)
 have H : ((some (([(⟨0, 1696, 9, 1, 0, 0, false, 0⟩ : S24), (⟨0, 1697, 2, 1, 0, 0, false, 0⟩ : S24), (⟨0, 1903, 3, 1, 0, 0, false, 0⟩ : S24), (⟨0, 1903, 7, 1, 0, 0, false, 0⟩ : S24)] : List (S24)) : List (S24))).bind fun y153 => (date_CmpSpan.l0 k 2 y153 (y153.length : Int) 0 a0_0 a0_1 a0_2 a1_0 a1_1 a1_2)) = some r := h
 clear h
 obtain ⟨y153, hy153⟩ : ∃ y_ : List (S24), y_ = (([(⟨0, 1696, 9, 1, 0, 0, false, 0⟩ : S24), (⟨0, 1697, 2, 1, 0, 0, false, 0⟩ : S24), (⟨0, 1903, 3, 1, 0, 0, false, 0⟩ : S24), (⟨0, 1903, 7, 1, 0, 0, false, 0⟩ : S24)] : List (S24))) := ⟨_, rfl⟩
 replace H : (date_CmpSpan.l0 k 2 y153 (y153.length : Int) 0 a0_0 a0_1 a0_2 a1_0 a1_1 a1_2) = some r := by first | (rw [hy153]; with_reducible exact H) | (have H2_ := (Option.bind_some _ _).symm.trans H; rw [hy153]; with_reducible exact H2_) | (have H2_ := (Option.bind_some _ _).symm.trans H; with_reducible exact H2_) | with_reducible exact H | (rw [hy153]; exact H) | exact H
 have Ny153 := Aside0.mk hy153
 clear hy153
 have H' := Aside0.mk H
 clear H
 go_enter Tryd.func16, Tryd.ntmps16
 go_wp2_with (first | ((with_reducible refine gate_dst (N := 2) rfl ?_); refine box_event ?hg (N := 2) ?hd (cs := #[.int .i64 a0_0, .int .i64 a0_1, .int .i64 a0_2]) (t := 34) ?hr ?_; (case hd => rfl); (case hg => rfl); (case hr => first | (go_simp; done) | (go_simp; rfl)); intro gb151 hg w3 hbox hb; have n0_ := Aside0.mk (below_step (by repeat (first | (with_reducible first | exact HB.out | apply below_alloc | apply pw_below_drewN | apply below_drew1) | exact HB.out)) hb); have n1_ := Aside0.mk (hbox); have n2_ := Aside0.mk ((by rw [hg]; exact (below_size (by repeat (first | (with_reducible first | exact HB.out | apply below_alloc | apply pw_below_drewN | apply below_drew1) | exact HB.out))) : w.heap.size ≤ gb151)); have n3_ := Aside0.mk ((by rw [hg]; exact (below_size (by repeat (first | (with_reducible first | exact HB.out | apply below_alloc | apply pw_below_drewN | apply below_drew1) | exact HB.out))) : w.heap.size ≤ gb151)); clear HB; have HB := n0_; have BK151 := n1_; have GW151 := n2_; have GE151 := n3_; clear n0_ n1_ n2_ n3_; clear hb hbox hg) | ((with_reducible refine gate_dst (N := 3) rfl ?_); refine box_event ?hg (N := 3) ?hd (cs := #[.int .i64 a1_0, .int .i64 a1_1, .int .i64 a1_2]) (t := 34) ?hr ?_; (case hd => rfl); (case hg => rfl); (case hr => first | (go_simp; done) | (go_simp; rfl)); intro gb152 hg w4 hbox hb; have n0_ := Aside0.mk (blk_below (S.b BK151.out) hb); have n1_ := Aside0.mk (below_step (by repeat (first | (with_reducible first | exact HB.out | apply below_alloc | apply pw_below_drewN | apply below_drew1 | refine below_set ?_ GE151.out) | exact HB.out)) hb); have n2_ := Aside0.mk (hbox); have n3_ := Aside0.mk ((by rw [hg]; exact (below_size (by repeat (first | (with_reducible first | exact HB.out | apply below_alloc | apply pw_below_drewN | apply below_drew1 | refine below_set ?_ GE151.out) | exact HB.out))) : w.heap.size ≤ gb152)); have n4_ := Aside0.mk ((by rw [hg]; exact (below_size (by repeat (first | (with_reducible first | exact HB.out | apply below_alloc | apply pw_below_drewN | apply below_drew1 | refine below_set ?_ GE151.out) | exact HB.out))) : w.heap.size ≤ gb152)); have n5_ := Aside0.mk ((by rw [hg]; exact Nat.ne_of_lt (blk_lt (S.b BK151.out)) : gb151 ≠ gb152)); have n6_ := Aside0.mk ((by rw [hg]; exact Nat.ne_of_gt (blk_lt (S.b BK151.out)) : gb152 ≠ gb151)); clear BK151; clear HB; have BK151 := n0_; have HB := n1_; have BK152 := n2_; have GW152 := n3_; have GE152 := n4_; have NB151_152 := n5_; have NB152_151 := n6_; clear n0_ n1_ n2_ n3_ n4_ n5_ n6_; clear hb hbox hg) | ((with_reducible refine gate_dst (N := 13) rfl ?_); refine Kd.R_lit k24 _ 24 ?hg (N := 13) ?hd (xs := ([(⟨0, 1696, 9, 1, 0, 0, false, 0⟩ : S24), (⟨0, 1697, 2, 1, 0, 0, false, 0⟩ : S24), (⟨0, 1903, 3, 1, 0, 0, false, 0⟩ : S24), (⟨0, 1903, 7, 1, 0, 0, false, 0⟩ : S24)] : List (S24))) (inner := [.int .i64 0, .int .i64 1696, .int .i64 9, .int .i64 1, .int .i64 0, .int .i64 0, .bool false, .int .i64 0, .int .i64 0, .int .i64 1697, .int .i64 2, .int .i64 1, .int .i64 0, .int .i64 0, .bool false, .int .i64 0, .int .i64 0, .int .i64 1903, .int .i64 3, .int .i64 1, .int .i64 0, .int .i64 0, .bool false, .int .i64 0, .int .i64 0, .int .i64 1903, .int .i64 7, .int .i64 1, .int .i64 0, .int .i64 0, .bool false, .int .i64 0]) (ok := fun _ => True) (okp := fun _ => True) ?hr ?hp (fun _ hk => hk) trivial (Below.refl _ _) (Nat.le_refl _) (by simp) ?_; (case hd => rfl); (case hg => rfl); (case hr => first | (go_simp; done) | (go_simp; rfl)); (case hp => exact (Reps.c8 (show Kd.M k24 _ _ _ (⟨0, 1696, 9, 1, 0, 0, false, 0⟩ : S24) [.int .i64 0, .int .i64 1696, .int .i64 9, .int .i64 1, .int .i64 0, .int .i64 0, .bool false, .int .i64 0] from (k24_mkM _ _ _ (⟨0, 1696, 9, 1, 0, 0, false, 0⟩ : S24) )) (Reps.c8 (show Kd.M k24 _ _ _ (⟨0, 1697, 2, 1, 0, 0, false, 0⟩ : S24) [.int .i64 0, .int .i64 1697, .int .i64 2, .int .i64 1, .int .i64 0, .int .i64 0, .bool false, .int .i64 0] from (k24_mkM _ _ _ (⟨0, 1697, 2, 1, 0, 0, false, 0⟩ : S24) )) (Reps.c8 (show Kd.M k24 _ _ _ (⟨0, 1903, 3, 1, 0, 0, false, 0⟩ : S24) [.int .i64 0, .int .i64 1903, .int .i64 3, .int .i64 1, .int .i64 0, .int .i64 0, .bool false, .int .i64 0] from (k24_mkM _ _ _ (⟨0, 1903, 3, 1, 0, 0, false, 0⟩ : S24) )) (Reps.c8 (show Kd.M k24 _ _ _ (⟨0, 1903, 7, 1, 0, 0, false, 0⟩ : S24) [.int .i64 0, .int .i64 1903, .int .i64 7, .int .i64 1, .int .i64 0, .int .i64 0, .bool false, .int .i64 0] from (k24_mkM _ _ _ (⟨0, 1903, 7, 1, 0, 0, false, 0⟩ : S24) )) (Reps.none _ _)))))); intro v154 w5 ho6 hb hg_ hnew_; clear hg_ hnew_; (first | rw [← Ny153.out] at ho6 | (simp only [Int.reduceToNat] at ho6; rw [← Ny153.out] at ho6)); have n0_ := Aside0.mk (Kd.R_lower ho6 (below_size (by repeat (first | (with_reducible first | exact HB.out | apply below_alloc | apply pw_below_drewN | apply below_drew1 | refine below_set ?_ GE151.out | refine below_set ?_ GE152.out) | exact HB.out)))); have n1_ := Aside0.mk (blk_below (S.b BK151.out) hb); have n2_ := Aside0.mk (blk_below (S.b BK152.out) hb); have n3_ := Aside0.mk (below_step (by repeat (first | (with_reducible first | exact HB.out | apply below_alloc | apply pw_below_drewN | apply below_drew1 | refine below_set ?_ GE151.out | refine below_set ?_ GE152.out) | exact HB.out)) hb); clear BK151; clear BK152; clear HB; have HO155 := n0_; have BK151 := n1_; have BK152 := n2_; have HB := n3_; clear n0_ n1_ n2_ n3_; clear hb ho6; obtain ⟨Ao7, co7, eo7⟩ := Kd.R_slice HO155.out; subst eo7))
 go_loopg [5, 15] k (fun kq v5 v15 w' => ∃ (x5_1 : Int) (x15_1 : Int), v5 = .int .i64 x5_1 ∧ v15 = .int .i64 x15_1 ∧ Aside0 (date_CmpSpan.l0 kq x5_1 y153 (y153.length : Int) x15_1 a0_0 a0_1 a0_2 a1_0 a1_1 a1_2 = some r) ∧ Aside0 (kq ≤ k) ∧ Aside0 (Kd.R k24 24 w' w.heap.size (fun _ => True) (.slice Ao7 y153.length co7) y153) ∧ Aside0 (w'.heap[gb151]? = some (.cells #[.int .i64 a0_0, .int .i64 a0_1, .int .i64 a0_2] 34 (0, 0))) ∧ Aside0 (w'.heap[gb152]? = some (.cells #[.int .i64 a1_0, .int .i64 a1_1, .int .i64 a1_2] 34 (0, 0))) ∧ Aside0 (Below w.heap.size w w'))
 case atStart => exact ⟨(2), (0), (by first | rfl | (simp; done) | (simp [*]; done)), (by first | rfl | (simp; done) | (simp [*]; done)), H', ⟨Nat.le_refl _⟩, ⟨S.r HO155.out⟩, ⟨S.b BK151.out⟩, ⟨S.b BK152.out⟩, ⟨by repeat (first | (with_reducible first | exact HB.out | apply below_alloc | apply pw_below_drewN | apply below_drew1 | refine below_set ?_ GE151.out | refine below_set ?_ GE152.out) | exact HB.out)⟩⟩
 case round =>
  clear H'
  (try clear c1); (try clear p2)
  obtain ⟨x5_1, x15_1, rfl, rfl, HA, HK1, HO_13, BK151, BK152, HB⟩ := hrel
  cases gk with
  | zero => exact absurd HA.out (by simp [date_CmpSpan.l0])
  | succ k1 =>
   have H := HA.out
   clear HA
   simp only [date_CmpSpan.l0] at H
   by_cases c8 : x15_1 < (y153.length : Int)
   ·rw [if_pos c8] at H
    have c8b0 : decide (x15_1 < (y153.length : Int)) = true := decide_eq_true c8
    clear c8
    by_cases c9 : 0 ≤ x15_1
    ·rw [if_pos c9] at H
     have c9b0 : decide (0 ≤ x15_1) = true := decide_eq_true c9
     clear c9
     by_cases c10 : x15_1 < (y153.length : Int)
     ·rw [if_pos c10] at H
      have c10b0 : decide (x15_1 < (y153.length : Int)) = true := decide_eq_true c10
      clear c10
      replace H := Option.bind_eq_some_iff.mp H
      obtain ⟨⟨t158, t159, t160, t161, t162, t163, t164, t165⟩, A110, H⟩ := H
      try dsimp only at H
      have A11 := Aside0.mk A110
      clear A110
      replace H := Option.bind_eq_some_iff.mp H
      obtain ⟨⟨t166, t167, t168, t169, t170, t171, t172, t173⟩, A120, H⟩ := H
      try dsimp only at H
      have A12 := Aside0.mk A120
      clear A120
      replace H := Option.bind_eq_some_iff.mp H
      obtain ⟨t174, A130, H⟩ := H
      try dsimp only at H
      have A13 := Aside0.mk A130
      clear A130
      by_cases c14 : x15_1 > 0
      ·rw [if_pos c14] at H
       have c14b0 : decide (0 < x15_1) = true := decide_eq_true c14
       clear c14
       by_cases c15 : t174 = x5_1
       ·rw [if_pos c15] at H
        have c15b0 : (t174 == x5_1) = true := beq_iff_eq.mpr c15
        have c15b1 : (t174 != x5_1) = false := bne_eq_false_iff_eq.mpr c15
        clear c15
        have H' := Aside0.mk H
        clear H
        have p156 : 0 ≤ (x15_1 : Int) := of_decide_eq_true (by first | (with_reducible assumption) | assumption)
        have q156 : x15_1 < (y153.length : Int) := of_decide_eq_true (by first | (with_reducible assumption) | assumption)
        obtain ⟨ad156, e156, hx156_0, hx156_1, hx156_2, hx156_3, hx156_4, hx156_5, hx156_6, hx156_7⟩ := at_T24 (Kd.R_reads' HO_13.out).2.2 x15_1 p156 q156
        cases e156
        replace p156 := eq_true p156
        replace q156 := eq_true q156
        try go_wp2_with (first | ((with_reducible refine gate_dst (N := 7) rfl ?_); refine box_event ?hg (N := 7) ?hd (cs := #[.int .i64 0, .int .i64 0, .int .i64 0, .int .i64 0, .int .i64 0, .int .i64 0, .bool false, .int .i64 0]) (t := 24) ?hr ?_; (case hd => rfl); (case hg => rfl); (case hr => first | (go_simp; done) | (go_simp; rfl)); intro gb157 hg w16 hbox hb; have n0_ := Aside0.mk (Kd.R_below (Kd.R_elderB (S.r HO_13.out) gb157 (Nat.le_of_eq hg.symm)) hb); have n1_ := Aside0.mk (blk_below (S.b BK151.out) hb); have n2_ := Aside0.mk (blk_below (S.b BK152.out) hb); have n3_ := Aside0.mk (below_step (by repeat (first | (with_reducible first | exact HB.out | apply below_alloc | apply pw_below_drewN | apply below_drew1 | refine below_set ?_ GE151.out | refine below_set ?_ GE152.out) | exact HB.out)) hb); have n4_ := Aside0.mk (hbox); have n5_ := Aside0.mk ((by rw [hg]; exact (below_size (by repeat (first | (with_reducible first | exact HB.out | apply below_alloc | apply pw_below_drewN | apply below_drew1 | refine below_set ?_ GE151.out | refine below_set ?_ GE152.out) | exact HB.out))) : w.heap.size ≤ gb157)); have n6_ := Aside0.mk ((by rw [hg]; exact (below_size (by repeat (first | (with_reducible first | exact HB.out | apply below_alloc | apply pw_below_drewN | apply below_drew1 | refine below_set ?_ GE151.out | refine below_set ?_ GE152.out) | exact HB.out))) : w.heap.size ≤ gb157)); have n7_ := Aside0.mk ((by rw [hg]; exact Nat.ne_of_lt (blk_lt (S.b BK151.out)) : gb151 ≠ gb157)); have n8_ := Aside0.mk ((by rw [hg]; exact Nat.ne_of_gt (blk_lt (S.b BK151.out)) : gb157 ≠ gb151)); have n9_ := Aside0.mk ((by rw [hg]; exact Nat.ne_of_lt (blk_lt (S.b BK152.out)) : gb152 ≠ gb157)); have n10_ := Aside0.mk ((by rw [hg]; exact Nat.ne_of_gt (blk_lt (S.b BK152.out)) : gb157 ≠ gb152)); clear HO_13; clear BK151; clear BK152; clear HB; have HO_13 := n0_; have BK151 := n1_; have BK152 := n2_; have HB := n3_; have BK157 := n4_; have GW157 := n5_; have GE157 := n6_; have NB151_157 := n7_; have NB157_151 := n8_; have NB152_157 := n9_; have NB157_152 := n10_; clear n0_ n1_ n2_ n3_ n4_ n5_ n6_ n7_ n8_ n9_ n10_; clear hb hbox hg; have hnb17 := NB157_151.out; have hnc17 := NB151_157.out; have hnb18 := NB157_152.out; have hnc18 := NB152_157.out; have hcz19_0 : w16.cell? ⟨gb157, 0, none⟩ = some (.int .i64 0) := (blk_cell BK157.out 0).trans rfl; have hcz19_1 : w16.cell? ⟨gb157, 1, none⟩ = some (.int .i64 0) := (blk_cell BK157.out 1).trans rfl; have hcz19_2 : w16.cell? ⟨gb157, 2, none⟩ = some (.int .i64 0) := (blk_cell BK157.out 2).trans rfl; have hcz19_3 : w16.cell? ⟨gb157, 3, none⟩ = some (.int .i64 0) := (blk_cell BK157.out 3).trans rfl; have hcz19_4 : w16.cell? ⟨gb157, 4, none⟩ = some (.int .i64 0) := (blk_cell BK157.out 4).trans rfl; have hcz19_5 : w16.cell? ⟨gb157, 5, none⟩ = some (.int .i64 0) := (blk_cell BK157.out 5).trans rfl; have hcz19_6 : w16.cell? ⟨gb157, 6, none⟩ = some (.bool false) := (blk_cell BK157.out 6).trans rfl; have hcz19_7 : w16.cell? ⟨gb157, 7, none⟩ = some (.int .i64 0) := (blk_cell BK157.out 7).trans rfl; have hfz19_0 := blk_frozen BK157.out 0; have hfz19_1 := blk_frozen BK157.out 1; have hfz19_2 := blk_frozen BK157.out 2; have hfz19_3 := blk_frozen BK157.out 3; have hfz19_4 := blk_frozen BK157.out 4; have hfz19_5 := blk_frozen BK157.out 5; have hfz19_6 := blk_frozen BK157.out 6; have hfz19_7 := blk_frozen BK157.out 7))
        have n0_ : Aside0 (Kd.R k24 24 ((((((((w16.setCell ⟨gb157, 0, none⟩ (.int .i64 ((rd_T24 y153 x15_1).f0))).setCell ⟨gb157, 1, none⟩ (.int .i64 ((rd_T24 y153 x15_1).f1))).setCell ⟨gb157, 2, none⟩ (.int .i64 ((rd_T24 y153 x15_1).f2))).setCell ⟨gb157, 3, none⟩ (.int .i64 ((rd_T24 y153 x15_1).f3))).setCell ⟨gb157, 4, none⟩ (.int .i64 ((rd_T24 y153 x15_1).f4))).setCell ⟨gb157, 5, none⟩ (.int .i64 ((rd_T24 y153 x15_1).f5))).setCell ⟨gb157, 6, none⟩ (.bool ((rd_T24 y153 x15_1).f6))).setCell ⟨gb157, 7, none⟩ (.int .i64 ((rd_T24 y153 x15_1).f7))) w.heap.size (fun k_ => k_ ≠ gb157) (.slice (some ad156) y153.length co7) y153) := ⟨by (with_reducible repeat (first | apply Kd.R_alloc | apply Kd.R_drewN | apply Kd.R_drew)); exact Kd.R_mono (Kd.R_far (p := ⟨gb157, 7, none⟩) (Kd.R_far (p := ⟨gb157, 6, none⟩) (Kd.R_far (p := ⟨gb157, 5, none⟩) (Kd.R_far (p := ⟨gb157, 4, none⟩) (Kd.R_far (p := ⟨gb157, 3, none⟩) (Kd.R_far (p := ⟨gb157, 2, none⟩) (Kd.R_far (p := ⟨gb157, 1, none⟩) (Kd.R_far (p := ⟨gb157, 0, none⟩) (Kd.R_mono HO_13.out (fun k_ hk => (⟨hk, hk.2⟩ : _ ∧ k_ ≠ gb157))) (fun _ hk => hk.2) (.int .i64 ((rd_T24 y153 x15_1).f0))) (fun _ hk => hk.2) (.int .i64 ((rd_T24 y153 x15_1).f1))) (fun _ hk => hk.2) (.int .i64 ((rd_T24 y153 x15_1).f2))) (fun _ hk => hk.2) (.int .i64 ((rd_T24 y153 x15_1).f3))) (fun _ hk => hk.2) (.int .i64 ((rd_T24 y153 x15_1).f4))) (fun _ hk => hk.2) (.int .i64 ((rd_T24 y153 x15_1).f5))) (fun _ hk => hk.2) (.bool ((rd_T24 y153 x15_1).f6))) (fun _ hk => hk.2) (.int .i64 ((rd_T24 y153 x15_1).f7))) (fun _ hk => hk.1.2)⟩
        have n1_ : Aside0 (((((((((w16.setCell ⟨gb157, 0, none⟩ (.int .i64 ((rd_T24 y153 x15_1).f0))).setCell ⟨gb157, 1, none⟩ (.int .i64 ((rd_T24 y153 x15_1).f1))).setCell ⟨gb157, 2, none⟩ (.int .i64 ((rd_T24 y153 x15_1).f2))).setCell ⟨gb157, 3, none⟩ (.int .i64 ((rd_T24 y153 x15_1).f3))).setCell ⟨gb157, 4, none⟩ (.int .i64 ((rd_T24 y153 x15_1).f4))).setCell ⟨gb157, 5, none⟩ (.int .i64 ((rd_T24 y153 x15_1).f5))).setCell ⟨gb157, 6, none⟩ (.bool ((rd_T24 y153 x15_1).f6))).setCell ⟨gb157, 7, none⟩ (.int .i64 ((rd_T24 y153 x15_1).f7))).heap[gb151]? = some (.cells #[.int .i64 a0_0, .int .i64 a0_1, .int .i64 a0_2] 34 (0, 0))) := ⟨by (with_reducible repeat (first | refine blk_drewN ?_ _ | refine blk_drew ?_ | refine blk_alloc ?_ _)); refine blk_far ?_ NB151_157.out _; (with_reducible repeat (first | refine blk_drewN ?_ _ | refine blk_drew ?_ | refine blk_alloc ?_ _)); refine blk_far ?_ NB151_157.out _; (with_reducible repeat (first | refine blk_drewN ?_ _ | refine blk_drew ?_ | refine blk_alloc ?_ _)); refine blk_far ?_ NB151_157.out _; (with_reducible repeat (first | refine blk_drewN ?_ _ | refine blk_drew ?_ | refine blk_alloc ?_ _)); refine blk_far ?_ NB151_157.out _; (with_reducible repeat (first | refine blk_drewN ?_ _ | refine blk_drew ?_ | refine blk_alloc ?_ _)); refine blk_far ?_ NB151_157.out _; (with_reducible repeat (first | refine blk_drewN ?_ _ | refine blk_drew ?_ | refine blk_alloc ?_ _)); refine blk_far ?_ NB151_157.out _; (with_reducible repeat (first | refine blk_drewN ?_ _ | refine blk_drew ?_ | refine blk_alloc ?_ _)); refine blk_far ?_ NB151_157.out _; (with_reducible repeat (first | refine blk_drewN ?_ _ | refine blk_drew ?_ | refine blk_alloc ?_ _)); refine blk_far ?_ NB151_157.out _; (with_reducible repeat (first | refine blk_drewN ?_ _ | refine blk_drew ?_ | refine blk_alloc ?_ _)); exact BK151.out⟩
        have n2_ : Aside0 (((((((((w16.setCell ⟨gb157, 0, none⟩ (.int .i64 ((rd_T24 y153 x15_1).f0))).setCell ⟨gb157, 1, none⟩ (.int .i64 ((rd_T24 y153 x15_1).f1))).setCell ⟨gb157, 2, none⟩ (.int .i64 ((rd_T24 y153 x15_1).f2))).setCell ⟨gb157, 3, none⟩ (.int .i64 ((rd_T24 y153 x15_1).f3))).setCell ⟨gb157, 4, none⟩ (.int .i64 ((rd_T24 y153 x15_1).f4))).setCell ⟨gb157, 5, none⟩ (.int .i64 ((rd_T24 y153 x15_1).f5))).setCell ⟨gb157, 6, none⟩ (.bool ((rd_T24 y153 x15_1).f6))).setCell ⟨gb157, 7, none⟩ (.int .i64 ((rd_T24 y153 x15_1).f7))).heap[gb152]? = some (.cells #[.int .i64 a1_0, .int .i64 a1_1, .int .i64 a1_2] 34 (0, 0))) := ⟨by (with_reducible repeat (first | refine blk_drewN ?_ _ | refine blk_drew ?_ | refine blk_alloc ?_ _)); refine blk_far ?_ NB152_157.out _; (with_reducible repeat (first | refine blk_drewN ?_ _ | refine blk_drew ?_ | refine blk_alloc ?_ _)); refine blk_far ?_ NB152_157.out _; (with_reducible repeat (first | refine blk_drewN ?_ _ | refine blk_drew ?_ | refine blk_alloc ?_ _)); refine blk_far ?_ NB152_157.out _; (with_reducible repeat (first | refine blk_drewN ?_ _ | refine blk_drew ?_ | refine blk_alloc ?_ _)); refine blk_far ?_ NB152_157.out _; (with_reducible repeat (first | refine blk_drewN ?_ _ | refine blk_drew ?_ | refine blk_alloc ?_ _)); refine blk_far ?_ NB152_157.out _; (with_reducible repeat (first | refine blk_drewN ?_ _ | refine blk_drew ?_ | refine blk_alloc ?_ _)); refine blk_far ?_ NB152_157.out _; (with_reducible repeat (first | refine blk_drewN ?_ _ | refine blk_drew ?_ | refine blk_alloc ?_ _)); refine blk_far ?_ NB152_157.out _; (with_reducible repeat (first | refine blk_drewN ?_ _ | refine blk_drew ?_ | refine blk_alloc ?_ _)); refine blk_far ?_ NB152_157.out _; (with_reducible repeat (first | refine blk_drewN ?_ _ | refine blk_drew ?_ | refine blk_alloc ?_ _)); exact BK152.out⟩
        have n3_ : Aside0 (((((((((w16.setCell ⟨gb157, 0, none⟩ (.int .i64 ((rd_T24 y153 x15_1).f0))).setCell ⟨gb157, 1, none⟩ (.int .i64 ((rd_T24 y153 x15_1).f1))).setCell ⟨gb157, 2, none⟩ (.int .i64 ((rd_T24 y153 x15_1).f2))).setCell ⟨gb157, 3, none⟩ (.int .i64 ((rd_T24 y153 x15_1).f3))).setCell ⟨gb157, 4, none⟩ (.int .i64 ((rd_T24 y153 x15_1).f4))).setCell ⟨gb157, 5, none⟩ (.int .i64 ((rd_T24 y153 x15_1).f5))).setCell ⟨gb157, 6, none⟩ (.bool ((rd_T24 y153 x15_1).f6))).setCell ⟨gb157, 7, none⟩ (.int .i64 ((rd_T24 y153 x15_1).f7))).heap[gb157]? = some (.cells #[.int .i64 ((rd_T24 y153 x15_1).f0), .int .i64 ((rd_T24 y153 x15_1).f1), .int .i64 ((rd_T24 y153 x15_1).f2), .int .i64 ((rd_T24 y153 x15_1).f3), .int .i64 ((rd_T24 y153 x15_1).f4), .int .i64 ((rd_T24 y153 x15_1).f5), .bool ((rd_T24 y153 x15_1).f6), .int .i64 ((rd_T24 y153 x15_1).f7)] 24 (0, 0))) := ⟨by (with_reducible repeat (first | refine blk_drewN ?_ _ | refine blk_drew ?_ | refine blk_alloc ?_ _)); refine blk_put (cs := #[.int .i64 ((rd_T24 y153 x15_1).f0), .int .i64 ((rd_T24 y153 x15_1).f1), .int .i64 ((rd_T24 y153 x15_1).f2), .int .i64 ((rd_T24 y153 x15_1).f3), .int .i64 ((rd_T24 y153 x15_1).f4), .int .i64 ((rd_T24 y153 x15_1).f5), .bool ((rd_T24 y153 x15_1).f6), .int .i64 0]) ?_ 7 _ rfl; (with_reducible repeat (first | refine blk_drewN ?_ _ | refine blk_drew ?_ | refine blk_alloc ?_ _)); refine blk_put (cs := #[.int .i64 ((rd_T24 y153 x15_1).f0), .int .i64 ((rd_T24 y153 x15_1).f1), .int .i64 ((rd_T24 y153 x15_1).f2), .int .i64 ((rd_T24 y153 x15_1).f3), .int .i64 ((rd_T24 y153 x15_1).f4), .int .i64 ((rd_T24 y153 x15_1).f5), .bool false, .int .i64 0]) ?_ 6 _ rfl; (with_reducible repeat (first | refine blk_drewN ?_ _ | refine blk_drew ?_ | refine blk_alloc ?_ _)); refine blk_put (cs := #[.int .i64 ((rd_T24 y153 x15_1).f0), .int .i64 ((rd_T24 y153 x15_1).f1), .int .i64 ((rd_T24 y153 x15_1).f2), .int .i64 ((rd_T24 y153 x15_1).f3), .int .i64 ((rd_T24 y153 x15_1).f4), .int .i64 0, .bool false, .int .i64 0]) ?_ 5 _ rfl; (with_reducible repeat (first | refine blk_drewN ?_ _ | refine blk_drew ?_ | refine blk_alloc ?_ _)); refine blk_put (cs := #[.int .i64 ((rd_T24 y153 x15_1).f0), .int .i64 ((rd_T24 y153 x15_1).f1), .int .i64 ((rd_T24 y153 x15_1).f2), .int .i64 ((rd_T24 y153 x15_1).f3), .int .i64 0, .int .i64 0, .bool false, .int .i64 0]) ?_ 4 _ rfl; (with_reducible repeat (first | refine blk_drewN ?_ _ | refine blk_drew ?_ | refine blk_alloc ?_ _)); refine blk_put (cs := #[.int .i64 ((rd_T24 y153 x15_1).f0), .int .i64 ((rd_T24 y153 x15_1).f1), .int .i64 ((rd_T24 y153 x15_1).f2), .int .i64 0, .int .i64 0, .int .i64 0, .bool false, .int .i64 0]) ?_ 3 _ rfl; (with_reducible repeat (first | refine blk_drewN ?_ _ | refine blk_drew ?_ | refine blk_alloc ?_ _)); refine blk_put (cs := #[.int .i64 ((rd_T24 y153 x15_1).f0), .int .i64 ((rd_T24 y153 x15_1).f1), .int .i64 0, .int .i64 0, .int .i64 0, .int .i64 0, .bool false, .int .i64 0]) ?_ 2 _ rfl; (with_reducible repeat (first | refine blk_drewN ?_ _ | refine blk_drew ?_ | refine blk_alloc ?_ _)); refine blk_put (cs := #[.int .i64 ((rd_T24 y153 x15_1).f0), .int .i64 0, .int .i64 0, .int .i64 0, .int .i64 0, .int .i64 0, .bool false, .int .i64 0]) ?_ 1 _ rfl; (with_reducible repeat (first | refine blk_drewN ?_ _ | refine blk_drew ?_ | refine blk_alloc ?_ _)); refine blk_put (cs := #[.int .i64 0, .int .i64 0, .int .i64 0, .int .i64 0, .int .i64 0, .int .i64 0, .bool false, .int .i64 0]) ?_ 0 _ rfl; (with_reducible repeat (first | refine blk_drewN ?_ _ | refine blk_drew ?_ | refine blk_alloc ?_ _)); exact BK157.out⟩
        have n4_ : Aside0 (Below w.heap.size w ((((((((w16.setCell ⟨gb157, 0, none⟩ (.int .i64 ((rd_T24 y153 x15_1).f0))).setCell ⟨gb157, 1, none⟩ (.int .i64 ((rd_T24 y153 x15_1).f1))).setCell ⟨gb157, 2, none⟩ (.int .i64 ((rd_T24 y153 x15_1).f2))).setCell ⟨gb157, 3, none⟩ (.int .i64 ((rd_T24 y153 x15_1).f3))).setCell ⟨gb157, 4, none⟩ (.int .i64 ((rd_T24 y153 x15_1).f4))).setCell ⟨gb157, 5, none⟩ (.int .i64 ((rd_T24 y153 x15_1).f5))).setCell ⟨gb157, 6, none⟩ (.bool ((rd_T24 y153 x15_1).f6))).setCell ⟨gb157, 7, none⟩ (.int .i64 ((rd_T24 y153 x15_1).f7)))) := ⟨by repeat (first | (with_reducible first | exact HB.out | apply below_alloc | apply pw_below_drewN | apply below_drew1 | refine below_set ?_ GE151.out | refine below_set ?_ GE152.out | refine below_set ?_ GE157.out) | exact HB.out)⟩
        (try clear HO_13)
        (try clear BK151)
        (try clear BK152)
        (try clear BK157)
        (try clear HB)
        generalize ((((((((w16.setCell ⟨gb157, 0, none⟩ (.int .i64 ((rd_T24 y153 x15_1).f0))).setCell ⟨gb157, 1, none⟩ (.int .i64 ((rd_T24 y153 x15_1).f1))).setCell ⟨gb157, 2, none⟩ (.int .i64 ((rd_T24 y153 x15_1).f2))).setCell ⟨gb157, 3, none⟩ (.int .i64 ((rd_T24 y153 x15_1).f3))).setCell ⟨gb157, 4, none⟩ (.int .i64 ((rd_T24 y153 x15_1).f4))).setCell ⟨gb157, 5, none⟩ (.int .i64 ((rd_T24 y153 x15_1).f5))).setCell ⟨gb157, 6, none⟩ (.bool ((rd_T24 y153 x15_1).f6))).setCell ⟨gb157, 7, none⟩ (.int .i64 ((rd_T24 y153 x15_1).f7))) = w20 at n0_ n1_ n2_ n3_ n4_ ⊢
        have HO_13 := n0_
        have BK151 := n1_
        have BK152 := n2_
        have BK157 := n3_
        have HB := n4_
        clear n0_ n1_ n2_ n3_ n4_
        have n0_ := Aside0.mk (Kd.R_drew HO_13.out)
        have n1_ := Aside0.mk (blk_drew BK151.out)
        have n2_ := Aside0.mk (blk_drew BK152.out)
        have n3_ := Aside0.mk (blk_drew BK157.out)
        have n4_ := Aside0.mk (below_drew1 HB.out)
        clear HO_13
        clear BK151
        clear BK152
        clear BK157
        clear HB
        have HO_13 := n0_
        have BK151 := n1_
        have BK152 := n2_
        have BK157 := n3_
        have HB := n4_
        clear n0_ n1_ n2_ n3_ n4_
        refine start_ (n := 8) (S := fun w' => w'.cell? ⟨gb157, 0, none⟩ = some (.int .i64 ((rd_T24 y153 x15_1).f0)) ∧ w'.cell? ⟨gb157, 1, none⟩ = some (.int .i64 ((rd_T24 y153 x15_1).f1)) ∧ w'.cell? ⟨gb157, 2, none⟩ = some (.int .i64 ((rd_T24 y153 x15_1).f2)) ∧ w'.cell? ⟨gb157, 3, none⟩ = some (.int .i64 ((rd_T24 y153 x15_1).f3)) ∧ w'.cell? ⟨gb157, 4, none⟩ = some (.int .i64 ((rd_T24 y153 x15_1).f4)) ∧ w'.cell? ⟨gb157, 5, none⟩ = some (.int .i64 ((rd_T24 y153 x15_1).f5)) ∧ w'.cell? ⟨gb157, 6, none⟩ = some (.bool ((rd_T24 y153 x15_1).f6)) ∧ w'.cell? ⟨gb157, 7, none⟩ = some (.int .i64 ((rd_T24 y153 x15_1).f7)) ∧ w'.cell? ⟨gb151, 0, none⟩ = some (.int .i64 a0_0) ∧ w'.cell? ⟨gb151, 1, none⟩ = some (.int .i64 a0_1) ∧ w'.cell? ⟨gb151, 2, none⟩ = some (.int .i64 a0_2) ∧ w'.cell? ⟨gb152, 0, none⟩ = some (.int .i64 a1_0) ∧ w'.cell? ⟨gb152, 1, none⟩ = some (.int .i64 a1_1) ∧ w'.cell? ⟨gb152, 2, none⟩ = some (.int .i64 a1_2)) (ds := []) #[false, false, false, false, false, false, false, false] (by kernel_rfl) rfl rfl ⟨(blk_cell BK157.out 0).trans rfl, (blk_cell BK157.out 1).trans rfl, (blk_cell BK157.out 2).trans rfl, (blk_cell BK157.out 3).trans rfl, (blk_cell BK157.out 4).trans rfl, (blk_cell BK157.out 5).trans rfl, (blk_cell BK157.out 6).trans rfl, (blk_cell BK157.out 7).trans rfl, (blk_cell BK151.out 0).trans rfl, (blk_cell BK151.out 1).trans rfl, (blk_cell BK151.out 2).trans rfl, (blk_cell BK152.out 0).trans rfl, (blk_cell BK152.out 1).trans rfl, (blk_cell BK152.out 2).trans rfl⟩ (fun hHeld => ?_); refine with_tabW date_CmpSpan.tab5 date_CmpSpan.bits5 (fun HT_ HW_ => ?_)
        generalize w20.drew = w21 at HO_13 BK151 BK152 BK157 HB hHeld ⊢
        refine take_ (i := 0) (N := some 20) (v := ?_) (a' := ?_) #[true, false, false, false, false, false, false, false] rfl rfl (take_ofW HT_.out HW_.out (by kernel_rfl)) (fun _ _ _ h => h) (Or.inl ⟨by rfl, ?_⟩) hHeld ?_ ?_
        rotate_left
        ·rintro w' ⟨s0, s1, s2, s3, s4, s5, s6, s7, s8, s9, s10, s11, s12, s13⟩
         go_simp
         with_reducible rfl
        rotate_left
        ·simp only [Act.put, List.setIfInBounds_toArray, List.set_cons_zero, List.set_cons_succ, i64_w, i32_w]
         rfl
        refine take_ (i := 1) (N := some 21) (v := ?_) (a' := ?_) #[true, true, false, false, false, false, false, false] rfl rfl (take_ofW HT_.out HW_.out (by kernel_rfl)) (fun _ _ _ h => h) (Or.inl ⟨by rfl, ?_⟩) hHeld ?_ ?_
        rotate_left
        ·rintro w' ⟨s0, s1, s2, s3, s4, s5, s6, s7, s8, s9, s10, s11, s12, s13⟩
         go_simp
         with_reducible rfl
        rotate_left
        ·simp only [Act.put, List.setIfInBounds_toArray, List.set_cons_zero, List.set_cons_succ, i64_w, i32_w]
         rfl
        refine take_ (i := 3) (N := some 23) (v := ?_) (a' := ?_) #[true, true, false, true, false, false, false, false] rfl rfl (take_ofW HT_.out HW_.out (by kernel_rfl)) (fun _ _ _ h => h) (Or.inl ⟨by rfl, ?_⟩) hHeld ?_ ?_
        rotate_left
        ·rintro w' ⟨s0, s1, s2, s3, s4, s5, s6, s7, s8, s9, s10, s11, s12, s13⟩
         go_simp
         with_reducible rfl
        rotate_left
        ·simp only [Act.put, List.setIfInBounds_toArray, List.set_cons_zero, List.set_cons_succ, i64_w, i32_w]
         rfl
        refine take_ (i := 4) (N := some 24) (v := ?_) (a' := ?_) #[true, true, false, true, true, false, false, false] rfl rfl (take_ofW HT_.out HW_.out (by kernel_rfl)) (fun _ _ _ h => h) (Or.inl ⟨by rfl, ?_⟩) hHeld ?_ ?_
        rotate_left
        ·rintro w' ⟨s0, s1, s2, s3, s4, s5, s6, s7, s8, s9, s10, s11, s12, s13⟩
         go_simp
         with_reducible rfl
        rotate_left
        ·simp only [Act.put, List.setIfInBounds_toArray, List.set_cons_zero, List.set_cons_succ, i64_w, i32_w]
         rfl
        refine one_ (i := 2) (N := some 22) #[true, true, true, true, true, false, false, false] rfl rfl (one_of HT_.out (by kernel_rfl)) (by decide) (fun K hK => ?_)
        refine goes_ Tryd.func11 (by kernel_rfl) rfl #[.agg #[.int .i64 ((rd_T24 y153 x15_1).f0), .int .i64 ((rd_T24 y153 x15_1).f1), .int .i64 ((rd_T24 y153 x15_1).f2), .int .i64 ((rd_T24 y153 x15_1).f3), .int .i64 ((rd_T24 y153 x15_1).f4), .int .i64 ((rd_T24 y153 x15_1).f5), .bool ((rd_T24 y153 x15_1).f6), .int .i64 ((rd_T24 y153 x15_1).f7)], .agg #[.int .i64 a0_0, .int .i64 a0_1, .int .i64 a0_2]] (by rfl) rfl rfl (by (try simp only [List.map_toArray, List.map_cons, List.map_nil]); first | done | rfl | (simp only [List.length_drop, List.length_take]; rfl)) ?_
        with_reducible refine (date_Add.calls k1 ((rd_T24 y153 x15_1).f0) ((rd_T24 y153 x15_1).f1) ((rd_T24 y153 x15_1).f2) ((rd_T24 y153 x15_1).f3) ((rd_T24 y153 x15_1).f4) ((rd_T24 y153 x15_1).f5) ((rd_T24 y153 x15_1).f6) ((rd_T24 y153 x15_1).f7) a0_0 a0_1 a0_2 t158 t159 t160 t161 t162 t163 t164 t165 _ A11.out).mono ?_
        rintro e w22 ⟨rfl, hb⟩
        refine ⟨_, rfl, ?_⟩
        have n0_ := Aside0.mk (Kd.R_below (S.r HO_13.out) hb)
        have n1_ := Aside0.mk (blk_below (S.b BK151.out) hb)
        have n2_ := Aside0.mk (blk_below (S.b BK152.out) hb)
        have n3_ := Aside0.mk (blk_below (S.b BK157.out) hb)
        have n4_ := Aside0.mk (below_step (by repeat (first | (with_reducible first | exact HB.out | apply below_alloc | apply pw_below_drewN | apply below_drew1 | refine below_set ?_ GE151.out | refine below_set ?_ GE152.out | refine below_set ?_ GE157.out) | exact HB.out)) hb)
        clear HO_13
        clear BK151
        clear BK152
        clear BK157
        clear HB
        have HO_13 := n0_
        have BK151 := n1_
        have BK152 := n2_
        have BK157 := n3_
        have HB := n4_
        clear n0_ n1_ n2_ n3_ n4_
        (try clear hb)
        (try clear hb2)
        (try clear hk)
        (try clear hi)
        refine hK.out _ _ ⟨(blk_cell BK157.out 0).trans rfl, (blk_cell BK157.out 1).trans rfl, (blk_cell BK157.out 2).trans rfl, (blk_cell BK157.out 3).trans rfl, (blk_cell BK157.out 4).trans rfl, (blk_cell BK157.out 5).trans rfl, (blk_cell BK157.out 6).trans rfl, (blk_cell BK157.out 7).trans rfl, (blk_cell BK151.out 0).trans rfl, (blk_cell BK151.out 1).trans rfl, (blk_cell BK151.out 2).trans rfl, (blk_cell BK152.out 0).trans rfl, (blk_cell BK152.out 1).trans rfl, (blk_cell BK152.out 2).trans rfl⟩ (fun hHeld => ?_)
        clear hK K
        refine norm_ (a' := ?_) ?_ ?_
        rotate_left
        ·show Act.put _ (some 22) _ = _
         simp only [Act.put, List.setIfInBounds_toArray, List.set_cons_zero, List.set_cons_succ, i64_w, i32_w]
         rfl
        refine one_ (i := 5) (N := some 25) #[true, true, true, true, true, true, false, false] rfl rfl (one_of HT_.out (by kernel_rfl)) (by decide) (fun K hK => ?_)
        refine goes_ Tryd.func11 (by kernel_rfl) rfl #[.agg #[.int .i64 ((rd_T24 y153 x15_1).f0), .int .i64 ((rd_T24 y153 x15_1).f1), .int .i64 ((rd_T24 y153 x15_1).f2), .int .i64 ((rd_T24 y153 x15_1).f3), .int .i64 ((rd_T24 y153 x15_1).f4), .int .i64 ((rd_T24 y153 x15_1).f5), .bool ((rd_T24 y153 x15_1).f6), .int .i64 ((rd_T24 y153 x15_1).f7)], .agg #[.int .i64 a1_0, .int .i64 a1_1, .int .i64 a1_2]] (by rfl) rfl rfl (by (try simp only [List.map_toArray, List.map_cons, List.map_nil]); first | done | rfl | (simp only [List.length_drop, List.length_take]; rfl)) ?_
        with_reducible refine (date_Add.calls k1 ((rd_T24 y153 x15_1).f0) ((rd_T24 y153 x15_1).f1) ((rd_T24 y153 x15_1).f2) ((rd_T24 y153 x15_1).f3) ((rd_T24 y153 x15_1).f4) ((rd_T24 y153 x15_1).f5) ((rd_T24 y153 x15_1).f6) ((rd_T24 y153 x15_1).f7) a1_0 a1_1 a1_2 t166 t167 t168 t169 t170 t171 t172 t173 _ A12.out).mono ?_
        rintro e w23 ⟨rfl, hb⟩
        refine ⟨_, rfl, ?_⟩
        have n0_ := Aside0.mk (Kd.R_below (S.r HO_13.out) hb)
        have n1_ := Aside0.mk (blk_below (S.b BK151.out) hb)
        have n2_ := Aside0.mk (blk_below (S.b BK152.out) hb)
        have n3_ := Aside0.mk (blk_below (S.b BK157.out) hb)
        have n4_ := Aside0.mk (below_step (by repeat (first | (with_reducible first | exact HB.out | apply below_alloc | apply pw_below_drewN | apply below_drew1 | refine below_set ?_ GE151.out | refine below_set ?_ GE152.out | refine below_set ?_ GE157.out) | exact HB.out)) hb)
        clear HO_13
        clear BK151
        clear BK152
        clear BK157
        clear HB
        have HO_13 := n0_
        have BK151 := n1_
        have BK152 := n2_
        have BK157 := n3_
        have HB := n4_
        clear n0_ n1_ n2_ n3_ n4_
        (try clear hb)
        (try clear hb2)
        (try clear hk)
        (try clear hi)
        refine hK.out _ _ ⟨(blk_cell BK157.out 0).trans rfl, (blk_cell BK157.out 1).trans rfl, (blk_cell BK157.out 2).trans rfl, (blk_cell BK157.out 3).trans rfl, (blk_cell BK157.out 4).trans rfl, (blk_cell BK157.out 5).trans rfl, (blk_cell BK157.out 6).trans rfl, (blk_cell BK157.out 7).trans rfl, (blk_cell BK151.out 0).trans rfl, (blk_cell BK151.out 1).trans rfl, (blk_cell BK151.out 2).trans rfl, (blk_cell BK152.out 0).trans rfl, (blk_cell BK152.out 1).trans rfl, (blk_cell BK152.out 2).trans rfl⟩ (fun hHeld => ?_)
        clear hK K
        refine norm_ (a' := ?_) ?_ ?_
        rotate_left
        ·show Act.put _ (some 25) _ = _
         simp only [Act.put, List.setIfInBounds_toArray, List.set_cons_zero, List.set_cons_succ, i64_w, i32_w]
         rfl
        refine one_ (i := 6) (N := some 26) #[true, true, true, true, true, true, true, false] rfl rfl (one_of HT_.out (by kernel_rfl)) (by decide) (fun K hK => ?_)
        refine goes_ Tryd.func30 (by kernel_rfl) rfl #[.agg #[.int .i64 t158, .int .i64 t159, .int .i64 t160, .int .i64 t161, .int .i64 t162, .int .i64 t163, .bool t164, .int .i64 t165], .int .i64 0, .agg #[.int .i64 t166, .int .i64 t167, .int .i64 t168, .int .i64 t169, .int .i64 t170, .int .i64 t171, .bool t172, .int .i64 t173], .int .i64 0] (by rfl) rfl rfl (by (try simp only [List.map_toArray, List.map_cons, List.map_nil]); first | done | rfl | (simp only [List.length_drop, List.length_take]; rfl)) ?_
        with_reducible refine (date_at.calls k1 t158 t159 t160 t161 t162 t163 t164 t165 0 t166 t167 t168 t169 t170 t171 t172 t173 0 t174 _ A13.out).mono ?_
        rintro e w24 ⟨rfl, hb⟩
        refine ⟨_, rfl, ?_⟩
        have n0_ := Aside0.mk (Kd.R_below (S.r HO_13.out) hb)
        have n1_ := Aside0.mk (blk_below (S.b BK151.out) hb)
        have n2_ := Aside0.mk (blk_below (S.b BK152.out) hb)
        have n3_ := Aside0.mk (blk_below (S.b BK157.out) hb)
        have n4_ := Aside0.mk (below_step (by repeat (first | (with_reducible first | exact HB.out | apply below_alloc | apply pw_below_drewN | apply below_drew1 | refine below_set ?_ GE151.out | refine below_set ?_ GE152.out | refine below_set ?_ GE157.out) | exact HB.out)) hb)
        clear HO_13
        clear BK151
        clear BK152
        clear BK157
        clear HB
        have HO_13 := n0_
        have BK151 := n1_
        have BK152 := n2_
        have BK157 := n3_
        have HB := n4_
        clear n0_ n1_ n2_ n3_ n4_
        (try clear hb)
        (try clear hb2)
        (try clear hk)
        (try clear hi)
        refine hK.out _ _ ⟨(blk_cell BK157.out 0).trans rfl, (blk_cell BK157.out 1).trans rfl, (blk_cell BK157.out 2).trans rfl, (blk_cell BK157.out 3).trans rfl, (blk_cell BK157.out 4).trans rfl, (blk_cell BK157.out 5).trans rfl, (blk_cell BK157.out 6).trans rfl, (blk_cell BK157.out 7).trans rfl, (blk_cell BK151.out 0).trans rfl, (blk_cell BK151.out 1).trans rfl, (blk_cell BK151.out 2).trans rfl, (blk_cell BK152.out 0).trans rfl, (blk_cell BK152.out 1).trans rfl, (blk_cell BK152.out 2).trans rfl⟩ (fun hHeld => ?_)
        clear hK K
        refine norm_ (a' := ?_) ?_ ?_
        rotate_left
        ·show Act.put _ (some 26) _ = _
         simp only [Act.put, List.setIfInBounds_toArray, List.set_cons_zero, List.set_cons_succ, i64_w, i32_w]
         rfl
        refine pure_ (i := 7) (N := some 8) (v := ?_) (a' := ?_) #[true, true, true, true, true, true, true, true] rfl rfl (any_of HT_.out (by kernel_rfl)) (fun _ _ _ h => h) (Or.inl ⟨by rfl, ?_⟩) ?_ ?_
        rotate_left
        ·intro w'
         go_simp
         with_reducible rfl
        rotate_left
        ·simp only [Act.put, List.setIfInBounds_toArray, List.set_cons_zero, List.set_cons_succ, i64_w, i32_w]
         rfl
        refine done_ (done_of HT_.out (by kernel_rfl)) ?_
        try go_wp2
        go_roundg k1
        case measure => have := HK1.out; omega
        case rel => exact ⟨(t174), (wrap64 (x15_1 + 1)), (by first | rfl | (simp; done) | (simp [*]; done)), (by first | rfl | (simp; done) | (simp [*]; done)), H', ⟨by have := HK1.out; omega⟩, ⟨by (with_reducible repeat (first | apply Kd.R_alloc | apply Kd.R_drewN | apply Kd.R_drew)); exact Kd.R_mono HO_13.out (fun _ hk => trivial)⟩, ⟨S.b BK151.out⟩, ⟨S.b BK152.out⟩, ⟨by repeat (first | (with_reducible first | exact HB.out | apply below_alloc | apply pw_below_drewN | apply below_drew1 | refine below_set ?_ GE151.out | refine below_set ?_ GE152.out | refine below_set ?_ GE157.out) | exact HB.out)⟩⟩
       ·rw [if_neg c15] at H
        have c15b0 : (t174 == x5_1) = false := beq_eq_false_iff_ne.mpr c15
        have c15b1 : (t174 != x5_1) = true := bne_iff_ne.mpr c15
        obtain rfl := Option.some.inj H
        have p156 : 0 ≤ (x15_1 : Int) := of_decide_eq_true (by first | (with_reducible assumption) | assumption)
        have q156 : x15_1 < (y153.length : Int) := of_decide_eq_true (by first | (with_reducible assumption) | assumption)
        obtain ⟨ad156, e156, hx156_0, hx156_1, hx156_2, hx156_3, hx156_4, hx156_5, hx156_6, hx156_7⟩ := at_T24 (Kd.R_reads' HO_13.out).2.2 x15_1 p156 q156
        cases e156
        replace p156 := eq_true p156
        replace q156 := eq_true q156
        try go_wp2_with (first | ((with_reducible refine gate_dst (N := 7) rfl ?_); refine box_event ?hg (N := 7) ?hd (cs := #[.int .i64 0, .int .i64 0, .int .i64 0, .int .i64 0, .int .i64 0, .int .i64 0, .bool false, .int .i64 0]) (t := 24) ?hr ?_; (case hd => rfl); (case hg => rfl); (case hr => first | (go_simp; done) | (go_simp; rfl)); intro gb157 hg w25 hbox hb; have n0_ := Aside0.mk (Kd.R_below (Kd.R_elderB (S.r HO_13.out) gb157 (Nat.le_of_eq hg.symm)) hb); have n1_ := Aside0.mk (blk_below (S.b BK151.out) hb); have n2_ := Aside0.mk (blk_below (S.b BK152.out) hb); have n3_ := Aside0.mk (below_step (by repeat (first | (with_reducible first | exact HB.out | apply below_alloc | apply pw_below_drewN | apply below_drew1 | refine below_set ?_ GE151.out | refine below_set ?_ GE152.out) | exact HB.out)) hb); have n4_ := Aside0.mk (hbox); have n5_ := Aside0.mk ((by rw [hg]; exact (below_size (by repeat (first | (with_reducible first | exact HB.out | apply below_alloc | apply pw_below_drewN | apply below_drew1 | refine below_set ?_ GE151.out | refine below_set ?_ GE152.out) | exact HB.out))) : w.heap.size ≤ gb157)); have n6_ := Aside0.mk ((by rw [hg]; exact (below_size (by repeat (first | (with_reducible first | exact HB.out | apply below_alloc | apply pw_below_drewN | apply below_drew1 | refine below_set ?_ GE151.out | refine below_set ?_ GE152.out) | exact HB.out))) : w.heap.size ≤ gb157)); have n7_ := Aside0.mk ((by rw [hg]; exact Nat.ne_of_lt (blk_lt (S.b BK151.out)) : gb151 ≠ gb157)); have n8_ := Aside0.mk ((by rw [hg]; exact Nat.ne_of_gt (blk_lt (S.b BK151.out)) : gb157 ≠ gb151)); have n9_ := Aside0.mk ((by rw [hg]; exact Nat.ne_of_lt (blk_lt (S.b BK152.out)) : gb152 ≠ gb157)); have n10_ := Aside0.mk ((by rw [hg]; exact Nat.ne_of_gt (blk_lt (S.b BK152.out)) : gb157 ≠ gb152)); clear HO_13; clear BK151; clear BK152; clear HB; have HO_13 := n0_; have BK151 := n1_; have BK152 := n2_; have HB := n3_; have BK157 := n4_; have GW157 := n5_; have GE157 := n6_; have NB151_157 := n7_; have NB157_151 := n8_; have NB152_157 := n9_; have NB157_152 := n10_; clear n0_ n1_ n2_ n3_ n4_ n5_ n6_ n7_ n8_ n9_ n10_; clear hb hbox hg; have hnb26 := NB157_151.out; have hnc26 := NB151_157.out; have hnb27 := NB157_152.out; have hnc27 := NB152_157.out; have hcz28_0 : w25.cell? ⟨gb157, 0, none⟩ = some (.int .i64 0) := (blk_cell BK157.out 0).trans rfl; have hcz28_1 : w25.cell? ⟨gb157, 1, none⟩ = some (.int .i64 0) := (blk_cell BK157.out 1).trans rfl; have hcz28_2 : w25.cell? ⟨gb157, 2, none⟩ = some (.int .i64 0) := (blk_cell BK157.out 2).trans rfl; have hcz28_3 : w25.cell? ⟨gb157, 3, none⟩ = some (.int .i64 0) := (blk_cell BK157.out 3).trans rfl; have hcz28_4 : w25.cell? ⟨gb157, 4, none⟩ = some (.int .i64 0) := (blk_cell BK157.out 4).trans rfl; have hcz28_5 : w25.cell? ⟨gb157, 5, none⟩ = some (.int .i64 0) := (blk_cell BK157.out 5).trans rfl; have hcz28_6 : w25.cell? ⟨gb157, 6, none⟩ = some (.bool false) := (blk_cell BK157.out 6).trans rfl; have hcz28_7 : w25.cell? ⟨gb157, 7, none⟩ = some (.int .i64 0) := (blk_cell BK157.out 7).trans rfl; have hfz28_0 := blk_frozen BK157.out 0; have hfz28_1 := blk_frozen BK157.out 1; have hfz28_2 := blk_frozen BK157.out 2; have hfz28_3 := blk_frozen BK157.out 3; have hfz28_4 := blk_frozen BK157.out 4; have hfz28_5 := blk_frozen BK157.out 5; have hfz28_6 := blk_frozen BK157.out 6; have hfz28_7 := blk_frozen BK157.out 7))
        have n0_ : Aside0 (Kd.R k24 24 ((((((((w25.setCell ⟨gb157, 0, none⟩ (.int .i64 ((rd_T24 y153 x15_1).f0))).setCell ⟨gb157, 1, none⟩ (.int .i64 ((rd_T24 y153 x15_1).f1))).setCell ⟨gb157, 2, none⟩ (.int .i64 ((rd_T24 y153 x15_1).f2))).setCell ⟨gb157, 3, none⟩ (.int .i64 ((rd_T24 y153 x15_1).f3))).setCell ⟨gb157, 4, none⟩ (.int .i64 ((rd_T24 y153 x15_1).f4))).setCell ⟨gb157, 5, none⟩ (.int .i64 ((rd_T24 y153 x15_1).f5))).setCell ⟨gb157, 6, none⟩ (.bool ((rd_T24 y153 x15_1).f6))).setCell ⟨gb157, 7, none⟩ (.int .i64 ((rd_T24 y153 x15_1).f7))) w.heap.size (fun k_ => k_ ≠ gb157) (.slice (some ad156) y153.length co7) y153) := ⟨by (with_reducible repeat (first | apply Kd.R_alloc | apply Kd.R_drewN | apply Kd.R_drew)); exact Kd.R_mono (Kd.R_far (p := ⟨gb157, 7, none⟩) (Kd.R_far (p := ⟨gb157, 6, none⟩) (Kd.R_far (p := ⟨gb157, 5, none⟩) (Kd.R_far (p := ⟨gb157, 4, none⟩) (Kd.R_far (p := ⟨gb157, 3, none⟩) (Kd.R_far (p := ⟨gb157, 2, none⟩) (Kd.R_far (p := ⟨gb157, 1, none⟩) (Kd.R_far (p := ⟨gb157, 0, none⟩) (Kd.R_mono HO_13.out (fun k_ hk => (⟨hk, hk.2⟩ : _ ∧ k_ ≠ gb157))) (fun _ hk => hk.2) (.int .i64 ((rd_T24 y153 x15_1).f0))) (fun _ hk => hk.2) (.int .i64 ((rd_T24 y153 x15_1).f1))) (fun _ hk => hk.2) (.int .i64 ((rd_T24 y153 x15_1).f2))) (fun _ hk => hk.2) (.int .i64 ((rd_T24 y153 x15_1).f3))) (fun _ hk => hk.2) (.int .i64 ((rd_T24 y153 x15_1).f4))) (fun _ hk => hk.2) (.int .i64 ((rd_T24 y153 x15_1).f5))) (fun _ hk => hk.2) (.bool ((rd_T24 y153 x15_1).f6))) (fun _ hk => hk.2) (.int .i64 ((rd_T24 y153 x15_1).f7))) (fun _ hk => hk.1.2)⟩
        have n1_ : Aside0 (((((((((w25.setCell ⟨gb157, 0, none⟩ (.int .i64 ((rd_T24 y153 x15_1).f0))).setCell ⟨gb157, 1, none⟩ (.int .i64 ((rd_T24 y153 x15_1).f1))).setCell ⟨gb157, 2, none⟩ (.int .i64 ((rd_T24 y153 x15_1).f2))).setCell ⟨gb157, 3, none⟩ (.int .i64 ((rd_T24 y153 x15_1).f3))).setCell ⟨gb157, 4, none⟩ (.int .i64 ((rd_T24 y153 x15_1).f4))).setCell ⟨gb157, 5, none⟩ (.int .i64 ((rd_T24 y153 x15_1).f5))).setCell ⟨gb157, 6, none⟩ (.bool ((rd_T24 y153 x15_1).f6))).setCell ⟨gb157, 7, none⟩ (.int .i64 ((rd_T24 y153 x15_1).f7))).heap[gb151]? = some (.cells #[.int .i64 a0_0, .int .i64 a0_1, .int .i64 a0_2] 34 (0, 0))) := ⟨by (with_reducible repeat (first | refine blk_drewN ?_ _ | refine blk_drew ?_ | refine blk_alloc ?_ _)); refine blk_far ?_ NB151_157.out _; (with_reducible repeat (first | refine blk_drewN ?_ _ | refine blk_drew ?_ | refine blk_alloc ?_ _)); refine blk_far ?_ NB151_157.out _; (with_reducible repeat (first | refine blk_drewN ?_ _ | refine blk_drew ?_ | refine blk_alloc ?_ _)); refine blk_far ?_ NB151_157.out _; (with_reducible repeat (first | refine blk_drewN ?_ _ | refine blk_drew ?_ | refine blk_alloc ?_ _)); refine blk_far ?_ NB151_157.out _; (with_reducible repeat (first | refine blk_drewN ?_ _ | refine blk_drew ?_ | refine blk_alloc ?_ _)); refine blk_far ?_ NB151_157.out _; (with_reducible repeat (first | refine blk_drewN ?_ _ | refine blk_drew ?_ | refine blk_alloc ?_ _)); refine blk_far ?_ NB151_157.out _; (with_reducible repeat (first | refine blk_drewN ?_ _ | refine blk_drew ?_ | refine blk_alloc ?_ _)); refine blk_far ?_ NB151_157.out _; (with_reducible repeat (first | refine blk_drewN ?_ _ | refine blk_drew ?_ | refine blk_alloc ?_ _)); refine blk_far ?_ NB151_157.out _; (with_reducible repeat (first | refine blk_drewN ?_ _ | refine blk_drew ?_ | refine blk_alloc ?_ _)); exact BK151.out⟩
        have n2_ : Aside0 (((((((((w25.setCell ⟨gb157, 0, none⟩ (.int .i64 ((rd_T24 y153 x15_1).f0))).setCell ⟨gb157, 1, none⟩ (.int .i64 ((rd_T24 y153 x15_1).f1))).setCell ⟨gb157, 2, none⟩ (.int .i64 ((rd_T24 y153 x15_1).f2))).setCell ⟨gb157, 3, none⟩ (.int .i64 ((rd_T24 y153 x15_1).f3))).setCell ⟨gb157, 4, none⟩ (.int .i64 ((rd_T24 y153 x15_1).f4))).setCell ⟨gb157, 5, none⟩ (.int .i64 ((rd_T24 y153 x15_1).f5))).setCell ⟨gb157, 6, none⟩ (.bool ((rd_T24 y153 x15_1).f6))).setCell ⟨gb157, 7, none⟩ (.int .i64 ((rd_T24 y153 x15_1).f7))).heap[gb152]? = some (.cells #[.int .i64 a1_0, .int .i64 a1_1, .int .i64 a1_2] 34 (0, 0))) := ⟨by (with_reducible repeat (first | refine blk_drewN ?_ _ | refine blk_drew ?_ | refine blk_alloc ?_ _)); refine blk_far ?_ NB152_157.out _; (with_reducible repeat (first | refine blk_drewN ?_ _ | refine blk_drew ?_ | refine blk_alloc ?_ _)); refine blk_far ?_ NB152_157.out _; (with_reducible repeat (first | refine blk_drewN ?_ _ | refine blk_drew ?_ | refine blk_alloc ?_ _)); refine blk_far ?_ NB152_157.out _; (with_reducible repeat (first | refine blk_drewN ?_ _ | refine blk_drew ?_ | refine blk_alloc ?_ _)); refine blk_far ?_ NB152_157.out _; (with_reducible repeat (first | refine blk_drewN ?_ _ | refine blk_drew ?_ | refine blk_alloc ?_ _)); refine blk_far ?_ NB152_157.out _; (with_reducible repeat (first | refine blk_drewN ?_ _ | refine blk_drew ?_ | refine blk_alloc ?_ _)); refine blk_far ?_ NB152_157.out _; (with_reducible repeat (first | refine blk_drewN ?_ _ | refine blk_drew ?_ | refine blk_alloc ?_ _)); refine blk_far ?_ NB152_157.out _; (with_reducible repeat (first | refine blk_drewN ?_ _ | refine blk_drew ?_ | refine blk_alloc ?_ _)); refine blk_far ?_ NB152_157.out _; (with_reducible repeat (first | refine blk_drewN ?_ _ | refine blk_drew ?_ | refine blk_alloc ?_ _)); exact BK152.out⟩
        have n3_ : Aside0 (((((((((w25.setCell ⟨gb157, 0, none⟩ (.int .i64 ((rd_T24 y153 x15_1).f0))).setCell ⟨gb157, 1, none⟩ (.int .i64 ((rd_T24 y153 x15_1).f1))).setCell ⟨gb157, 2, none⟩ (.int .i64 ((rd_T24 y153 x15_1).f2))).setCell ⟨gb157, 3, none⟩ (.int .i64 ((rd_T24 y153 x15_1).f3))).setCell ⟨gb157, 4, none⟩ (.int .i64 ((rd_T24 y153 x15_1).f4))).setCell ⟨gb157, 5, none⟩ (.int .i64 ((rd_T24 y153 x15_1).f5))).setCell ⟨gb157, 6, none⟩ (.bool ((rd_T24 y153 x15_1).f6))).setCell ⟨gb157, 7, none⟩ (.int .i64 ((rd_T24 y153 x15_1).f7))).heap[gb157]? = some (.cells #[.int .i64 ((rd_T24 y153 x15_1).f0), .int .i64 ((rd_T24 y153 x15_1).f1), .int .i64 ((rd_T24 y153 x15_1).f2), .int .i64 ((rd_T24 y153 x15_1).f3), .int .i64 ((rd_T24 y153 x15_1).f4), .int .i64 ((rd_T24 y153 x15_1).f5), .bool ((rd_T24 y153 x15_1).f6), .int .i64 ((rd_T24 y153 x15_1).f7)] 24 (0, 0))) := ⟨by (with_reducible repeat (first | refine blk_drewN ?_ _ | refine blk_drew ?_ | refine blk_alloc ?_ _)); refine blk_put (cs := #[.int .i64 ((rd_T24 y153 x15_1).f0), .int .i64 ((rd_T24 y153 x15_1).f1), .int .i64 ((rd_T24 y153 x15_1).f2), .int .i64 ((rd_T24 y153 x15_1).f3), .int .i64 ((rd_T24 y153 x15_1).f4), .int .i64 ((rd_T24 y153 x15_1).f5), .bool ((rd_T24 y153 x15_1).f6), .int .i64 0]) ?_ 7 _ rfl; (with_reducible repeat (first | refine blk_drewN ?_ _ | refine blk_drew ?_ | refine blk_alloc ?_ _)); refine blk_put (cs := #[.int .i64 ((rd_T24 y153 x15_1).f0), .int .i64 ((rd_T24 y153 x15_1).f1), .int .i64 ((rd_T24 y153 x15_1).f2), .int .i64 ((rd_T24 y153 x15_1).f3), .int .i64 ((rd_T24 y153 x15_1).f4), .int .i64 ((rd_T24 y153 x15_1).f5), .bool false, .int .i64 0]) ?_ 6 _ rfl; (with_reducible repeat (first | refine blk_drewN ?_ _ | refine blk_drew ?_ | refine blk_alloc ?_ _)); refine blk_put (cs := #[.int .i64 ((rd_T24 y153 x15_1).f0), .int .i64 ((rd_T24 y153 x15_1).f1), .int .i64 ((rd_T24 y153 x15_1).f2), .int .i64 ((rd_T24 y153 x15_1).f3), .int .i64 ((rd_T24 y153 x15_1).f4), .int .i64 0, .bool false, .int .i64 0]) ?_ 5 _ rfl; (with_reducible repeat (first | refine blk_drewN ?_ _ | refine blk_drew ?_ | refine blk_alloc ?_ _)); refine blk_put (cs := #[.int .i64 ((rd_T24 y153 x15_1).f0), .int .i64 ((rd_T24 y153 x15_1).f1), .int .i64 ((rd_T24 y153 x15_1).f2), .int .i64 ((rd_T24 y153 x15_1).f3), .int .i64 0, .int .i64 0, .bool false, .int .i64 0]) ?_ 4 _ rfl; (with_reducible repeat (first | refine blk_drewN ?_ _ | refine blk_drew ?_ | refine blk_alloc ?_ _)); refine blk_put (cs := #[.int .i64 ((rd_T24 y153 x15_1).f0), .int .i64 ((rd_T24 y153 x15_1).f1), .int .i64 ((rd_T24 y153 x15_1).f2), .int .i64 0, .int .i64 0, .int .i64 0, .bool false, .int .i64 0]) ?_ 3 _ rfl; (with_reducible repeat (first | refine blk_drewN ?_ _ | refine blk_drew ?_ | refine blk_alloc ?_ _)); refine blk_put (cs := #[.int .i64 ((rd_T24 y153 x15_1).f0), .int .i64 ((rd_T24 y153 x15_1).f1), .int .i64 0, .int .i64 0, .int .i64 0, .int .i64 0, .bool false, .int .i64 0]) ?_ 2 _ rfl; (with_reducible repeat (first | refine blk_drewN ?_ _ | refine blk_drew ?_ | refine blk_alloc ?_ _)); refine blk_put (cs := #[.int .i64 ((rd_T24 y153 x15_1).f0), .int .i64 0, .int .i64 0, .int .i64 0, .int .i64 0, .int .i64 0, .bool false, .int .i64 0]) ?_ 1 _ rfl; (with_reducible repeat (first | refine blk_drewN ?_ _ | refine blk_drew ?_ | refine blk_alloc ?_ _)); refine blk_put (cs := #[.int .i64 0, .int .i64 0, .int .i64 0, .int .i64 0, .int .i64 0, .int .i64 0, .bool false, .int .i64 0]) ?_ 0 _ rfl; (with_reducible repeat (first | refine blk_drewN ?_ _ | refine blk_drew ?_ | refine blk_alloc ?_ _)); exact BK157.out⟩
        have n4_ : Aside0 (Below w.heap.size w ((((((((w25.setCell ⟨gb157, 0, none⟩ (.int .i64 ((rd_T24 y153 x15_1).f0))).setCell ⟨gb157, 1, none⟩ (.int .i64 ((rd_T24 y153 x15_1).f1))).setCell ⟨gb157, 2, none⟩ (.int .i64 ((rd_T24 y153 x15_1).f2))).setCell ⟨gb157, 3, none⟩ (.int .i64 ((rd_T24 y153 x15_1).f3))).setCell ⟨gb157, 4, none⟩ (.int .i64 ((rd_T24 y153 x15_1).f4))).setCell ⟨gb157, 5, none⟩ (.int .i64 ((rd_T24 y153 x15_1).f5))).setCell ⟨gb157, 6, none⟩ (.bool ((rd_T24 y153 x15_1).f6))).setCell ⟨gb157, 7, none⟩ (.int .i64 ((rd_T24 y153 x15_1).f7)))) := ⟨by repeat (first | (with_reducible first | exact HB.out | apply below_alloc | apply pw_below_drewN | apply below_drew1 | refine below_set ?_ GE151.out | refine below_set ?_ GE152.out | refine below_set ?_ GE157.out) | exact HB.out)⟩
        (try clear HO_13)
        (try clear BK151)
        (try clear BK152)
        (try clear BK157)
        (try clear HB)
        generalize ((((((((w25.setCell ⟨gb157, 0, none⟩ (.int .i64 ((rd_T24 y153 x15_1).f0))).setCell ⟨gb157, 1, none⟩ (.int .i64 ((rd_T24 y153 x15_1).f1))).setCell ⟨gb157, 2, none⟩ (.int .i64 ((rd_T24 y153 x15_1).f2))).setCell ⟨gb157, 3, none⟩ (.int .i64 ((rd_T24 y153 x15_1).f3))).setCell ⟨gb157, 4, none⟩ (.int .i64 ((rd_T24 y153 x15_1).f4))).setCell ⟨gb157, 5, none⟩ (.int .i64 ((rd_T24 y153 x15_1).f5))).setCell ⟨gb157, 6, none⟩ (.bool ((rd_T24 y153 x15_1).f6))).setCell ⟨gb157, 7, none⟩ (.int .i64 ((rd_T24 y153 x15_1).f7))) = w29 at n0_ n1_ n2_ n3_ n4_ ⊢
        have HO_13 := n0_
        have BK151 := n1_
        have BK152 := n2_
        have BK157 := n3_
        have HB := n4_
        clear n0_ n1_ n2_ n3_ n4_
        have n0_ := Aside0.mk (Kd.R_drew HO_13.out)
        have n1_ := Aside0.mk (blk_drew BK151.out)
        have n2_ := Aside0.mk (blk_drew BK152.out)
        have n3_ := Aside0.mk (blk_drew BK157.out)
        have n4_ := Aside0.mk (below_drew1 HB.out)
        clear HO_13
        clear BK151
        clear BK152
        clear BK157
        clear HB
        have HO_13 := n0_
        have BK151 := n1_
        have BK152 := n2_
        have BK157 := n3_
        have HB := n4_
        clear n0_ n1_ n2_ n3_ n4_
        refine start_ (n := 8) (S := fun w' => w'.cell? ⟨gb157, 0, none⟩ = some (.int .i64 ((rd_T24 y153 x15_1).f0)) ∧ w'.cell? ⟨gb157, 1, none⟩ = some (.int .i64 ((rd_T24 y153 x15_1).f1)) ∧ w'.cell? ⟨gb157, 2, none⟩ = some (.int .i64 ((rd_T24 y153 x15_1).f2)) ∧ w'.cell? ⟨gb157, 3, none⟩ = some (.int .i64 ((rd_T24 y153 x15_1).f3)) ∧ w'.cell? ⟨gb157, 4, none⟩ = some (.int .i64 ((rd_T24 y153 x15_1).f4)) ∧ w'.cell? ⟨gb157, 5, none⟩ = some (.int .i64 ((rd_T24 y153 x15_1).f5)) ∧ w'.cell? ⟨gb157, 6, none⟩ = some (.bool ((rd_T24 y153 x15_1).f6)) ∧ w'.cell? ⟨gb157, 7, none⟩ = some (.int .i64 ((rd_T24 y153 x15_1).f7)) ∧ w'.cell? ⟨gb151, 0, none⟩ = some (.int .i64 a0_0) ∧ w'.cell? ⟨gb151, 1, none⟩ = some (.int .i64 a0_1) ∧ w'.cell? ⟨gb151, 2, none⟩ = some (.int .i64 a0_2) ∧ w'.cell? ⟨gb152, 0, none⟩ = some (.int .i64 a1_0) ∧ w'.cell? ⟨gb152, 1, none⟩ = some (.int .i64 a1_1) ∧ w'.cell? ⟨gb152, 2, none⟩ = some (.int .i64 a1_2)) (ds := []) #[false, false, false, false, false, false, false, false] (by kernel_rfl) rfl rfl ⟨(blk_cell BK157.out 0).trans rfl, (blk_cell BK157.out 1).trans rfl, (blk_cell BK157.out 2).trans rfl, (blk_cell BK157.out 3).trans rfl, (blk_cell BK157.out 4).trans rfl, (blk_cell BK157.out 5).trans rfl, (blk_cell BK157.out 6).trans rfl, (blk_cell BK157.out 7).trans rfl, (blk_cell BK151.out 0).trans rfl, (blk_cell BK151.out 1).trans rfl, (blk_cell BK151.out 2).trans rfl, (blk_cell BK152.out 0).trans rfl, (blk_cell BK152.out 1).trans rfl, (blk_cell BK152.out 2).trans rfl⟩ (fun hHeld => ?_); refine with_tabW date_CmpSpan.tab5 date_CmpSpan.bits5 (fun HT_ HW_ => ?_)
        generalize w29.drew = w30 at HO_13 BK151 BK152 BK157 HB hHeld ⊢
        refine take_ (i := 0) (N := some 20) (v := ?_) (a' := ?_) #[true, false, false, false, false, false, false, false] rfl rfl (take_ofW HT_.out HW_.out (by kernel_rfl)) (fun _ _ _ h => h) (Or.inl ⟨by rfl, ?_⟩) hHeld ?_ ?_
        rotate_left
        ·rintro w' ⟨s0, s1, s2, s3, s4, s5, s6, s7, s8, s9, s10, s11, s12, s13⟩
         go_simp
         with_reducible rfl
        rotate_left
        ·simp only [Act.put, List.setIfInBounds_toArray, List.set_cons_zero, List.set_cons_succ, i64_w, i32_w]
         rfl
        refine take_ (i := 1) (N := some 21) (v := ?_) (a' := ?_) #[true, true, false, false, false, false, false, false] rfl rfl (take_ofW HT_.out HW_.out (by kernel_rfl)) (fun _ _ _ h => h) (Or.inl ⟨by rfl, ?_⟩) hHeld ?_ ?_
        rotate_left
        ·rintro w' ⟨s0, s1, s2, s3, s4, s5, s6, s7, s8, s9, s10, s11, s12, s13⟩
         go_simp
         with_reducible rfl
        rotate_left
        ·simp only [Act.put, List.setIfInBounds_toArray, List.set_cons_zero, List.set_cons_succ, i64_w, i32_w]
         rfl
        refine take_ (i := 3) (N := some 23) (v := ?_) (a' := ?_) #[true, true, false, true, false, false, false, false] rfl rfl (take_ofW HT_.out HW_.out (by kernel_rfl)) (fun _ _ _ h => h) (Or.inl ⟨by rfl, ?_⟩) hHeld ?_ ?_
        rotate_left
        ·rintro w' ⟨s0, s1, s2, s3, s4, s5, s6, s7, s8, s9, s10, s11, s12, s13⟩
         go_simp
         with_reducible rfl
        rotate_left
        ·simp only [Act.put, List.setIfInBounds_toArray, List.set_cons_zero, List.set_cons_succ, i64_w, i32_w]
         rfl
        refine take_ (i := 4) (N := some 24) (v := ?_) (a' := ?_) #[true, true, false, true, true, false, false, false] rfl rfl (take_ofW HT_.out HW_.out (by kernel_rfl)) (fun _ _ _ h => h) (Or.inl ⟨by rfl, ?_⟩) hHeld ?_ ?_
        rotate_left
        ·rintro w' ⟨s0, s1, s2, s3, s4, s5, s6, s7, s8, s9, s10, s11, s12, s13⟩
         go_simp
         with_reducible rfl
        rotate_left
        ·simp only [Act.put, List.setIfInBounds_toArray, List.set_cons_zero, List.set_cons_succ, i64_w, i32_w]
         rfl
        refine one_ (i := 2) (N := some 22) #[true, true, true, true, true, false, false, false] rfl rfl (one_of HT_.out (by kernel_rfl)) (by decide) (fun K hK => ?_)
        refine goes_ Tryd.func11 (by kernel_rfl) rfl #[.agg #[.int .i64 ((rd_T24 y153 x15_1).f0), .int .i64 ((rd_T24 y153 x15_1).f1), .int .i64 ((rd_T24 y153 x15_1).f2), .int .i64 ((rd_T24 y153 x15_1).f3), .int .i64 ((rd_T24 y153 x15_1).f4), .int .i64 ((rd_T24 y153 x15_1).f5), .bool ((rd_T24 y153 x15_1).f6), .int .i64 ((rd_T24 y153 x15_1).f7)], .agg #[.int .i64 a0_0, .int .i64 a0_1, .int .i64 a0_2]] (by rfl) rfl rfl (by (try simp only [List.map_toArray, List.map_cons, List.map_nil]); first | done | rfl | (simp only [List.length_drop, List.length_take]; rfl)) ?_
        with_reducible refine (date_Add.calls k1 ((rd_T24 y153 x15_1).f0) ((rd_T24 y153 x15_1).f1) ((rd_T24 y153 x15_1).f2) ((rd_T24 y153 x15_1).f3) ((rd_T24 y153 x15_1).f4) ((rd_T24 y153 x15_1).f5) ((rd_T24 y153 x15_1).f6) ((rd_T24 y153 x15_1).f7) a0_0 a0_1 a0_2 t158 t159 t160 t161 t162 t163 t164 t165 _ A11.out).mono ?_
        rintro e w31 ⟨rfl, hb⟩
        refine ⟨_, rfl, ?_⟩
        have n0_ := Aside0.mk (Kd.R_below (S.r HO_13.out) hb)
        have n1_ := Aside0.mk (blk_below (S.b BK151.out) hb)
        have n2_ := Aside0.mk (blk_below (S.b BK152.out) hb)
        have n3_ := Aside0.mk (blk_below (S.b BK157.out) hb)
        have n4_ := Aside0.mk (below_step (by repeat (first | (with_reducible first | exact HB.out | apply below_alloc | apply pw_below_drewN | apply below_drew1 | refine below_set ?_ GE151.out | refine below_set ?_ GE152.out | refine below_set ?_ GE157.out) | exact HB.out)) hb)
        clear HO_13
        clear BK151
        clear BK152
        clear BK157
        clear HB
        have HO_13 := n0_
        have BK151 := n1_
        have BK152 := n2_
        have BK157 := n3_
        have HB := n4_
        clear n0_ n1_ n2_ n3_ n4_
        (try clear hb)
        (try clear hb2)
        (try clear hk)
        (try clear hi)
        refine hK.out _ _ ⟨(blk_cell BK157.out 0).trans rfl, (blk_cell BK157.out 1).trans rfl, (blk_cell BK157.out 2).trans rfl, (blk_cell BK157.out 3).trans rfl, (blk_cell BK157.out 4).trans rfl, (blk_cell BK157.out 5).trans rfl, (blk_cell BK157.out 6).trans rfl, (blk_cell BK157.out 7).trans rfl, (blk_cell BK151.out 0).trans rfl, (blk_cell BK151.out 1).trans rfl, (blk_cell BK151.out 2).trans rfl, (blk_cell BK152.out 0).trans rfl, (blk_cell BK152.out 1).trans rfl, (blk_cell BK152.out 2).trans rfl⟩ (fun hHeld => ?_)
        clear hK K
        refine norm_ (a' := ?_) ?_ ?_
        rotate_left
        ·show Act.put _ (some 22) _ = _
         simp only [Act.put, List.setIfInBounds_toArray, List.set_cons_zero, List.set_cons_succ, i64_w, i32_w]
         rfl
        refine one_ (i := 5) (N := some 25) #[true, true, true, true, true, true, false, false] rfl rfl (one_of HT_.out (by kernel_rfl)) (by decide) (fun K hK => ?_)
        refine goes_ Tryd.func11 (by kernel_rfl) rfl #[.agg #[.int .i64 ((rd_T24 y153 x15_1).f0), .int .i64 ((rd_T24 y153 x15_1).f1), .int .i64 ((rd_T24 y153 x15_1).f2), .int .i64 ((rd_T24 y153 x15_1).f3), .int .i64 ((rd_T24 y153 x15_1).f4), .int .i64 ((rd_T24 y153 x15_1).f5), .bool ((rd_T24 y153 x15_1).f6), .int .i64 ((rd_T24 y153 x15_1).f7)], .agg #[.int .i64 a1_0, .int .i64 a1_1, .int .i64 a1_2]] (by rfl) rfl rfl (by (try simp only [List.map_toArray, List.map_cons, List.map_nil]); first | done | rfl | (simp only [List.length_drop, List.length_take]; rfl)) ?_
        with_reducible refine (date_Add.calls k1 ((rd_T24 y153 x15_1).f0) ((rd_T24 y153 x15_1).f1) ((rd_T24 y153 x15_1).f2) ((rd_T24 y153 x15_1).f3) ((rd_T24 y153 x15_1).f4) ((rd_T24 y153 x15_1).f5) ((rd_T24 y153 x15_1).f6) ((rd_T24 y153 x15_1).f7) a1_0 a1_1 a1_2 t166 t167 t168 t169 t170 t171 t172 t173 _ A12.out).mono ?_
        rintro e w32 ⟨rfl, hb⟩
        refine ⟨_, rfl, ?_⟩
        have n0_ := Aside0.mk (Kd.R_below (S.r HO_13.out) hb)
        have n1_ := Aside0.mk (blk_below (S.b BK151.out) hb)
        have n2_ := Aside0.mk (blk_below (S.b BK152.out) hb)
        have n3_ := Aside0.mk (blk_below (S.b BK157.out) hb)
        have n4_ := Aside0.mk (below_step (by repeat (first | (with_reducible first | exact HB.out | apply below_alloc | apply pw_below_drewN | apply below_drew1 | refine below_set ?_ GE151.out | refine below_set ?_ GE152.out | refine below_set ?_ GE157.out) | exact HB.out)) hb)
        clear HO_13
        clear BK151
        clear BK152
        clear BK157
        clear HB
        have HO_13 := n0_
        have BK151 := n1_
        have BK152 := n2_
        have BK157 := n3_
        have HB := n4_
        clear n0_ n1_ n2_ n3_ n4_
        (try clear hb)
        (try clear hb2)
        (try clear hk)
        (try clear hi)
        refine hK.out _ _ ⟨(blk_cell BK157.out 0).trans rfl, (blk_cell BK157.out 1).trans rfl, (blk_cell BK157.out 2).trans rfl, (blk_cell BK157.out 3).trans rfl, (blk_cell BK157.out 4).trans rfl, (blk_cell BK157.out 5).trans rfl, (blk_cell BK157.out 6).trans rfl, (blk_cell BK157.out 7).trans rfl, (blk_cell BK151.out 0).trans rfl, (blk_cell BK151.out 1).trans rfl, (blk_cell BK151.out 2).trans rfl, (blk_cell BK152.out 0).trans rfl, (blk_cell BK152.out 1).trans rfl, (blk_cell BK152.out 2).trans rfl⟩ (fun hHeld => ?_)
        clear hK K
        refine norm_ (a' := ?_) ?_ ?_
        rotate_left
        ·show Act.put _ (some 25) _ = _
         simp only [Act.put, List.setIfInBounds_toArray, List.set_cons_zero, List.set_cons_succ, i64_w, i32_w]
         rfl
        refine one_ (i := 6) (N := some 26) #[true, true, true, true, true, true, true, false] rfl rfl (one_of HT_.out (by kernel_rfl)) (by decide) (fun K hK => ?_)
        refine goes_ Tryd.func30 (by kernel_rfl) rfl #[.agg #[.int .i64 t158, .int .i64 t159, .int .i64 t160, .int .i64 t161, .int .i64 t162, .int .i64 t163, .bool t164, .int .i64 t165], .int .i64 0, .agg #[.int .i64 t166, .int .i64 t167, .int .i64 t168, .int .i64 t169, .int .i64 t170, .int .i64 t171, .bool t172, .int .i64 t173], .int .i64 0] (by rfl) rfl rfl (by (try simp only [List.map_toArray, List.map_cons, List.map_nil]); first | done | rfl | (simp only [List.length_drop, List.length_take]; rfl)) ?_
        with_reducible refine (date_at.calls k1 t158 t159 t160 t161 t162 t163 t164 t165 0 t166 t167 t168 t169 t170 t171 t172 t173 0 t174 _ A13.out).mono ?_
        rintro e w33 ⟨rfl, hb⟩
        refine ⟨_, rfl, ?_⟩
        have n0_ := Aside0.mk (Kd.R_below (S.r HO_13.out) hb)
        have n1_ := Aside0.mk (blk_below (S.b BK151.out) hb)
        have n2_ := Aside0.mk (blk_below (S.b BK152.out) hb)
        have n3_ := Aside0.mk (blk_below (S.b BK157.out) hb)
        have n4_ := Aside0.mk (below_step (by repeat (first | (with_reducible first | exact HB.out | apply below_alloc | apply pw_below_drewN | apply below_drew1 | refine below_set ?_ GE151.out | refine below_set ?_ GE152.out | refine below_set ?_ GE157.out) | exact HB.out)) hb)
        clear HO_13
        clear BK151
        clear BK152
        clear BK157
        clear HB
        have HO_13 := n0_
        have BK151 := n1_
        have BK152 := n2_
        have BK157 := n3_
        have HB := n4_
        clear n0_ n1_ n2_ n3_ n4_
        (try clear hb)
        (try clear hb2)
        (try clear hk)
        (try clear hi)
        refine hK.out _ _ ⟨(blk_cell BK157.out 0).trans rfl, (blk_cell BK157.out 1).trans rfl, (blk_cell BK157.out 2).trans rfl, (blk_cell BK157.out 3).trans rfl, (blk_cell BK157.out 4).trans rfl, (blk_cell BK157.out 5).trans rfl, (blk_cell BK157.out 6).trans rfl, (blk_cell BK157.out 7).trans rfl, (blk_cell BK151.out 0).trans rfl, (blk_cell BK151.out 1).trans rfl, (blk_cell BK151.out 2).trans rfl, (blk_cell BK152.out 0).trans rfl, (blk_cell BK152.out 1).trans rfl, (blk_cell BK152.out 2).trans rfl⟩ (fun hHeld => ?_)
        clear hK K
        refine norm_ (a' := ?_) ?_ ?_
        rotate_left
        ·show Act.put _ (some 26) _ = _
         simp only [Act.put, List.setIfInBounds_toArray, List.set_cons_zero, List.set_cons_succ, i64_w, i32_w]
         rfl
        refine pure_ (i := 7) (N := some 8) (v := ?_) (a' := ?_) #[true, true, true, true, true, true, true, true] rfl rfl (any_of HT_.out (by kernel_rfl)) (fun _ _ _ h => h) (Or.inl ⟨by rfl, ?_⟩) ?_ ?_
        rotate_left
        ·intro w'
         go_simp
         with_reducible rfl
        rotate_left
        ·simp only [Act.put, List.setIfInBounds_toArray, List.set_cons_zero, List.set_cons_succ, i64_w, i32_w]
         rfl
        refine done_ (done_of HT_.out (by kernel_rfl)) ?_
        try go_wp2
        go_ret
        exact ⟨by first | rfl | (simp [errW_none, errW_some] <;> rfl) | (simp [*, errW_none, errW_some] <;> rfl), by repeat (first | (with_reducible first | exact HB.out | apply below_alloc | apply pw_below_drewN | apply below_drew1 | refine below_set ?_ GE151.out | refine below_set ?_ GE152.out | refine below_set ?_ GE157.out) | exact HB.out)⟩
      ·rw [if_neg c14] at H
       have c14b0 : decide (0 < x15_1) = false := decide_eq_false c14
       clear c14
       have H' := Aside0.mk H
       clear H
       have p156 : 0 ≤ (x15_1 : Int) := of_decide_eq_true (by first | (with_reducible assumption) | assumption)
       have q156 : x15_1 < (y153.length : Int) := of_decide_eq_true (by first | (with_reducible assumption) | assumption)
       obtain ⟨ad156, e156, hx156_0, hx156_1, hx156_2, hx156_3, hx156_4, hx156_5, hx156_6, hx156_7⟩ := at_T24 (Kd.R_reads' HO_13.out).2.2 x15_1 p156 q156
       cases e156
       replace p156 := eq_true p156
       replace q156 := eq_true q156
       try go_wp2_with (first | ((with_reducible refine gate_dst (N := 7) rfl ?_); refine box_event ?hg (N := 7) ?hd (cs := #[.int .i64 0, .int .i64 0, .int .i64 0, .int .i64 0, .int .i64 0, .int .i64 0, .bool false, .int .i64 0]) (t := 24) ?hr ?_; (case hd => rfl); (case hg => rfl); (case hr => first | (go_simp; done) | (go_simp; rfl)); intro gb157 hg w34 hbox hb; have n0_ := Aside0.mk (Kd.R_below (Kd.R_elderB (S.r HO_13.out) gb157 (Nat.le_of_eq hg.symm)) hb); have n1_ := Aside0.mk (blk_below (S.b BK151.out) hb); have n2_ := Aside0.mk (blk_below (S.b BK152.out) hb); have n3_ := Aside0.mk (below_step (by repeat (first | (with_reducible first | exact HB.out | apply below_alloc | apply pw_below_drewN | apply below_drew1 | refine below_set ?_ GE151.out | refine below_set ?_ GE152.out) | exact HB.out)) hb); have n4_ := Aside0.mk (hbox); have n5_ := Aside0.mk ((by rw [hg]; exact (below_size (by repeat (first | (with_reducible first | exact HB.out | apply below_alloc | apply pw_below_drewN | apply below_drew1 | refine below_set ?_ GE151.out | refine below_set ?_ GE152.out) | exact HB.out))) : w.heap.size ≤ gb157)); have n6_ := Aside0.mk ((by rw [hg]; exact (below_size (by repeat (first | (with_reducible first | exact HB.out | apply below_alloc | apply pw_below_drewN | apply below_drew1 | refine below_set ?_ GE151.out | refine below_set ?_ GE152.out) | exact HB.out))) : w.heap.size ≤ gb157)); have n7_ := Aside0.mk ((by rw [hg]; exact Nat.ne_of_lt (blk_lt (S.b BK151.out)) : gb151 ≠ gb157)); have n8_ := Aside0.mk ((by rw [hg]; exact Nat.ne_of_gt (blk_lt (S.b BK151.out)) : gb157 ≠ gb151)); have n9_ := Aside0.mk ((by rw [hg]; exact Nat.ne_of_lt (blk_lt (S.b BK152.out)) : gb152 ≠ gb157)); have n10_ := Aside0.mk ((by rw [hg]; exact Nat.ne_of_gt (blk_lt (S.b BK152.out)) : gb157 ≠ gb152)); clear HO_13; clear BK151; clear BK152; clear HB; have HO_13 := n0_; have BK151 := n1_; have BK152 := n2_; have HB := n3_; have BK157 := n4_; have GW157 := n5_; have GE157 := n6_; have NB151_157 := n7_; have NB157_151 := n8_; have NB152_157 := n9_; have NB157_152 := n10_; clear n0_ n1_ n2_ n3_ n4_ n5_ n6_ n7_ n8_ n9_ n10_; clear hb hbox hg; have hnb35 := NB157_151.out; have hnc35 := NB151_157.out; have hnb36 := NB157_152.out; have hnc36 := NB152_157.out; have hcz37_0 : w34.cell? ⟨gb157, 0, none⟩ = some (.int .i64 0) := (blk_cell BK157.out 0).trans rfl; have hcz37_1 : w34.cell? ⟨gb157, 1, none⟩ = some (.int .i64 0) := (blk_cell BK157.out 1).trans rfl; have hcz37_2 : w34.cell? ⟨gb157, 2, none⟩ = some (.int .i64 0) := (blk_cell BK157.out 2).trans rfl; have hcz37_3 : w34.cell? ⟨gb157, 3, none⟩ = some (.int .i64 0) := (blk_cell BK157.out 3).trans rfl; have hcz37_4 : w34.cell? ⟨gb157, 4, none⟩ = some (.int .i64 0) := (blk_cell BK157.out 4).trans rfl; have hcz37_5 : w34.cell? ⟨gb157, 5, none⟩ = some (.int .i64 0) := (blk_cell BK157.out 5).trans rfl; have hcz37_6 : w34.cell? ⟨gb157, 6, none⟩ = some (.bool false) := (blk_cell BK157.out 6).trans rfl; have hcz37_7 : w34.cell? ⟨gb157, 7, none⟩ = some (.int .i64 0) := (blk_cell BK157.out 7).trans rfl; have hfz37_0 := blk_frozen BK157.out 0; have hfz37_1 := blk_frozen BK157.out 1; have hfz37_2 := blk_frozen BK157.out 2; have hfz37_3 := blk_frozen BK157.out 3; have hfz37_4 := blk_frozen BK157.out 4; have hfz37_5 := blk_frozen BK157.out 5; have hfz37_6 := blk_frozen BK157.out 6; have hfz37_7 := blk_frozen BK157.out 7))
       have n0_ : Aside0 (Kd.R k24 24 ((((((((w34.setCell ⟨gb157, 0, none⟩ (.int .i64 ((rd_T24 y153 x15_1).f0))).setCell ⟨gb157, 1, none⟩ (.int .i64 ((rd_T24 y153 x15_1).f1))).setCell ⟨gb157, 2, none⟩ (.int .i64 ((rd_T24 y153 x15_1).f2))).setCell ⟨gb157, 3, none⟩ (.int .i64 ((rd_T24 y153 x15_1).f3))).setCell ⟨gb157, 4, none⟩ (.int .i64 ((rd_T24 y153 x15_1).f4))).setCell ⟨gb157, 5, none⟩ (.int .i64 ((rd_T24 y153 x15_1).f5))).setCell ⟨gb157, 6, none⟩ (.bool ((rd_T24 y153 x15_1).f6))).setCell ⟨gb157, 7, none⟩ (.int .i64 ((rd_T24 y153 x15_1).f7))) w.heap.size (fun k_ => k_ ≠ gb157) (.slice (some ad156) y153.length co7) y153) := ⟨by (with_reducible repeat (first | apply Kd.R_alloc | apply Kd.R_drewN | apply Kd.R_drew)); exact Kd.R_mono (Kd.R_far (p := ⟨gb157, 7, none⟩) (Kd.R_far (p := ⟨gb157, 6, none⟩) (Kd.R_far (p := ⟨gb157, 5, none⟩) (Kd.R_far (p := ⟨gb157, 4, none⟩) (Kd.R_far (p := ⟨gb157, 3, none⟩) (Kd.R_far (p := ⟨gb157, 2, none⟩) (Kd.R_far (p := ⟨gb157, 1, none⟩) (Kd.R_far (p := ⟨gb157, 0, none⟩) (Kd.R_mono HO_13.out (fun k_ hk => (⟨hk, hk.2⟩ : _ ∧ k_ ≠ gb157))) (fun _ hk => hk.2) (.int .i64 ((rd_T24 y153 x15_1).f0))) (fun _ hk => hk.2) (.int .i64 ((rd_T24 y153 x15_1).f1))) (fun _ hk => hk.2) (.int .i64 ((rd_T24 y153 x15_1).f2))) (fun _ hk => hk.2) (.int .i64 ((rd_T24 y153 x15_1).f3))) (fun _ hk => hk.2) (.int .i64 ((rd_T24 y153 x15_1).f4))) (fun _ hk => hk.2) (.int .i64 ((rd_T24 y153 x15_1).f5))) (fun _ hk => hk.2) (.bool ((rd_T24 y153 x15_1).f6))) (fun _ hk => hk.2) (.int .i64 ((rd_T24 y153 x15_1).f7))) (fun _ hk => hk.1.2)⟩
       have n1_ : Aside0 (((((((((w34.setCell ⟨gb157, 0, none⟩ (.int .i64 ((rd_T24 y153 x15_1).f0))).setCell ⟨gb157, 1, none⟩ (.int .i64 ((rd_T24 y153 x15_1).f1))).setCell ⟨gb157, 2, none⟩ (.int .i64 ((rd_T24 y153 x15_1).f2))).setCell ⟨gb157, 3, none⟩ (.int .i64 ((rd_T24 y153 x15_1).f3))).setCell ⟨gb157, 4, none⟩ (.int .i64 ((rd_T24 y153 x15_1).f4))).setCell ⟨gb157, 5, none⟩ (.int .i64 ((rd_T24 y153 x15_1).f5))).setCell ⟨gb157, 6, none⟩ (.bool ((rd_T24 y153 x15_1).f6))).setCell ⟨gb157, 7, none⟩ (.int .i64 ((rd_T24 y153 x15_1).f7))).heap[gb151]? = some (.cells #[.int .i64 a0_0, .int .i64 a0_1, .int .i64 a0_2] 34 (0, 0))) := ⟨by (with_reducible repeat (first | refine blk_drewN ?_ _ | refine blk_drew ?_ | refine blk_alloc ?_ _)); refine blk_far ?_ NB151_157.out _; (with_reducible repeat (first | refine blk_drewN ?_ _ | refine blk_drew ?_ | refine blk_alloc ?_ _)); refine blk_far ?_ NB151_157.out _; (with_reducible repeat (first | refine blk_drewN ?_ _ | refine blk_drew ?_ | refine blk_alloc ?_ _)); refine blk_far ?_ NB151_157.out _; (with_reducible repeat (first | refine blk_drewN ?_ _ | refine blk_drew ?_ | refine blk_alloc ?_ _)); refine blk_far ?_ NB151_157.out _; (with_reducible repeat (first | refine blk_drewN ?_ _ | refine blk_drew ?_ | refine blk_alloc ?_ _)); refine blk_far ?_ NB151_157.out _; (with_reducible repeat (first | refine blk_drewN ?_ _ | refine blk_drew ?_ | refine blk_alloc ?_ _)); refine blk_far ?_ NB151_157.out _; (with_reducible repeat (first | refine blk_drewN ?_ _ | refine blk_drew ?_ | refine blk_alloc ?_ _)); refine blk_far ?_ NB151_157.out _; (with_reducible repeat (first | refine blk_drewN ?_ _ | refine blk_drew ?_ | refine blk_alloc ?_ _)); refine blk_far ?_ NB151_157.out _; (with_reducible repeat (first | refine blk_drewN ?_ _ | refine blk_drew ?_ | refine blk_alloc ?_ _)); exact BK151.out⟩
       have n2_ : Aside0 (((((((((w34.setCell ⟨gb157, 0, none⟩ (.int .i64 ((rd_T24 y153 x15_1).f0))).setCell ⟨gb157, 1, none⟩ (.int .i64 ((rd_T24 y153 x15_1).f1))).setCell ⟨gb157, 2, none⟩ (.int .i64 ((rd_T24 y153 x15_1).f2))).setCell ⟨gb157, 3, none⟩ (.int .i64 ((rd_T24 y153 x15_1).f3))).setCell ⟨gb157, 4, none⟩ (.int .i64 ((rd_T24 y153 x15_1).f4))).setCell ⟨gb157, 5, none⟩ (.int .i64 ((rd_T24 y153 x15_1).f5))).setCell ⟨gb157, 6, none⟩ (.bool ((rd_T24 y153 x15_1).f6))).setCell ⟨gb157, 7, none⟩ (.int .i64 ((rd_T24 y153 x15_1).f7))).heap[gb152]? = some (.cells #[.int .i64 a1_0, .int .i64 a1_1, .int .i64 a1_2] 34 (0, 0))) := ⟨by (with_reducible repeat (first | refine blk_drewN ?_ _ | refine blk_drew ?_ | refine blk_alloc ?_ _)); refine blk_far ?_ NB152_157.out _; (with_reducible repeat (first | refine blk_drewN ?_ _ | refine blk_drew ?_ | refine blk_alloc ?_ _)); refine blk_far ?_ NB152_157.out _; (with_reducible repeat (first | refine blk_drewN ?_ _ | refine blk_drew ?_ | refine blk_alloc ?_ _)); refine blk_far ?_ NB152_157.out _; (with_reducible repeat (first | refine blk_drewN ?_ _ | refine blk_drew ?_ | refine blk_alloc ?_ _)); refine blk_far ?_ NB152_157.out _; (with_reducible repeat (first | refine blk_drewN ?_ _ | refine blk_drew ?_ | refine blk_alloc ?_ _)); refine blk_far ?_ NB152_157.out _; (with_reducible repeat (first | refine blk_drewN ?_ _ | refine blk_drew ?_ | refine blk_alloc ?_ _)); refine blk_far ?_ NB152_157.out _; (with_reducible repeat (first | refine blk_drewN ?_ _ | refine blk_drew ?_ | refine blk_alloc ?_ _)); refine blk_far ?_ NB152_157.out _; (with_reducible repeat (first | refine blk_drewN ?_ _ | refine blk_drew ?_ | refine blk_alloc ?_ _)); refine blk_far ?_ NB152_157.out _; (with_reducible repeat (first | refine blk_drewN ?_ _ | refine blk_drew ?_ | refine blk_alloc ?_ _)); exact BK152.out⟩
       have n3_ : Aside0 (((((((((w34.setCell ⟨gb157, 0, none⟩ (.int .i64 ((rd_T24 y153 x15_1).f0))).setCell ⟨gb157, 1, none⟩ (.int .i64 ((rd_T24 y153 x15_1).f1))).setCell ⟨gb157, 2, none⟩ (.int .i64 ((rd_T24 y153 x15_1).f2))).setCell ⟨gb157, 3, none⟩ (.int .i64 ((rd_T24 y153 x15_1).f3))).setCell ⟨gb157, 4, none⟩ (.int .i64 ((rd_T24 y153 x15_1).f4))).setCell ⟨gb157, 5, none⟩ (.int .i64 ((rd_T24 y153 x15_1).f5))).setCell ⟨gb157, 6, none⟩ (.bool ((rd_T24 y153 x15_1).f6))).setCell ⟨gb157, 7, none⟩ (.int .i64 ((rd_T24 y153 x15_1).f7))).heap[gb157]? = some (.cells #[.int .i64 ((rd_T24 y153 x15_1).f0), .int .i64 ((rd_T24 y153 x15_1).f1), .int .i64 ((rd_T24 y153 x15_1).f2), .int .i64 ((rd_T24 y153 x15_1).f3), .int .i64 ((rd_T24 y153 x15_1).f4), .int .i64 ((rd_T24 y153 x15_1).f5), .bool ((rd_T24 y153 x15_1).f6), .int .i64 ((rd_T24 y153 x15_1).f7)] 24 (0, 0))) := ⟨by (with_reducible repeat (first | refine blk_drewN ?_ _ | refine blk_drew ?_ | refine blk_alloc ?_ _)); refine blk_put (cs := #[.int .i64 ((rd_T24 y153 x15_1).f0), .int .i64 ((rd_T24 y153 x15_1).f1), .int .i64 ((rd_T24 y153 x15_1).f2), .int .i64 ((rd_T24 y153 x15_1).f3), .int .i64 ((rd_T24 y153 x15_1).f4), .int .i64 ((rd_T24 y153 x15_1).f5), .bool ((rd_T24 y153 x15_1).f6), .int .i64 0]) ?_ 7 _ rfl; (with_reducible repeat (first | refine blk_drewN ?_ _ | refine blk_drew ?_ | refine blk_alloc ?_ _)); refine blk_put (cs := #[.int .i64 ((rd_T24 y153 x15_1).f0), .int .i64 ((rd_T24 y153 x15_1).f1), .int .i64 ((rd_T24 y153 x15_1).f2), .int .i64 ((rd_T24 y153 x15_1).f3), .int .i64 ((rd_T24 y153 x15_1).f4), .int .i64 ((rd_T24 y153 x15_1).f5), .bool false, .int .i64 0]) ?_ 6 _ rfl; (with_reducible repeat (first | refine blk_drewN ?_ _ | refine blk_drew ?_ | refine blk_alloc ?_ _)); refine blk_put (cs := #[.int .i64 ((rd_T24 y153 x15_1).f0), .int .i64 ((rd_T24 y153 x15_1).f1), .int .i64 ((rd_T24 y153 x15_1).f2), .int .i64 ((rd_T24 y153 x15_1).f3), .int .i64 ((rd_T24 y153 x15_1).f4), .int .i64 0, .bool false, .int .i64 0]) ?_ 5 _ rfl; (with_reducible repeat (first | refine blk_drewN ?_ _ | refine blk_drew ?_ | refine blk_alloc ?_ _)); refine blk_put (cs := #[.int .i64 ((rd_T24 y153 x15_1).f0), .int .i64 ((rd_T24 y153 x15_1).f1), .int .i64 ((rd_T24 y153 x15_1).f2), .int .i64 ((rd_T24 y153 x15_1).f3), .int .i64 0, .int .i64 0, .bool false, .int .i64 0]) ?_ 4 _ rfl; (with_reducible repeat (first | refine blk_drewN ?_ _ | refine blk_drew ?_ | refine blk_alloc ?_ _)); refine blk_put (cs := #[.int .i64 ((rd_T24 y153 x15_1).f0), .int .i64 ((rd_T24 y153 x15_1).f1), .int .i64 ((rd_T24 y153 x15_1).f2), .int .i64 0, .int .i64 0, .int .i64 0, .bool false, .int .i64 0]) ?_ 3 _ rfl; (with_reducible repeat (first | refine blk_drewN ?_ _ | refine blk_drew ?_ | refine blk_alloc ?_ _)); refine blk_put (cs := #[.int .i64 ((rd_T24 y153 x15_1).f0), .int .i64 ((rd_T24 y153 x15_1).f1), .int .i64 0, .int .i64 0, .int .i64 0, .int .i64 0, .bool false, .int .i64 0]) ?_ 2 _ rfl; (with_reducible repeat (first | refine blk_drewN ?_ _ | refine blk_drew ?_ | refine blk_alloc ?_ _)); refine blk_put (cs := #[.int .i64 ((rd_T24 y153 x15_1).f0), .int .i64 0, .int .i64 0, .int .i64 0, .int .i64 0, .int .i64 0, .bool false, .int .i64 0]) ?_ 1 _ rfl; (with_reducible repeat (first | refine blk_drewN ?_ _ | refine blk_drew ?_ | refine blk_alloc ?_ _)); refine blk_put (cs := #[.int .i64 0, .int .i64 0, .int .i64 0, .int .i64 0, .int .i64 0, .int .i64 0, .bool false, .int .i64 0]) ?_ 0 _ rfl; (with_reducible repeat (first | refine blk_drewN ?_ _ | refine blk_drew ?_ | refine blk_alloc ?_ _)); exact BK157.out⟩
       have n4_ : Aside0 (Below w.heap.size w ((((((((w34.setCell ⟨gb157, 0, none⟩ (.int .i64 ((rd_T24 y153 x15_1).f0))).setCell ⟨gb157, 1, none⟩ (.int .i64 ((rd_T24 y153 x15_1).f1))).setCell ⟨gb157, 2, none⟩ (.int .i64 ((rd_T24 y153 x15_1).f2))).setCell ⟨gb157, 3, none⟩ (.int .i64 ((rd_T24 y153 x15_1).f3))).setCell ⟨gb157, 4, none⟩ (.int .i64 ((rd_T24 y153 x15_1).f4))).setCell ⟨gb157, 5, none⟩ (.int .i64 ((rd_T24 y153 x15_1).f5))).setCell ⟨gb157, 6, none⟩ (.bool ((rd_T24 y153 x15_1).f6))).setCell ⟨gb157, 7, none⟩ (.int .i64 ((rd_T24 y153 x15_1).f7)))) := ⟨by repeat (first | (with_reducible first | exact HB.out | apply below_alloc | apply pw_below_drewN | apply below_drew1 | refine below_set ?_ GE151.out | refine below_set ?_ GE152.out | refine below_set ?_ GE157.out) | exact HB.out)⟩
       (try clear HO_13)
       (try clear BK151)
       (try clear BK152)
       (try clear BK157)
       (try clear HB)
       generalize ((((((((w34.setCell ⟨gb157, 0, none⟩ (.int .i64 ((rd_T24 y153 x15_1).f0))).setCell ⟨gb157, 1, none⟩ (.int .i64 ((rd_T24 y153 x15_1).f1))).setCell ⟨gb157, 2, none⟩ (.int .i64 ((rd_T24 y153 x15_1).f2))).setCell ⟨gb157, 3, none⟩ (.int .i64 ((rd_T24 y153 x15_1).f3))).setCell ⟨gb157, 4, none⟩ (.int .i64 ((rd_T24 y153 x15_1).f4))).setCell ⟨gb157, 5, none⟩ (.int .i64 ((rd_T24 y153 x15_1).f5))).setCell ⟨gb157, 6, none⟩ (.bool ((rd_T24 y153 x15_1).f6))).setCell ⟨gb157, 7, none⟩ (.int .i64 ((rd_T24 y153 x15_1).f7))) = w38 at n0_ n1_ n2_ n3_ n4_ ⊢
       have HO_13 := n0_
       have BK151 := n1_
       have BK152 := n2_
       have BK157 := n3_
       have HB := n4_
       clear n0_ n1_ n2_ n3_ n4_
       have n0_ := Aside0.mk (Kd.R_drew HO_13.out)
       have n1_ := Aside0.mk (blk_drew BK151.out)
       have n2_ := Aside0.mk (blk_drew BK152.out)
       have n3_ := Aside0.mk (blk_drew BK157.out)
       have n4_ := Aside0.mk (below_drew1 HB.out)
       clear HO_13
       clear BK151
       clear BK152
       clear BK157
       clear HB
       have HO_13 := n0_
       have BK151 := n1_
       have BK152 := n2_
       have BK157 := n3_
       have HB := n4_
       clear n0_ n1_ n2_ n3_ n4_
       refine start_ (n := 8) (S := fun w' => w'.cell? ⟨gb157, 0, none⟩ = some (.int .i64 ((rd_T24 y153 x15_1).f0)) ∧ w'.cell? ⟨gb157, 1, none⟩ = some (.int .i64 ((rd_T24 y153 x15_1).f1)) ∧ w'.cell? ⟨gb157, 2, none⟩ = some (.int .i64 ((rd_T24 y153 x15_1).f2)) ∧ w'.cell? ⟨gb157, 3, none⟩ = some (.int .i64 ((rd_T24 y153 x15_1).f3)) ∧ w'.cell? ⟨gb157, 4, none⟩ = some (.int .i64 ((rd_T24 y153 x15_1).f4)) ∧ w'.cell? ⟨gb157, 5, none⟩ = some (.int .i64 ((rd_T24 y153 x15_1).f5)) ∧ w'.cell? ⟨gb157, 6, none⟩ = some (.bool ((rd_T24 y153 x15_1).f6)) ∧ w'.cell? ⟨gb157, 7, none⟩ = some (.int .i64 ((rd_T24 y153 x15_1).f7)) ∧ w'.cell? ⟨gb151, 0, none⟩ = some (.int .i64 a0_0) ∧ w'.cell? ⟨gb151, 1, none⟩ = some (.int .i64 a0_1) ∧ w'.cell? ⟨gb151, 2, none⟩ = some (.int .i64 a0_2) ∧ w'.cell? ⟨gb152, 0, none⟩ = some (.int .i64 a1_0) ∧ w'.cell? ⟨gb152, 1, none⟩ = some (.int .i64 a1_1) ∧ w'.cell? ⟨gb152, 2, none⟩ = some (.int .i64 a1_2)) (ds := []) #[false, false, false, false, false, false, false, false] (by kernel_rfl) rfl rfl ⟨(blk_cell BK157.out 0).trans rfl, (blk_cell BK157.out 1).trans rfl, (blk_cell BK157.out 2).trans rfl, (blk_cell BK157.out 3).trans rfl, (blk_cell BK157.out 4).trans rfl, (blk_cell BK157.out 5).trans rfl, (blk_cell BK157.out 6).trans rfl, (blk_cell BK157.out 7).trans rfl, (blk_cell BK151.out 0).trans rfl, (blk_cell BK151.out 1).trans rfl, (blk_cell BK151.out 2).trans rfl, (blk_cell BK152.out 0).trans rfl, (blk_cell BK152.out 1).trans rfl, (blk_cell BK152.out 2).trans rfl⟩ (fun hHeld => ?_); refine with_tabW date_CmpSpan.tab5 date_CmpSpan.bits5 (fun HT_ HW_ => ?_)
       generalize w38.drew = w39 at HO_13 BK151 BK152 BK157 HB hHeld ⊢
       refine take_ (i := 0) (N := some 20) (v := ?_) (a' := ?_) #[true, false, false, false, false, false, false, false] rfl rfl (take_ofW HT_.out HW_.out (by kernel_rfl)) (fun _ _ _ h => h) (Or.inl ⟨by rfl, ?_⟩) hHeld ?_ ?_
       rotate_left
       ·rintro w' ⟨s0, s1, s2, s3, s4, s5, s6, s7, s8, s9, s10, s11, s12, s13⟩
        go_simp
        with_reducible rfl
       rotate_left
       ·simp only [Act.put, List.setIfInBounds_toArray, List.set_cons_zero, List.set_cons_succ, i64_w, i32_w]
        rfl
       refine take_ (i := 1) (N := some 21) (v := ?_) (a' := ?_) #[true, true, false, false, false, false, false, false] rfl rfl (take_ofW HT_.out HW_.out (by kernel_rfl)) (fun _ _ _ h => h) (Or.inl ⟨by rfl, ?_⟩) hHeld ?_ ?_
       rotate_left
       ·rintro w' ⟨s0, s1, s2, s3, s4, s5, s6, s7, s8, s9, s10, s11, s12, s13⟩
        go_simp
        with_reducible rfl
       rotate_left
       ·simp only [Act.put, List.setIfInBounds_toArray, List.set_cons_zero, List.set_cons_succ, i64_w, i32_w]
        rfl
       refine take_ (i := 3) (N := some 23) (v := ?_) (a' := ?_) #[true, true, false, true, false, false, false, false] rfl rfl (take_ofW HT_.out HW_.out (by kernel_rfl)) (fun _ _ _ h => h) (Or.inl ⟨by rfl, ?_⟩) hHeld ?_ ?_
       rotate_left
       ·rintro w' ⟨s0, s1, s2, s3, s4, s5, s6, s7, s8, s9, s10, s11, s12, s13⟩
        go_simp
        with_reducible rfl
       rotate_left
       ·simp only [Act.put, List.setIfInBounds_toArray, List.set_cons_zero, List.set_cons_succ, i64_w, i32_w]
        rfl
       refine take_ (i := 4) (N := some 24) (v := ?_) (a' := ?_) #[true, true, false, true, true, false, false, false] rfl rfl (take_ofW HT_.out HW_.out (by kernel_rfl)) (fun _ _ _ h => h) (Or.inl ⟨by rfl, ?_⟩) hHeld ?_ ?_
       rotate_left
       ·rintro w' ⟨s0, s1, s2, s3, s4, s5, s6, s7, s8, s9, s10, s11, s12, s13⟩
        go_simp
        with_reducible rfl
       rotate_left
       ·simp only [Act.put, List.setIfInBounds_toArray, List.set_cons_zero, List.set_cons_succ, i64_w, i32_w]
        rfl
       refine one_ (i := 2) (N := some 22) #[true, true, true, true, true, false, false, false] rfl rfl (one_of HT_.out (by kernel_rfl)) (by decide) (fun K hK => ?_)
       refine goes_ Tryd.func11 (by kernel_rfl) rfl #[.agg #[.int .i64 ((rd_T24 y153 x15_1).f0), .int .i64 ((rd_T24 y153 x15_1).f1), .int .i64 ((rd_T24 y153 x15_1).f2), .int .i64 ((rd_T24 y153 x15_1).f3), .int .i64 ((rd_T24 y153 x15_1).f4), .int .i64 ((rd_T24 y153 x15_1).f5), .bool ((rd_T24 y153 x15_1).f6), .int .i64 ((rd_T24 y153 x15_1).f7)], .agg #[.int .i64 a0_0, .int .i64 a0_1, .int .i64 a0_2]] (by rfl) rfl rfl (by (try simp only [List.map_toArray, List.map_cons, List.map_nil]); first | done | rfl | (simp only [List.length_drop, List.length_take]; rfl)) ?_
       with_reducible refine (date_Add.calls k1 ((rd_T24 y153 x15_1).f0) ((rd_T24 y153 x15_1).f1) ((rd_T24 y153 x15_1).f2) ((rd_T24 y153 x15_1).f3) ((rd_T24 y153 x15_1).f4) ((rd_T24 y153 x15_1).f5) ((rd_T24 y153 x15_1).f6) ((rd_T24 y153 x15_1).f7) a0_0 a0_1 a0_2 t158 t159 t160 t161 t162 t163 t164 t165 _ A11.out).mono ?_
       rintro e w40 ⟨rfl, hb⟩
       refine ⟨_, rfl, ?_⟩
       have n0_ := Aside0.mk (Kd.R_below (S.r HO_13.out) hb)
       have n1_ := Aside0.mk (blk_below (S.b BK151.out) hb)
       have n2_ := Aside0.mk (blk_below (S.b BK152.out) hb)
       have n3_ := Aside0.mk (blk_below (S.b BK157.out) hb)
       have n4_ := Aside0.mk (below_step (by repeat (first | (with_reducible first | exact HB.out | apply below_alloc | apply pw_below_drewN | apply below_drew1 | refine below_set ?_ GE151.out | refine below_set ?_ GE152.out | refine below_set ?_ GE157.out) | exact HB.out)) hb)
       clear HO_13
       clear BK151
       clear BK152
       clear BK157
       clear HB
       have HO_13 := n0_
       have BK151 := n1_
       have BK152 := n2_
       have BK157 := n3_
       have HB := n4_
       clear n0_ n1_ n2_ n3_ n4_
       (try clear hb)
       (try clear hb2)
       (try clear hk)
       (try clear hi)
       refine hK.out _ _ ⟨(blk_cell BK157.out 0).trans rfl, (blk_cell BK157.out 1).trans rfl, (blk_cell BK157.out 2).trans rfl, (blk_cell BK157.out 3).trans rfl, (blk_cell BK157.out 4).trans rfl, (blk_cell BK157.out 5).trans rfl, (blk_cell BK157.out 6).trans rfl, (blk_cell BK157.out 7).trans rfl, (blk_cell BK151.out 0).trans rfl, (blk_cell BK151.out 1).trans rfl, (blk_cell BK151.out 2).trans rfl, (blk_cell BK152.out 0).trans rfl, (blk_cell BK152.out 1).trans rfl, (blk_cell BK152.out 2).trans rfl⟩ (fun hHeld => ?_)
       clear hK K
       refine norm_ (a' := ?_) ?_ ?_
       rotate_left
       ·show Act.put _ (some 22) _ = _
        simp only [Act.put, List.setIfInBounds_toArray, List.set_cons_zero, List.set_cons_succ, i64_w, i32_w]
        rfl
       refine one_ (i := 5) (N := some 25) #[true, true, true, true, true, true, false, false] rfl rfl (one_of HT_.out (by kernel_rfl)) (by decide) (fun K hK => ?_)
       refine goes_ Tryd.func11 (by kernel_rfl) rfl #[.agg #[.int .i64 ((rd_T24 y153 x15_1).f0), .int .i64 ((rd_T24 y153 x15_1).f1), .int .i64 ((rd_T24 y153 x15_1).f2), .int .i64 ((rd_T24 y153 x15_1).f3), .int .i64 ((rd_T24 y153 x15_1).f4), .int .i64 ((rd_T24 y153 x15_1).f5), .bool ((rd_T24 y153 x15_1).f6), .int .i64 ((rd_T24 y153 x15_1).f7)], .agg #[.int .i64 a1_0, .int .i64 a1_1, .int .i64 a1_2]] (by rfl) rfl rfl (by (try simp only [List.map_toArray, List.map_cons, List.map_nil]); first | done | rfl | (simp only [List.length_drop, List.length_take]; rfl)) ?_
       with_reducible refine (date_Add.calls k1 ((rd_T24 y153 x15_1).f0) ((rd_T24 y153 x15_1).f1) ((rd_T24 y153 x15_1).f2) ((rd_T24 y153 x15_1).f3) ((rd_T24 y153 x15_1).f4) ((rd_T24 y153 x15_1).f5) ((rd_T24 y153 x15_1).f6) ((rd_T24 y153 x15_1).f7) a1_0 a1_1 a1_2 t166 t167 t168 t169 t170 t171 t172 t173 _ A12.out).mono ?_
       rintro e w41 ⟨rfl, hb⟩
       refine ⟨_, rfl, ?_⟩
       have n0_ := Aside0.mk (Kd.R_below (S.r HO_13.out) hb)
       have n1_ := Aside0.mk (blk_below (S.b BK151.out) hb)
       have n2_ := Aside0.mk (blk_below (S.b BK152.out) hb)
       have n3_ := Aside0.mk (blk_below (S.b BK157.out) hb)
       have n4_ := Aside0.mk (below_step (by repeat (first | (with_reducible first | exact HB.out | apply below_alloc | apply pw_below_drewN | apply below_drew1 | refine below_set ?_ GE151.out | refine below_set ?_ GE152.out | refine below_set ?_ GE157.out) | exact HB.out)) hb)
       clear HO_13
       clear BK151
       clear BK152
       clear BK157
       clear HB
       have HO_13 := n0_
       have BK151 := n1_
       have BK152 := n2_
       have BK157 := n3_
       have HB := n4_
       clear n0_ n1_ n2_ n3_ n4_
       (try clear hb)
       (try clear hb2)
       (try clear hk)
       (try clear hi)
       refine hK.out _ _ ⟨(blk_cell BK157.out 0).trans rfl, (blk_cell BK157.out 1).trans rfl, (blk_cell BK157.out 2).trans rfl, (blk_cell BK157.out 3).trans rfl, (blk_cell BK157.out 4).trans rfl, (blk_cell BK157.out 5).trans rfl, (blk_cell BK157.out 6).trans rfl, (blk_cell BK157.out 7).trans rfl, (blk_cell BK151.out 0).trans rfl, (blk_cell BK151.out 1).trans rfl, (blk_cell BK151.out 2).trans rfl, (blk_cell BK152.out 0).trans rfl, (blk_cell BK152.out 1).trans rfl, (blk_cell BK152.out 2).trans rfl⟩ (fun hHeld => ?_)
       clear hK K
       refine norm_ (a' := ?_) ?_ ?_
       rotate_left
       ·show Act.put _ (some 25) _ = _
        simp only [Act.put, List.setIfInBounds_toArray, List.set_cons_zero, List.set_cons_succ, i64_w, i32_w]
        rfl
       refine one_ (i := 6) (N := some 26) #[true, true, true, true, true, true, true, false] rfl rfl (one_of HT_.out (by kernel_rfl)) (by decide) (fun K hK => ?_)
       refine goes_ Tryd.func30 (by kernel_rfl) rfl #[.agg #[.int .i64 t158, .int .i64 t159, .int .i64 t160, .int .i64 t161, .int .i64 t162, .int .i64 t163, .bool t164, .int .i64 t165], .int .i64 0, .agg #[.int .i64 t166, .int .i64 t167, .int .i64 t168, .int .i64 t169, .int .i64 t170, .int .i64 t171, .bool t172, .int .i64 t173], .int .i64 0] (by rfl) rfl rfl (by (try simp only [List.map_toArray, List.map_cons, List.map_nil]); first | done | rfl | (simp only [List.length_drop, List.length_take]; rfl)) ?_
       with_reducible refine (date_at.calls k1 t158 t159 t160 t161 t162 t163 t164 t165 0 t166 t167 t168 t169 t170 t171 t172 t173 0 t174 _ A13.out).mono ?_
       rintro e w42 ⟨rfl, hb⟩
       refine ⟨_, rfl, ?_⟩
       have n0_ := Aside0.mk (Kd.R_below (S.r HO_13.out) hb)
       have n1_ := Aside0.mk (blk_below (S.b BK151.out) hb)
       have n2_ := Aside0.mk (blk_below (S.b BK152.out) hb)
       have n3_ := Aside0.mk (blk_below (S.b BK157.out) hb)
       have n4_ := Aside0.mk (below_step (by repeat (first | (with_reducible first | exact HB.out | apply below_alloc | apply pw_below_drewN | apply below_drew1 | refine below_set ?_ GE151.out | refine below_set ?_ GE152.out | refine below_set ?_ GE157.out) | exact HB.out)) hb)
       clear HO_13
       clear BK151
       clear BK152
       clear BK157
       clear HB
       have HO_13 := n0_
       have BK151 := n1_
       have BK152 := n2_
       have BK157 := n3_
       have HB := n4_
       clear n0_ n1_ n2_ n3_ n4_
       (try clear hb)
       (try clear hb2)
       (try clear hk)
       (try clear hi)
       refine hK.out _ _ ⟨(blk_cell BK157.out 0).trans rfl, (blk_cell BK157.out 1).trans rfl, (blk_cell BK157.out 2).trans rfl, (blk_cell BK157.out 3).trans rfl, (blk_cell BK157.out 4).trans rfl, (blk_cell BK157.out 5).trans rfl, (blk_cell BK157.out 6).trans rfl, (blk_cell BK157.out 7).trans rfl, (blk_cell BK151.out 0).trans rfl, (blk_cell BK151.out 1).trans rfl, (blk_cell BK151.out 2).trans rfl, (blk_cell BK152.out 0).trans rfl, (blk_cell BK152.out 1).trans rfl, (blk_cell BK152.out 2).trans rfl⟩ (fun hHeld => ?_)
       clear hK K
       refine norm_ (a' := ?_) ?_ ?_
       rotate_left
       ·show Act.put _ (some 26) _ = _
        simp only [Act.put, List.setIfInBounds_toArray, List.set_cons_zero, List.set_cons_succ, i64_w, i32_w]
        rfl
       refine pure_ (i := 7) (N := some 8) (v := ?_) (a' := ?_) #[true, true, true, true, true, true, true, true] rfl rfl (any_of HT_.out (by kernel_rfl)) (fun _ _ _ h => h) (Or.inl ⟨by rfl, ?_⟩) ?_ ?_
       rotate_left
       ·intro w'
        go_simp
        with_reducible rfl
       rotate_left
       ·simp only [Act.put, List.setIfInBounds_toArray, List.set_cons_zero, List.set_cons_succ, i64_w, i32_w]
        rfl
       refine done_ (done_of HT_.out (by kernel_rfl)) ?_
       try go_wp2
       go_roundg k1
       case measure => have := HK1.out; omega
       case rel => exact ⟨(t174), (wrap64 (x15_1 + 1)), (by first | rfl | (simp; done) | (simp [*]; done)), (by first | rfl | (simp; done) | (simp [*]; done)), H', ⟨by have := HK1.out; omega⟩, ⟨by (with_reducible repeat (first | apply Kd.R_alloc | apply Kd.R_drewN | apply Kd.R_drew)); exact Kd.R_mono HO_13.out (fun _ hk => trivial)⟩, ⟨S.b BK151.out⟩, ⟨S.b BK152.out⟩, ⟨by repeat (first | (with_reducible first | exact HB.out | apply below_alloc | apply pw_below_drewN | apply below_drew1 | refine below_set ?_ GE151.out | refine below_set ?_ GE152.out | refine below_set ?_ GE157.out) | exact HB.out)⟩⟩
     ·rw [if_neg c10] at H
      exact absurd H (by simp)
    ·rw [if_neg c9] at H
     exact absurd H (by simp)
   ·rw [if_neg c8] at H
    have c8b0 : decide (x15_1 < (y153.length : Int)) = false := decide_eq_false c8
    clear c8
    obtain rfl := Option.some.inj H
    go_wp2
    go_ret
    exact ⟨by first | rfl | (simp [errW_none, errW_some] <;> rfl) | (simp [*, errW_none, errW_some] <;> rfl), by repeat (first | (with_reducible first | exact HB.out | apply below_alloc | apply pw_below_drewN | apply below_drew1 | refine below_set ?_ GE151.out | refine below_set ?_ GE152.out) | exact HB.out)⟩

end Go.Proofs.YtehaonhgbmlmnaaDoor.Pr
