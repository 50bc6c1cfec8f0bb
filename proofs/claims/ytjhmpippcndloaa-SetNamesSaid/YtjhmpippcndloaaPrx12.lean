-- printed by wip/gprint.py (ours) out of the translation, by the kit's print program with given contracts
import Derived.Test.YtjhmpippcndloaaPrx0
namespace Go.Proofs.Ytjhmpippcndloaa.Pr
open Go.RowKit Go.Proofs.YtjhmpippcndloaaW.PrintWords Go.Proofs.YtjhmpippcndloaaW.PrintLast Go.Proofs.YtjhmpippcndloaaW.PrintMore
attribute [local go_sem] max2_int min2_int max_two min_two max_three min_three max_four min_four   -- for this text's walks alone
set_option linter.unusedVariables false
set_option linter.unusedSimpArgs false

/-! ### rubricref7_put: function 50 -/
def rubricref7_put.l0 : Nat → List (S58) → List (S58) → Bool → Int → Int → Int → Option ((List (S58)))
 | 0, _, _, _, _, _, _ => none
 | k + 1, x0, x5, x6, x7, x438000, x438001 => if x7 < (x0.length : Int) then (if 0 ≤ x7 then (if ((rd_T58 x0 x7).f1) < (wrap64 (x438000 - 1)) then (if x5.length < 8796093022208 then (rubricref7_put.l0 k x0 (x5 ++ [(⟨(rd_T58 x0 x7).f0, (rd_T58 x0 x7).f1⟩ : S58)]) x6 (wrap64 (x7 + 1)) x438000 x438001) else (none)) else (if ((rd_T58 x0 x7).f0) > (wrap64 (x438001 + 1)) then (if x6 = true then (if x5.length < 8796093022208 then (rubricref7_put.l0 k x0 (x5 ++ [(⟨(rd_T58 x0 x7).f0, (rd_T58 x0 x7).f1⟩ : S58)]) x6 (wrap64 (x7 + 1)) x438000 x438001) else (none)) else (if x5.length < 8796093022208 then ((some (x5 ++ [(⟨x438000, x438001⟩ : S58)] : List (S58))).bind fun y449 => (if y449.length < 8796093022208 then (rubricref7_put.l0 k x0 (y449 ++ [(⟨(rd_T58 x0 x7).f0, (rd_T58 x0 x7).f1⟩ : S58)]) true (wrap64 (x7 + 1)) x438000 x438001) else (none))) else (none))) else (if ((rd_T58 x0 x7).f0) < x438000 then (if ((rd_T58 x0 x7).f1) > x438001 then (rubricref7_put.l0 k x0 x5 x6 (wrap64 (x7 + 1)) ((rd_T58 x0 x7).f0) ((rd_T58 x0 x7).f1)) else (rubricref7_put.l0 k x0 x5 x6 (wrap64 (x7 + 1)) ((rd_T58 x0 x7).f0) x438001)) else (if ((rd_T58 x0 x7).f1) > x438001 then (rubricref7_put.l0 k x0 x5 x6 (wrap64 (x7 + 1)) x438000 ((rd_T58 x0 x7).f1)) else (rubricref7_put.l0 k x0 x5 x6 (wrap64 (x7 + 1)) x438000 x438001))))) else (none)) else (if x6 = true then (some x5) else (if x5.length < 8796093022208 then (some (x5 ++ [(⟨x438000, x438001⟩ : S58)])) else (none)))
def rubricref7_put.f (k : Nat) (l0 : List (S58)) (a1_0 : Int) (a1_1 : Int) : Option ((List (S58))) := rubricref7_put.l0 k l0 ([] : List (S58)) false 0 a1_0 a1_1
theorem rubricref7_put.mono_l : ∀ k, (∀ y0 y1 y2 y3 y4 y5, LeO (rubricref7_put.l0 k y0 y1 y2 y3 y4 y5) (rubricref7_put.l0 (k + 1) y0 y1 y2 y3 y4 y5))
 | 0 => fun _ _ _ _ _ _ r h => by simp [rubricref7_put.l0] at h
 | k + 1 => by
  have ih0 := rubricref7_put.mono_l k
  ·intro y0 y1 y2 y3 y4 y5
   unfold rubricref7_put.l0
   repeat' first
   | (with_reducible exact ih0 _ _ _ _ _ _)
   | (with_reducible exact LeO.refl _)
   | (with_reducible exact LeO.none _)
   | (with_reducible refine LeO.ite ?_ ?_)
   | (with_reducible refine LeO.bind ?_ (fun _ => ?_))
   | exact ih0 _ _ _ _ _ _
   | exact LeO.none _
   | refine LeO.ite ?_ ?_
   | refine LeO.bind ?_ (fun _ => ?_)
theorem rubricref7_put.mono : ∀ a0 a1 a2 k, LeO (rubricref7_put.f k a0 a1 a2) (rubricref7_put.f (k + 1) a0 a1 a2) := by
 intro a0 a1 a2 k
 have ih0 := rubricref7_put.mono_l k
 unfold rubricref7_put.f
 repeat' first
   | (with_reducible exact ih0 _ _ _ _ _ _)
   | (with_reducible exact LeO.refl _)
   | (with_reducible exact LeO.none _)
   | (with_reducible refine LeO.ite ?_ ?_)
   | (with_reducible refine LeO.bind ?_ (fun _ => ?_))
   | exact ih0 _ _ _ _ _ _
   | exact LeO.none _
   | refine LeO.ite ?_ ?_
   | refine LeO.bind ?_ (fun _ => ?_)
set_option maxHeartbeats 8000000 in
set_option maxRecDepth 100000 in
theorem rubricref7_put.calls (k : Nat) (A0 : Option Addr) (c0 : Nat) (l0 : List (S58)) (a1_0 : Int) (a1_1 : Int) (r : List (S58)) (w : World) (hr0 : Kd.C k58 w A0 l0.length l0) (hc0 : l0.length ≤ c0) (h : rubricref7_put.f k l0 a1_0 a1_1 = some r) :
  Calls Try.prog 50 #[.slice A0 l0.length c0, .agg #[.int .i64 a1_0, .int .i64 a1_1]] w fun e w' => ∃ v0_ : Value, e = .returned (v0_) ∧ Kd.R k58 58 w' w.heap.size (fun _ => True) v0_ r ∧ Below w.heap.size w w' := by
 have hu58 := Try.underlying58
 have HR0 := Aside0.mk hr0
 have HC0 := Aside0.mk hc0
 clear hr0 hc0
 have HB := Aside0.mk (Below.refl w.heap.size w)
 have H : (rubricref7_put.l0 k l0 ([] : List (S58)) false 0 a1_0 a1_1) = some r := h
 clear h
 have H' := Aside0.mk H
 clear H
 go_enter Try.func50, Try.ntmps50
 go_wp2_with (first | ((with_reducible refine gate_dst (N := 3) rfl ?_); refine box_event ?hg (N := 3) ?hd (cs := #[.int .i64 a1_0, .int .i64 a1_1]) (t := 58) ?hr ?_; (case hd => rfl); (case hg => rfl); (case hr => first | (go_simp; done) | (go_simp; rfl)); intro gb437 hg w3 hbox hb; have n0_ := Aside0.mk (below_step (by repeat (first | (with_reducible first | exact HB.out | apply below_alloc | apply pw_below_drewN | apply below_drew1) | exact HB.out)) hb); have n1_ := Aside0.mk (hbox); have n2_ := Aside0.mk ((by rw [hg]; exact (below_size (by repeat (first | (with_reducible first | exact HB.out | apply below_alloc | apply pw_below_drewN | apply below_drew1) | exact HB.out))) : w.heap.size ≤ gb437)); have n3_ := Aside0.mk ((by rw [hg]; exact (below_size (by repeat (first | (with_reducible first | exact HB.out | apply below_alloc | apply pw_below_drewN | apply below_drew1) | exact HB.out))) : w.heap.size ≤ gb437)); clear HB; have HB := n0_; have BK437 := n1_; have GW437 := n2_; have GE437 := n3_; clear n0_ n1_ n2_ n3_; clear hb hbox hg))
 go_loopg [5, 6, 7] k (fun kq v5 v6 v7 w' => ∃ (x5_1 : List (S58)) (x6_1 : Bool) (x7_1 : Int) (x438000_1 : Int) (x438001_1 : Int), v6 = .bool x6_1 ∧ v7 = .int .i64 x7_1 ∧ Aside0 (rubricref7_put.l0 kq l0 x5_1 x6_1 x7_1 x438000_1 x438001_1 = some r) ∧ Aside0 (kq ≤ k) ∧ Aside0 (Kd.R k58 58 w' w.heap.size (fun k_ => k_ ≠ gb437) v5 x5_1) ∧ Aside0 (w'.heap[gb437]? = some (.cells #[.int .i64 x438000_1, .int .i64 x438001_1] 58 (0, 0))) ∧ Aside0 (Below w.heap.size w w'))
 case atStart => exact ⟨(([] : List (S58))), (false), (0), (a1_0), (a1_1), (by first | rfl | (simp; done) | (simp [*]; done)), (by first | rfl | (simp; done) | (simp [*]; done)), H', ⟨Nat.le_refl _⟩, ⟨by first | exact Kd.R_nil _ _ _ _ _ | exact Kd.N_nil _ _ _ _ _ | exact Kd.V_nil _ _ _ _ _ | exact Kd.Q_nil _ _ _ _ _ | exact Kd.S_nil _ _ _ _ _⟩, ⟨S.b BK437.out⟩, ⟨by repeat (first | (with_reducible first | exact HB.out | apply below_alloc | apply pw_below_drewN | apply below_drew1 | refine below_set ?_ GE437.out) | exact HB.out)⟩⟩
 case round =>
  clear H'
  try clear p2
  obtain ⟨x5_1, x6_1, x7_1, x438000_1, x438001_1, rfl, rfl, HA, HK1, HO_5, BK437, HB⟩ := hrel
  cases gk with
  | zero => exact absurd HA.out (by simp [rubricref7_put.l0])
  | succ k1 =>
   have H := HA.out
   clear HA
   simp only [rubricref7_put.l0] at H
   by_cases c4 : x7_1 < (l0.length : Int)
   ·rw [if_pos c4] at H
    have c4b0 : decide (x7_1 < (l0.length : Int)) = true := decide_eq_true c4
    clear c4
    by_cases c5 : 0 ≤ x7_1
    ·rw [if_pos c5] at H
     have c5b0 : decide (0 ≤ x7_1) = true := decide_eq_true c5
     clear c5
     by_cases c6 : ((rd_T58 l0 x7_1).f1) < (wrap64 (x438000_1 - 1))
     ·rw [if_pos c6] at H
      have c6b0 : decide (((rd_T58 l0 x7_1).f1) < (wrap64 (x438000_1 - 1))) = true := decide_eq_true c6
      clear c6
      by_cases c7 : x5_1.length < 8796093022208
      ·rw [if_pos c7] at H
       have LMc7 := Aside0.mk c7
       clear c7
       obtain ⟨y443, hy443⟩ : ∃ y_ : List (S58), y_ = (x5_1 ++ [(⟨(rd_T58 l0 x7_1).f0, (rd_T58 l0 x7_1).f1⟩ : S58)]) := ⟨_, rfl⟩
       replace H : (rubricref7_put.l0 k1 l0 y443 x6_1 (wrap64 (x7_1 + 1)) x438000_1 x438001_1) = some r := by first | (rw [hy443]; with_reducible exact H) | (have H2_ := (Option.bind_some _ _).symm.trans H; rw [hy443]; with_reducible exact H2_) | (have H2_ := (Option.bind_some _ _).symm.trans H; with_reducible exact H2_) | with_reducible exact H | (rw [hy443]; exact H) | exact H
       have Ny443 := Aside0.mk hy443
       clear hy443
       have H' := Aside0.mk H
       clear H
       have p441 : 0 ≤ (x7_1 : Int) := of_decide_eq_true (by first | (with_reducible assumption) | assumption)
       have q441 : x7_1 < (l0.length : Int) := of_decide_eq_true (by first | (with_reducible assumption) | assumption)
       obtain ⟨ad441, e441, hx441_0, hx441_1⟩ := at_T58 HR0.out x7_1 p441 q441
       cases e441
       replace hx441_0 := (HB.out.cell (World.block_lt_of_cell? w _ hx441_0)).trans hx441_0
       replace hx441_1 := (HB.out.cell (World.block_lt_of_cell? w _ hx441_1)).trans hx441_1
       replace p441 := eq_true p441
       replace q441 := eq_true q441
       go_wp2_with (first | ((with_reducible refine gate_dst (N := 8) rfl ?_); refine box_event ?hg (N := 8) ?hd (cs := #[.int .i64 0, .int .i64 0]) (t := 58) ?hr ?_; (case hd => rfl); (case hg => rfl); (case hr => first | (go_simp; done) | (go_simp; rfl)); intro gb442 hg w8 hbox hb; have n0_ := Aside0.mk (Kd.R_below (Kd.R_elderB (S.r HO_5.out) gb442 (Nat.le_of_eq hg.symm)) hb); have n1_ := Aside0.mk (blk_below (g := gb437) (o := .cells #[.int .i64 x438000_1, .int .i64 x438001_1] 58 (0, 0)) (S.b BK437.out) hb); have n2_ := Aside0.mk (below_step (by repeat (first | (with_reducible first | exact HB.out | apply below_alloc | apply pw_below_drewN | apply below_drew1 | refine below_set ?_ GE437.out) | exact HB.out)) hb); have n3_ := Aside0.mk (hbox); have n4_ := Aside0.mk ((by rw [hg]; exact (below_size (by repeat (first | (with_reducible first | exact HB.out | apply below_alloc | apply pw_below_drewN | apply below_drew1 | refine below_set ?_ GE437.out) | exact HB.out))) : w.heap.size ≤ gb442)); have n5_ := Aside0.mk ((by rw [hg]; exact (below_size (by repeat (first | (with_reducible first | exact HB.out | apply below_alloc | apply pw_below_drewN | apply below_drew1 | refine below_set ?_ GE437.out) | exact HB.out))) : w.heap.size ≤ gb442)); have n6_ := Aside0.mk ((by rw [hg]; exact Nat.ne_of_lt (blk_lt (g := gb437) (o := .cells #[.int .i64 x438000_1, .int .i64 x438001_1] 58 (0, 0)) (S.b BK437.out)) : gb437 ≠ gb442)); have n7_ := Aside0.mk ((by rw [hg]; exact Nat.ne_of_gt (blk_lt (g := gb437) (o := .cells #[.int .i64 x438000_1, .int .i64 x438001_1] 58 (0, 0)) (S.b BK437.out)) : gb442 ≠ gb437)); clear HO_5; clear BK437; clear HB; have HO_5 := n0_; have BK437 := n1_; have HB := n2_; have BK442 := n3_; have GW442 := n4_; have GE442 := n5_; have NB437_442 := n6_; have NB442_437 := n7_; clear n0_ n1_ n2_ n3_ n4_ n5_ n6_ n7_; clear hb hbox hg; have hnb9 := NB442_437.out; have hnc9 := NB437_442.out; have hcz10_0 : w8.cell? ⟨gb442, 0, none⟩ = some (.int .i64 0) := (blk_cell BK442.out 0).trans rfl; have hcz10_1 : w8.cell? ⟨gb442, 1, none⟩ = some (.int .i64 0) := (blk_cell BK442.out 1).trans rfl; have hfz10_0 := blk_frozen BK442.out 0; have hfz10_1 := blk_frozen BK442.out 1; have hcz11_0 : w8.cell? ⟨gb437, 0, none⟩ = some (.int .i64 x438000_1) := (blk_cell BK437.out 0).trans rfl; have hcz11_1 : w8.cell? ⟨gb437, 1, none⟩ = some (.int .i64 x438001_1) := (blk_cell BK437.out 1).trans rfl; have hfz11_0 := blk_frozen BK437.out 0; have hfz11_1 := blk_frozen BK437.out 1) | ((with_reducible refine gate_builtin (b := .append) (xs := #[.tmp 42, .tmp 44]) rfl ?_); at_builtin; refine Kd.R_append k58 (w0 := w) w.heap.size rfl (.tmp 42) (.tmp 44) 36 58 (.agg #[(.int .i64 0), (.int .i64 0)]) 16 rfl Try.underlying36 info58 rfl (by decide) (by omega) u5 x5_1 (⟨(rd_T58 l0 x7_1).f0, (rd_T58 l0 x7_1).f1⟩ : S58) [.int .i64 ((rd_T58 l0 x7_1).f0), .int .i64 ((rd_T58 l0 x7_1).f1)] (fun k_ => k_ ≠ gb437 ∧ k_ ≠ gb442) (fun _ => False) rfl (by first | (go_simp; done) | (go_simp; rfl)) ?aP (fun _ hk => hk.elim) ?aF ?aO ?aB ?aS ?aL ?_; (case aP => exact k58_mkM _ _ _ (⟨(rd_T58 l0 x7_1).f0, (rd_T58 l0 x7_1).f1⟩ : S58)); (case aB => exact (by repeat (first | (with_reducible first | exact HB.out | apply below_alloc | apply pw_below_drewN | apply below_drew1 | refine below_set ?_ GE437.out | refine below_set ?_ GE442.out) | exact HB.out))); (case aF => exact (fun k_ hk => ⟨Kd.freshB (g := gb437) (o := .cells #[.int .i64 x438000_1, .int .i64 x438001_1] 58 (0, 0)) (by (with_reducible repeat (first | refine blk_drewN ?_ _ | refine blk_drew ?_ | refine blk_alloc ?_ _)); refine blk_far ?_ NB437_442.out _; (with_reducible repeat (first | refine blk_drewN ?_ _ | refine blk_drew ?_ | refine blk_alloc ?_ _)); refine blk_far ?_ NB437_442.out _; (with_reducible repeat (first | refine blk_drewN ?_ _ | refine blk_drew ?_ | refine blk_alloc ?_ _)); exact BK437.out) k_ hk, Kd.freshB (g := gb442) (o := .cells #[.int .i64 ((rd_T58 l0 x7_1).f0), .int .i64 ((rd_T58 l0 x7_1).f1)] 58 (0, 0)) (by (with_reducible repeat (first | refine blk_drewN ?_ _ | refine blk_drew ?_ | refine blk_alloc ?_ _)); refine blk_put (cs := #[.int .i64 ((rd_T58 l0 x7_1).f0), .int .i64 0]) ?_ 1 _ rfl; (with_reducible repeat (first | refine blk_drewN ?_ _ | refine blk_drew ?_ | refine blk_alloc ?_ _)); refine blk_put (cs := #[.int .i64 0, .int .i64 0]) ?_ 0 _ rfl; (with_reducible repeat (first | refine blk_drewN ?_ _ | refine blk_drew ?_ | refine blk_alloc ?_ _)); exact BK442.out) k_ hk⟩)); (case aO => exact (by (with_reducible repeat (first | apply Kd.R_alloc | apply Kd.R_drewN | apply Kd.R_drew)); exact Kd.R_mono (Kd.R_far (p := ⟨gb442, 1, none⟩) (Kd.R_far (p := ⟨gb442, 0, none⟩) (Kd.R_mono HO_5.out (fun k_ hk => (⟨hk, hk.2⟩ : _ ∧ k_ ≠ gb442))) (fun _ hk => hk.2) (.int .i64 ((rd_T58 l0 x7_1).f0))) (fun _ hk => hk.2) (.int .i64 ((rd_T58 l0 x7_1).f1))) (fun _ hk => ⟨hk.1.1, hk.1.2⟩))); (case aS => exact (below_size (by repeat (first | (with_reducible first | exact HB.out | apply below_alloc | apply pw_below_drewN | apply below_drew1 | refine below_set ?_ GE437.out | refine below_set ?_ GE442.out) | exact HB.out)))); (case aL => have := LMc7.out; omega); intro v444 w12 ho hb hg hat; rw [← Ny443.out] at ho; have n0_ := Aside0.mk (blk_grown (g := gb437) (o := .cells #[.int .i64 x438000_1, .int .i64 x438001_1] 58 (0, 0)) (by (with_reducible repeat (first | refine blk_drewN ?_ _ | refine blk_drew ?_ | refine blk_alloc ?_ _)); refine blk_far ?_ NB437_442.out _; (with_reducible repeat (first | refine blk_drewN ?_ _ | refine blk_drew ?_ | refine blk_alloc ?_ _)); refine blk_far ?_ NB437_442.out _; (with_reducible repeat (first | refine blk_drewN ?_ _ | refine blk_drew ?_ | refine blk_alloc ?_ _)); exact BK437.out) hg (Kd.R_away HO_5.out (fun _ hk => hk.1))); have n1_ := Aside0.mk (blk_grown (g := gb442) (o := .cells #[.int .i64 ((rd_T58 l0 x7_1).f0), .int .i64 ((rd_T58 l0 x7_1).f1)] 58 (0, 0)) (by (with_reducible repeat (first | refine blk_drewN ?_ _ | refine blk_drew ?_ | refine blk_alloc ?_ _)); refine blk_put (cs := #[.int .i64 ((rd_T58 l0 x7_1).f0), .int .i64 0]) ?_ 1 _ rfl; (with_reducible repeat (first | refine blk_drewN ?_ _ | refine blk_drew ?_ | refine blk_alloc ?_ _)); refine blk_put (cs := #[.int .i64 0, .int .i64 0]) ?_ 0 _ rfl; (with_reducible repeat (first | refine blk_drewN ?_ _ | refine blk_drew ?_ | refine blk_alloc ?_ _)); exact BK442.out) hg (Kd.R_away HO_5.out (fun _ hk => hk.2))); have n2_ := Aside0.mk (hb); have n3_ := Aside0.mk (ho); clear BK437; clear BK442; clear HB; clear HO_5; have BK437 := n0_; have BK442 := n1_; have HB := n2_; have HO445 := n3_; clear n0_ n1_ n2_ n3_; clear ho hb hg hat))
       go_roundg k1
       case measure => have := HK1.out; omega
       case rel => exact ⟨(y443), (x6_1), (wrap64 (x7_1 + 1)), (x438000_1), (x438001_1), (by first | rfl | (simp; done) | (simp [*]; done)), (by first | rfl | (simp; done) | (simp [*]; done)), H', ⟨by have := HK1.out; omega⟩, ⟨by (with_reducible repeat (first | apply Kd.R_alloc | apply Kd.R_drewN | apply Kd.R_drew)); exact Kd.R_mono HO445.out (fun _ hk => hk.1)⟩, ⟨S.b BK437.out⟩, ⟨by repeat (first | (with_reducible first | exact HB.out | apply below_alloc | apply pw_below_drewN | apply below_drew1 | refine below_set ?_ GE437.out | refine below_set ?_ GE442.out) | exact HB.out)⟩⟩
      ·rw [if_neg c7] at H
       exact absurd H (by simp)
     ·rw [if_neg c6] at H
      have c6b0 : decide (((rd_T58 l0 x7_1).f1) < (wrap64 (x438000_1 - 1))) = false := decide_eq_false c6
      clear c6
      by_cases c13 : ((rd_T58 l0 x7_1).f0) > (wrap64 (x438001_1 + 1))
      ·rw [if_pos c13] at H
       have c13b0 : decide ((wrap64 (x438001_1 + 1)) < ((rd_T58 l0 x7_1).f0)) = true := decide_eq_true c13
       clear c13
       by_cases c14 : x6_1 = true
       ·subst c14
        have H1 : (if x5_1.length < 8796093022208 then (rubricref7_put.l0 k1 l0 (x5_1 ++ [(⟨(rd_T58 l0 x7_1).f0, (rd_T58 l0 x7_1).f1⟩ : S58)]) true (wrap64 (x7_1 + 1)) x438000_1 x438001_1) else (none)) = some r := by rw [if_pos rfl] at H; exact H
        clear H
        have H := H1
        clear H1
        by_cases c15 : x5_1.length < 8796093022208
        ·rw [if_pos c15] at H
         have LMc15 := Aside0.mk c15
         clear c15
         obtain ⟨y446, hy446⟩ : ∃ y_ : List (S58), y_ = (x5_1 ++ [(⟨(rd_T58 l0 x7_1).f0, (rd_T58 l0 x7_1).f1⟩ : S58)]) := ⟨_, rfl⟩
         replace H : (rubricref7_put.l0 k1 l0 y446 true (wrap64 (x7_1 + 1)) x438000_1 x438001_1) = some r := by first | (rw [hy446]; with_reducible exact H) | (have H2_ := (Option.bind_some _ _).symm.trans H; rw [hy446]; with_reducible exact H2_) | (have H2_ := (Option.bind_some _ _).symm.trans H; with_reducible exact H2_) | with_reducible exact H | (rw [hy446]; exact H) | exact H
         have Ny446 := Aside0.mk hy446
         clear hy446
         have H' := Aside0.mk H
         clear H
         have p441 : 0 ≤ (x7_1 : Int) := of_decide_eq_true (by first | (with_reducible assumption) | assumption)
         have q441 : x7_1 < (l0.length : Int) := of_decide_eq_true (by first | (with_reducible assumption) | assumption)
         obtain ⟨ad441, e441, hx441_0, hx441_1⟩ := at_T58 HR0.out x7_1 p441 q441
         cases e441
         replace hx441_0 := (HB.out.cell (World.block_lt_of_cell? w _ hx441_0)).trans hx441_0
         replace hx441_1 := (HB.out.cell (World.block_lt_of_cell? w _ hx441_1)).trans hx441_1
         replace p441 := eq_true p441
         replace q441 := eq_true q441
         go_wp2_with (first | ((with_reducible refine gate_dst (N := 8) rfl ?_); refine box_event ?hg (N := 8) ?hd (cs := #[.int .i64 0, .int .i64 0]) (t := 58) ?hr ?_; (case hd => rfl); (case hg => rfl); (case hr => first | (go_simp; done) | (go_simp; rfl)); intro gb442 hg w16 hbox hb; have n0_ := Aside0.mk (Kd.R_below (Kd.R_elderB (S.r HO_5.out) gb442 (Nat.le_of_eq hg.symm)) hb); have n1_ := Aside0.mk (blk_below (g := gb437) (o := .cells #[.int .i64 x438000_1, .int .i64 x438001_1] 58 (0, 0)) (S.b BK437.out) hb); have n2_ := Aside0.mk (below_step (by repeat (first | (with_reducible first | exact HB.out | apply below_alloc | apply pw_below_drewN | apply below_drew1 | refine below_set ?_ GE437.out) | exact HB.out)) hb); have n3_ := Aside0.mk (hbox); have n4_ := Aside0.mk ((by rw [hg]; exact (below_size (by repeat (first | (with_reducible first | exact HB.out | apply below_alloc | apply pw_below_drewN | apply below_drew1 | refine below_set ?_ GE437.out) | exact HB.out))) : w.heap.size ≤ gb442)); have n5_ := Aside0.mk ((by rw [hg]; exact (below_size (by repeat (first | (with_reducible first | exact HB.out | apply below_alloc | apply pw_below_drewN | apply below_drew1 | refine below_set ?_ GE437.out) | exact HB.out))) : w.heap.size ≤ gb442)); have n6_ := Aside0.mk ((by rw [hg]; exact Nat.ne_of_lt (blk_lt (g := gb437) (o := .cells #[.int .i64 x438000_1, .int .i64 x438001_1] 58 (0, 0)) (S.b BK437.out)) : gb437 ≠ gb442)); have n7_ := Aside0.mk ((by rw [hg]; exact Nat.ne_of_gt (blk_lt (g := gb437) (o := .cells #[.int .i64 x438000_1, .int .i64 x438001_1] 58 (0, 0)) (S.b BK437.out)) : gb442 ≠ gb437)); clear HO_5; clear BK437; clear HB; have HO_5 := n0_; have BK437 := n1_; have HB := n2_; have BK442 := n3_; have GW442 := n4_; have GE442 := n5_; have NB437_442 := n6_; have NB442_437 := n7_; clear n0_ n1_ n2_ n3_ n4_ n5_ n6_ n7_; clear hb hbox hg; have hnb17 := NB442_437.out; have hnc17 := NB437_442.out; have hcz18_0 : w16.cell? ⟨gb442, 0, none⟩ = some (.int .i64 0) := (blk_cell BK442.out 0).trans rfl; have hcz18_1 : w16.cell? ⟨gb442, 1, none⟩ = some (.int .i64 0) := (blk_cell BK442.out 1).trans rfl; have hfz18_0 := blk_frozen BK442.out 0; have hfz18_1 := blk_frozen BK442.out 1; have hcz19_0 : w16.cell? ⟨gb437, 0, none⟩ = some (.int .i64 x438000_1) := (blk_cell BK437.out 0).trans rfl; have hcz19_1 : w16.cell? ⟨gb437, 1, none⟩ = some (.int .i64 x438001_1) := (blk_cell BK437.out 1).trans rfl; have hfz19_0 := blk_frozen BK437.out 0; have hfz19_1 := blk_frozen BK437.out 1) | ((with_reducible refine gate_builtin (b := .append) (xs := #[.tmp 59, .tmp 61]) rfl ?_); at_builtin; refine Kd.R_append k58 (w0 := w) w.heap.size rfl (.tmp 59) (.tmp 61) 36 58 (.agg #[(.int .i64 0), (.int .i64 0)]) 16 rfl Try.underlying36 info58 rfl (by decide) (by omega) u5 x5_1 (⟨(rd_T58 l0 x7_1).f0, (rd_T58 l0 x7_1).f1⟩ : S58) [.int .i64 ((rd_T58 l0 x7_1).f0), .int .i64 ((rd_T58 l0 x7_1).f1)] (fun k_ => k_ ≠ gb437 ∧ k_ ≠ gb442) (fun _ => False) rfl (by first | (go_simp; done) | (go_simp; rfl)) ?aP (fun _ hk => hk.elim) ?aF ?aO ?aB ?aS ?aL ?_; (case aP => exact k58_mkM _ _ _ (⟨(rd_T58 l0 x7_1).f0, (rd_T58 l0 x7_1).f1⟩ : S58)); (case aB => exact (by repeat (first | (with_reducible first | exact HB.out | apply below_alloc | apply pw_below_drewN | apply below_drew1 | refine below_set ?_ GE437.out | refine below_set ?_ GE442.out) | exact HB.out))); (case aF => exact (fun k_ hk => ⟨Kd.freshB (g := gb437) (o := .cells #[.int .i64 x438000_1, .int .i64 x438001_1] 58 (0, 0)) (by (with_reducible repeat (first | refine blk_drewN ?_ _ | refine blk_drew ?_ | refine blk_alloc ?_ _)); refine blk_far ?_ NB437_442.out _; (with_reducible repeat (first | refine blk_drewN ?_ _ | refine blk_drew ?_ | refine blk_alloc ?_ _)); refine blk_far ?_ NB437_442.out _; (with_reducible repeat (first | refine blk_drewN ?_ _ | refine blk_drew ?_ | refine blk_alloc ?_ _)); exact BK437.out) k_ hk, Kd.freshB (g := gb442) (o := .cells #[.int .i64 ((rd_T58 l0 x7_1).f0), .int .i64 ((rd_T58 l0 x7_1).f1)] 58 (0, 0)) (by (with_reducible repeat (first | refine blk_drewN ?_ _ | refine blk_drew ?_ | refine blk_alloc ?_ _)); refine blk_put (cs := #[.int .i64 ((rd_T58 l0 x7_1).f0), .int .i64 0]) ?_ 1 _ rfl; (with_reducible repeat (first | refine blk_drewN ?_ _ | refine blk_drew ?_ | refine blk_alloc ?_ _)); refine blk_put (cs := #[.int .i64 0, .int .i64 0]) ?_ 0 _ rfl; (with_reducible repeat (first | refine blk_drewN ?_ _ | refine blk_drew ?_ | refine blk_alloc ?_ _)); exact BK442.out) k_ hk⟩)); (case aO => exact (by (with_reducible repeat (first | apply Kd.R_alloc | apply Kd.R_drewN | apply Kd.R_drew)); exact Kd.R_mono (Kd.R_far (p := ⟨gb442, 1, none⟩) (Kd.R_far (p := ⟨gb442, 0, none⟩) (Kd.R_mono HO_5.out (fun k_ hk => (⟨hk, hk.2⟩ : _ ∧ k_ ≠ gb442))) (fun _ hk => hk.2) (.int .i64 ((rd_T58 l0 x7_1).f0))) (fun _ hk => hk.2) (.int .i64 ((rd_T58 l0 x7_1).f1))) (fun _ hk => ⟨hk.1.1, hk.1.2⟩))); (case aS => exact (below_size (by repeat (first | (with_reducible first | exact HB.out | apply below_alloc | apply pw_below_drewN | apply below_drew1 | refine below_set ?_ GE437.out | refine below_set ?_ GE442.out) | exact HB.out)))); (case aL => have := LMc15.out; omega); intro v447 w20 ho hb hg hat; rw [← Ny446.out] at ho; have n0_ := Aside0.mk (blk_grown (g := gb437) (o := .cells #[.int .i64 x438000_1, .int .i64 x438001_1] 58 (0, 0)) (by (with_reducible repeat (first | refine blk_drewN ?_ _ | refine blk_drew ?_ | refine blk_alloc ?_ _)); refine blk_far ?_ NB437_442.out _; (with_reducible repeat (first | refine blk_drewN ?_ _ | refine blk_drew ?_ | refine blk_alloc ?_ _)); refine blk_far ?_ NB437_442.out _; (with_reducible repeat (first | refine blk_drewN ?_ _ | refine blk_drew ?_ | refine blk_alloc ?_ _)); exact BK437.out) hg (Kd.R_away HO_5.out (fun _ hk => hk.1))); have n1_ := Aside0.mk (blk_grown (g := gb442) (o := .cells #[.int .i64 ((rd_T58 l0 x7_1).f0), .int .i64 ((rd_T58 l0 x7_1).f1)] 58 (0, 0)) (by (with_reducible repeat (first | refine blk_drewN ?_ _ | refine blk_drew ?_ | refine blk_alloc ?_ _)); refine blk_put (cs := #[.int .i64 ((rd_T58 l0 x7_1).f0), .int .i64 0]) ?_ 1 _ rfl; (with_reducible repeat (first | refine blk_drewN ?_ _ | refine blk_drew ?_ | refine blk_alloc ?_ _)); refine blk_put (cs := #[.int .i64 0, .int .i64 0]) ?_ 0 _ rfl; (with_reducible repeat (first | refine blk_drewN ?_ _ | refine blk_drew ?_ | refine blk_alloc ?_ _)); exact BK442.out) hg (Kd.R_away HO_5.out (fun _ hk => hk.2))); have n2_ := Aside0.mk (hb); have n3_ := Aside0.mk (ho); clear BK437; clear BK442; clear HB; clear HO_5; have BK437 := n0_; have BK442 := n1_; have HB := n2_; have HO448 := n3_; clear n0_ n1_ n2_ n3_; clear ho hb hg hat))
         go_roundg k1
         case measure => have := HK1.out; omega
         case rel => exact ⟨(y446), (true), (wrap64 (x7_1 + 1)), (x438000_1), (x438001_1), (by first | rfl | (simp; done) | (simp [*]; done)), (by first | rfl | (simp; done) | (simp [*]; done)), H', ⟨by have := HK1.out; omega⟩, ⟨by (with_reducible repeat (first | apply Kd.R_alloc | apply Kd.R_drewN | apply Kd.R_drew)); exact Kd.R_mono HO448.out (fun _ hk => hk.1)⟩, ⟨S.b BK437.out⟩, ⟨by repeat (first | (with_reducible first | exact HB.out | apply below_alloc | apply pw_below_drewN | apply below_drew1 | refine below_set ?_ GE437.out | refine below_set ?_ GE442.out) | exact HB.out)⟩⟩
        ·rw [if_neg c15] at H
         exact absurd H (by simp)
       ·replace c14 := Bool.eq_false_iff.mpr c14
        subst c14
        have H1 : (if x5_1.length < 8796093022208 then ((some (x5_1 ++ [(⟨x438000_1, x438001_1⟩ : S58)] : List (S58))).bind fun y449 => (if y449.length < 8796093022208 then (rubricref7_put.l0 k1 l0 (y449 ++ [(⟨(rd_T58 l0 x7_1).f0, (rd_T58 l0 x7_1).f1⟩ : S58)]) true (wrap64 (x7_1 + 1)) x438000_1 x438001_1) else (none))) else (none)) = some r := by rw [if_neg (show ¬ (false = true) by decide)] at H; exact H
        clear H
        have H := H1
        clear H1
        by_cases c21 : x5_1.length < 8796093022208
        ·rw [if_pos c21] at H
         have LMc21 := Aside0.mk c21
         clear c21
         obtain ⟨y449, hy449⟩ : ∃ y_ : List (S58), y_ = (x5_1 ++ [(⟨x438000_1, x438001_1⟩ : S58)]) := ⟨_, rfl⟩
         replace H : (if y449.length < 8796093022208 then (rubricref7_put.l0 k1 l0 (y449 ++ [(⟨(rd_T58 l0 x7_1).f0, (rd_T58 l0 x7_1).f1⟩ : S58)]) true (wrap64 (x7_1 + 1)) x438000_1 x438001_1) else (none)) = some r := by first | (rw [hy449]; with_reducible exact H) | (have H2_ := (Option.bind_some _ _).symm.trans H; rw [hy449]; with_reducible exact H2_) | (have H2_ := (Option.bind_some _ _).symm.trans H; with_reducible exact H2_) | with_reducible exact H | (rw [hy449]; exact H) | exact H
         have Ny449 := Aside0.mk hy449
         clear hy449
         by_cases c22 : y449.length < 8796093022208
         ·rw [if_pos c22] at H
          have LMc22 := Aside0.mk c22
          clear c22
          obtain ⟨y452, hy452⟩ : ∃ y_ : List (S58), y_ = (y449 ++ [(⟨(rd_T58 l0 x7_1).f0, (rd_T58 l0 x7_1).f1⟩ : S58)]) := ⟨_, rfl⟩
          replace H : (rubricref7_put.l0 k1 l0 y452 true (wrap64 (x7_1 + 1)) x438000_1 x438001_1) = some r := by first | (rw [hy452]; with_reducible exact H) | (have H2_ := (Option.bind_some _ _).symm.trans H; rw [hy452]; with_reducible exact H2_) | (have H2_ := (Option.bind_some _ _).symm.trans H; with_reducible exact H2_) | with_reducible exact H | (rw [hy452]; exact H) | exact H
          have Ny452 := Aside0.mk hy452
          clear hy452
          have H' := Aside0.mk H
          clear H
          have p441 : 0 ≤ (x7_1 : Int) := of_decide_eq_true (by first | (with_reducible assumption) | assumption)
          have q441 : x7_1 < (l0.length : Int) := of_decide_eq_true (by first | (with_reducible assumption) | assumption)
          obtain ⟨ad441, e441, hx441_0, hx441_1⟩ := at_T58 HR0.out x7_1 p441 q441
          cases e441
          replace hx441_0 := (HB.out.cell (World.block_lt_of_cell? w _ hx441_0)).trans hx441_0
          replace hx441_1 := (HB.out.cell (World.block_lt_of_cell? w _ hx441_1)).trans hx441_1
          replace p441 := eq_true p441
          replace q441 := eq_true q441
          go_wp2_with (first | ((with_reducible refine gate_dst (N := 8) rfl ?_); refine box_event ?hg (N := 8) ?hd (cs := #[.int .i64 0, .int .i64 0]) (t := 58) ?hr ?_; (case hd => rfl); (case hg => rfl); (case hr => first | (go_simp; done) | (go_simp; rfl)); intro gb442 hg w23 hbox hb; have n0_ := Aside0.mk (Kd.R_below (Kd.R_elderB (S.r HO_5.out) gb442 (Nat.le_of_eq hg.symm)) hb); have n1_ := Aside0.mk (blk_below (g := gb437) (o := .cells #[.int .i64 x438000_1, .int .i64 x438001_1] 58 (0, 0)) (S.b BK437.out) hb); have n2_ := Aside0.mk (below_step (by repeat (first | (with_reducible first | exact HB.out | apply below_alloc | apply pw_below_drewN | apply below_drew1 | refine below_set ?_ GE437.out) | exact HB.out)) hb); have n3_ := Aside0.mk (hbox); have n4_ := Aside0.mk ((by rw [hg]; exact (below_size (by repeat (first | (with_reducible first | exact HB.out | apply below_alloc | apply pw_below_drewN | apply below_drew1 | refine below_set ?_ GE437.out) | exact HB.out))) : w.heap.size ≤ gb442)); have n5_ := Aside0.mk ((by rw [hg]; exact (below_size (by repeat (first | (with_reducible first | exact HB.out | apply below_alloc | apply pw_below_drewN | apply below_drew1 | refine below_set ?_ GE437.out) | exact HB.out))) : w.heap.size ≤ gb442)); have n6_ := Aside0.mk ((by rw [hg]; exact Nat.ne_of_lt (blk_lt (g := gb437) (o := .cells #[.int .i64 x438000_1, .int .i64 x438001_1] 58 (0, 0)) (S.b BK437.out)) : gb437 ≠ gb442)); have n7_ := Aside0.mk ((by rw [hg]; exact Nat.ne_of_gt (blk_lt (g := gb437) (o := .cells #[.int .i64 x438000_1, .int .i64 x438001_1] 58 (0, 0)) (S.b BK437.out)) : gb442 ≠ gb437)); clear HO_5; clear BK437; clear HB; have HO_5 := n0_; have BK437 := n1_; have HB := n2_; have BK442 := n3_; have GW442 := n4_; have GE442 := n5_; have NB437_442 := n6_; have NB442_437 := n7_; clear n0_ n1_ n2_ n3_ n4_ n5_ n6_ n7_; clear hb hbox hg; have hnb24 := NB442_437.out; have hnc24 := NB437_442.out; have hcz25_0 : w23.cell? ⟨gb442, 0, none⟩ = some (.int .i64 0) := (blk_cell BK442.out 0).trans rfl; have hcz25_1 : w23.cell? ⟨gb442, 1, none⟩ = some (.int .i64 0) := (blk_cell BK442.out 1).trans rfl; have hfz25_0 := blk_frozen BK442.out 0; have hfz25_1 := blk_frozen BK442.out 1; have hcz26_0 : w23.cell? ⟨gb437, 0, none⟩ = some (.int .i64 x438000_1) := (blk_cell BK437.out 0).trans rfl; have hcz26_1 : w23.cell? ⟨gb437, 1, none⟩ = some (.int .i64 x438001_1) := (blk_cell BK437.out 1).trans rfl; have hfz26_0 := blk_frozen BK437.out 0; have hfz26_1 := blk_frozen BK437.out 1) | ((with_reducible refine gate_builtin (b := .append) (xs := #[.tmp 55, .tmp 57]) rfl ?_); at_builtin; refine Kd.R_append k58 (w0 := w) w.heap.size rfl (.tmp 55) (.tmp 57) 36 58 (.agg #[(.int .i64 0), (.int .i64 0)]) 16 rfl Try.underlying36 info58 rfl (by decide) (by omega) u5 x5_1 (⟨x438000_1, x438001_1⟩ : S58) [.int .i64 x438000_1, .int .i64 x438001_1] (fun k_ => k_ ≠ gb437 ∧ k_ ≠ gb442) (fun _ => False) rfl (by first | (go_simp; done) | (go_simp; rfl)) ?aP (fun _ hk => hk.elim) ?aF ?aO ?aB ?aS ?aL ?_; (case aP => exact k58_mkM _ _ _ (⟨x438000_1, x438001_1⟩ : S58)); (case aB => exact (by repeat (first | (with_reducible first | exact HB.out | apply below_alloc | apply pw_below_drewN | apply below_drew1 | refine below_set ?_ GE437.out | refine below_set ?_ GE442.out) | exact HB.out))); (case aF => exact (fun k_ hk => ⟨Kd.freshB (g := gb437) (o := .cells #[.int .i64 x438000_1, .int .i64 x438001_1] 58 (0, 0)) (by (with_reducible repeat (first | refine blk_drewN ?_ _ | refine blk_drew ?_ | refine blk_alloc ?_ _)); refine blk_far ?_ NB437_442.out _; (with_reducible repeat (first | refine blk_drewN ?_ _ | refine blk_drew ?_ | refine blk_alloc ?_ _)); refine blk_far ?_ NB437_442.out _; (with_reducible repeat (first | refine blk_drewN ?_ _ | refine blk_drew ?_ | refine blk_alloc ?_ _)); exact BK437.out) k_ hk, Kd.freshB (g := gb442) (o := .cells #[.int .i64 ((rd_T58 l0 x7_1).f0), .int .i64 ((rd_T58 l0 x7_1).f1)] 58 (0, 0)) (by (with_reducible repeat (first | refine blk_drewN ?_ _ | refine blk_drew ?_ | refine blk_alloc ?_ _)); refine blk_put (cs := #[.int .i64 ((rd_T58 l0 x7_1).f0), .int .i64 0]) ?_ 1 _ rfl; (with_reducible repeat (first | refine blk_drewN ?_ _ | refine blk_drew ?_ | refine blk_alloc ?_ _)); refine blk_put (cs := #[.int .i64 0, .int .i64 0]) ?_ 0 _ rfl; (with_reducible repeat (first | refine blk_drewN ?_ _ | refine blk_drew ?_ | refine blk_alloc ?_ _)); exact BK442.out) k_ hk⟩)); (case aO => exact (by (with_reducible repeat (first | apply Kd.R_alloc | apply Kd.R_drewN | apply Kd.R_drew)); exact Kd.R_mono (Kd.R_far (p := ⟨gb442, 1, none⟩) (Kd.R_far (p := ⟨gb442, 0, none⟩) (Kd.R_mono HO_5.out (fun k_ hk => (⟨hk, hk.2⟩ : _ ∧ k_ ≠ gb442))) (fun _ hk => hk.2) (.int .i64 ((rd_T58 l0 x7_1).f0))) (fun _ hk => hk.2) (.int .i64 ((rd_T58 l0 x7_1).f1))) (fun _ hk => ⟨hk.1.1, hk.1.2⟩))); (case aS => exact (below_size (by repeat (first | (with_reducible first | exact HB.out | apply below_alloc | apply pw_below_drewN | apply below_drew1 | refine below_set ?_ GE437.out | refine below_set ?_ GE442.out) | exact HB.out)))); (case aL => have := LMc21.out; omega); intro v450 w27 ho hb hg hat; rw [← Ny449.out] at ho; have n0_ := Aside0.mk (blk_grown (g := gb437) (o := .cells #[.int .i64 x438000_1, .int .i64 x438001_1] 58 (0, 0)) (by (with_reducible repeat (first | refine blk_drewN ?_ _ | refine blk_drew ?_ | refine blk_alloc ?_ _)); refine blk_far ?_ NB437_442.out _; (with_reducible repeat (first | refine blk_drewN ?_ _ | refine blk_drew ?_ | refine blk_alloc ?_ _)); refine blk_far ?_ NB437_442.out _; (with_reducible repeat (first | refine blk_drewN ?_ _ | refine blk_drew ?_ | refine blk_alloc ?_ _)); exact BK437.out) hg (Kd.R_away HO_5.out (fun _ hk => hk.1))); have n1_ := Aside0.mk (blk_grown (g := gb442) (o := .cells #[.int .i64 ((rd_T58 l0 x7_1).f0), .int .i64 ((rd_T58 l0 x7_1).f1)] 58 (0, 0)) (by (with_reducible repeat (first | refine blk_drewN ?_ _ | refine blk_drew ?_ | refine blk_alloc ?_ _)); refine blk_put (cs := #[.int .i64 ((rd_T58 l0 x7_1).f0), .int .i64 0]) ?_ 1 _ rfl; (with_reducible repeat (first | refine blk_drewN ?_ _ | refine blk_drew ?_ | refine blk_alloc ?_ _)); refine blk_put (cs := #[.int .i64 0, .int .i64 0]) ?_ 0 _ rfl; (with_reducible repeat (first | refine blk_drewN ?_ _ | refine blk_drew ?_ | refine blk_alloc ?_ _)); exact BK442.out) hg (Kd.R_away HO_5.out (fun _ hk => hk.2))); have n2_ := Aside0.mk (hb); have n3_ := Aside0.mk (ho); clear BK437; clear BK442; clear HB; clear HO_5; have BK437 := n0_; have BK442 := n1_; have HB := n2_; have HO451 := n3_; clear n0_ n1_ n2_ n3_; clear ho hb hg hat; have hcz28_0 : w27.cell? ⟨gb442, 0, none⟩ = some (.int .i64 ((rd_T58 l0 x7_1).f0)) := (blk_cell BK442.out 0).trans rfl; have hcz28_1 : w27.cell? ⟨gb442, 1, none⟩ = some (.int .i64 ((rd_T58 l0 x7_1).f1)) := (blk_cell BK442.out 1).trans rfl; have hfz28_0 := blk_frozen BK442.out 0; have hfz28_1 := blk_frozen BK442.out 1) | ((with_reducible refine gate_builtin (b := .append) (xs := #[.tmp 59, .tmp 61]) rfl ?_); at_builtin; refine Kd.R_append k58 (w0 := w) w.heap.size rfl (.tmp 59) (.tmp 61) 36 58 (.agg #[(.int .i64 0), (.int .i64 0)]) 16 rfl Try.underlying36 info58 rfl (by decide) (by omega) v450 y449 (⟨(rd_T58 l0 x7_1).f0, (rd_T58 l0 x7_1).f1⟩ : S58) [.int .i64 ((rd_T58 l0 x7_1).f0), .int .i64 ((rd_T58 l0 x7_1).f1)] (fun k_ => k_ ≠ gb437 ∧ k_ ≠ gb442) (fun _ => False) rfl rfl ?aP (fun _ hk => hk.elim) ?aF ?aO ?aB ?aS ?aL ?_; (case aP => exact k58_mkM _ _ _ (⟨(rd_T58 l0 x7_1).f0, (rd_T58 l0 x7_1).f1⟩ : S58)); (case aB => exact (by repeat (first | (with_reducible first | exact HB.out | apply below_alloc | apply pw_below_drewN | apply below_drew1 | refine below_set ?_ GE437.out | refine below_set ?_ GE442.out) | exact HB.out))); (case aF => exact (fun k_ hk => ⟨Kd.freshB (g := gb437) (o := .cells #[.int .i64 x438000_1, .int .i64 x438001_1] 58 (0, 0)) (S.b BK437.out) k_ hk, Kd.freshB (g := gb442) (o := .cells #[.int .i64 ((rd_T58 l0 x7_1).f0), .int .i64 ((rd_T58 l0 x7_1).f1)] 58 (0, 0)) (S.b BK442.out) k_ hk⟩)); (case aO => exact (S.r HO451.out)); (case aS => exact (below_size (by repeat (first | (with_reducible first | exact HB.out | apply below_alloc | apply pw_below_drewN | apply below_drew1 | refine below_set ?_ GE437.out | refine below_set ?_ GE442.out) | exact HB.out)))); (case aL => have := LMc22.out; omega); intro v453 w29 ho hb hg hat; rw [← Ny452.out] at ho; have n0_ := Aside0.mk (blk_grown (g := gb437) (o := .cells #[.int .i64 x438000_1, .int .i64 x438001_1] 58 (0, 0)) (S.b BK437.out) hg (Kd.R_away HO451.out (fun _ hk => hk.1))); have n1_ := Aside0.mk (blk_grown (g := gb442) (o := .cells #[.int .i64 ((rd_T58 l0 x7_1).f0), .int .i64 ((rd_T58 l0 x7_1).f1)] 58 (0, 0)) (S.b BK442.out) hg (Kd.R_away HO451.out (fun _ hk => hk.2))); have n2_ := Aside0.mk (hb); have n3_ := Aside0.mk (ho); clear BK437; clear BK442; clear HB; clear HO451; have BK437 := n0_; have BK442 := n1_; have HB := n2_; have HO454 := n3_; clear n0_ n1_ n2_ n3_; clear ho hb hg hat))
          go_roundg k1
          case measure => have := HK1.out; omega
          case rel => exact ⟨(y452), (true), (wrap64 (x7_1 + 1)), (x438000_1), (x438001_1), (by first | rfl | (simp; done) | (simp [*]; done)), (by first | rfl | (simp; done) | (simp [*]; done)), H', ⟨by have := HK1.out; omega⟩, ⟨by (with_reducible repeat (first | apply Kd.R_alloc | apply Kd.R_drewN | apply Kd.R_drew)); exact Kd.R_mono HO454.out (fun _ hk => hk.1)⟩, ⟨S.b BK437.out⟩, ⟨by repeat (first | (with_reducible first | exact HB.out | apply below_alloc | apply pw_below_drewN | apply below_drew1 | refine below_set ?_ GE437.out | refine below_set ?_ GE442.out) | exact HB.out)⟩⟩
         ·rw [if_neg c22] at H
          exact absurd H (by simp)
        ·rw [if_neg c21] at H
         exact absurd H (by simp)
      ·rw [if_neg c13] at H
       have c13b0 : decide ((wrap64 (x438001_1 + 1)) < ((rd_T58 l0 x7_1).f0)) = false := decide_eq_false c13
       clear c13
       by_cases c30 : ((rd_T58 l0 x7_1).f0) < x438000_1
       ·rw [if_pos c30] at H
        have c30b0 : decide (((rd_T58 l0 x7_1).f0) < x438000_1) = true := decide_eq_true c30
        clear c30
        by_cases c31 : ((rd_T58 l0 x7_1).f1) > x438001_1
        ·rw [if_pos c31] at H
         have c31b0 : decide (x438001_1 < ((rd_T58 l0 x7_1).f1)) = true := decide_eq_true c31
         clear c31
         have H' := Aside0.mk H
         clear H
         have p441 : 0 ≤ (x7_1 : Int) := of_decide_eq_true (by first | (with_reducible assumption) | assumption)
         have q441 : x7_1 < (l0.length : Int) := of_decide_eq_true (by first | (with_reducible assumption) | assumption)
         obtain ⟨ad441, e441, hx441_0, hx441_1⟩ := at_T58 HR0.out x7_1 p441 q441
         cases e441
         replace hx441_0 := (HB.out.cell (World.block_lt_of_cell? w _ hx441_0)).trans hx441_0
         replace hx441_1 := (HB.out.cell (World.block_lt_of_cell? w _ hx441_1)).trans hx441_1
         replace p441 := eq_true p441
         replace q441 := eq_true q441
         go_wp2_with (first | ((with_reducible refine gate_dst (N := 8) rfl ?_); refine box_event ?hg (N := 8) ?hd (cs := #[.int .i64 0, .int .i64 0]) (t := 58) ?hr ?_; (case hd => rfl); (case hg => rfl); (case hr => first | (go_simp; done) | (go_simp; rfl)); intro gb442 hg w32 hbox hb; have n0_ := Aside0.mk (Kd.R_below (Kd.R_elderB (S.r HO_5.out) gb442 (Nat.le_of_eq hg.symm)) hb); have n1_ := Aside0.mk (blk_below (g := gb437) (o := .cells #[.int .i64 x438000_1, .int .i64 x438001_1] 58 (0, 0)) (S.b BK437.out) hb); have n2_ := Aside0.mk (below_step (by repeat (first | (with_reducible first | exact HB.out | apply below_alloc | apply pw_below_drewN | apply below_drew1 | refine below_set ?_ GE437.out) | exact HB.out)) hb); have n3_ := Aside0.mk (hbox); have n4_ := Aside0.mk ((by rw [hg]; exact (below_size (by repeat (first | (with_reducible first | exact HB.out | apply below_alloc | apply pw_below_drewN | apply below_drew1 | refine below_set ?_ GE437.out) | exact HB.out))) : w.heap.size ≤ gb442)); have n5_ := Aside0.mk ((by rw [hg]; exact (below_size (by repeat (first | (with_reducible first | exact HB.out | apply below_alloc | apply pw_below_drewN | apply below_drew1 | refine below_set ?_ GE437.out) | exact HB.out))) : w.heap.size ≤ gb442)); have n6_ := Aside0.mk ((by rw [hg]; exact Nat.ne_of_lt (blk_lt (g := gb437) (o := .cells #[.int .i64 x438000_1, .int .i64 x438001_1] 58 (0, 0)) (S.b BK437.out)) : gb437 ≠ gb442)); have n7_ := Aside0.mk ((by rw [hg]; exact Nat.ne_of_gt (blk_lt (g := gb437) (o := .cells #[.int .i64 x438000_1, .int .i64 x438001_1] 58 (0, 0)) (S.b BK437.out)) : gb442 ≠ gb437)); clear HO_5; clear BK437; clear HB; have HO_5 := n0_; have BK437 := n1_; have HB := n2_; have BK442 := n3_; have GW442 := n4_; have GE442 := n5_; have NB437_442 := n6_; have NB442_437 := n7_; clear n0_ n1_ n2_ n3_ n4_ n5_ n6_ n7_; clear hb hbox hg; have hnb33 := NB442_437.out; have hnc33 := NB437_442.out; have hcz34_0 : w32.cell? ⟨gb442, 0, none⟩ = some (.int .i64 0) := (blk_cell BK442.out 0).trans rfl; have hcz34_1 : w32.cell? ⟨gb442, 1, none⟩ = some (.int .i64 0) := (blk_cell BK442.out 1).trans rfl; have hfz34_0 := blk_frozen BK442.out 0; have hfz34_1 := blk_frozen BK442.out 1; have hcz35_0 : w32.cell? ⟨gb437, 0, none⟩ = some (.int .i64 x438000_1) := (blk_cell BK437.out 0).trans rfl; have hcz35_1 : w32.cell? ⟨gb437, 1, none⟩ = some (.int .i64 x438001_1) := (blk_cell BK437.out 1).trans rfl; have hfz35_0 := blk_frozen BK437.out 0; have hfz35_1 := blk_frozen BK437.out 1))
         go_roundg k1
         case measure => have := HK1.out; omega
         case rel => exact ⟨(x5_1), (x6_1), (wrap64 (x7_1 + 1)), ((rd_T58 l0 x7_1).f0), ((rd_T58 l0 x7_1).f1), (by first | rfl | (simp; done) | (simp [*]; done)), (by first | rfl | (simp; done) | (simp [*]; done)), H', ⟨by have := HK1.out; omega⟩, ⟨by (with_reducible repeat (first | apply Kd.R_alloc | apply Kd.R_drewN | apply Kd.R_drew)); exact Kd.R_mono (Kd.R_far (p := ⟨gb437, 1, none⟩) (Kd.R_far (p := ⟨gb437, 0, none⟩) (Kd.R_far (p := ⟨gb442, 1, none⟩) (Kd.R_far (p := ⟨gb442, 0, none⟩) (Kd.R_mono (Kd.R_mono HO_5.out (fun k_ hk => (⟨hk, hk.2⟩ : _ ∧ k_ ≠ gb442))) (fun k_ hk => (⟨hk, hk.1.1⟩ : _ ∧ k_ ≠ gb437))) (fun _ hk => hk.1.2) (.int .i64 ((rd_T58 l0 x7_1).f0))) (fun _ hk => hk.1.2) (.int .i64 ((rd_T58 l0 x7_1).f1))) (fun _ hk => hk.2) (.int .i64 ((rd_T58 l0 x7_1).f0))) (fun _ hk => hk.2) (.int .i64 ((rd_T58 l0 x7_1).f1))) (fun _ hk => hk.1.1.1)⟩, ⟨by (with_reducible repeat (first | refine blk_drewN ?_ _ | refine blk_drew ?_ | refine blk_alloc ?_ _)); refine blk_put (cs := #[.int .i64 ((rd_T58 l0 x7_1).f0), .int .i64 x438001_1]) ?_ 1 _ rfl; (with_reducible repeat (first | refine blk_drewN ?_ _ | refine blk_drew ?_ | refine blk_alloc ?_ _)); refine blk_put (cs := #[.int .i64 x438000_1, .int .i64 x438001_1]) ?_ 0 _ rfl; (with_reducible repeat (first | refine blk_drewN ?_ _ | refine blk_drew ?_ | refine blk_alloc ?_ _)); refine blk_far ?_ NB437_442.out _; (with_reducible repeat (first | refine blk_drewN ?_ _ | refine blk_drew ?_ | refine blk_alloc ?_ _)); refine blk_far ?_ NB437_442.out _; (with_reducible repeat (first | refine blk_drewN ?_ _ | refine blk_drew ?_ | refine blk_alloc ?_ _)); exact BK437.out⟩, ⟨by repeat (first | (with_reducible first | exact HB.out | apply below_alloc | apply pw_below_drewN | apply below_drew1 | refine below_set ?_ GE437.out | refine below_set ?_ GE442.out) | exact HB.out)⟩⟩
        ·rw [if_neg c31] at H
         have c31b0 : decide (x438001_1 < ((rd_T58 l0 x7_1).f1)) = false := decide_eq_false c31
         clear c31
         have H' := Aside0.mk H
         clear H
         have p441 : 0 ≤ (x7_1 : Int) := of_decide_eq_true (by first | (with_reducible assumption) | assumption)
         have q441 : x7_1 < (l0.length : Int) := of_decide_eq_true (by first | (with_reducible assumption) | assumption)
         obtain ⟨ad441, e441, hx441_0, hx441_1⟩ := at_T58 HR0.out x7_1 p441 q441
         cases e441
         replace hx441_0 := (HB.out.cell (World.block_lt_of_cell? w _ hx441_0)).trans hx441_0
         replace hx441_1 := (HB.out.cell (World.block_lt_of_cell? w _ hx441_1)).trans hx441_1
         replace p441 := eq_true p441
         replace q441 := eq_true q441
         go_wp2_with (first | ((with_reducible refine gate_dst (N := 8) rfl ?_); refine box_event ?hg (N := 8) ?hd (cs := #[.int .i64 0, .int .i64 0]) (t := 58) ?hr ?_; (case hd => rfl); (case hg => rfl); (case hr => first | (go_simp; done) | (go_simp; rfl)); intro gb442 hg w36 hbox hb; have n0_ := Aside0.mk (Kd.R_below (Kd.R_elderB (S.r HO_5.out) gb442 (Nat.le_of_eq hg.symm)) hb); have n1_ := Aside0.mk (blk_below (g := gb437) (o := .cells #[.int .i64 x438000_1, .int .i64 x438001_1] 58 (0, 0)) (S.b BK437.out) hb); have n2_ := Aside0.mk (below_step (by repeat (first | (with_reducible first | exact HB.out | apply below_alloc | apply pw_below_drewN | apply below_drew1 | refine below_set ?_ GE437.out) | exact HB.out)) hb); have n3_ := Aside0.mk (hbox); have n4_ := Aside0.mk ((by rw [hg]; exact (below_size (by repeat (first | (with_reducible first | exact HB.out | apply below_alloc | apply pw_below_drewN | apply below_drew1 | refine below_set ?_ GE437.out) | exact HB.out))) : w.heap.size ≤ gb442)); have n5_ := Aside0.mk ((by rw [hg]; exact (below_size (by repeat (first | (with_reducible first | exact HB.out | apply below_alloc | apply pw_below_drewN | apply below_drew1 | refine below_set ?_ GE437.out) | exact HB.out))) : w.heap.size ≤ gb442)); have n6_ := Aside0.mk ((by rw [hg]; exact Nat.ne_of_lt (blk_lt (g := gb437) (o := .cells #[.int .i64 x438000_1, .int .i64 x438001_1] 58 (0, 0)) (S.b BK437.out)) : gb437 ≠ gb442)); have n7_ := Aside0.mk ((by rw [hg]; exact Nat.ne_of_gt (blk_lt (g := gb437) (o := .cells #[.int .i64 x438000_1, .int .i64 x438001_1] 58 (0, 0)) (S.b BK437.out)) : gb442 ≠ gb437)); clear HO_5; clear BK437; clear HB; have HO_5 := n0_; have BK437 := n1_; have HB := n2_; have BK442 := n3_; have GW442 := n4_; have GE442 := n5_; have NB437_442 := n6_; have NB442_437 := n7_; clear n0_ n1_ n2_ n3_ n4_ n5_ n6_ n7_; clear hb hbox hg; have hnb37 := NB442_437.out; have hnc37 := NB437_442.out; have hcz38_0 : w36.cell? ⟨gb442, 0, none⟩ = some (.int .i64 0) := (blk_cell BK442.out 0).trans rfl; have hcz38_1 : w36.cell? ⟨gb442, 1, none⟩ = some (.int .i64 0) := (blk_cell BK442.out 1).trans rfl; have hfz38_0 := blk_frozen BK442.out 0; have hfz38_1 := blk_frozen BK442.out 1; have hcz39_0 : w36.cell? ⟨gb437, 0, none⟩ = some (.int .i64 x438000_1) := (blk_cell BK437.out 0).trans rfl; have hcz39_1 : w36.cell? ⟨gb437, 1, none⟩ = some (.int .i64 x438001_1) := (blk_cell BK437.out 1).trans rfl; have hfz39_0 := blk_frozen BK437.out 0; have hfz39_1 := blk_frozen BK437.out 1))
         go_roundg k1
         case measure => have := HK1.out; omega
         case rel => exact ⟨(x5_1), (x6_1), (wrap64 (x7_1 + 1)), ((rd_T58 l0 x7_1).f0), (x438001_1), (by first | rfl | (simp; done) | (simp [*]; done)), (by first | rfl | (simp; done) | (simp [*]; done)), H', ⟨by have := HK1.out; omega⟩, ⟨by (with_reducible repeat (first | apply Kd.R_alloc | apply Kd.R_drewN | apply Kd.R_drew)); exact Kd.R_mono (Kd.R_far (p := ⟨gb437, 0, none⟩) (Kd.R_far (p := ⟨gb442, 1, none⟩) (Kd.R_far (p := ⟨gb442, 0, none⟩) (Kd.R_mono (Kd.R_mono HO_5.out (fun k_ hk => (⟨hk, hk.2⟩ : _ ∧ k_ ≠ gb442))) (fun k_ hk => (⟨hk, hk.1.1⟩ : _ ∧ k_ ≠ gb437))) (fun _ hk => hk.1.2) (.int .i64 ((rd_T58 l0 x7_1).f0))) (fun _ hk => hk.1.2) (.int .i64 ((rd_T58 l0 x7_1).f1))) (fun _ hk => hk.2) (.int .i64 ((rd_T58 l0 x7_1).f0))) (fun _ hk => hk.1.1.1)⟩, ⟨by (with_reducible repeat (first | refine blk_drewN ?_ _ | refine blk_drew ?_ | refine blk_alloc ?_ _)); refine blk_put (cs := #[.int .i64 x438000_1, .int .i64 x438001_1]) ?_ 0 _ rfl; (with_reducible repeat (first | refine blk_drewN ?_ _ | refine blk_drew ?_ | refine blk_alloc ?_ _)); refine blk_far ?_ NB437_442.out _; (with_reducible repeat (first | refine blk_drewN ?_ _ | refine blk_drew ?_ | refine blk_alloc ?_ _)); refine blk_far ?_ NB437_442.out _; (with_reducible repeat (first | refine blk_drewN ?_ _ | refine blk_drew ?_ | refine blk_alloc ?_ _)); exact BK437.out⟩, ⟨by repeat (first | (with_reducible first | exact HB.out | apply below_alloc | apply pw_below_drewN | apply below_drew1 | refine below_set ?_ GE437.out | refine below_set ?_ GE442.out) | exact HB.out)⟩⟩
       ·rw [if_neg c30] at H
        have c30b0 : decide (((rd_T58 l0 x7_1).f0) < x438000_1) = false := decide_eq_false c30
        clear c30
        by_cases c40 : ((rd_T58 l0 x7_1).f1) > x438001_1
        ·rw [if_pos c40] at H
         have c40b0 : decide (x438001_1 < ((rd_T58 l0 x7_1).f1)) = true := decide_eq_true c40
         clear c40
         have H' := Aside0.mk H
         clear H
         have p441 : 0 ≤ (x7_1 : Int) := of_decide_eq_true (by first | (with_reducible assumption) | assumption)
         have q441 : x7_1 < (l0.length : Int) := of_decide_eq_true (by first | (with_reducible assumption) | assumption)
         obtain ⟨ad441, e441, hx441_0, hx441_1⟩ := at_T58 HR0.out x7_1 p441 q441
         cases e441
         replace hx441_0 := (HB.out.cell (World.block_lt_of_cell? w _ hx441_0)).trans hx441_0
         replace hx441_1 := (HB.out.cell (World.block_lt_of_cell? w _ hx441_1)).trans hx441_1
         replace p441 := eq_true p441
         replace q441 := eq_true q441
         go_wp2_with (first | ((with_reducible refine gate_dst (N := 8) rfl ?_); refine box_event ?hg (N := 8) ?hd (cs := #[.int .i64 0, .int .i64 0]) (t := 58) ?hr ?_; (case hd => rfl); (case hg => rfl); (case hr => first | (go_simp; done) | (go_simp; rfl)); intro gb442 hg w41 hbox hb; have n0_ := Aside0.mk (Kd.R_below (Kd.R_elderB (S.r HO_5.out) gb442 (Nat.le_of_eq hg.symm)) hb); have n1_ := Aside0.mk (blk_below (g := gb437) (o := .cells #[.int .i64 x438000_1, .int .i64 x438001_1] 58 (0, 0)) (S.b BK437.out) hb); have n2_ := Aside0.mk (below_step (by repeat (first | (with_reducible first | exact HB.out | apply below_alloc | apply pw_below_drewN | apply below_drew1 | refine below_set ?_ GE437.out) | exact HB.out)) hb); have n3_ := Aside0.mk (hbox); have n4_ := Aside0.mk ((by rw [hg]; exact (below_size (by repeat (first | (with_reducible first | exact HB.out | apply below_alloc | apply pw_below_drewN | apply below_drew1 | refine below_set ?_ GE437.out) | exact HB.out))) : w.heap.size ≤ gb442)); have n5_ := Aside0.mk ((by rw [hg]; exact (below_size (by repeat (first | (with_reducible first | exact HB.out | apply below_alloc | apply pw_below_drewN | apply below_drew1 | refine below_set ?_ GE437.out) | exact HB.out))) : w.heap.size ≤ gb442)); have n6_ := Aside0.mk ((by rw [hg]; exact Nat.ne_of_lt (blk_lt (g := gb437) (o := .cells #[.int .i64 x438000_1, .int .i64 x438001_1] 58 (0, 0)) (S.b BK437.out)) : gb437 ≠ gb442)); have n7_ := Aside0.mk ((by rw [hg]; exact Nat.ne_of_gt (blk_lt (g := gb437) (o := .cells #[.int .i64 x438000_1, .int .i64 x438001_1] 58 (0, 0)) (S.b BK437.out)) : gb442 ≠ gb437)); clear HO_5; clear BK437; clear HB; have HO_5 := n0_; have BK437 := n1_; have HB := n2_; have BK442 := n3_; have GW442 := n4_; have GE442 := n5_; have NB437_442 := n6_; have NB442_437 := n7_; clear n0_ n1_ n2_ n3_ n4_ n5_ n6_ n7_; clear hb hbox hg; have hnb42 := NB442_437.out; have hnc42 := NB437_442.out; have hcz43_0 : w41.cell? ⟨gb442, 0, none⟩ = some (.int .i64 0) := (blk_cell BK442.out 0).trans rfl; have hcz43_1 : w41.cell? ⟨gb442, 1, none⟩ = some (.int .i64 0) := (blk_cell BK442.out 1).trans rfl; have hfz43_0 := blk_frozen BK442.out 0; have hfz43_1 := blk_frozen BK442.out 1; have hcz44_0 : w41.cell? ⟨gb437, 0, none⟩ = some (.int .i64 x438000_1) := (blk_cell BK437.out 0).trans rfl; have hcz44_1 : w41.cell? ⟨gb437, 1, none⟩ = some (.int .i64 x438001_1) := (blk_cell BK437.out 1).trans rfl; have hfz44_0 := blk_frozen BK437.out 0; have hfz44_1 := blk_frozen BK437.out 1))
         go_roundg k1
         case measure => have := HK1.out; omega
         case rel => exact ⟨(x5_1), (x6_1), (wrap64 (x7_1 + 1)), (x438000_1), ((rd_T58 l0 x7_1).f1), (by first | rfl | (simp; done) | (simp [*]; done)), (by first | rfl | (simp; done) | (simp [*]; done)), H', ⟨by have := HK1.out; omega⟩, ⟨by (with_reducible repeat (first | apply Kd.R_alloc | apply Kd.R_drewN | apply Kd.R_drew)); exact Kd.R_mono (Kd.R_far (p := ⟨gb437, 1, none⟩) (Kd.R_far (p := ⟨gb442, 1, none⟩) (Kd.R_far (p := ⟨gb442, 0, none⟩) (Kd.R_mono (Kd.R_mono HO_5.out (fun k_ hk => (⟨hk, hk.2⟩ : _ ∧ k_ ≠ gb442))) (fun k_ hk => (⟨hk, hk.1.1⟩ : _ ∧ k_ ≠ gb437))) (fun _ hk => hk.1.2) (.int .i64 ((rd_T58 l0 x7_1).f0))) (fun _ hk => hk.1.2) (.int .i64 ((rd_T58 l0 x7_1).f1))) (fun _ hk => hk.2) (.int .i64 ((rd_T58 l0 x7_1).f1))) (fun _ hk => hk.1.1.1)⟩, ⟨by (with_reducible repeat (first | refine blk_drewN ?_ _ | refine blk_drew ?_ | refine blk_alloc ?_ _)); refine blk_put (cs := #[.int .i64 x438000_1, .int .i64 x438001_1]) ?_ 1 _ rfl; (with_reducible repeat (first | refine blk_drewN ?_ _ | refine blk_drew ?_ | refine blk_alloc ?_ _)); refine blk_far ?_ NB437_442.out _; (with_reducible repeat (first | refine blk_drewN ?_ _ | refine blk_drew ?_ | refine blk_alloc ?_ _)); refine blk_far ?_ NB437_442.out _; (with_reducible repeat (first | refine blk_drewN ?_ _ | refine blk_drew ?_ | refine blk_alloc ?_ _)); exact BK437.out⟩, ⟨by repeat (first | (with_reducible first | exact HB.out | apply below_alloc | apply pw_below_drewN | apply below_drew1 | refine below_set ?_ GE437.out | refine below_set ?_ GE442.out) | exact HB.out)⟩⟩
        ·rw [if_neg c40] at H
         have c40b0 : decide (x438001_1 < ((rd_T58 l0 x7_1).f1)) = false := decide_eq_false c40
         clear c40
         have H' := Aside0.mk H
         clear H
         have p441 : 0 ≤ (x7_1 : Int) := of_decide_eq_true (by first | (with_reducible assumption) | assumption)
         have q441 : x7_1 < (l0.length : Int) := of_decide_eq_true (by first | (with_reducible assumption) | assumption)
         obtain ⟨ad441, e441, hx441_0, hx441_1⟩ := at_T58 HR0.out x7_1 p441 q441
         cases e441
         replace hx441_0 := (HB.out.cell (World.block_lt_of_cell? w _ hx441_0)).trans hx441_0
         replace hx441_1 := (HB.out.cell (World.block_lt_of_cell? w _ hx441_1)).trans hx441_1
         replace p441 := eq_true p441
         replace q441 := eq_true q441
         go_wp2_with (first | ((with_reducible refine gate_dst (N := 8) rfl ?_); refine box_event ?hg (N := 8) ?hd (cs := #[.int .i64 0, .int .i64 0]) (t := 58) ?hr ?_; (case hd => rfl); (case hg => rfl); (case hr => first | (go_simp; done) | (go_simp; rfl)); intro gb442 hg w45 hbox hb; have n0_ := Aside0.mk (Kd.R_below (Kd.R_elderB (S.r HO_5.out) gb442 (Nat.le_of_eq hg.symm)) hb); have n1_ := Aside0.mk (blk_below (g := gb437) (o := .cells #[.int .i64 x438000_1, .int .i64 x438001_1] 58 (0, 0)) (S.b BK437.out) hb); have n2_ := Aside0.mk (below_step (by repeat (first | (with_reducible first | exact HB.out | apply below_alloc | apply pw_below_drewN | apply below_drew1 | refine below_set ?_ GE437.out) | exact HB.out)) hb); have n3_ := Aside0.mk (hbox); have n4_ := Aside0.mk ((by rw [hg]; exact (below_size (by repeat (first | (with_reducible first | exact HB.out | apply below_alloc | apply pw_below_drewN | apply below_drew1 | refine below_set ?_ GE437.out) | exact HB.out))) : w.heap.size ≤ gb442)); have n5_ := Aside0.mk ((by rw [hg]; exact (below_size (by repeat (first | (with_reducible first | exact HB.out | apply below_alloc | apply pw_below_drewN | apply below_drew1 | refine below_set ?_ GE437.out) | exact HB.out))) : w.heap.size ≤ gb442)); have n6_ := Aside0.mk ((by rw [hg]; exact Nat.ne_of_lt (blk_lt (g := gb437) (o := .cells #[.int .i64 x438000_1, .int .i64 x438001_1] 58 (0, 0)) (S.b BK437.out)) : gb437 ≠ gb442)); have n7_ := Aside0.mk ((by rw [hg]; exact Nat.ne_of_gt (blk_lt (g := gb437) (o := .cells #[.int .i64 x438000_1, .int .i64 x438001_1] 58 (0, 0)) (S.b BK437.out)) : gb442 ≠ gb437)); clear HO_5; clear BK437; clear HB; have HO_5 := n0_; have BK437 := n1_; have HB := n2_; have BK442 := n3_; have GW442 := n4_; have GE442 := n5_; have NB437_442 := n6_; have NB442_437 := n7_; clear n0_ n1_ n2_ n3_ n4_ n5_ n6_ n7_; clear hb hbox hg; have hnb46 := NB442_437.out; have hnc46 := NB437_442.out; have hcz47_0 : w45.cell? ⟨gb442, 0, none⟩ = some (.int .i64 0) := (blk_cell BK442.out 0).trans rfl; have hcz47_1 : w45.cell? ⟨gb442, 1, none⟩ = some (.int .i64 0) := (blk_cell BK442.out 1).trans rfl; have hfz47_0 := blk_frozen BK442.out 0; have hfz47_1 := blk_frozen BK442.out 1; have hcz48_0 : w45.cell? ⟨gb437, 0, none⟩ = some (.int .i64 x438000_1) := (blk_cell BK437.out 0).trans rfl; have hcz48_1 : w45.cell? ⟨gb437, 1, none⟩ = some (.int .i64 x438001_1) := (blk_cell BK437.out 1).trans rfl; have hfz48_0 := blk_frozen BK437.out 0; have hfz48_1 := blk_frozen BK437.out 1))
         go_roundg k1
         case measure => have := HK1.out; omega
         case rel => exact ⟨(x5_1), (x6_1), (wrap64 (x7_1 + 1)), (x438000_1), (x438001_1), (by first | rfl | (simp; done) | (simp [*]; done)), (by first | rfl | (simp; done) | (simp [*]; done)), H', ⟨by have := HK1.out; omega⟩, ⟨by (with_reducible repeat (first | apply Kd.R_alloc | apply Kd.R_drewN | apply Kd.R_drew)); exact Kd.R_mono (Kd.R_far (p := ⟨gb442, 1, none⟩) (Kd.R_far (p := ⟨gb442, 0, none⟩) (Kd.R_mono HO_5.out (fun k_ hk => (⟨hk, hk.2⟩ : _ ∧ k_ ≠ gb442))) (fun _ hk => hk.2) (.int .i64 ((rd_T58 l0 x7_1).f0))) (fun _ hk => hk.2) (.int .i64 ((rd_T58 l0 x7_1).f1))) (fun _ hk => hk.1.1)⟩, ⟨by (with_reducible repeat (first | refine blk_drewN ?_ _ | refine blk_drew ?_ | refine blk_alloc ?_ _)); refine blk_far ?_ NB437_442.out _; (with_reducible repeat (first | refine blk_drewN ?_ _ | refine blk_drew ?_ | refine blk_alloc ?_ _)); refine blk_far ?_ NB437_442.out _; (with_reducible repeat (first | refine blk_drewN ?_ _ | refine blk_drew ?_ | refine blk_alloc ?_ _)); exact BK437.out⟩, ⟨by repeat (first | (with_reducible first | exact HB.out | apply below_alloc | apply pw_below_drewN | apply below_drew1 | refine below_set ?_ GE437.out | refine below_set ?_ GE442.out) | exact HB.out)⟩⟩
    ·rw [if_neg c5] at H
     exact absurd H (by simp)
   ·rw [if_neg c4] at H
    have c4b0 : decide (x7_1 < (l0.length : Int)) = false := decide_eq_false c4
    clear c4
    by_cases c49 : x6_1 = true
    ·subst c49
     have H1 : (some x5_1) = some r := by rw [if_pos rfl] at H; exact H
     clear H
     have H := H1
     clear H1
     obtain rfl := Option.some.inj H
     go_wp2
     go_ret
     exact ⟨_, by first | rfl | (simp [errW_none, errW_some] <;> rfl) | (simp [*, errW_none, errW_some] <;> rfl), by (with_reducible repeat (first | apply Kd.R_alloc | apply Kd.R_drewN | apply Kd.R_drew)); exact Kd.R_mono HO_5.out (fun _ hk => trivial), by repeat (first | (with_reducible first | exact HB.out | apply below_alloc | apply pw_below_drewN | apply below_drew1 | refine below_set ?_ GE437.out) | exact HB.out)⟩
    ·replace c49 := Bool.eq_false_iff.mpr c49
     subst c49
     have H1 : (if x5_1.length < 8796093022208 then (some (x5_1 ++ [(⟨x438000_1, x438001_1⟩ : S58)])) else (none)) = some r := by rw [if_neg (show ¬ (false = true) by decide)] at H; exact H
     clear H
     have H := H1
     clear H1
     by_cases c50 : x5_1.length < 8796093022208
     ·rw [if_pos c50] at H
      have LMc50 := Aside0.mk c50
      clear c50
      obtain ⟨y438, hy438⟩ : ∃ y_ : List (S58), y_ = (x5_1 ++ [(⟨x438000_1, x438001_1⟩ : S58)]) := ⟨_, rfl⟩
      replace H : (some y438) = some r := by first | (rw [hy438]; with_reducible exact H) | (have H2_ := (Option.bind_some _ _).symm.trans H; rw [hy438]; with_reducible exact H2_) | (have H2_ := (Option.bind_some _ _).symm.trans H; with_reducible exact H2_) | with_reducible exact H | (rw [hy438]; exact H) | exact H
      have Ny438 := Aside0.mk hy438
      clear hy438
      obtain rfl := Option.some.inj H
      have hcz51_0 : wr.cell? ⟨gb437, 0, none⟩ = some (.int .i64 x438000_1) := (blk_cell BK437.out 0).trans rfl
      have hcz51_1 : wr.cell? ⟨gb437, 1, none⟩ = some (.int .i64 x438001_1) := (blk_cell BK437.out 1).trans rfl
      have hfz51_0 := blk_frozen BK437.out 0
      have hfz51_1 := blk_frozen BK437.out 1
      go_wp2_with (first | ((with_reducible refine gate_builtin (b := .append) (xs := #[.tmp 65, .tmp 67]) rfl ?_); at_builtin; refine Kd.R_append k58 (w0 := w) w.heap.size rfl (.tmp 65) (.tmp 67) 36 58 (.agg #[(.int .i64 0), (.int .i64 0)]) 16 rfl Try.underlying36 info58 rfl (by decide) (by omega) u5 x5_1 (⟨x438000_1, x438001_1⟩ : S58) [.int .i64 x438000_1, .int .i64 x438001_1] (fun k_ => k_ ≠ gb437) (fun _ => False) rfl rfl ?aP (fun _ hk => hk.elim) ?aF ?aO ?aB ?aS ?aL ?_; (case aP => exact k58_mkM _ _ _ (⟨x438000_1, x438001_1⟩ : S58)); (case aB => exact (by repeat (first | (with_reducible first | exact HB.out | apply below_alloc | apply pw_below_drewN | apply below_drew1 | refine below_set ?_ GE437.out) | exact HB.out))); (case aF => exact (fun k_ hk => Kd.freshB (g := gb437) (o := .cells #[.int .i64 x438000_1, .int .i64 x438001_1] 58 (0, 0)) (S.b BK437.out) k_ hk)); (case aO => exact (S.r HO_5.out)); (case aS => exact (below_size (by repeat (first | (with_reducible first | exact HB.out | apply below_alloc | apply pw_below_drewN | apply below_drew1 | refine below_set ?_ GE437.out) | exact HB.out)))); (case aL => have := LMc50.out; omega); intro v439 w52 ho hb hg hat; rw [← Ny438.out] at ho; have n0_ := Aside0.mk (blk_grown (g := gb437) (o := .cells #[.int .i64 x438000_1, .int .i64 x438001_1] 58 (0, 0)) (S.b BK437.out) hg (Kd.R_away HO_5.out (fun _ hk => hk))); have n1_ := Aside0.mk (hb); have n2_ := Aside0.mk (ho); clear BK437; clear HB; clear HO_5; have BK437 := n0_; have HB := n1_; have HO440 := n2_; clear n0_ n1_ n2_; clear ho hb hg hat))
      go_ret
      exact ⟨_, by first | rfl | (simp [errW_none, errW_some] <;> rfl) | (simp [*, errW_none, errW_some] <;> rfl), by (with_reducible repeat (first | apply Kd.R_alloc | apply Kd.R_drewN | apply Kd.R_drew)); exact Kd.R_mono HO440.out (fun _ hk => trivial), by repeat (first | (with_reducible first | exact HB.out | apply below_alloc | apply pw_below_drewN | apply below_drew1 | refine below_set ?_ GE437.out) | exact HB.out)⟩
     ·rw [if_neg c50] at H
      exact absurd H (by simp)

/-! ### rubricref7_Of: function 38 -/
mutual
def rubricref7_Of.l0 : Nat → List (S58) → List (S58) → Int → Option ((List (S58)))
 | 0, _, _, _ => none
 | k + 1, x0, x3, x4 => if x4 < (x0.length : Int) then (if 0 ≤ x4 then (if ((rd_T58 x0 x4).f0) < 0 then (rubricref7_Of.j1 k x0 x3 x4 0 ((rd_T58 x0 x4).f1)) else (rubricref7_Of.j1 k x0 x3 x4 ((rd_T58 x0 x4).f0) ((rd_T58 x0 x4).f1))) else (none)) else (some x3)
def rubricref7_Of.j1 : Nat → List (S58) → List (S58) → Int → Int → Int → Option ((List (S58)))
 | 0, _, _, _, _, _ => none
 | k + 1, x0, x3, x4, x458000, x458001 => if x458001 > 1114111 then (if x458000 ≤ 1114111 then ((rubricref7_put.f k x3 x458000 1114111).bind fun t458 => (rubricref7_Of.l0 k x0 t458 (wrap64 (x4 + 1)))) else (rubricref7_Of.l0 k x0 x3 (wrap64 (x4 + 1)))) else (if x458000 ≤ x458001 then ((rubricref7_put.f k x3 x458000 x458001).bind fun t461 => (rubricref7_Of.l0 k x0 t461 (wrap64 (x4 + 1)))) else (rubricref7_Of.l0 k x0 x3 (wrap64 (x4 + 1))))
end
def rubricref7_Of.f (k : Nat) (l0 : List (S58)) : Option ((List (S58))) := rubricref7_Of.l0 k l0 ([] : List (S58)) 0
theorem rubricref7_Of.mono_l : ∀ k, (∀ y0 y1 y2, LeO (rubricref7_Of.l0 k y0 y1 y2) (rubricref7_Of.l0 (k + 1) y0 y1 y2)) ∧ (∀ y0 y1 y2 y3 y4, LeO (rubricref7_Of.j1 k y0 y1 y2 y3 y4) (rubricref7_Of.j1 (k + 1) y0 y1 y2 y3 y4))
 | 0 => ⟨fun _ _ _ r h => by simp [rubricref7_Of.l0] at h, fun _ _ _ _ _ r h => by simp [rubricref7_Of.j1] at h⟩
 | k + 1 => by
  obtain ⟨ih0, ih1⟩ := rubricref7_Of.mono_l k
  refine ⟨?_, ?_⟩
  ·intro y0 y1 y2
   unfold rubricref7_Of.l0
   repeat' first
   | (with_reducible exact ih0 _ _ _)
   | (with_reducible exact ih1 _ _ _ _ _)
   | (with_reducible exact rubricref7_put.mono _ _ _ _)
   | (with_reducible exact LeO.refl _)
   | (with_reducible exact LeO.none _)
   | (with_reducible refine LeO.ite ?_ ?_)
   | (with_reducible refine LeO.bind ?_ (fun _ => ?_))
   | exact ih0 _ _ _
   | exact ih1 _ _ _ _ _
   | exact rubricref7_put.mono _ _ _ _
   | exact LeO.none _
   | refine LeO.ite ?_ ?_
   | refine LeO.bind ?_ (fun _ => ?_)
  ·intro y0 y1 y2 y3 y4
   unfold rubricref7_Of.j1
   repeat' first
   | (with_reducible exact ih0 _ _ _)
   | (with_reducible exact ih1 _ _ _ _ _)
   | (with_reducible exact rubricref7_put.mono _ _ _ _)
   | (with_reducible exact LeO.refl _)
   | (with_reducible exact LeO.none _)
   | (with_reducible refine LeO.ite ?_ ?_)
   | (with_reducible refine LeO.bind ?_ (fun _ => ?_))
   | exact ih0 _ _ _
   | exact ih1 _ _ _ _ _
   | exact rubricref7_put.mono _ _ _ _
   | exact LeO.none _
   | refine LeO.ite ?_ ?_
   | refine LeO.bind ?_ (fun _ => ?_)
theorem rubricref7_Of.mono : ∀ a0 k, LeO (rubricref7_Of.f k a0) (rubricref7_Of.f (k + 1) a0) := by
 intro a0 k
 obtain ⟨ih0, ih1⟩ := rubricref7_Of.mono_l k
 unfold rubricref7_Of.f
 repeat' first
   | (with_reducible exact ih0 _ _ _)
   | (with_reducible exact ih1 _ _ _ _ _)
   | (with_reducible exact rubricref7_put.mono _ _ _ _)
   | (with_reducible exact LeO.refl _)
   | (with_reducible exact LeO.none _)
   | (with_reducible refine LeO.ite ?_ ?_)
   | (with_reducible refine LeO.bind ?_ (fun _ => ?_))
   | exact ih0 _ _ _
   | exact ih1 _ _ _ _ _
   | exact rubricref7_put.mono _ _ _ _
   | exact LeO.none _
   | refine LeO.ite ?_ ?_
   | refine LeO.bind ?_ (fun _ => ?_)
set_option maxHeartbeats 8000000 in
set_option maxRecDepth 100000 in
theorem rubricref7_Of.calls (k : Nat) (A0 : Option Addr) (c0 : Nat) (l0 : List (S58)) (r : List (S58)) (w : World) (hr0 : Kd.C k58 w A0 l0.length l0) (hc0 : l0.length ≤ c0) (h : rubricref7_Of.f k l0 = some r) :
  Calls Try.prog 38 #[.slice A0 l0.length c0] w fun e w' => ∃ v0_ : Value, e = .returned (.agg #[v0_]) ∧ Kd.R k58 58 w' w.heap.size (fun _ => True) v0_ r ∧ Below w.heap.size w w' := by
 have hu38 := Try.underlying38
 have hu58 := Try.underlying58
 have HR0 := Aside0.mk hr0
 have HC0 := Aside0.mk hc0
 clear hr0 hc0
 have HB := Aside0.mk (Below.refl w.heap.size w)
 have H : (rubricref7_Of.l0 k l0 ([] : List (S58)) 0) = some r := h
 clear h
 have H' := Aside0.mk H
 clear H
 go_enter Try.func38, Try.ntmps38
 go_wp2_with (first | ((with_reducible refine gate_dst (N := 2) rfl ?_); refine box_event ?hg (N := 2) ?hd (cs := #[.slice none 0 0]) (t := 38) ?hr ?_; (case hd => rfl); (case hg => rfl); (case hr => first | (go_simp; done) | (go_simp; rfl)); intro gb455 hg w2 hbox hb; have n0_ := Aside0.mk (below_step (by repeat (first | (with_reducible first | exact HB.out | apply below_alloc | apply pw_below_drewN | apply below_drew1) | exact HB.out)) hb); have n1_ := Aside0.mk (hbox); have n2_ := Aside0.mk ((by rw [hg]; exact (below_size (by repeat (first | (with_reducible first | exact HB.out | apply below_alloc | apply pw_below_drewN | apply below_drew1) | exact HB.out))) : w.heap.size ≤ gb455)); have n3_ := Aside0.mk ((by rw [hg]; exact (below_size (by repeat (first | (with_reducible first | exact HB.out | apply below_alloc | apply pw_below_drewN | apply below_drew1) | exact HB.out))) : w.heap.size ≤ gb455)); clear HB; have HB := n0_; have BK455 := n1_; have GW455 := n2_; have GE455 := n3_; clear n0_ n1_ n2_ n3_; clear hb hbox hg))
 go_loopg [3, 4] k (fun kq v3 v4 w' => ∃ (x3_1 : List (S58)) (x4_1 : Int), v4 = .int .i64 x4_1 ∧ Aside0 (rubricref7_Of.l0 kq l0 x3_1 x4_1 = some r) ∧ Aside0 (kq ≤ k) ∧ Aside0 (Kd.R k58 58 w' w.heap.size (fun _ => True) v3 x3_1) ∧ Aside0 (w'.heap[gb455]? = some (.cells #[(.slice none 0 0)] 38 (0, 0))) ∧ Aside0 (Below w.heap.size w w'))
 case atStart => exact ⟨(([] : List (S58))), (0), (by first | rfl | (simp; done) | (simp [*]; done)), H', ⟨Nat.le_refl _⟩, ⟨by first | exact Kd.R_nil _ _ _ _ _ | exact Kd.N_nil _ _ _ _ _ | exact Kd.V_nil _ _ _ _ _ | exact Kd.Q_nil _ _ _ _ _ | exact Kd.S_nil _ _ _ _ _⟩, ⟨S.b BK455.out⟩, ⟨by repeat (first | (with_reducible first | exact HB.out | apply below_alloc | apply pw_below_drewN | apply below_drew1 | refine below_set ?_ GE455.out) | exact HB.out)⟩⟩
 case round =>
  clear H'
  try clear p2
  obtain ⟨x3_1, x4_1, rfl, HA, HK1, HO_3, BK455, HB⟩ := hrel
  cases gk with
  | zero => exact absurd HA.out (by simp [rubricref7_Of.l0])
  | succ k1 =>
   have H := HA.out
   clear HA
   simp only [rubricref7_Of.l0] at H
   by_cases c3 : x4_1 < (l0.length : Int)
   ·rw [if_pos c3] at H
    have c3b0 : decide (x4_1 < (l0.length : Int)) = true := decide_eq_true c3
    clear c3
    by_cases c4 : 0 ≤ x4_1
    ·rw [if_pos c4] at H
     have c4b0 : decide (0 ≤ x4_1) = true := decide_eq_true c4
     clear c4
     have HC5 := Aside0.mk H
     clear H
     have p456 : 0 ≤ (x4_1 : Int) := of_decide_eq_true (by first | (with_reducible assumption) | assumption)
     have q456 : x4_1 < (l0.length : Int) := of_decide_eq_true (by first | (with_reducible assumption) | assumption)
     obtain ⟨ad456, e456, hx456_0, hx456_1⟩ := at_T58 HR0.out x4_1 p456 q456
     cases e456
     replace hx456_0 := (HB.out.cell (World.block_lt_of_cell? w _ hx456_0)).trans hx456_0
     replace hx456_1 := (HB.out.cell (World.block_lt_of_cell? w _ hx456_1)).trans hx456_1
     replace p456 := eq_true p456
     replace q456 := eq_true q456
     go_upto_if 18 with (first | ((with_reducible refine gate_dst (N := 5) rfl ?_); refine box_event ?hg (N := 5) ?hd (cs := #[.int .i64 0, .int .i64 0]) (t := 58) ?hr ?_; (case hd => rfl); (case hg => rfl); (case hr => first | (go_simp; done) | (go_simp; rfl)); intro gb457 hg w6 hbox hb; have n0_ := Aside0.mk (Kd.R_below (Kd.R_elderB (S.r HO_3.out) gb457 (Nat.le_of_eq hg.symm)) hb); have n1_ := Aside0.mk (blk_below (g := gb455) (o := .cells #[.slice none 0 0] 38 (0, 0)) (S.b BK455.out) hb); have n2_ := Aside0.mk (below_step (by repeat (first | (with_reducible first | exact HB.out | apply below_alloc | apply pw_below_drewN | apply below_drew1 | refine below_set ?_ GE455.out) | exact HB.out)) hb); have n3_ := Aside0.mk (hbox); have n4_ := Aside0.mk ((by rw [hg]; exact (below_size (by repeat (first | (with_reducible first | exact HB.out | apply below_alloc | apply pw_below_drewN | apply below_drew1 | refine below_set ?_ GE455.out) | exact HB.out))) : w.heap.size ≤ gb457)); have n5_ := Aside0.mk ((by rw [hg]; exact (below_size (by repeat (first | (with_reducible first | exact HB.out | apply below_alloc | apply pw_below_drewN | apply below_drew1 | refine below_set ?_ GE455.out) | exact HB.out))) : w.heap.size ≤ gb457)); have n6_ := Aside0.mk ((by rw [hg]; exact Nat.ne_of_lt (blk_lt (g := gb455) (o := .cells #[.slice none 0 0] 38 (0, 0)) (S.b BK455.out)) : gb455 ≠ gb457)); have n7_ := Aside0.mk ((by rw [hg]; exact Nat.ne_of_gt (blk_lt (g := gb455) (o := .cells #[.slice none 0 0] 38 (0, 0)) (S.b BK455.out)) : gb457 ≠ gb455)); clear HO_3; clear BK455; clear HB; have HO_3 := n0_; have BK455 := n1_; have HB := n2_; have BK457 := n3_; have GW457 := n4_; have GE457 := n5_; have NB455_457 := n6_; have NB457_455 := n7_; clear n0_ n1_ n2_ n3_ n4_ n5_ n6_ n7_; clear hb hbox hg; have hnb7 := NB457_455.out; have hnc7 := NB455_457.out; have hcz8_0 : w6.cell? ⟨gb457, 0, none⟩ = some (.int .i64 0) := (blk_cell BK457.out 0).trans rfl; have hcz8_1 : w6.cell? ⟨gb457, 1, none⟩ = some (.int .i64 0) := (blk_cell BK457.out 1).trans rfl; have hfz8_0 := blk_frozen BK457.out 0; have hfz8_1 := blk_frozen BK457.out 1))
     (try simp only [Act.put, List.setIfInBounds_toArray, List.set_cons_zero, List.set_cons_succ])
     go_cut [] (fun wc => ∃ (kq : Nat) (x458000_4 : Int), Aside0 (rubricref7_Of.j1 kq l0 x3_1 x4_1 x458000_4 ((rd_T58 l0 x4_1).f1) = some r) ∧ Aside0 (kq ≤ k1) ∧ Aside0 (Kd.R k58 58 wc w.heap.size (fun k_ => k_ ≠ gb457) u3 x3_1) ∧ Aside0 (wc.heap[gb455]? = some (.cells #[(.slice none 0 0)] 38 (0, 0))) ∧ Aside0 (wc.heap[gb457]? = some (.cells #[.int .i64 x458000_4, .int .i64 ((rd_T58 l0 x4_1).f1)] 58 (0, 0))) ∧ Aside0 (Below w.heap.size w wc))
     case first =>
      have H := HC5.out
      clear HC5
      by_cases c9 : ((rd_T58 l0 x4_1).f0) < 0
      ·rw [if_pos c9] at H
       have c9b0 : decide (((rd_T58 l0 x4_1).f0) < 0) = true := decide_eq_true c9
       clear c9
       (first | rw [c9b0] | (simp only [i64_w, i32_w]; rw [c9b0]) | skip)
       have H' := Aside0.mk H
       clear H
       have hnb10 := NB457_455.out
       have hnc10 := NB455_457.out
       have hcz11_0 : w6.cell? ⟨gb457, 0, none⟩ = some (.int .i64 0) := (blk_cell BK457.out 0).trans rfl
       have hcz11_1 : w6.cell? ⟨gb457, 1, none⟩ = some (.int .i64 0) := (blk_cell BK457.out 1).trans rfl
       have hfz11_0 := blk_frozen BK457.out 0
       have hfz11_1 := blk_frozen BK457.out 1
       go_wp2
       go_meet
       case rel => exact ⟨_, (0), H', ⟨by have := HK1.out; first | omega | exact Nat.le_refl _⟩, ⟨by (with_reducible repeat (first | apply Kd.R_alloc | apply Kd.R_drewN | apply Kd.R_drew)); exact Kd.R_mono (Kd.R_far (p := ⟨gb457, 0, none⟩) (Kd.R_far (p := ⟨gb457, 1, none⟩) (Kd.R_far (p := ⟨gb457, 0, none⟩) (Kd.R_mono HO_3.out (fun k_ hk => (⟨hk, hk.2⟩ : _ ∧ k_ ≠ gb457))) (fun _ hk => hk.2) (.int .i64 ((rd_T58 l0 x4_1).f0))) (fun _ hk => hk.2) (.int .i64 ((rd_T58 l0 x4_1).f1))) (fun _ hk => hk.2) (.int .i64 0)) (fun _ hk => hk.1.2)⟩, ⟨by (with_reducible repeat (first | refine blk_drewN ?_ _ | refine blk_drew ?_ | refine blk_alloc ?_ _)); refine blk_far ?_ NB455_457.out _; (with_reducible repeat (first | refine blk_drewN ?_ _ | refine blk_drew ?_ | refine blk_alloc ?_ _)); refine blk_far ?_ NB455_457.out _; (with_reducible repeat (first | refine blk_drewN ?_ _ | refine blk_drew ?_ | refine blk_alloc ?_ _)); refine blk_far ?_ NB455_457.out _; (with_reducible repeat (first | refine blk_drewN ?_ _ | refine blk_drew ?_ | refine blk_alloc ?_ _)); exact BK455.out⟩, ⟨by (with_reducible repeat (first | refine blk_drewN ?_ _ | refine blk_drew ?_ | refine blk_alloc ?_ _)); refine blk_put (cs := #[.int .i64 ((rd_T58 l0 x4_1).f0), .int .i64 ((rd_T58 l0 x4_1).f1)]) ?_ 0 _ rfl; (with_reducible repeat (first | refine blk_drewN ?_ _ | refine blk_drew ?_ | refine blk_alloc ?_ _)); refine blk_put (cs := #[.int .i64 ((rd_T58 l0 x4_1).f0), .int .i64 0]) ?_ 1 _ rfl; (with_reducible repeat (first | refine blk_drewN ?_ _ | refine blk_drew ?_ | refine blk_alloc ?_ _)); refine blk_put (cs := #[.int .i64 0, .int .i64 0]) ?_ 0 _ rfl; (with_reducible repeat (first | refine blk_drewN ?_ _ | refine blk_drew ?_ | refine blk_alloc ?_ _)); exact BK457.out⟩, ⟨by repeat (first | (with_reducible first | exact HB.out | apply below_alloc | apply pw_below_drewN | apply below_drew1 | refine below_set ?_ GE455.out | refine below_set ?_ GE457.out) | exact HB.out)⟩⟩
      ·rw [if_neg c9] at H
       have c9b0 : decide (((rd_T58 l0 x4_1).f0) < 0) = false := decide_eq_false c9
       clear c9
       (first | rw [c9b0] | (simp only [i64_w, i32_w]; rw [c9b0]) | skip)
       have H' := Aside0.mk H
       clear H
       go_wp2
       go_meet
       case rel => exact ⟨_, ((rd_T58 l0 x4_1).f0), H', ⟨by have := HK1.out; first | omega | exact Nat.le_refl _⟩, ⟨by (with_reducible repeat (first | apply Kd.R_alloc | apply Kd.R_drewN | apply Kd.R_drew)); exact Kd.R_mono (Kd.R_far (p := ⟨gb457, 1, none⟩) (Kd.R_far (p := ⟨gb457, 0, none⟩) (Kd.R_mono HO_3.out (fun k_ hk => (⟨hk, hk.2⟩ : _ ∧ k_ ≠ gb457))) (fun _ hk => hk.2) (.int .i64 ((rd_T58 l0 x4_1).f0))) (fun _ hk => hk.2) (.int .i64 ((rd_T58 l0 x4_1).f1))) (fun _ hk => hk.1.2)⟩, ⟨by (with_reducible repeat (first | refine blk_drewN ?_ _ | refine blk_drew ?_ | refine blk_alloc ?_ _)); refine blk_far ?_ NB455_457.out _; (with_reducible repeat (first | refine blk_drewN ?_ _ | refine blk_drew ?_ | refine blk_alloc ?_ _)); refine blk_far ?_ NB455_457.out _; (with_reducible repeat (first | refine blk_drewN ?_ _ | refine blk_drew ?_ | refine blk_alloc ?_ _)); exact BK455.out⟩, ⟨by (with_reducible repeat (first | refine blk_drewN ?_ _ | refine blk_drew ?_ | refine blk_alloc ?_ _)); refine blk_put (cs := #[.int .i64 ((rd_T58 l0 x4_1).f0), .int .i64 0]) ?_ 1 _ rfl; (with_reducible repeat (first | refine blk_drewN ?_ _ | refine blk_drew ?_ | refine blk_alloc ?_ _)); refine blk_put (cs := #[.int .i64 0, .int .i64 0]) ?_ 0 _ rfl; (with_reducible repeat (first | refine blk_drewN ?_ _ | refine blk_drew ?_ | refine blk_alloc ?_ _)); exact BK457.out⟩, ⟨by repeat (first | (with_reducible first | exact HB.out | apply below_alloc | apply pw_below_drewN | apply below_drew1 | refine below_set ?_ GE455.out | refine below_set ?_ GE457.out) | exact HB.out)⟩⟩
     case rest =>
      clear HC5
      try clear c1
      try clear p2
      try clear c3
      try clear c3b0
      try clear c4
      try clear c4b0
      try clear p4
      try clear q4
      try clear hx4
      try clear c7
      try clear c9
      try clear c9b0
      try clear c10
      try clear hcz11_0
      try clear hcz11_1
      try clear hcz8_0
      try clear hcz8_1
      try clear hfz11_0
      try clear hfz11_1
      try clear hfz8_0
      try clear hfz8_1
      try clear hx456_0
      try clear hx456_1
      try clear p2
      try clear p456
      try clear q456
      obtain ⟨kq, x458000_4, HA, HJ4, HO_3, BK455, BK457, HB⟩ := hcut
      cases kq with
      | zero => exact absurd HA.out (by simp [rubricref7_Of.j1])
      | succ kj4 =>
       have H := HA.out
       clear HA
       simp only [rubricref7_Of.j1] at H
       by_cases c12 : ((rd_T58 l0 x4_1).f1) > 1114111
       ·rw [if_pos c12] at H
        have c12b0 : decide (1114111 < ((rd_T58 l0 x4_1).f1)) = true := decide_eq_true c12
        clear c12
        by_cases c13 : x458000_4 ≤ 1114111
        ·rw [if_pos c13] at H
         have c13b0 : decide (x458000_4 ≤ 1114111) = true := decide_eq_true c13
         clear c13
         replace H := Option.bind_eq_some_iff.mp H
         obtain ⟨t458, A140, H⟩ := H
         replace H : (rubricref7_Of.l0 kj4 l0 t458 (wrap64 (x4_1 + 1))) = some r := H
         have A14 := Aside0.mk A140
         clear A140
         have H' := Aside0.mk H
         clear H
         have hnb15 := NB457_455.out
         have hnc15 := NB455_457.out
         have hcz16_0 : wc.cell? ⟨gb457, 0, none⟩ = some (.int .i64 x458000_4) := (blk_cell BK457.out 0).trans rfl
         have hcz16_1 : wc.cell? ⟨gb457, 1, none⟩ = some (.int .i64 ((rd_T58 l0 x4_1).f1)) := (blk_cell BK457.out 1).trans rfl
         have hfz16_0 := blk_frozen BK457.out 0
         have hfz16_1 := blk_frozen BK457.out 1
         obtain ⟨Ao17, co17, eo17⟩ := Kd.R_slice HO_3.out
         subst eo17
         go_wp2_with (first | ((with_reducible refine gate_callee (f := 50) rfl ?_); refine goesL_ (some 31) rfl rfl Try.func50 (by kernel_rfl) rfl #[.slice Ao17 x3_1.length co17, .agg #[.int .i64 x458000_4, .int .i64 1114111]] rfl (by (try simp only [List.map_toArray, List.map_cons, List.map_nil]); first | done | rfl | (simp only [List.length_drop, List.length_take]; rfl)) ?_; (with_reducible refine (rubricref7_put.calls kj4 _ _ x3_1 x458000_4 1114111 t458 _ ?side1 ?side2 A14.out).mono ?_); (case side1 => refine (Kd.R_reads' (e := 58) (base := w.heap.size) (ok := fun k_ => k_ ≠ gb457) (n := x3_1.length) (c := co17) ?_).2.2; exact (by (with_reducible repeat (first | apply Kd.R_alloc | apply Kd.R_drewN | apply Kd.R_drew)); exact (Kd.R_mono (Kd.R_far (p := ⟨gb457, 1, none⟩) (Kd.R_mono HO_3.out (fun k_ hk => (⟨hk, hk⟩ : _ ∧ k_ ≠ gb457))) (fun _ hk => hk.2) (.int .i64 1114111)) (fun _ h_ => h_.1)))); (case side2 => exact (Kd.R_reads' HO_3.out).2.1); rintro e w18 ⟨v459, rfl, ho0, hb⟩; refine ⟨_, rfl, ?_⟩; have n0_ := Aside0.mk (Kd.R_elder' (by (with_reducible repeat (first | apply Kd.R_alloc | apply Kd.R_drewN | apply Kd.R_drew)); exact (Kd.R_mono (Kd.R_far (p := ⟨gb457, 1, none⟩) (Kd.R_mono HO_3.out (fun k_ hk => (⟨hk, hk⟩ : _ ∧ k_ ≠ gb457))) (fun _ hk => hk.2) (.int .i64 1114111)) (fun _ h_ => h_.1))) (Kd.R_base ho0) hb); have n1_ := Aside0.mk (Kd.R_lower (Kd.R_newB (Kd.R_new' ho0 (Kd.R_lt (by (with_reducible repeat (first | apply Kd.R_alloc | apply Kd.R_drewN | apply Kd.R_drew)); exact (Kd.R_mono (Kd.R_far (p := ⟨gb457, 1, none⟩) (Kd.R_mono HO_3.out (fun k_ hk => (⟨hk, hk⟩ : _ ∧ k_ ≠ gb457))) (fun _ hk => hk.2) (.int .i64 1114111)) (fun _ h_ => h_.1))))) (g := gb457) (o := .cells #[.int .i64 x458000_4, .int .i64 1114111] 58 (0, 0)) (by (with_reducible repeat (first | refine blk_drewN ?_ _ | refine blk_drew ?_ | refine blk_alloc ?_ _)); refine blk_put (cs := #[.int .i64 x458000_4, .int .i64 ((rd_T58 l0 x4_1).f1)]) ?_ 1 _ rfl; (with_reducible repeat (first | refine blk_drewN ?_ _ | refine blk_drew ?_ | refine blk_alloc ?_ _)); exact BK457.out)) (below_size (by repeat (first | (with_reducible first | exact HB.out | apply below_alloc | apply pw_below_drewN | apply below_drew1 | refine below_set ?_ GE455.out | refine below_set ?_ GE457.out) | exact HB.out)))); have n2_ := Aside0.mk (blk_below (g := gb455) (o := .cells #[.slice none 0 0] 38 (0, 0)) (by (with_reducible repeat (first | refine blk_drewN ?_ _ | refine blk_drew ?_ | refine blk_alloc ?_ _)); refine blk_far ?_ NB455_457.out _; (with_reducible repeat (first | refine blk_drewN ?_ _ | refine blk_drew ?_ | refine blk_alloc ?_ _)); exact BK455.out) hb); have n3_ := Aside0.mk (blk_below (g := gb457) (o := .cells #[.int .i64 x458000_4, .int .i64 1114111] 58 (0, 0)) (by (with_reducible repeat (first | refine blk_drewN ?_ _ | refine blk_drew ?_ | refine blk_alloc ?_ _)); refine blk_put (cs := #[.int .i64 x458000_4, .int .i64 ((rd_T58 l0 x4_1).f1)]) ?_ 1 _ rfl; (with_reducible repeat (first | refine blk_drewN ?_ _ | refine blk_drew ?_ | refine blk_alloc ?_ _)); exact BK457.out) hb); have n4_ := Aside0.mk (below_step (by repeat (first | (with_reducible first | exact HB.out | apply below_alloc | apply pw_below_drewN | apply below_drew1 | refine below_set ?_ GE455.out | refine below_set ?_ GE457.out) | exact HB.out)) hb); clear HO_3; clear BK455; clear BK457; clear HB; have HO_3 := n0_; have HO460 := n1_; have BK455 := n2_; have BK457 := n3_; have HB := n4_; clear n0_ n1_ n2_ n3_ n4_; (try clear hb); (try clear hb2); (try clear hk); (try clear hi); (try clear ho0)))
         go_roundg kj4
         case measure => have := HK1.out; have := HJ4.out; omega
         case rel => exact ⟨(t458), (wrap64 (x4_1 + 1)), (by first | rfl | (simp; done) | (simp [*]; done)), H', ⟨by have := HK1.out; have := HJ4.out; omega⟩, ⟨by (with_reducible repeat (first | apply Kd.R_alloc | apply Kd.R_drewN | apply Kd.R_drew)); exact Kd.R_mono HO460.out (fun _ hk => trivial)⟩, ⟨S.b BK455.out⟩, ⟨by repeat (first | (with_reducible first | exact HB.out | apply below_alloc | apply pw_below_drewN | apply below_drew1 | refine below_set ?_ GE455.out | refine below_set ?_ GE457.out) | exact HB.out)⟩⟩
        ·rw [if_neg c13] at H
         have c13b0 : decide (x458000_4 ≤ 1114111) = false := decide_eq_false c13
         clear c13
         have H' := Aside0.mk H
         clear H
         have hnb19 := NB457_455.out
         have hnc19 := NB455_457.out
         have hcz20_0 : wc.cell? ⟨gb457, 0, none⟩ = some (.int .i64 x458000_4) := (blk_cell BK457.out 0).trans rfl
         have hcz20_1 : wc.cell? ⟨gb457, 1, none⟩ = some (.int .i64 ((rd_T58 l0 x4_1).f1)) := (blk_cell BK457.out 1).trans rfl
         have hfz20_0 := blk_frozen BK457.out 0
         have hfz20_1 := blk_frozen BK457.out 1
         go_wp2
         go_roundg kj4
         case measure => have := HK1.out; have := HJ4.out; omega
         case rel => exact ⟨(x3_1), (wrap64 (x4_1 + 1)), (by first | rfl | (simp; done) | (simp [*]; done)), H', ⟨by have := HK1.out; have := HJ4.out; omega⟩, ⟨by (with_reducible repeat (first | apply Kd.R_alloc | apply Kd.R_drewN | apply Kd.R_drew)); exact Kd.R_mono (Kd.R_far (p := ⟨gb457, 1, none⟩) (Kd.R_mono HO_3.out (fun k_ hk => (⟨hk, hk⟩ : _ ∧ k_ ≠ gb457))) (fun _ hk => hk.2) (.int .i64 1114111)) (fun _ hk => trivial)⟩, ⟨by (with_reducible repeat (first | refine blk_drewN ?_ _ | refine blk_drew ?_ | refine blk_alloc ?_ _)); refine blk_far ?_ NB455_457.out _; (with_reducible repeat (first | refine blk_drewN ?_ _ | refine blk_drew ?_ | refine blk_alloc ?_ _)); exact BK455.out⟩, ⟨by repeat (first | (with_reducible first | exact HB.out | apply below_alloc | apply pw_below_drewN | apply below_drew1 | refine below_set ?_ GE455.out | refine below_set ?_ GE457.out) | exact HB.out)⟩⟩
       ·rw [if_neg c12] at H
        have c12b0 : decide (1114111 < ((rd_T58 l0 x4_1).f1)) = false := decide_eq_false c12
        clear c12
        by_cases c21 : x458000_4 ≤ ((rd_T58 l0 x4_1).f1)
        ·rw [if_pos c21] at H
         have c21b0 : decide (x458000_4 ≤ ((rd_T58 l0 x4_1).f1)) = true := decide_eq_true c21
         clear c21
         replace H := Option.bind_eq_some_iff.mp H
         obtain ⟨t461, A220, H⟩ := H
         replace H : (rubricref7_Of.l0 kj4 l0 t461 (wrap64 (x4_1 + 1))) = some r := H
         have A22 := Aside0.mk A220
         clear A220
         have H' := Aside0.mk H
         clear H
         have hnb23 := NB457_455.out
         have hnc23 := NB455_457.out
         have hcz24_0 : wc.cell? ⟨gb457, 0, none⟩ = some (.int .i64 x458000_4) := (blk_cell BK457.out 0).trans rfl
         have hcz24_1 : wc.cell? ⟨gb457, 1, none⟩ = some (.int .i64 ((rd_T58 l0 x4_1).f1)) := (blk_cell BK457.out 1).trans rfl
         have hfz24_0 := blk_frozen BK457.out 0
         have hfz24_1 := blk_frozen BK457.out 1
         obtain ⟨Ao25, co25, eo25⟩ := Kd.R_slice HO_3.out
         subst eo25
         go_wp2_with (first | ((with_reducible refine gate_callee (f := 50) rfl ?_); refine goesL_ (some 31) rfl rfl Try.func50 (by kernel_rfl) rfl #[.slice Ao25 x3_1.length co25, .agg #[.int .i64 x458000_4, .int .i64 ((rd_T58 l0 x4_1).f1)]] rfl (by (try simp only [List.map_toArray, List.map_cons, List.map_nil]); first | done | rfl | (simp only [List.length_drop, List.length_take]; rfl)) ?_; (with_reducible refine (rubricref7_put.calls kj4 _ _ x3_1 x458000_4 ((rd_T58 l0 x4_1).f1) t461 _ ?side1 ?side2 A22.out).mono ?_); (case side1 => repeat (first | exact (Kd.R_reads' HO_3.out).2.2 | (with_reducible refine Kd.C_alloc ?_ _) | (with_reducible refine Kd.C_drewN ?_ _) | (with_reducible refine Kd.C_drew ?_))); (case side2 => exact (Kd.R_reads' HO_3.out).2.1); rintro e w26 ⟨v462, rfl, ho0, hb⟩; refine ⟨_, rfl, ?_⟩; have n0_ := Aside0.mk (Kd.R_elder' (S.r HO_3.out) (Kd.R_base ho0) hb); have n1_ := Aside0.mk (Kd.R_lower (Kd.R_newB (Kd.R_new' ho0 (Kd.R_lt (S.r HO_3.out))) (g := gb457) (o := .cells #[.int .i64 x458000_4, .int .i64 ((rd_T58 l0 x4_1).f1)] 58 (0, 0)) (S.b BK457.out)) (below_size (by repeat (first | (with_reducible first | exact HB.out | apply below_alloc | apply pw_below_drewN | apply below_drew1 | refine below_set ?_ GE455.out | refine below_set ?_ GE457.out) | exact HB.out)))); have n2_ := Aside0.mk (blk_below (g := gb455) (o := .cells #[.slice none 0 0] 38 (0, 0)) (S.b BK455.out) hb); have n3_ := Aside0.mk (blk_below (g := gb457) (o := .cells #[.int .i64 x458000_4, .int .i64 ((rd_T58 l0 x4_1).f1)] 58 (0, 0)) (S.b BK457.out) hb); have n4_ := Aside0.mk (below_step (by repeat (first | (with_reducible first | exact HB.out | apply below_alloc | apply pw_below_drewN | apply below_drew1 | refine below_set ?_ GE455.out | refine below_set ?_ GE457.out) | exact HB.out)) hb); clear HO_3; clear BK455; clear BK457; clear HB; have HO_3 := n0_; have HO463 := n1_; have BK455 := n2_; have BK457 := n3_; have HB := n4_; clear n0_ n1_ n2_ n3_ n4_; (try clear hb); (try clear hb2); (try clear hk); (try clear hi); (try clear ho0)))
         go_roundg kj4
         case measure => have := HK1.out; have := HJ4.out; omega
         case rel => exact ⟨(t461), (wrap64 (x4_1 + 1)), (by first | rfl | (simp; done) | (simp [*]; done)), H', ⟨by have := HK1.out; have := HJ4.out; omega⟩, ⟨by (with_reducible repeat (first | apply Kd.R_alloc | apply Kd.R_drewN | apply Kd.R_drew)); exact Kd.R_mono HO463.out (fun _ hk => trivial)⟩, ⟨S.b BK455.out⟩, ⟨by repeat (first | (with_reducible first | exact HB.out | apply below_alloc | apply pw_below_drewN | apply below_drew1 | refine below_set ?_ GE455.out | refine below_set ?_ GE457.out) | exact HB.out)⟩⟩
        ·rw [if_neg c21] at H
         have c21b0 : decide (x458000_4 ≤ ((rd_T58 l0 x4_1).f1)) = false := decide_eq_false c21
         clear c21
         have H' := Aside0.mk H
         clear H
         have hnb27 := NB457_455.out
         have hnc27 := NB455_457.out
         have hcz28_0 : wc.cell? ⟨gb457, 0, none⟩ = some (.int .i64 x458000_4) := (blk_cell BK457.out 0).trans rfl
         have hcz28_1 : wc.cell? ⟨gb457, 1, none⟩ = some (.int .i64 ((rd_T58 l0 x4_1).f1)) := (blk_cell BK457.out 1).trans rfl
         have hfz28_0 := blk_frozen BK457.out 0
         have hfz28_1 := blk_frozen BK457.out 1
         go_wp2
         go_roundg kj4
         case measure => have := HK1.out; have := HJ4.out; omega
         case rel => exact ⟨(x3_1), (wrap64 (x4_1 + 1)), (by first | rfl | (simp; done) | (simp [*]; done)), H', ⟨by have := HK1.out; have := HJ4.out; omega⟩, ⟨by (with_reducible repeat (first | apply Kd.R_alloc | apply Kd.R_drewN | apply Kd.R_drew)); exact Kd.R_mono HO_3.out (fun _ hk => trivial)⟩, ⟨S.b BK455.out⟩, ⟨by repeat (first | (with_reducible first | exact HB.out | apply below_alloc | apply pw_below_drewN | apply below_drew1 | refine below_set ?_ GE455.out | refine below_set ?_ GE457.out) | exact HB.out)⟩⟩
    ·rw [if_neg c4] at H
     exact absurd H (by simp)
   ·rw [if_neg c3] at H
    have c3b0 : decide (x4_1 < (l0.length : Int)) = false := decide_eq_false c3
    clear c3
    obtain rfl := Option.some.inj H
    obtain ⟨Ao29, co29, eo29⟩ := Kd.R_slice HO_3.out
    subst eo29
    have hcz30_0 : wr.cell? ⟨gb455, 0, none⟩ = some (.slice none 0 0) := (blk_cell BK455.out 0).trans rfl
    have hfz30_0 := blk_frozen BK455.out 0
    go_wp2
    refine bodyPost_ret (results_cell_row rfl _ _ gb455 38 #[.slice Ao29 x3_1.length co29] (0, 0) _ rfl (by (with_reducible repeat (first | refine blk_drewN ?_ _ | refine blk_drew ?_ | refine blk_alloc ?_ _)); refine blk_put (cs := #[.slice none 0 0]) ?_ 0 _ rfl; (with_reducible repeat (first | refine blk_drewN ?_ _ | refine blk_drew ?_ | refine blk_alloc ?_ _)); exact BK455.out) Try.underlying38 rfl (by kernel_rfl)) rfl ?_
    exact ⟨_, by first | rfl | (simp [errW_none, errW_some] <;> rfl) | (simp [*, errW_none, errW_some] <;> rfl), by (with_reducible repeat (first | apply Kd.R_alloc | apply Kd.R_drewN | apply Kd.R_drew)); exact Kd.R_mono (Kd.R_far (p := ⟨gb455, 0, none⟩) (Kd.R_types HO_3.out BK455.out (by decide)) (fun _ hk => hk.2) (.slice Ao29 x3_1.length co29)) (fun _ hk => trivial), by repeat (first | (with_reducible first | exact HB.out | apply below_alloc | apply pw_below_drewN | apply below_drew1 | refine below_set ?_ GE455.out) | exact HB.out)⟩

/-! ### rubricref7_letters: function 42 -/
def rubricref7_letters.l0 : Nat → ByteArray → List (S58) → Int → Option ((List (S58)))
 | 0, _, _, _ => none
 | k + 1, x0, x3, x4 => if x4 < (x0.size : Int) then (if 0 ≤ x4 then (if x3.length < 8796093022208 then (rubricref7_letters.l0 k x0 (x3 ++ [(⟨wrap64 (bt x0 x4), wrap64 (bt x0 x4)⟩ : S58)]) (wrap64 (x4 + 1))) else (none)) else (none)) else (some x3)
def rubricref7_letters.f (k : Nat) (a0 : ByteArray) : Option ((List (S58))) := rubricref7_letters.l0 k a0 ([] : List (S58)) 0
theorem rubricref7_letters.mono_l : ∀ k, (∀ y0 y1 y2, LeO (rubricref7_letters.l0 k y0 y1 y2) (rubricref7_letters.l0 (k + 1) y0 y1 y2))
 | 0 => fun _ _ _ r h => by simp [rubricref7_letters.l0] at h
 | k + 1 => by
  have ih0 := rubricref7_letters.mono_l k
  ·intro y0 y1 y2
   unfold rubricref7_letters.l0
   repeat' first
   | (with_reducible exact ih0 _ _ _)
   | (with_reducible exact LeO.refl _)
   | (with_reducible exact LeO.none _)
   | (with_reducible refine LeO.ite ?_ ?_)
   | (with_reducible refine LeO.bind ?_ (fun _ => ?_))
   | exact ih0 _ _ _
   | exact LeO.none _
   | refine LeO.ite ?_ ?_
   | refine LeO.bind ?_ (fun _ => ?_)
theorem rubricref7_letters.mono : ∀ a0 k, LeO (rubricref7_letters.f k a0) (rubricref7_letters.f (k + 1) a0) := by
 intro a0 k
 have ih0 := rubricref7_letters.mono_l k
 unfold rubricref7_letters.f
 repeat' first
   | (with_reducible exact ih0 _ _ _)
   | (with_reducible exact LeO.refl _)
   | (with_reducible exact LeO.none _)
   | (with_reducible refine LeO.ite ?_ ?_)
   | (with_reducible refine LeO.bind ?_ (fun _ => ?_))
   | exact ih0 _ _ _
   | exact LeO.none _
   | refine LeO.ite ?_ ?_
   | refine LeO.bind ?_ (fun _ => ?_)
def rubricref7_letters.T5 : Bool × List (List Nat × List Nat) := (true, [([], []), ([], []), ([], []), ([1, 2], [1, 2]), ([3], [3]), ([], []), ([], []), ([5, 6], [5, 6]), ([7], [7]), ([4, 8], [4, 8]), ([9], [9]), ([0, 10], [0, 10]), ([11, 11, 0, 1, 2, 3, 4, 5, 6, 7, 8, 9, 10, 11], [0, 11])])
def rubricref7_letters.B5 : List Nat := [0, 0, 0, 6, 14, 0, 0, 96, 224, 510, 1022, 2047, 4095]
theorem rubricref7_letters.tab5 : rtab .any (opsOf Try.f42 5) = rubricref7_letters.T5 := by kernel_rfl
theorem rubricref7_letters.bits5 : waitsOk rubricref7_letters.T5.2 rubricref7_letters.B5 = true := by kernel_rfl
set_option maxHeartbeats 8000000 in
set_option maxRecDepth 100000 in
theorem rubricref7_letters.calls (k : Nat) (a0 : ByteArray) (r : List (S58)) (w : World) (h : rubricref7_letters.f k a0 = some r) :
  Calls Try.prog 42 #[.string a0] w fun e w' => ∃ v0_ : Value, e = .returned (v0_) ∧ Kd.R k58 58 w' w.heap.size (fun _ => True) v0_ r ∧ Below w.heap.size w w' := by
 have hu58 := Try.underlying58
 have HB := Aside0.mk (Below.refl w.heap.size w)
 have H : (rubricref7_letters.l0 k a0 ([] : List (S58)) 0) = some r := h
 clear h
 have H' := Aside0.mk H
 clear H
 go_enter Try.func42, Try.ntmps42
 go_wp2
 go_loopg [3, 4] k (fun kq v3 v4 w' => ∃ (x3_1 : List (S58)) (x4_1 : Int), v4 = .int .i64 x4_1 ∧ Aside0 (rubricref7_letters.l0 kq a0 x3_1 x4_1 = some r) ∧ Aside0 (kq ≤ k) ∧ Aside0 (Kd.R k58 58 w' w.heap.size (fun _ => True) v3 x3_1) ∧ Aside0 (Below w.heap.size w w'))
 case atStart => exact ⟨(([] : List (S58))), (0), (by first | rfl | (simp; done) | (simp [*]; done)), H', ⟨Nat.le_refl _⟩, ⟨by first | exact Kd.R_nil _ _ _ _ _ | exact Kd.N_nil _ _ _ _ _ | exact Kd.V_nil _ _ _ _ _ | exact Kd.Q_nil _ _ _ _ _ | exact Kd.S_nil _ _ _ _ _⟩, ⟨by repeat (first | (with_reducible first | exact HB.out | apply below_alloc | apply pw_below_drewN | apply below_drew1) | exact HB.out)⟩⟩
 case round =>
  clear H'
  obtain ⟨x3_1, x4_1, rfl, HA, HK1, HO_3, HB⟩ := hrel
  cases gk with
  | zero => exact absurd HA.out (by simp [rubricref7_letters.l0])
  | succ k1 =>
   have H := HA.out
   clear HA
   simp only [rubricref7_letters.l0] at H
   by_cases c2 : x4_1 < (a0.size : Int)
   ·rw [if_pos c2] at H
    have c2b0 : decide (x4_1 < (a0.size : Int)) = true := decide_eq_true c2
    clear c2
    by_cases c3 : 0 ≤ x4_1
    ·rw [if_pos c3] at H
     have c3b0 : decide (0 ≤ x4_1) = true := decide_eq_true c3
     clear c3
     by_cases c6 : x3_1.length < 8796093022208
     ·rw [if_pos c6] at H
      have LMc6 := Aside0.mk c6
      clear c6
      obtain ⟨y464, hy464⟩ : ∃ y_ : List (S58), y_ = (x3_1 ++ [(⟨wrap64 (bt a0 x4_1), wrap64 (bt a0 x4_1)⟩ : S58)]) := ⟨_, rfl⟩
      replace H : (rubricref7_letters.l0 k1 a0 y464 (wrap64 (x4_1 + 1))) = some r := by first | (rw [hy464]; with_reducible exact H) | (have H2_ := (Option.bind_some _ _).symm.trans H; rw [hy464]; with_reducible exact H2_) | (have H2_ := (Option.bind_some _ _).symm.trans H; with_reducible exact H2_) | with_reducible exact H | (rw [hy464]; exact H) | exact H
      have Ny464 := Aside0.mk hy464
      clear hy464
      have H' := Aside0.mk H
      clear H
      try go_wp2
      have n0_ := Aside0.mk (Kd.R_drew HO_3.out)
      have n1_ := Aside0.mk (below_drew1 HB.out)
      clear HO_3
      clear HB
      have HO_3 := n0_
      have HB := n1_
      clear n0_ n1_
      have p4 : 0 ≤ (x4_1 : Int) := of_decide_eq_true (by first | (with_reducible assumption) | assumption)
      have q4 : x4_1 < (a0.size : Int) := of_decide_eq_true (by first | (with_reducible assumption) | assumption)
      have hx4 := bt_at a0 x4_1
      replace p4 := eq_true p4
      replace q4 := eq_true q4
      have p5 : 0 ≤ (x4_1 : Int) := of_decide_eq_true (by first | (with_reducible assumption) | assumption)
      have q5 : x4_1 < (a0.size : Int) := of_decide_eq_true (by first | (with_reducible assumption) | assumption)
      have hx5 := bt_at a0 x4_1
      replace p5 := eq_true p5
      replace q5 := eq_true q5
      refine start_ (n := 13) (S := fun w' => True) (ds := []) #[false, false, false, false, false, false, false, false, false, false, false, false, false] (by kernel_rfl) rfl rfl trivial (fun hHeld => ?_); refine with_tabW rubricref7_letters.tab5 rubricref7_letters.bits5 (fun HT_ HW_ => ?_)
      generalize wr.drew = w7 at HO_3 HB hHeld ⊢
      refine pure_ (i := 0) (N := some 11) (v := ?_) (a' := ?_) #[true, false, false, false, false, false, false, false, false, false, false, false, false] rfl rfl (any_of HT_.out (by kernel_rfl)) (fun _ _ _ h => h) (Or.inl ⟨by rfl, ?_⟩) ?_ ?_
      rotate_left
      ·intro w'
       go_simp
       with_reducible rfl
      rotate_left
      ·simp only [Act.put, List.setIfInBounds_toArray, List.set_cons_zero, List.set_cons_succ, i64_w, i32_w]
       rfl
      refine pure_ (i := 1) (N := some 12) (v := ?_) (a' := ?_) #[true, true, false, false, false, false, false, false, false, false, false, false, false] rfl rfl (any_of HT_.out (by kernel_rfl)) (fun _ _ _ h => h) (Or.inl ⟨by rfl, ?_⟩) ?_ ?_
      rotate_left
      ·intro w'
       go_simp
       with_reducible rfl
      rotate_left
      ·simp only [Act.put, List.setIfInBounds_toArray, List.set_cons_zero, List.set_cons_succ, i64_w, i32_w]
       rfl
      refine pure_ (i := 2) (N := some 13) (v := ?_) (a' := ?_) #[true, true, true, false, false, false, false, false, false, false, false, false, false] rfl rfl (any_of HT_.out (by kernel_rfl)) (fun _ _ _ h => h) (Or.inl ⟨by rfl, ?_⟩) ?_ ?_
      rotate_left
      ·intro w'
       go_simp
       with_reducible rfl
      rotate_left
      ·simp only [Act.put, List.setIfInBounds_toArray, List.set_cons_zero, List.set_cons_succ, i64_w, i32_w]
       rfl
      refine pure_ (i := 5) (N := some 16) (v := ?_) (a' := ?_) #[true, true, true, false, false, true, false, false, false, false, false, false, false] rfl rfl (any_of HT_.out (by kernel_rfl)) (fun _ _ _ h => h) (Or.inl ⟨by rfl, ?_⟩) ?_ ?_
      rotate_left
      ·intro w'
       go_simp
       with_reducible rfl
      rotate_left
      ·simp only [Act.put, List.setIfInBounds_toArray, List.set_cons_zero, List.set_cons_succ, i64_w, i32_w]
       rfl
      refine pure_ (i := 6) (N := some 17) (v := ?_) (a' := ?_) #[true, true, true, false, false, true, true, false, false, false, false, false, false] rfl rfl (any_of HT_.out (by kernel_rfl)) (fun _ _ _ h => h) (Or.inl ⟨by rfl, ?_⟩) ?_ ?_
      rotate_left
      ·intro w'
       go_simp
       with_reducible rfl
      rotate_left
      ·simp only [Act.put, List.setIfInBounds_toArray, List.set_cons_zero, List.set_cons_succ, i64_w, i32_w]
       rfl
      refine take_ (i := 3) (N := some 14) (v := ?_) (a' := ?_) #[true, true, true, true, false, true, true, false, false, false, false, false, false] rfl rfl (take_ofW HT_.out HW_.out (by kernel_rfl)) (fun _ _ _ h => h) (Or.inl ⟨by rfl, ?_⟩) hHeld ?_ ?_
      rotate_left
      ·intro w' _
       go_simp
       with_reducible rfl
      rotate_left
      ·simp only [Act.put, List.setIfInBounds_toArray, List.set_cons_zero, List.set_cons_succ, i64_w, i32_w]
       rfl
      refine pure_ (i := 4) (N := some 15) (v := ?_) (a' := ?_) #[true, true, true, true, true, true, true, false, false, false, false, false, false] rfl rfl (any_of HT_.out (by kernel_rfl)) (fun _ _ _ h => h) (Or.inl ⟨by rfl, ?_⟩) ?_ ?_
      rotate_left
      ·intro w'
       go_simp
       with_reducible rfl
      rotate_left
      ·simp only [Act.put, List.setIfInBounds_toArray, List.set_cons_zero, List.set_cons_succ, i64_w, i32_w]
       rfl
      refine take_ (i := 7) (N := some 18) (v := ?_) (a' := ?_) #[true, true, true, true, true, true, true, true, false, false, false, false, false] rfl rfl (take_ofW HT_.out HW_.out (by kernel_rfl)) (fun _ _ _ h => h) (Or.inl ⟨by rfl, ?_⟩) hHeld ?_ ?_
      rotate_left
      ·intro w' _
       go_simp
       with_reducible rfl
      rotate_left
      ·simp only [Act.put, List.setIfInBounds_toArray, List.set_cons_zero, List.set_cons_succ, i64_w, i32_w]
       rfl
      refine pure_ (i := 8) (N := some 19) (v := ?_) (a' := ?_) #[true, true, true, true, true, true, true, true, true, false, false, false, false] rfl rfl (any_of HT_.out (by kernel_rfl)) (fun _ _ _ h => h) (Or.inl ⟨by rfl, ?_⟩) ?_ ?_
      rotate_left
      ·intro w'
       go_simp
       with_reducible rfl
      rotate_left
      ·simp only [Act.put, List.setIfInBounds_toArray, List.set_cons_zero, List.set_cons_succ, i64_w, i32_w]
       rfl
      refine pure_ (i := 9) (N := some 20) (v := ?_) (a' := ?_) #[true, true, true, true, true, true, true, true, true, true, false, false, false] rfl rfl (any_of HT_.out (by kernel_rfl)) (fun _ _ _ h => h) (Or.inl ⟨by rfl, ?_⟩) ?_ ?_
      rotate_left
      ·intro w'
       go_simp
       with_reducible rfl
      rotate_left
      ·simp only [Act.put, List.setIfInBounds_toArray, List.set_cons_zero, List.set_cons_succ, i64_w, i32_w]
       rfl
      refine one_ (i := 10) (N := some 21) #[true, true, true, true, true, true, true, true, true, true, true, false, false] rfl rfl (one_of HT_.out (by kernel_rfl)) (by decide) (fun K hK => ?_)
      refine value_ (w1 := ?_) (v := ?_) (by rfl) rfl ?_ ?_
      rotate_left 2
      ·go_simp
       constructor
       ·rfl
       ·rfl
      refine hK.out _ _ trivial (fun hHeld => ?_)
      clear hK K
      refine norm_ (a' := ?_) ?_ ?_
      rotate_left
      ·show Act.put _ (some 21) _ = _
       simp only [Act.put, List.setIfInBounds_toArray, List.set_cons_zero, List.set_cons_succ, i64_w, i32_w]
       rfl
      refine one_ (i := 11) (N := some 22) #[true, true, true, true, true, true, true, true, true, true, true, true, false] rfl rfl (one_of HT_.out (by kernel_rfl)) (by decide) (fun K hK => ?_)
      refine Kd.R_append_step k58 (w0 := w) w.heap.size (by rfl) (.tmp 11) (.tmp 21) 36 58 (.agg #[(.int .i64 0), (.int .i64 0)]) 16 rfl Try.underlying36 info58 rfl (by decide) (by omega) u3 x3_1 (⟨wrap64 (bt a0 x4_1), wrap64 (bt a0 x4_1)⟩ : S58) [.int .i64 (wrap64 (bt a0 x4_1)), .int .i64 (wrap64 (bt a0 x4_1))] (fun _ => True) (fun _ => False) rfl rfl ?aP (fun _ hk => hk.elim) ?aF ?aO ?aB ?aS ?aL ?_
      (case aP => exact k58_mkM _ _ _ (⟨wrap64 (bt a0 x4_1), wrap64 (bt a0 x4_1)⟩ : S58))
      (case aB => exact (by repeat (first | (with_reducible first | exact HB.out | apply below_alloc | apply pw_below_drewN | apply below_drew1) | exact HB.out)))
      (case aF => exact (fun _ _ => trivial))
      (case aO => exact (S.r HO_3.out))
      (case aS => exact (below_size (by repeat (first | (with_reducible first | exact HB.out | apply below_alloc | apply pw_below_drewN | apply below_drew1) | exact HB.out))))
      (case aL => have := LMc6.out; omega)
      intro v465 w8 ho hb hg hat
      rw [← Ny464.out] at ho
      have n0_ := Aside0.mk (hb)
      have n1_ := Aside0.mk (ho)
      clear HB
      clear HO_3
      have HB := n0_
      have HO466 := n1_
      clear n0_ n1_
      clear ho hb hg hat
      refine hK.out _ _ trivial (fun hHeld => ?_)
      clear hK K
      refine norm_ (a' := ?_) ?_ ?_
      rotate_left
      ·show Act.put _ (some 22) _ = _
       simp only [Act.put, List.setIfInBounds_toArray, List.set_cons_zero, List.set_cons_succ, i64_w, i32_w]
       rfl
      refine pure_ (i := 12) (N := some 3) (v := ?_) (a' := ?_) #[true, true, true, true, true, true, true, true, true, true, true, true, true] rfl rfl (any_of HT_.out (by kernel_rfl)) (fun _ _ _ h => h) (Or.inl ⟨by rfl, ?_⟩) ?_ ?_
      rotate_left
      ·intro w'
       go_simp
       with_reducible rfl
      rotate_left
      ·simp only [Act.put, List.setIfInBounds_toArray, List.set_cons_zero, List.set_cons_succ, i64_w, i32_w]
       rfl
      refine done_ (done_of HT_.out (by kernel_rfl)) ?_
      try go_wp2
      go_roundg k1
      case measure => have := HK1.out; omega
      case rel => exact ⟨(y464), (wrap64 (x4_1 + 1)), (by first | rfl | (simp; done) | (simp [*]; done)), H', ⟨by have := HK1.out; omega⟩, ⟨S.r HO466.out⟩, ⟨by repeat (first | (with_reducible first | exact HB.out | apply below_alloc | apply pw_below_drewN | apply below_drew1) | exact HB.out)⟩⟩
     ·rw [if_neg c6] at H
      exact absurd H (by simp)
    ·rw [if_neg c3] at H
     exact absurd H (by simp)
   ·rw [if_neg c2] at H
    have c2b0 : decide (x4_1 < (a0.size : Int)) = false := decide_eq_false c2
    clear c2
    obtain rfl := Option.some.inj H
    go_wp2
    go_ret
    exact ⟨_, by first | rfl | (simp [errW_none, errW_some] <;> rfl) | (simp [*, errW_none, errW_some] <;> rfl), S.r HO_3.out, by repeat (first | (with_reducible first | exact HB.out | apply below_alloc | apply pw_below_drewN | apply below_drew1) | exact HB.out)⟩

end Go.Proofs.Ytjhmpippcndloaa.Pr
