-- printed by wip/gprint.py (ours) out of the translation, by the kit's print program with given contracts
import Derived.Test.YtjhmpippcndloaaG4
import Derived.Test.YtjhmpippcndloaaPrx0
import Derived.Test.YtjhmpippcndloaaPrx4
import Derived.Test.YtjhmpippcndloaaPrx5
namespace Go.Proofs.Ytjhmpippcndloaa.Pr
open Go.RowKit Go.Proofs.YtjhmpippcndloaaW.PrintWords Go.Proofs.YtjhmpippcndloaaW.PrintLast Go.Proofs.YtjhmpippcndloaaW.PrintMore
attribute [local go_sem] max2_int min2_int max_two min_two max_three min_three max_four min_four   -- for this text's walks alone
set_option linter.unusedVariables false
set_option linter.unusedSimpArgs false

/-! ### set_Set_Not: function 25 -/
def set_Set_Not.l0 : Nat → List (S24) → Int → List (S24) → Int → Int → Option ((List (S24)))
 | 0, _, _, _, _, _ => none
 | k + 1, x3, x4, x7, x8, x9 => if x9 < x8 then (if 0 ≤ x9 then (if x9 < (x7.length : Int) then (if ((rd_T24 x7 x9).f0) > x4 then (if x3.length < 17592186044416 then (set_Set_Not.l0 k (x3 ++ [(⟨x4, wrap32 (((rd_T24 x7 x9).f0) - 1)⟩ : S24)]) (wrap32 (((rd_T24 x7 x9).f1) + 1)) x7 x8 (wrap64 (x9 + 1))) else (none)) else (set_Set_Not.l0 k x3 (wrap32 (((rd_T24 x7 x9).f1) + 1)) x7 x8 (wrap64 (x9 + 1)))) else (none)) else (none)) else (if x4 ≤ 1114111 then (if x3.length < 17592186044416 then (some (x3 ++ [(⟨x4, 1114111⟩ : S24)])) else (none)) else (some x3))
def set_Set_Not.f (k : Nat) (l0 : List (S24)) : Option ((List (S24))) := set_Set_Not.l0 k ([] : List (S24)) 0 l0 (l0.length : Int) 0
theorem set_Set_Not.mono_l : ∀ k, (∀ y0 y1 y2 y3 y4, LeO (set_Set_Not.l0 k y0 y1 y2 y3 y4) (set_Set_Not.l0 (k + 1) y0 y1 y2 y3 y4))
 | 0 => fun _ _ _ _ _ r h => by simp [set_Set_Not.l0] at h
 | k + 1 => by
  have ih0 := set_Set_Not.mono_l k
  ·intro y0 y1 y2 y3 y4
   unfold set_Set_Not.l0
   repeat' first
   | (with_reducible exact ih0 _ _ _ _ _)
   | (with_reducible exact LeO.refl _)
   | (with_reducible exact LeO.none _)
   | (with_reducible refine LeO.ite ?_ ?_)
   | (with_reducible refine LeO.bind ?_ (fun _ => ?_))
   | exact ih0 _ _ _ _ _
   | exact LeO.none _
   | refine LeO.ite ?_ ?_
   | refine LeO.bind ?_ (fun _ => ?_)
theorem set_Set_Not.mono : ∀ a0 k, LeO (set_Set_Not.f k a0) (set_Set_Not.f (k + 1) a0) := by
 intro a0 k
 have ih0 := set_Set_Not.mono_l k
 unfold set_Set_Not.f
 repeat' first
   | (with_reducible exact ih0 _ _ _ _ _)
   | (with_reducible exact LeO.refl _)
   | (with_reducible exact LeO.none _)
   | (with_reducible refine LeO.ite ?_ ?_)
   | (with_reducible refine LeO.bind ?_ (fun _ => ?_))
   | exact ih0 _ _ _ _ _
   | exact LeO.none _
   | refine LeO.ite ?_ ?_
   | refine LeO.bind ?_ (fun _ => ?_)
set_option maxHeartbeats 8000000 in
set_option maxRecDepth 100000 in
theorem set_Set_Not.calls (k : Nat) (A0 : Option Addr) (c0 : Nat) (l0 : List (S24)) (r : List (S24)) (w : World) (hr0 : Kd.C k24 w A0 l0.length l0) (hc0 : l0.length ≤ c0) (h : set_Set_Not.f k l0 = some r) :
  Calls Try.prog 25 #[.slice A0 l0.length c0] w fun e w' => ∃ v0_ : Value, e = .returned (v0_) ∧ Kd.R k24 24 w' w.heap.size (fun _ => True) v0_ r ∧ Below w.heap.size w w' := by
 have hu24 := Try.underlying24
 have HR0 := Aside0.mk hr0
 have HC0 := Aside0.mk hc0
 clear hr0 hc0
 have HB := Aside0.mk (Below.refl w.heap.size w)
 have H : (set_Set_Not.l0 k ([] : List (S24)) 0 l0 (l0.length : Int) 0) = some r := h
 clear h
 have H' := Aside0.mk H
 clear H
 go_enter Try.func25, Try.ntmps25
 go_wp2
 go_loopg [3, 4, 9] k (fun kq v3 v4 v9 w' => ∃ (x3_1 : List (S24)) (x4_1 : Int) (x9_1 : Int), v4 = .int .i32 x4_1 ∧ v9 = .int .i64 x9_1 ∧ Aside0 (set_Set_Not.l0 kq x3_1 x4_1 l0 (l0.length : Int) x9_1 = some r) ∧ Aside0 (kq ≤ k) ∧ Aside0 (Kd.R k24 24 w' w.heap.size (fun _ => True) v3 x3_1) ∧ Aside0 (Below w.heap.size w w'))
 case atStart => exact ⟨(([] : List (S24))), (0), (0), (by first | rfl | (simp; done) | (simp [*]; done)), (by first | rfl | (simp; done) | (simp [*]; done)), H', ⟨Nat.le_refl _⟩, ⟨by first | exact Kd.R_nil _ _ _ _ _ | exact Kd.N_nil _ _ _ _ _ | exact Kd.V_nil _ _ _ _ _ | exact Kd.Q_nil _ _ _ _ _ | exact Kd.S_nil _ _ _ _ _⟩, ⟨by repeat (first | (with_reducible first | exact HB.out | apply below_alloc | apply pw_below_drewN | apply below_drew1) | exact HB.out)⟩⟩
 case round =>
  clear H'
  obtain ⟨x3_1, x4_1, x9_1, rfl, rfl, HA, HK1, HO_3, HB⟩ := hrel
  cases gk with
  | zero => exact absurd HA.out (by simp [set_Set_Not.l0])
  | succ k1 =>
   have H := HA.out
   clear HA
   simp only [set_Set_Not.l0] at H
   by_cases c2 : x9_1 < (l0.length : Int)
   ·rw [if_pos c2] at H
    have c2b0 : decide (x9_1 < (l0.length : Int)) = true := decide_eq_true c2
    clear c2
    by_cases c3 : 0 ≤ x9_1
    ·rw [if_pos c3] at H
     have c3b0 : decide (0 ≤ x9_1) = true := decide_eq_true c3
     clear c3
     by_cases c4 : x9_1 < (l0.length : Int)
     ·rw [if_pos c4] at H
      have c4b0 : decide (x9_1 < (l0.length : Int)) = true := decide_eq_true c4
      clear c4
      by_cases c5 : ((rd_T24 l0 x9_1).f0) > x4_1
      ·rw [if_pos c5] at H
       have c5b0 : decide (x4_1 < ((rd_T24 l0 x9_1).f0)) = true := decide_eq_true c5
       clear c5
       by_cases c6 : x3_1.length < 17592186044416
       ·rw [if_pos c6] at H
        have LMc6 := Aside0.mk c6
        clear c6
        obtain ⟨y209, hy209⟩ : ∃ y_ : List (S24), y_ = (x3_1 ++ [(⟨x4_1, wrap32 (((rd_T24 l0 x9_1).f0) - 1)⟩ : S24)]) := ⟨_, rfl⟩
        replace H : (set_Set_Not.l0 k1 y209 (wrap32 (((rd_T24 l0 x9_1).f1) + 1)) l0 (l0.length : Int) (wrap64 (x9_1 + 1))) = some r := by first | (rw [hy209]; with_reducible exact H) | (have H2_ := (Option.bind_some _ _).symm.trans H; rw [hy209]; with_reducible exact H2_) | (have H2_ := (Option.bind_some _ _).symm.trans H; with_reducible exact H2_) | with_reducible exact H | (rw [hy209]; exact H) | exact H
        have Ny209 := Aside0.mk hy209
        clear hy209
        have H' := Aside0.mk H
        clear H
        have p207 : 0 ≤ (x9_1 : Int) := of_decide_eq_true (by first | (with_reducible assumption) | assumption)
        have q207 : x9_1 < (l0.length : Int) := of_decide_eq_true (by first | (with_reducible assumption) | assumption)
        obtain ⟨ad207, e207, hx207_0, hx207_1⟩ := at_T24 HR0.out x9_1 p207 q207
        cases e207
        replace hx207_0 := (HB.out.cell (World.block_lt_of_cell? w _ hx207_0)).trans hx207_0
        replace hx207_1 := (HB.out.cell (World.block_lt_of_cell? w _ hx207_1)).trans hx207_1
        replace p207 := eq_true p207
        replace q207 := eq_true q207
        go_wp2_with (first | ((with_reducible refine gate_dst (N := 6) rfl ?_); refine box_event ?hg (N := 6) ?hd (cs := #[.int .i32 0, .int .i32 0]) (t := 24) ?hr ?_; (case hd => rfl); (case hg => rfl); (case hr => first | (go_simp; done) | (go_simp; rfl)); intro gb208 hg w7 hbox hb; have n0_ := Aside0.mk (Kd.R_below (Kd.R_elderB (S.r HO_3.out) gb208 (Nat.le_of_eq hg.symm)) hb); have n1_ := Aside0.mk (below_step (by repeat (first | (with_reducible first | exact HB.out | apply below_alloc | apply pw_below_drewN | apply below_drew1) | exact HB.out)) hb); have n2_ := Aside0.mk (hbox); have n3_ := Aside0.mk ((by rw [hg]; exact (below_size (by repeat (first | (with_reducible first | exact HB.out | apply below_alloc | apply pw_below_drewN | apply below_drew1) | exact HB.out))) : w.heap.size ≤ gb208)); have n4_ := Aside0.mk ((by rw [hg]; exact (below_size (by repeat (first | (with_reducible first | exact HB.out | apply below_alloc | apply pw_below_drewN | apply below_drew1) | exact HB.out))) : w.heap.size ≤ gb208)); clear HO_3; clear HB; have HO_3 := n0_; have HB := n1_; have BK208 := n2_; have GW208 := n3_; have GE208 := n4_; clear n0_ n1_ n2_ n3_ n4_; clear hb hbox hg; have hcz8_0 : w7.cell? ⟨gb208, 0, none⟩ = some (.int .i32 0) := (blk_cell BK208.out 0).trans rfl; have hcz8_1 : w7.cell? ⟨gb208, 1, none⟩ = some (.int .i32 0) := (blk_cell BK208.out 1).trans rfl; have hfz8_0 := blk_frozen BK208.out 0; have hfz8_1 := blk_frozen BK208.out 1) | ((with_reducible refine gate_builtin (b := .append) (xs := #[.tmp 17, .tmp 23]) rfl ?_); at_builtin; refine Kd.R_append k24 (w0 := w) w.heap.size rfl (.tmp 17) (.tmp 23) 26 24 (.agg #[(.int .i32 0), (.int .i32 0)]) 8 rfl Try.underlying26 info24 rfl (by decide) (by omega) u3 x3_1 (⟨x4_1, wrap32 (((rd_T24 l0 x9_1).f0) - 1)⟩ : S24) [.int .i32 x4_1, .int .i32 (wrap32 (((rd_T24 l0 x9_1).f0) - 1))] (fun k_ => k_ ≠ gb208) (fun _ => False) rfl (by first | (go_simp; done) | (go_simp; rfl)) ?aP (fun _ hk => hk.elim) ?aF ?aO ?aB ?aS ?aL ?_; (case aP => exact k24_mkM _ _ _ (⟨x4_1, wrap32 (((rd_T24 l0 x9_1).f0) - 1)⟩ : S24)); (case aB => exact (by repeat (first | (with_reducible first | exact HB.out | apply below_alloc | apply pw_below_drewN | apply below_drew1 | refine below_set ?_ GE208.out) | exact HB.out))); (case aF => exact (fun k_ hk => Kd.freshB (g := gb208) (o := .cells #[.int .i32 ((rd_T24 l0 x9_1).f0), .int .i32 ((rd_T24 l0 x9_1).f1)] 24 (0, 0)) (by (with_reducible repeat (first | refine blk_drewN ?_ _ | refine blk_drew ?_ | refine blk_alloc ?_ _)); refine blk_put (cs := #[.int .i32 ((rd_T24 l0 x9_1).f0), .int .i32 0]) ?_ 1 _ rfl; (with_reducible repeat (first | refine blk_drewN ?_ _ | refine blk_drew ?_ | refine blk_alloc ?_ _)); refine blk_put (cs := #[.int .i32 0, .int .i32 0]) ?_ 0 _ rfl; (with_reducible repeat (first | refine blk_drewN ?_ _ | refine blk_drew ?_ | refine blk_alloc ?_ _)); exact BK208.out) k_ hk)); (case aO => exact (by (with_reducible repeat (first | apply Kd.R_alloc | apply Kd.R_drewN | apply Kd.R_drew)); exact Kd.R_mono (Kd.R_far (p := ⟨gb208, 1, none⟩) (Kd.R_far (p := ⟨gb208, 0, none⟩) (Kd.R_mono HO_3.out (fun k_ hk => (⟨hk, hk.2⟩ : _ ∧ k_ ≠ gb208))) (fun _ hk => hk.2) (.int .i32 ((rd_T24 l0 x9_1).f0))) (fun _ hk => hk.2) (.int .i32 ((rd_T24 l0 x9_1).f1))) (fun _ hk => hk.1.2))); (case aS => exact (below_size (by repeat (first | (with_reducible first | exact HB.out | apply below_alloc | apply pw_below_drewN | apply below_drew1 | refine below_set ?_ GE208.out) | exact HB.out)))); (case aL => have := LMc6.out; omega); intro v210 w9 ho hb hg hat; rw [← Ny209.out] at ho; have n0_ := Aside0.mk (blk_grown (g := gb208) (o := .cells #[.int .i32 ((rd_T24 l0 x9_1).f0), .int .i32 ((rd_T24 l0 x9_1).f1)] 24 (0, 0)) (by (with_reducible repeat (first | refine blk_drewN ?_ _ | refine blk_drew ?_ | refine blk_alloc ?_ _)); refine blk_put (cs := #[.int .i32 ((rd_T24 l0 x9_1).f0), .int .i32 0]) ?_ 1 _ rfl; (with_reducible repeat (first | refine blk_drewN ?_ _ | refine blk_drew ?_ | refine blk_alloc ?_ _)); refine blk_put (cs := #[.int .i32 0, .int .i32 0]) ?_ 0 _ rfl; (with_reducible repeat (first | refine blk_drewN ?_ _ | refine blk_drew ?_ | refine blk_alloc ?_ _)); exact BK208.out) hg (Kd.R_away HO_3.out (fun _ hk => hk.2))); have n1_ := Aside0.mk (hb); have n2_ := Aside0.mk (ho); clear BK208; clear HB; clear HO_3; have BK208 := n0_; have HB := n1_; have HO211 := n2_; clear n0_ n1_ n2_; clear ho hb hg hat; have hcz10_0 : w9.cell? ⟨gb208, 0, none⟩ = some (.int .i32 ((rd_T24 l0 x9_1).f0)) := (blk_cell BK208.out 0).trans rfl; have hcz10_1 : w9.cell? ⟨gb208, 1, none⟩ = some (.int .i32 ((rd_T24 l0 x9_1).f1)) := (blk_cell BK208.out 1).trans rfl; have hfz10_0 := blk_frozen BK208.out 0; have hfz10_1 := blk_frozen BK208.out 1))
        go_roundg k1
        case measure => have := HK1.out; omega
        case rel => exact ⟨(y209), (wrap32 (((rd_T24 l0 x9_1).f1) + 1)), (wrap64 (x9_1 + 1)), (by first | rfl | (simp; done) | (simp [*]; done)), (by first | rfl | (simp; done) | (simp [*]; done)), H', ⟨by have := HK1.out; omega⟩, ⟨by (with_reducible repeat (first | apply Kd.R_alloc | apply Kd.R_drewN | apply Kd.R_drew)); exact Kd.R_mono HO211.out (fun _ hk => trivial)⟩, ⟨by repeat (first | (with_reducible first | exact HB.out | apply below_alloc | apply pw_below_drewN | apply below_drew1 | refine below_set ?_ GE208.out) | exact HB.out)⟩⟩
       ·rw [if_neg c6] at H
        exact absurd H (by simp)
      ·rw [if_neg c5] at H
       have c5b0 : decide (x4_1 < ((rd_T24 l0 x9_1).f0)) = false := decide_eq_false c5
       clear c5
       have H' := Aside0.mk H
       clear H
       have p207 : 0 ≤ (x9_1 : Int) := of_decide_eq_true (by first | (with_reducible assumption) | assumption)
       have q207 : x9_1 < (l0.length : Int) := of_decide_eq_true (by first | (with_reducible assumption) | assumption)
       obtain ⟨ad207, e207, hx207_0, hx207_1⟩ := at_T24 HR0.out x9_1 p207 q207
       cases e207
       replace hx207_0 := (HB.out.cell (World.block_lt_of_cell? w _ hx207_0)).trans hx207_0
       replace hx207_1 := (HB.out.cell (World.block_lt_of_cell? w _ hx207_1)).trans hx207_1
       replace p207 := eq_true p207
       replace q207 := eq_true q207
       go_wp2_with (first | ((with_reducible refine gate_dst (N := 6) rfl ?_); refine box_event ?hg (N := 6) ?hd (cs := #[.int .i32 0, .int .i32 0]) (t := 24) ?hr ?_; (case hd => rfl); (case hg => rfl); (case hr => first | (go_simp; done) | (go_simp; rfl)); intro gb208 hg w11 hbox hb; have n0_ := Aside0.mk (Kd.R_below (Kd.R_elderB (S.r HO_3.out) gb208 (Nat.le_of_eq hg.symm)) hb); have n1_ := Aside0.mk (below_step (by repeat (first | (with_reducible first | exact HB.out | apply below_alloc | apply pw_below_drewN | apply below_drew1) | exact HB.out)) hb); have n2_ := Aside0.mk (hbox); have n3_ := Aside0.mk ((by rw [hg]; exact (below_size (by repeat (first | (with_reducible first | exact HB.out | apply below_alloc | apply pw_below_drewN | apply below_drew1) | exact HB.out))) : w.heap.size ≤ gb208)); have n4_ := Aside0.mk ((by rw [hg]; exact (below_size (by repeat (first | (with_reducible first | exact HB.out | apply below_alloc | apply pw_below_drewN | apply below_drew1) | exact HB.out))) : w.heap.size ≤ gb208)); clear HO_3; clear HB; have HO_3 := n0_; have HB := n1_; have BK208 := n2_; have GW208 := n3_; have GE208 := n4_; clear n0_ n1_ n2_ n3_ n4_; clear hb hbox hg; have hcz12_0 : w11.cell? ⟨gb208, 0, none⟩ = some (.int .i32 0) := (blk_cell BK208.out 0).trans rfl; have hcz12_1 : w11.cell? ⟨gb208, 1, none⟩ = some (.int .i32 0) := (blk_cell BK208.out 1).trans rfl; have hfz12_0 := blk_frozen BK208.out 0; have hfz12_1 := blk_frozen BK208.out 1))
       go_roundg k1
       case measure => have := HK1.out; omega
       case rel => exact ⟨(x3_1), (wrap32 (((rd_T24 l0 x9_1).f1) + 1)), (wrap64 (x9_1 + 1)), (by first | rfl | (simp; done) | (simp [*]; done)), (by first | rfl | (simp; done) | (simp [*]; done)), H', ⟨by have := HK1.out; omega⟩, ⟨by (with_reducible repeat (first | apply Kd.R_alloc | apply Kd.R_drewN | apply Kd.R_drew)); exact Kd.R_mono (Kd.R_far (p := ⟨gb208, 1, none⟩) (Kd.R_far (p := ⟨gb208, 0, none⟩) (Kd.R_mono HO_3.out (fun k_ hk => (⟨hk, hk.2⟩ : _ ∧ k_ ≠ gb208))) (fun _ hk => hk.2) (.int .i32 ((rd_T24 l0 x9_1).f0))) (fun _ hk => hk.2) (.int .i32 ((rd_T24 l0 x9_1).f1))) (fun _ hk => trivial)⟩, ⟨by repeat (first | (with_reducible first | exact HB.out | apply below_alloc | apply pw_below_drewN | apply below_drew1 | refine below_set ?_ GE208.out) | exact HB.out)⟩⟩
     ·rw [if_neg c4] at H
      exact absurd H (by simp)
    ·rw [if_neg c3] at H
     exact absurd H (by simp)
   ·rw [if_neg c2] at H
    have c2b0 : decide (x9_1 < (l0.length : Int)) = false := decide_eq_false c2
    clear c2
    by_cases c13 : x4_1 ≤ 1114111
    ·rw [if_pos c13] at H
     have c13b0 : decide (x4_1 ≤ 1114111) = true := decide_eq_true c13
     clear c13
     by_cases c14 : x3_1.length < 17592186044416
     ·rw [if_pos c14] at H
      have LMc14 := Aside0.mk c14
      clear c14
      obtain ⟨y212, hy212⟩ : ∃ y_ : List (S24), y_ = (x3_1 ++ [(⟨x4_1, 1114111⟩ : S24)]) := ⟨_, rfl⟩
      replace H : (some y212) = some r := by first | (rw [hy212]; with_reducible exact H) | (have H2_ := (Option.bind_some _ _).symm.trans H; rw [hy212]; with_reducible exact H2_) | (have H2_ := (Option.bind_some _ _).symm.trans H; with_reducible exact H2_) | with_reducible exact H | (rw [hy212]; exact H) | exact H
      have Ny212 := Aside0.mk hy212
      clear hy212
      obtain rfl := Option.some.inj H
      go_wp2_with (first | ((with_reducible refine gate_builtin (b := .append) (xs := #[.tmp 31, .tmp 34]) rfl ?_); at_builtin; refine Kd.R_append k24 (w0 := w) w.heap.size rfl (.tmp 31) (.tmp 34) 26 24 (.agg #[(.int .i32 0), (.int .i32 0)]) 8 rfl Try.underlying26 info24 rfl (by decide) (by omega) u3 x3_1 (⟨x4_1, 1114111⟩ : S24) [.int .i32 x4_1, .int .i32 1114111] (fun _ => True) (fun _ => False) rfl rfl ?aP (fun _ hk => hk.elim) ?aF ?aO ?aB ?aS ?aL ?_; (case aP => exact k24_mkM _ _ _ (⟨x4_1, 1114111⟩ : S24)); (case aB => exact (by repeat (first | (with_reducible first | exact HB.out | apply below_alloc | apply pw_below_drewN | apply below_drew1) | exact HB.out))); (case aF => exact (fun _ _ => trivial)); (case aO => exact (S.r HO_3.out)); (case aS => exact (below_size (by repeat (first | (with_reducible first | exact HB.out | apply below_alloc | apply pw_below_drewN | apply below_drew1) | exact HB.out)))); (case aL => have := LMc14.out; omega); intro v213 w15 ho hb hg hat; rw [← Ny212.out] at ho; have n0_ := Aside0.mk (hb); have n1_ := Aside0.mk (ho); clear HB; clear HO_3; have HB := n0_; have HO214 := n1_; clear n0_ n1_; clear ho hb hg hat))
      go_ret
      exact ⟨_, by first | rfl | (simp [errW_none, errW_some] <;> rfl) | (simp [*, errW_none, errW_some] <;> rfl), S.r HO214.out, by repeat (first | (with_reducible first | exact HB.out | apply below_alloc | apply pw_below_drewN | apply below_drew1) | exact HB.out)⟩
     ·rw [if_neg c14] at H
      exact absurd H (by simp)
    ·rw [if_neg c13] at H
     have c13b0 : decide (x4_1 ≤ 1114111) = false := decide_eq_false c13
     clear c13
     obtain rfl := Option.some.inj H
     go_wp2
     go_ret
     exact ⟨_, by first | rfl | (simp [errW_none, errW_some] <;> rfl) | (simp [*, errW_none, errW_some] <;> rfl), S.r HO_3.out, by repeat (first | (with_reducible first | exact HB.out | apply below_alloc | apply pw_below_drewN | apply below_drew1) | exact HB.out)⟩

/-! ### set_not: function 36 -/
def set_not.f (k : Nat) (l0 : List (S24)) (a1 : Bool) : Option ((List (S24)) × Bool) := if a1 = true then ((set_Set_Not.f k l0).bind fun t215 => (some (t215, true))) else (some (([] : List (S24)), false))
theorem set_not.mono : ∀ a0 a1 k, LeO (set_not.f k a0 a1) (set_not.f (k + 1) a0 a1) := by
 intro a0 a1 k
 unfold set_not.f
 repeat' first
   | (with_reducible exact set_Set_Not.mono _ _)
   | (with_reducible exact LeO.refl _)
   | (with_reducible exact LeO.none _)
   | (with_reducible refine LeO.ite ?_ ?_)
   | (with_reducible refine LeO.bind ?_ (fun _ => ?_))
   | exact set_Set_Not.mono _ _
   | exact LeO.none _
   | refine LeO.ite ?_ ?_
   | refine LeO.bind ?_ (fun _ => ?_)
set_option maxHeartbeats 8000000 in
set_option maxRecDepth 100000 in
theorem set_not.calls (k : Nat) (A0 : Option Addr) (c0 : Nat) (l0 : List (S24)) (a1 : Bool) (r1 : List (S24)) (r2 : Bool) (w : World) (hr0 : Kd.C k24 w A0 l0.length l0) (hc0 : l0.length ≤ c0) (h : set_not.f k l0 a1 = some (r1, r2)) :
  Calls Try.prog 36 #[.slice A0 l0.length c0, .bool a1] w fun e w' => ∃ v0_ : Value, e = .returned (.tuple #[v0_, .bool r2]) ∧ Kd.R k24 24 w' w.heap.size (fun _ => True) v0_ r1 ∧ Below w.heap.size w w' := by
 have HR0 := Aside0.mk hr0
 have HC0 := Aside0.mk hc0
 clear hr0 hc0
 have HB := Aside0.mk (Below.refl w.heap.size w)
 have H : (if a1 = true then ((set_Set_Not.f k l0).bind fun t215 => (some (t215, true))) else (some (([] : List (S24)), false))) = some (r1, r2) := h
 clear h
 by_cases c3 : a1 = true
 ·subst c3
  have H1 : ((set_Set_Not.f k l0).bind fun t215 => (some (t215, true))) = some (r1, r2) := by rw [if_pos rfl] at H; exact H
  clear H
  have H := H1
  clear H1
  replace H := Option.bind_eq_some_iff.mp H
  obtain ⟨t215, A40, H⟩ := H
  replace H : (some (t215, true)) = some (r1, r2) := H
  have A4 := Aside0.mk A40
  clear A40
  simp only [Option.some.injEq, Prod.mk.injEq] at H
  obtain ⟨rfl, rfl⟩ := H
  go_enter Try.func36, Try.ntmps36
  go_wp2_with (first | ((with_reducible refine gate_callee (f := 25) rfl ?_); refine goesL_ (some 9) rfl rfl Try.func25 (by kernel_rfl) rfl #[.slice A0 l0.length c0] rfl (by (try simp only [List.map_toArray, List.map_cons, List.map_nil]); first | done | rfl | (simp only [List.length_drop, List.length_take]; rfl)) ?_; (with_reducible refine (set_Set_Not.calls k _ _ l0 t215 _ ?side1 ?side2 A4.out).mono ?_); (case side1 => repeat (first | exact HR0.out | (with_reducible refine Kd.C_alloc ?_ _) | (with_reducible refine Kd.C_drewN ?_ _) | (with_reducible refine Kd.C_drew ?_))); (case side2 => exact HC0.out); rintro e w5 ⟨v216, rfl, ho0, hb⟩; refine ⟨_, rfl, ?_⟩; have n0_ := Aside0.mk (Kd.R_lower ho0 (below_size (by repeat (first | (with_reducible first | exact HB.out | apply below_alloc | apply pw_below_drewN | apply below_drew1) | exact HB.out)))); have n1_ := Aside0.mk (below_step (by repeat (first | (with_reducible first | exact HB.out | apply below_alloc | apply pw_below_drewN | apply below_drew1) | exact HB.out)) hb); clear HB; have HO217 := n0_; have HB := n1_; clear n0_ n1_; (try clear hb); (try clear hb2); (try clear hk); (try clear hi); (try clear ho0)))
  go_ret2
  exact ⟨_, by first | rfl | (simp [errW_none, errW_some] <;> rfl) | (simp [*, errW_none, errW_some] <;> rfl), S.r HO217.out, by repeat (first | (with_reducible first | exact HB.out | apply below_alloc | apply pw_below_drewN | apply below_drew1) | exact HB.out)⟩
 ·replace c3 := Bool.eq_false_iff.mpr c3
  subst c3
  have H1 : (some (([] : List (S24)), false)) = some (r1, r2) := by rw [if_neg (show ¬ (false = true) by decide)] at H; exact H
  clear H
  have H := H1
  clear H1
  simp only [Option.some.injEq, Prod.mk.injEq] at H
  obtain ⟨rfl, rfl⟩ := H
  go_enter Try.func36, Try.ntmps36
  go_wp2
  go_ret2
  exact ⟨_, by first | rfl | (simp [errW_none, errW_some] <;> rfl) | (simp [*, errW_none, errW_some] <;> rfl), by first | exact Kd.R_nil _ _ _ _ _ | exact Kd.N_nil _ _ _ _ _ | exact Kd.V_nil _ _ _ _ _ | exact Kd.Q_nil _ _ _ _ _ | exact Kd.S_nil _ _ _ _ _, by repeat (first | (with_reducible first | exact HB.out | apply below_alloc | apply pw_below_drewN | apply below_drew1) | exact HB.out)⟩

/-! ### set_others: function 37 -/
def set_others.l0 : Nat → List (S24) → List ByteArray → Int → Int → Option ((List (S24)))
 | 0, _, _, _, _ => none
 | k + 1, x1, x6, x7, x8 => if x8 < x7 then (if 0 ≤ x8 then (if x8 < (x6.length : Int) then ((set_Category.f k (rdOf ByteArray.empty x6 x8)).bind fun bt222 => ((set_Union.f k x1 bt222.1).bind fun t226 => (set_others.l0 k t226 x6 x7 (wrap64 (x8 + 1))))) else (none)) else (none)) else (some x1)
def set_others.f (k : Nat)  : Option ((List (S24))) := (some (([(⟨#[80]⟩ : ByteArray), (⟨#[90]⟩ : ByteArray), (⟨#[67]⟩ : ByteArray)] : List ByteArray) : List ByteArray)).bind fun y218 => (set_others.l0 k ([] : List (S24)) y218 (y218.length : Int) 0)
theorem set_others.mono_l : ∀ k, (∀ y0 y1 y2 y3, LeO (set_others.l0 k y0 y1 y2 y3) (set_others.l0 (k + 1) y0 y1 y2 y3))
 | 0 => fun _ _ _ _ r h => by simp [set_others.l0] at h
 | k + 1 => by
  have ih0 := set_others.mono_l k
  ·intro y0 y1 y2 y3
   unfold set_others.l0
   repeat' first
   | (with_reducible exact ih0 _ _ _ _)
   | (with_reducible exact set_Category.mono _ _)
   | (with_reducible exact set_Union.mono _ _ _)
   | (with_reducible exact LeO.refl _)
   | (with_reducible exact LeO.none _)
   | (with_reducible refine LeO.ite ?_ ?_)
   | (with_reducible refine LeO.bind ?_ (fun _ => ?_))
   | exact ih0 _ _ _ _
   | exact set_Category.mono _ _
   | exact set_Union.mono _ _ _
   | exact LeO.none _
   | refine LeO.ite ?_ ?_
   | refine LeO.bind ?_ (fun _ => ?_)
theorem set_others.mono : ∀ k, LeO (set_others.f k ) (set_others.f (k + 1) ) := by
 intro  k
 have ih0 := set_others.mono_l k
 unfold set_others.f
 repeat' first
   | (with_reducible exact ih0 _ _ _ _)
   | (with_reducible exact set_Category.mono _ _)
   | (with_reducible exact set_Union.mono _ _ _)
   | (with_reducible exact LeO.refl _)
   | (with_reducible exact LeO.none _)
   | (with_reducible refine LeO.ite ?_ ?_)
   | (with_reducible refine LeO.bind ?_ (fun _ => ?_))
   | exact ih0 _ _ _ _
   | exact set_Category.mono _ _
   | exact set_Union.mono _ _ _
   | exact LeO.none _
   | refine LeO.ite ?_ ?_
   | refine LeO.bind ?_ (fun _ => ?_)
set_option maxHeartbeats 8000000 in
set_option maxRecDepth 100000 in
theorem set_others.calls (k : Nat)  (r : List (S24)) (w : World) (h : set_others.f k  = some r) :
  Calls Try.prog 37 #[] w fun e w' => ∃ v0_ : Value, e = .returned (v0_) ∧ Kd.R k24 24 w' w.heap.size (fun _ => True) v0_ r ∧ Below w.heap.size w w' := by
 have HB := Aside0.mk (Below.refl w.heap.size w)
 have H : ((some (([(⟨#[80]⟩ : ByteArray), (⟨#[90]⟩ : ByteArray), (⟨#[67]⟩ : ByteArray)] : List ByteArray) : List ByteArray)).bind fun y218 => (set_others.l0 k ([] : List (S24)) y218 (y218.length : Int) 0)) = some r := h
 clear h
 obtain ⟨y218, hy218⟩ : ∃ y_ : List ByteArray, y_ = (([(⟨#[80]⟩ : ByteArray), (⟨#[90]⟩ : ByteArray), (⟨#[67]⟩ : ByteArray)] : List ByteArray)) := ⟨_, rfl⟩
 replace H : (set_others.l0 k ([] : List (S24)) y218 (y218.length : Int) 0) = some r := by first | (rw [hy218]; with_reducible exact H) | (have H2_ := (Option.bind_some _ _).symm.trans H; rw [hy218]; with_reducible exact H2_) | (have H2_ := (Option.bind_some _ _).symm.trans H; with_reducible exact H2_) | with_reducible exact H | (rw [hy218]; exact H) | exact H
 have Ny218 := Aside0.mk hy218
 clear hy218
 have H' := Aside0.mk H
 clear H
 go_enter Try.func37, Try.ntmps37
 go_wp2_with (first | ((with_reducible refine gate_dst (N := 6) rfl ?_); refine Kd.R_lit Kd.string _ 9 ?hg (N := 6) ?hd (xs := ([(⟨#[80]⟩ : ByteArray), (⟨#[90]⟩ : ByteArray), (⟨#[67]⟩ : ByteArray)] : List ByteArray)) (inner := [.string (⟨#[80]⟩ : ByteArray), .string (⟨#[90]⟩ : ByteArray), .string (⟨#[67]⟩ : ByteArray)]) (ok := fun _ => True) (okp := fun _ => True) ?hr ?hp (fun _ hk => hk) trivial (Below.refl _ _) (Nat.le_refl _) (by simp) ?_; (case hd => rfl); (case hg => rfl); (case hr => first | (go_simp; done) | (go_simp; rfl)); (case hp => exact (Reps.one (show Kd.M Kd.string _ _ _ (⟨#[80]⟩ : ByteArray) [.string (⟨#[80]⟩ : ByteArray)] from rfl) (Reps.one (show Kd.M Kd.string _ _ _ (⟨#[90]⟩ : ByteArray) [.string (⟨#[90]⟩ : ByteArray)] from rfl) (Reps.one (show Kd.M Kd.string _ _ _ (⟨#[67]⟩ : ByteArray) [.string (⟨#[67]⟩ : ByteArray)] from rfl) (Reps.none _ _))))); intro v219 w1 ho2 hb hg_ hnew_; clear hg_ hnew_; (first | rw [← Ny218.out] at ho2 | (simp only [Int.reduceToNat] at ho2; rw [← Ny218.out] at ho2)); have n0_ := Aside0.mk (Kd.R_lower ho2 (below_size (by repeat (first | (with_reducible first | exact HB.out | apply below_alloc | apply pw_below_drewN | apply below_drew1) | exact HB.out)))); have n1_ := Aside0.mk (below_step (by repeat (first | (with_reducible first | exact HB.out | apply below_alloc | apply pw_below_drewN | apply below_drew1) | exact HB.out)) hb); clear HB; have HO220 := n0_; have HB := n1_; clear n0_ n1_; clear hb ho2; obtain ⟨Ao3, co3, eo3⟩ := Kd.R_slice HO220.out; subst eo3))
 go_loopg [1, 8] k (fun kq v1 v8 w' => ∃ (x1_1 : List (S24)) (x8_1 : Int), v8 = .int .i64 x8_1 ∧ Aside0 (set_others.l0 kq x1_1 y218 (y218.length : Int) x8_1 = some r) ∧ Aside0 (kq ≤ k) ∧ Aside0 (Kd.R k24 24 w' w.heap.size (fun _ => True) v1 x1_1) ∧ Aside0 (Kd.R Kd.string 9 w' w.heap.size (fun _ => True) (.slice Ao3 y218.length co3) y218) ∧ Aside0 (Below w.heap.size w w'))
 case atStart => exact ⟨(([] : List (S24))), (0), (by first | rfl | (simp; done) | (simp [*]; done)), H', ⟨Nat.le_refl _⟩, ⟨by first | exact Kd.R_nil _ _ _ _ _ | exact Kd.N_nil _ _ _ _ _ | exact Kd.V_nil _ _ _ _ _ | exact Kd.Q_nil _ _ _ _ _ | exact Kd.S_nil _ _ _ _ _⟩, ⟨S.r HO220.out⟩, ⟨by repeat (first | (with_reducible first | exact HB.out | apply below_alloc | apply pw_below_drewN | apply below_drew1) | exact HB.out)⟩⟩
 case round =>
  clear H'
  try clear p2
  try clear c3
  obtain ⟨x1_1, x8_1, rfl, HA, HK1, HO_1, HO_6, HB⟩ := hrel
  cases gk with
  | zero => exact absurd HA.out (by simp [set_others.l0])
  | succ k1 =>
   have H := HA.out
   clear HA
   simp only [set_others.l0] at H
   by_cases c4 : x8_1 < (y218.length : Int)
   ·rw [if_pos c4] at H
    have c4b0 : decide (x8_1 < (y218.length : Int)) = true := decide_eq_true c4
    clear c4
    by_cases c5 : 0 ≤ x8_1
    ·rw [if_pos c5] at H
     have c5b0 : decide (0 ≤ x8_1) = true := decide_eq_true c5
     clear c5
     by_cases c6 : x8_1 < (y218.length : Int)
     ·rw [if_pos c6] at H
      have c6b0 : decide (x8_1 < (y218.length : Int)) = true := decide_eq_true c6
      clear c6
      replace H := Option.bind_eq_some_iff.mp H
      obtain ⟨⟨t222, t223⟩, A70, H⟩ := H
      replace H : ((set_Union.f k1 x1_1 t222).bind fun t226 => (set_others.l0 k1 t226 y218 (y218.length : Int) (wrap64 (x8_1 + 1)))) = some r := H
      have A7 := Aside0.mk A70
      clear A70
      replace H := Option.bind_eq_some_iff.mp H
      obtain ⟨t226, A80, H⟩ := H
      replace H : (set_others.l0 k1 t226 y218 (y218.length : Int) (wrap64 (x8_1 + 1))) = some r := H
      have A8 := Aside0.mk A80
      clear A80
      have H' := Aside0.mk H
      clear H
      have p221 : 0 ≤ (x8_1 : Int) := of_decide_eq_true (by first | (with_reducible assumption) | assumption)
      have q221 : x8_1 < (y218.length : Int) := of_decide_eq_true (by first | (with_reducible assumption) | assumption)
      obtain ⟨ad221, e221, hx221_0⟩ := Kd.at_string (Kd.R_reads' HO_6.out).2.2 x8_1 p221 q221
      cases e221
      replace p221 := eq_true p221
      replace q221 := eq_true q221
      go_wp2_with (first | ((with_reducible refine gate_callee (f := 16) rfl ?_); refine goesL_ (some 14) rfl rfl Try.func16 (by kernel_rfl) rfl #[.string (rdOf ByteArray.empty y218 x8_1)] rfl (by (try simp only [List.map_toArray, List.map_cons, List.map_nil]); first | done | rfl | (simp only [List.length_drop, List.length_take]; rfl)) ?_; (with_reducible refine (set_Category.calls k1 (rdOf ByteArray.empty y218 x8_1) t222 t223 _ A7.out).mono ?_); rintro e w9 ⟨v224, rfl, ho0, hb⟩; refine ⟨_, rfl, ?_⟩; have n0_ := Aside0.mk (Kd.R_elder' (S.r HO_1.out) (Kd.R_base ho0) hb); have n1_ := Aside0.mk (Kd.R_below (S.r HO_6.out) hb); have n2_ := Aside0.mk (Kd.R_lower (Kd.R_new' ho0 (Kd.R_lt (S.r HO_1.out))) (below_size (by repeat (first | (with_reducible first | exact HB.out | apply below_alloc | apply pw_below_drewN | apply below_drew1) | exact HB.out)))); have n3_ := Aside0.mk (below_step (by repeat (first | (with_reducible first | exact HB.out | apply below_alloc | apply pw_below_drewN | apply below_drew1) | exact HB.out)) hb); clear HO_1; clear HO_6; clear HB; have HO_1 := n0_; have HO_6 := n1_; have HO225 := n2_; have HB := n3_; clear n0_ n1_ n2_ n3_; (try clear hb); (try clear hb2); (try clear hk); (try clear hi); (try clear ho0); obtain ⟨Ao10, co10, eo10⟩ := Kd.R_slice HO_1.out; subst eo10; obtain ⟨Ao11, co11, eo11⟩ := Kd.R_slice HO225.out; subst eo11) | ((with_reducible refine gate_callee (f := 12) rfl ?_); refine goesL_ (some 19) rfl rfl Try.func12 (by kernel_rfl) rfl #[.slice Ao10 x1_1.length co10, .slice Ao11 t222.length co11] rfl (by (try simp only [List.map_toArray, List.map_cons, List.map_nil]); first | done | rfl | (simp only [List.length_drop, List.length_take]; rfl)) ?_; (with_reducible refine (set_Union.calls k1 (fun k_ => some k_ = (.slice Ao10 x1_1.length co10 : Value).ownBlock) _ _ x1_1 (fun k_ => some k_ = (.slice Ao11 t222.length co11 : Value).ownBlock) _ _ t222 t226 _ ?side1 ?side2 A8.out).mono ?_); (case side1 => exact Kd.R_V (Kd.R_tight rfl (Kd.R_apart' (HO_1.out) (Kd.R_typed HO_6.out) (by decide)))); (case side2 => exact Kd.R_V (Kd.R_tight rfl (Kd.R_apart' (HO225.out) (Kd.R_typed HO_6.out) (by decide)))); rintro e w12 ⟨v227, rfl, ho0, hb⟩; refine ⟨_, rfl, ?_⟩; have n0_ := Aside0.mk (Kd.R_elder' (S.r HO_1.out) (Kd.R_base ho0) hb); have n1_ := Aside0.mk (Kd.R_below (S.r HO_6.out) hb); have n2_ := Aside0.mk (Kd.R_elder' (S.r HO225.out) (Kd.R_base ho0) hb); have n3_ := Aside0.mk (Kd.R_lower (Kd.R_new' (Kd.R_new' (Kd.R_mono (ok' := fun k_ => True) ho0 (fun _ hk_ => trivial)) (Kd.R_lt (S.r HO_1.out))) (Kd.R_lt (S.r HO225.out))) (below_size (by repeat (first | (with_reducible first | exact HB.out | apply below_alloc | apply pw_below_drewN | apply below_drew1) | exact HB.out)))); have n4_ := Aside0.mk (below_step (by repeat (first | (with_reducible first | exact HB.out | apply below_alloc | apply pw_below_drewN | apply below_drew1) | exact HB.out)) hb); clear HO_1; clear HO_6; clear HO225; clear HB; have HO_1 := n0_; have HO_6 := n1_; have HO225 := n2_; have HO228 := n3_; have HB := n4_; clear n0_ n1_ n2_ n3_ n4_; (try clear hb); (try clear hb2); (try clear hk); (try clear hi); (try clear ho0)))
      go_roundg k1
      case measure => have := HK1.out; omega
      case rel => exact ⟨(t226), (wrap64 (x8_1 + 1)), (by first | rfl | (simp; done) | (simp [*]; done)), H', ⟨by have := HK1.out; omega⟩, ⟨by (with_reducible repeat (first | apply Kd.R_alloc | apply Kd.R_drewN | apply Kd.R_drew)); exact Kd.R_mono HO228.out (fun _ hk => trivial)⟩, ⟨S.r HO_6.out⟩, ⟨by repeat (first | (with_reducible first | exact HB.out | apply below_alloc | apply pw_below_drewN | apply below_drew1) | exact HB.out)⟩⟩
     ·rw [if_neg c6] at H
      exact absurd H (by simp)
    ·rw [if_neg c5] at H
     exact absurd H (by simp)
   ·rw [if_neg c4] at H
    have c4b0 : decide (x8_1 < (y218.length : Int)) = false := decide_eq_false c4
    clear c4
    obtain rfl := Option.some.inj H
    go_wp2
    go_ret
    exact ⟨_, by first | rfl | (simp [errW_none, errW_some] <;> rfl) | (simp [*, errW_none, errW_some] <;> rfl), S.r HO_1.out, by repeat (first | (with_reducible first | exact HB.out | apply below_alloc | apply pw_below_drewN | apply below_drew1) | exact HB.out)⟩

/-! ### set_Escape: function 14 -/
mutual
def set_Escape.j0 : Nat → Int → Bool → Option ((List (S24)) × Bool)
 | 0, _, _ => none
 | k + 1, x0, x25 => if x25 = true then ((set_Escape.f k (Go.bits .or .u8 x0 32)).bind fun bt249 => ((set_not.f k bt249.1 bt249.2).bind fun bt253 => (some (bt253.1, bt253.2)))) else (some (([] : List (S24)), false))
def set_Escape.f : Nat → Int → Option ((List (S24)) × Bool)
 | 0, _ => none
 | k + 1, a0 => if a0 = 115 then ((set_letters.f k (⟨#[32, 9, 10, 13]⟩ : ByteArray)).bind fun t229 => (some (t229, true))) else (if a0 = 105 then ((set_starts.f k).bind fun t232 => (some (t232, true))) else (if a0 = 99 then ((set_parts.f k).bind fun t235 => (some (t235, true))) else (if a0 = 100 then ((set_Category.f k (⟨#[78, 100]⟩ : ByteArray)).bind fun bt238 => (some (bt238.1, bt238.2))) else (if a0 = 119 then ((set_others.f k).bind fun t242 => ((set_not.f k t242 true).bind fun bt245 => (some (bt245.1, bt245.2)))) else (if a0 = 83 then (set_Escape.j0 k a0 (a0 == 83)) else (if a0 = 73 then (set_Escape.j0 k a0 (a0 == 73)) else (if a0 = 67 then (set_Escape.j0 k a0 (a0 == 67)) else (if a0 = 68 then (set_Escape.j0 k a0 (a0 == 68)) else (set_Escape.j0 k a0 (a0 == 87))))))))))
end
theorem set_Escape.mono_l : ∀ k, (∀ y0, LeO (set_Escape.f k y0) (set_Escape.f (k + 1) y0)) ∧ (∀ y0 y1, LeO (set_Escape.j0 k y0 y1) (set_Escape.j0 (k + 1) y0 y1))
 | 0 => ⟨fun _ r h => by simp [set_Escape.f] at h, fun _ _ r h => by simp [set_Escape.j0] at h⟩
 | k + 1 => by
  obtain ⟨ih0, ih1⟩ := set_Escape.mono_l k
  refine ⟨?_, ?_⟩
  ·intro y0
   unfold set_Escape.f
   repeat' first
   | (with_reducible exact ih0 _)
   | (with_reducible exact ih1 _ _)
   | (with_reducible exact set_Category.mono _ _)
   | (with_reducible exact set_letters.mono _ _)
   | (with_reducible exact set_not.mono _ _ _)
   | (with_reducible exact set_others.mono _)
   | (with_reducible exact set_parts.mono _)
   | (with_reducible exact set_starts.mono _)
   | (with_reducible exact LeO.refl _)
   | (with_reducible exact LeO.none _)
   | (with_reducible refine LeO.ite ?_ ?_)
   | (with_reducible refine LeO.bind ?_ (fun _ => ?_))
   | exact ih0 _
   | exact ih1 _ _
   | exact set_Category.mono _ _
   | exact set_letters.mono _ _
   | exact set_not.mono _ _ _
   | exact set_others.mono _
   | exact set_parts.mono _
   | exact set_starts.mono _
   | exact LeO.none _
   | refine LeO.ite ?_ ?_
   | refine LeO.bind ?_ (fun _ => ?_)
  ·intro y0 y1
   unfold set_Escape.j0
   repeat' first
   | (with_reducible exact ih0 _)
   | (with_reducible exact ih1 _ _)
   | (with_reducible exact set_Category.mono _ _)
   | (with_reducible exact set_letters.mono _ _)
   | (with_reducible exact set_not.mono _ _ _)
   | (with_reducible exact set_others.mono _)
   | (with_reducible exact set_parts.mono _)
   | (with_reducible exact set_starts.mono _)
   | (with_reducible exact LeO.refl _)
   | (with_reducible exact LeO.none _)
   | (with_reducible refine LeO.ite ?_ ?_)
   | (with_reducible refine LeO.bind ?_ (fun _ => ?_))
   | exact ih0 _
   | exact ih1 _ _
   | exact set_Category.mono _ _
   | exact set_letters.mono _ _
   | exact set_not.mono _ _ _
   | exact set_others.mono _
   | exact set_parts.mono _
   | exact set_starts.mono _
   | exact LeO.none _
   | refine LeO.ite ?_ ?_
   | refine LeO.bind ?_ (fun _ => ?_)
theorem set_Escape.mono : ∀ a0 k, LeO (set_Escape.f k a0) (set_Escape.f (k + 1) a0) := by
 intro a0 k
 obtain ⟨ih0, ih1⟩ := set_Escape.mono_l k
 exact ih0 a0
set_option maxHeartbeats 8000000 in
set_option maxRecDepth 100000 in
theorem set_Escape.calls (k : Nat) : ∀ (a0 : Int) (r1 : List (S24)) (r2 : Bool) (w : World) (h : set_Escape.f k a0 = some (r1, r2)),
  Calls Try.prog 14 #[.int .u8 a0] w fun e w' => ∃ v0_ : Value, e = .returned (.tuple #[v0_, .bool r2]) ∧ Kd.R k24 24 w' w.heap.size (fun _ => True) v0_ r1 ∧ Below w.heap.size w w' := by
 induction k using Nat.strongRecOn with
 | _ k ih =>
 intro a0 r1 r2 w h
 cases k with
 | zero => exact absurd h (by simp [set_Escape.f])
 | succ k =>
 simp only [set_Escape.f] at h
 have HB := Aside0.mk (Below.refl w.heap.size w)
 have H : (if a0 = 115 then ((set_letters.f k (⟨#[32, 9, 10, 13]⟩ : ByteArray)).bind fun t229 => (some (t229, true))) else (if a0 = 105 then ((set_starts.f k).bind fun t232 => (some (t232, true))) else (if a0 = 99 then ((set_parts.f k).bind fun t235 => (some (t235, true))) else (if a0 = 100 then ((set_Category.f k (⟨#[78, 100]⟩ : ByteArray)).bind fun bt238 => (some (bt238.1, bt238.2))) else (if a0 = 119 then ((set_others.f k).bind fun t242 => ((set_not.f k t242 true).bind fun bt245 => (some (bt245.1, bt245.2)))) else (if a0 = 83 then (set_Escape.j0 k a0 (a0 == 83)) else (if a0 = 73 then (set_Escape.j0 k a0 (a0 == 73)) else (if a0 = 67 then (set_Escape.j0 k a0 (a0 == 67)) else (if a0 = 68 then (set_Escape.j0 k a0 (a0 == 68)) else (set_Escape.j0 k a0 (a0 == 87))))))))))) = some (r1, r2) := h
 clear h
 by_cases c2 : a0 = 115
 ·rw [if_pos c2] at H
  have c2b0 : (a0 == 115) = true := beq_iff_eq.mpr c2
  have c2b1 : (a0 != 115) = false := bne_eq_false_iff_eq.mpr c2
  clear c2
  replace H := Option.bind_eq_some_iff.mp H
  obtain ⟨t229, A30, H⟩ := H
  replace H : (some (t229, true)) = some (r1, r2) := H
  have A3 := Aside0.mk A30
  clear A30
  simp only [Option.some.injEq, Prod.mk.injEq] at H
  obtain ⟨rfl, rfl⟩ := H
  go_enter Try.func14, Try.ntmps14
  go_wp2_with (first | ((with_reducible refine gate_callee (f := 33) rfl ?_); refine goesL_ (some 7) rfl rfl Try.func33 (by kernel_rfl) rfl #[.string (⟨#[32, 9, 10, 13]⟩ : ByteArray)] rfl (by (try simp only [List.map_toArray, List.map_cons, List.map_nil]); first | done | rfl | (simp only [List.length_drop, List.length_take]; rfl)) ?_; (with_reducible refine (set_letters.calls k (⟨#[32, 9, 10, 13]⟩ : ByteArray) t229 _ A3.out).mono ?_); rintro e w4 ⟨v230, rfl, ho0, hb⟩; refine ⟨_, rfl, ?_⟩; have n0_ := Aside0.mk (Kd.R_lower ho0 (below_size (by repeat (first | (with_reducible first | exact HB.out | apply below_alloc | apply pw_below_drewN | apply below_drew1) | exact HB.out)))); have n1_ := Aside0.mk (below_step (by repeat (first | (with_reducible first | exact HB.out | apply below_alloc | apply pw_below_drewN | apply below_drew1) | exact HB.out)) hb); clear HB; have HO231 := n0_; have HB := n1_; clear n0_ n1_; (try clear hb); (try clear hb2); (try clear hk); (try clear hi); (try clear ho0)))
  go_ret2
  exact ⟨_, by first | rfl | (simp [errW_none, errW_some] <;> rfl) | (simp [*, errW_none, errW_some] <;> rfl), S.r HO231.out, by repeat (first | (with_reducible first | exact HB.out | apply below_alloc | apply pw_below_drewN | apply below_drew1) | exact HB.out)⟩
 ·rw [if_neg c2] at H
  have c2b0 : (a0 == 115) = false := beq_eq_false_iff_ne.mpr c2
  have c2b1 : (a0 != 115) = true := bne_iff_ne.mpr c2
  by_cases c5 : a0 = 105
  ·rw [if_pos c5] at H
   have c5b0 : (a0 == 105) = true := beq_iff_eq.mpr c5
   have c5b1 : (a0 != 105) = false := bne_eq_false_iff_eq.mpr c5
   clear c5
   replace H := Option.bind_eq_some_iff.mp H
   obtain ⟨t232, A60, H⟩ := H
   replace H : (some (t232, true)) = some (r1, r2) := H
   have A6 := Aside0.mk A60
   clear A60
   simp only [Option.some.injEq, Prod.mk.injEq] at H
   obtain ⟨rfl, rfl⟩ := H
   go_enter Try.func14, Try.ntmps14
   go_wp2_with (first | ((with_reducible refine gate_callee (f := 34) rfl ?_); refine goesL_ (some 10) rfl rfl Try.func34 (by kernel_rfl) rfl #[] rfl (by (try simp only [List.map_toArray, List.map_cons, List.map_nil]); first | done | rfl | (simp only [List.length_drop, List.length_take]; rfl)) ?_; (with_reducible refine (set_starts.calls k  t232 _ A6.out).mono ?_); rintro e w7 ⟨v233, rfl, ho0, hb⟩; refine ⟨_, rfl, ?_⟩; have n0_ := Aside0.mk (Kd.R_lower ho0 (below_size (by repeat (first | (with_reducible first | exact HB.out | apply below_alloc | apply pw_below_drewN | apply below_drew1) | exact HB.out)))); have n1_ := Aside0.mk (below_step (by repeat (first | (with_reducible first | exact HB.out | apply below_alloc | apply pw_below_drewN | apply below_drew1) | exact HB.out)) hb); clear HB; have HO234 := n0_; have HB := n1_; clear n0_ n1_; (try clear hb); (try clear hb2); (try clear hk); (try clear hi); (try clear ho0)))
   go_ret2
   exact ⟨_, by first | rfl | (simp [errW_none, errW_some] <;> rfl) | (simp [*, errW_none, errW_some] <;> rfl), S.r HO234.out, by repeat (first | (with_reducible first | exact HB.out | apply below_alloc | apply pw_below_drewN | apply below_drew1) | exact HB.out)⟩
  ·rw [if_neg c5] at H
   have c5b0 : (a0 == 105) = false := beq_eq_false_iff_ne.mpr c5
   have c5b1 : (a0 != 105) = true := bne_iff_ne.mpr c5
   by_cases c8 : a0 = 99
   ·rw [if_pos c8] at H
    have c8b0 : (a0 == 99) = true := beq_iff_eq.mpr c8
    have c8b1 : (a0 != 99) = false := bne_eq_false_iff_eq.mpr c8
    clear c8
    replace H := Option.bind_eq_some_iff.mp H
    obtain ⟨t235, A90, H⟩ := H
    replace H : (some (t235, true)) = some (r1, r2) := H
    have A9 := Aside0.mk A90
    clear A90
    simp only [Option.some.injEq, Prod.mk.injEq] at H
    obtain ⟨rfl, rfl⟩ := H
    go_enter Try.func14, Try.ntmps14
    go_wp2_with (first | ((with_reducible refine gate_callee (f := 35) rfl ?_); refine goesL_ (some 13) rfl rfl Try.func35 (by kernel_rfl) rfl #[] rfl (by (try simp only [List.map_toArray, List.map_cons, List.map_nil]); first | done | rfl | (simp only [List.length_drop, List.length_take]; rfl)) ?_; (with_reducible refine (set_parts.calls k  t235 _ A9.out).mono ?_); rintro e w10 ⟨v236, rfl, ho0, hb⟩; refine ⟨_, rfl, ?_⟩; have n0_ := Aside0.mk (Kd.R_lower ho0 (below_size (by repeat (first | (with_reducible first | exact HB.out | apply below_alloc | apply pw_below_drewN | apply below_drew1) | exact HB.out)))); have n1_ := Aside0.mk (below_step (by repeat (first | (with_reducible first | exact HB.out | apply below_alloc | apply pw_below_drewN | apply below_drew1) | exact HB.out)) hb); clear HB; have HO237 := n0_; have HB := n1_; clear n0_ n1_; (try clear hb); (try clear hb2); (try clear hk); (try clear hi); (try clear ho0)))
    go_ret2
    exact ⟨_, by first | rfl | (simp [errW_none, errW_some] <;> rfl) | (simp [*, errW_none, errW_some] <;> rfl), S.r HO237.out, by repeat (first | (with_reducible first | exact HB.out | apply below_alloc | apply pw_below_drewN | apply below_drew1) | exact HB.out)⟩
   ·rw [if_neg c8] at H
    have c8b0 : (a0 == 99) = false := beq_eq_false_iff_ne.mpr c8
    have c8b1 : (a0 != 99) = true := bne_iff_ne.mpr c8
    by_cases c11 : a0 = 100
    ·rw [if_pos c11] at H
     have c11b0 : (a0 == 100) = true := beq_iff_eq.mpr c11
     have c11b1 : (a0 != 100) = false := bne_eq_false_iff_eq.mpr c11
     clear c11
     replace H := Option.bind_eq_some_iff.mp H
     obtain ⟨⟨t238, t239⟩, A120, H⟩ := H
     replace H : (some (t238, t239)) = some (r1, r2) := H
     have A12 := Aside0.mk A120
     clear A120
     simp only [Option.some.injEq, Prod.mk.injEq] at H
     obtain ⟨rfl, rfl⟩ := H
     go_enter Try.func14, Try.ntmps14
     go_wp2_with (first | ((with_reducible refine gate_callee (f := 16) rfl ?_); refine goesL_ (some 16) rfl rfl Try.func16 (by kernel_rfl) rfl #[.string (⟨#[78, 100]⟩ : ByteArray)] rfl (by (try simp only [List.map_toArray, List.map_cons, List.map_nil]); first | done | rfl | (simp only [List.length_drop, List.length_take]; rfl)) ?_; (with_reducible refine (set_Category.calls k (⟨#[78, 100]⟩ : ByteArray) t238 t239 _ A12.out).mono ?_); rintro e w13 ⟨v240, rfl, ho0, hb⟩; refine ⟨_, rfl, ?_⟩; have n0_ := Aside0.mk (Kd.R_lower ho0 (below_size (by repeat (first | (with_reducible first | exact HB.out | apply below_alloc | apply pw_below_drewN | apply below_drew1) | exact HB.out)))); have n1_ := Aside0.mk (below_step (by repeat (first | (with_reducible first | exact HB.out | apply below_alloc | apply pw_below_drewN | apply below_drew1) | exact HB.out)) hb); clear HB; have HO241 := n0_; have HB := n1_; clear n0_ n1_; (try clear hb); (try clear hb2); (try clear hk); (try clear hi); (try clear ho0)))
     go_ret2
     exact ⟨_, by first | rfl | (simp [errW_none, errW_some] <;> rfl) | (simp [*, errW_none, errW_some] <;> rfl), S.r HO241.out, by repeat (first | (with_reducible first | exact HB.out | apply below_alloc | apply pw_below_drewN | apply below_drew1) | exact HB.out)⟩
    ·rw [if_neg c11] at H
     have c11b0 : (a0 == 100) = false := beq_eq_false_iff_ne.mpr c11
     have c11b1 : (a0 != 100) = true := bne_iff_ne.mpr c11
     by_cases c14 : a0 = 119
     ·rw [if_pos c14] at H
      have c14b0 : (a0 == 119) = true := beq_iff_eq.mpr c14
      have c14b1 : (a0 != 119) = false := bne_eq_false_iff_eq.mpr c14
      clear c14
      replace H := Option.bind_eq_some_iff.mp H
      obtain ⟨t242, A150, H⟩ := H
      replace H : ((set_not.f k t242 true).bind fun bt245 => (some (bt245.1, bt245.2))) = some (r1, r2) := H
      have A15 := Aside0.mk A150
      clear A150
      replace H := Option.bind_eq_some_iff.mp H
      obtain ⟨⟨t245, t246⟩, A160, H⟩ := H
      replace H : (some (t245, t246)) = some (r1, r2) := H
      have A16 := Aside0.mk A160
      clear A160
      simp only [Option.some.injEq, Prod.mk.injEq] at H
      obtain ⟨rfl, rfl⟩ := H
      go_enter Try.func14, Try.ntmps14
      go_wp2_with (first | ((with_reducible refine gate_callee (f := 37) rfl ?_); refine goesL_ (some 21) rfl rfl Try.func37 (by kernel_rfl) rfl #[] rfl (by (try simp only [List.map_toArray, List.map_cons, List.map_nil]); first | done | rfl | (simp only [List.length_drop, List.length_take]; rfl)) ?_; (with_reducible refine (set_others.calls k  t242 _ A15.out).mono ?_); rintro e w17 ⟨v243, rfl, ho0, hb⟩; refine ⟨_, rfl, ?_⟩; have n0_ := Aside0.mk (Kd.R_lower ho0 (below_size (by repeat (first | (with_reducible first | exact HB.out | apply below_alloc | apply pw_below_drewN | apply below_drew1) | exact HB.out)))); have n1_ := Aside0.mk (below_step (by repeat (first | (with_reducible first | exact HB.out | apply below_alloc | apply pw_below_drewN | apply below_drew1) | exact HB.out)) hb); clear HB; have HO244 := n0_; have HB := n1_; clear n0_ n1_; (try clear hb); (try clear hb2); (try clear hk); (try clear hi); (try clear ho0); obtain ⟨Ao18, co18, eo18⟩ := Kd.R_slice HO244.out; subst eo18) | ((with_reducible refine gate_callee (f := 36) rfl ?_); refine goesL_ (some 22) rfl rfl Try.func36 (by kernel_rfl) rfl #[.slice Ao18 t242.length co18, .bool true] rfl (by (try simp only [List.map_toArray, List.map_cons, List.map_nil]); first | done | rfl | (simp only [List.length_drop, List.length_take]; rfl)) ?_; (with_reducible refine (set_not.calls k _ _ t242 true t245 t246 _ ?side1 ?side2 A16.out).mono ?_); (case side1 => repeat (first | exact (Kd.R_reads' HO244.out).2.2 | (with_reducible refine Kd.C_alloc ?_ _) | (with_reducible refine Kd.C_drewN ?_ _) | (with_reducible refine Kd.C_drew ?_))); (case side2 => exact (Kd.R_reads' HO244.out).2.1); rintro e w19 ⟨v247, rfl, ho0, hb⟩; refine ⟨_, rfl, ?_⟩; have n0_ := Aside0.mk (Kd.R_elder' (S.r HO244.out) (Kd.R_base ho0) hb); have n1_ := Aside0.mk (Kd.R_lower (Kd.R_new' ho0 (Kd.R_lt (S.r HO244.out))) (below_size (by repeat (first | (with_reducible first | exact HB.out | apply below_alloc | apply pw_below_drewN | apply below_drew1) | exact HB.out)))); have n2_ := Aside0.mk (below_step (by repeat (first | (with_reducible first | exact HB.out | apply below_alloc | apply pw_below_drewN | apply below_drew1) | exact HB.out)) hb); clear HO244; clear HB; have HO244 := n0_; have HO248 := n1_; have HB := n2_; clear n0_ n1_ n2_; (try clear hb); (try clear hb2); (try clear hk); (try clear hi); (try clear ho0)))
      go_ret2
      exact ⟨_, by first | rfl | (simp [errW_none, errW_some] <;> rfl) | (simp [*, errW_none, errW_some] <;> rfl), by (with_reducible repeat (first | apply Kd.R_alloc | apply Kd.R_drewN | apply Kd.R_drew)); exact Kd.R_mono HO248.out (fun _ hk => trivial), by repeat (first | (with_reducible first | exact HB.out | apply below_alloc | apply pw_below_drewN | apply below_drew1) | exact HB.out)⟩
     ·rw [if_neg c14] at H
      have c14b0 : (a0 == 119) = false := beq_eq_false_iff_ne.mpr c14
      have c14b1 : (a0 != 119) = true := bne_iff_ne.mpr c14
      have HC20 := Aside0.mk H
      clear H
      go_enter Try.func14, Try.ntmps14
      go_upto_if 25 with (fail)
      go_cut [25] (fun v25 wc => ∃ (kq : Nat) (x25_19 : Bool), v25 = .bool x25_19 ∧ Aside0 (set_Escape.j0 kq a0 x25_19 = some (r1, r2)) ∧ Aside0 (kq ≤ k) ∧ Aside0 (Below w.heap.size w wc))
      case first =>
       have H := HC20.out
       clear HC20
       by_cases c21 : a0 = 83
       ·rw [if_pos c21] at H
        have c21b0 : (a0 == 83) = true := beq_iff_eq.mpr c21
        have c21b1 : (a0 != 83) = false := bne_eq_false_iff_eq.mpr c21
        clear c21
        (first | rw [c21b0] | (simp only [i64_w, i32_w]; rw [c21b0]) | skip)
        have H' := Aside0.mk H
        clear H
        go_wp2
        go_meet
        case rel => exact ⟨_, ((a0 == 83)), (by first | rfl | (simp; done) | (simp [*]; done)), H', ⟨by first | omega | exact Nat.le_refl _⟩, ⟨by repeat (first | (with_reducible first | exact HB.out | apply below_alloc | apply pw_below_drewN | apply below_drew1) | exact HB.out)⟩⟩
       ·rw [if_neg c21] at H
        have c21b0 : (a0 == 83) = false := beq_eq_false_iff_ne.mpr c21
        have c21b1 : (a0 != 83) = true := bne_iff_ne.mpr c21
        (first | rw [c21b0] | (simp only [i64_w, i32_w]; rw [c21b0]) | skip)
        by_cases c22 : a0 = 73
        ·rw [if_pos c22] at H
         have c22b0 : (a0 == 73) = true := beq_iff_eq.mpr c22
         have c22b1 : (a0 != 73) = false := bne_eq_false_iff_eq.mpr c22
         clear c22
         have H' := Aside0.mk H
         clear H
         go_wp2
         go_meet
         case rel => exact ⟨_, ((a0 == 73)), (by first | rfl | (simp; done) | (simp [*]; done)), H', ⟨by first | omega | exact Nat.le_refl _⟩, ⟨by repeat (first | (with_reducible first | exact HB.out | apply below_alloc | apply pw_below_drewN | apply below_drew1) | exact HB.out)⟩⟩
        ·rw [if_neg c22] at H
         have c22b0 : (a0 == 73) = false := beq_eq_false_iff_ne.mpr c22
         have c22b1 : (a0 != 73) = true := bne_iff_ne.mpr c22
         by_cases c23 : a0 = 67
         ·rw [if_pos c23] at H
          have c23b0 : (a0 == 67) = true := beq_iff_eq.mpr c23
          have c23b1 : (a0 != 67) = false := bne_eq_false_iff_eq.mpr c23
          clear c23
          have H' := Aside0.mk H
          clear H
          go_wp2
          go_meet
          case rel => exact ⟨_, ((a0 == 67)), (by first | rfl | (simp; done) | (simp [*]; done)), H', ⟨by first | omega | exact Nat.le_refl _⟩, ⟨by repeat (first | (with_reducible first | exact HB.out | apply below_alloc | apply pw_below_drewN | apply below_drew1) | exact HB.out)⟩⟩
         ·rw [if_neg c23] at H
          have c23b0 : (a0 == 67) = false := beq_eq_false_iff_ne.mpr c23
          have c23b1 : (a0 != 67) = true := bne_iff_ne.mpr c23
          by_cases c24 : a0 = 68
          ·rw [if_pos c24] at H
           have c24b0 : (a0 == 68) = true := beq_iff_eq.mpr c24
           have c24b1 : (a0 != 68) = false := bne_eq_false_iff_eq.mpr c24
           clear c24
           have H' := Aside0.mk H
           clear H
           go_wp2
           go_meet
           case rel => exact ⟨_, ((a0 == 68)), (by first | rfl | (simp; done) | (simp [*]; done)), H', ⟨by first | omega | exact Nat.le_refl _⟩, ⟨by repeat (first | (with_reducible first | exact HB.out | apply below_alloc | apply pw_below_drewN | apply below_drew1) | exact HB.out)⟩⟩
          ·rw [if_neg c24] at H
           have c24b0 : (a0 == 68) = false := beq_eq_false_iff_ne.mpr c24
           have c24b1 : (a0 != 68) = true := bne_iff_ne.mpr c24
           have H' := Aside0.mk H
           clear H
           go_wp2
           go_meet
           case rel => exact ⟨_, ((a0 == 87)), (by first | rfl | (simp; done) | (simp [*]; done)), H', ⟨by first | omega | exact Nat.le_refl _⟩, ⟨by repeat (first | (with_reducible first | exact HB.out | apply below_alloc | apply pw_below_drewN | apply below_drew1) | exact HB.out)⟩⟩
      case rest =>
       clear HC20
       try clear c1
       try clear c2
       try clear c2b0
       try clear c2b1
       try clear p2
       try clear c3
       try clear c5
       try clear c5b0
       try clear c5b1
       try clear c8
       try clear c8b0
       try clear c8b1
       try clear c11
       try clear c11b0
       try clear c11b1
       try clear c14
       try clear c14b0
       try clear c14b1
       try clear c16
       try clear c21
       try clear c21b0
       try clear c21b1
       try clear c22
       try clear c22b0
       try clear c22b1
       try clear c23
       try clear c23b0
       try clear c23b1
       try clear c24
       try clear c24b0
       try clear c24b1
       obtain ⟨kq, x25_19, rfl, HA, HJ19, HB⟩ := hcut
       cases kq with
       | zero => exact absurd HA.out (by simp [set_Escape.j0])
       | succ kj19 =>
        have H := HA.out
        clear HA
        simp only [set_Escape.j0] at H
        by_cases c25 : x25_19 = true
        ·subst c25
         have H1 : ((set_Escape.f kj19 (Go.bits .or .u8 a0 32)).bind fun bt249 => ((set_not.f kj19 bt249.1 bt249.2).bind fun bt253 => (some (bt253.1, bt253.2)))) = some (r1, r2) := by rw [if_pos rfl] at H; exact H
         clear H
         have H := H1
         clear H1
         replace H := Option.bind_eq_some_iff.mp H
         obtain ⟨⟨t249, t250⟩, A260, H⟩ := H
         replace H : ((set_not.f kj19 t249 t250).bind fun bt253 => (some (bt253.1, bt253.2))) = some (r1, r2) := H
         have A26 := Aside0.mk A260
         clear A260
         replace H := Option.bind_eq_some_iff.mp H
         obtain ⟨⟨t253, t254⟩, A270, H⟩ := H
         replace H : (some (t253, t254)) = some (r1, r2) := H
         have A27 := Aside0.mk A270
         clear A270
         simp only [Option.some.injEq, Prod.mk.injEq] at H
         obtain ⟨rfl, rfl⟩ := H
         go_wp2_with (first | ((with_reducible refine gate_callee (f := 14) rfl ?_); refine goesL_ (some 33) rfl rfl Try.func14 (by kernel_rfl) rfl #[.int .u8 (Go.bits .or .u8 a0 32)] rfl (by (try simp only [List.map_toArray, List.map_cons, List.map_nil]); first | done | rfl | (simp only [List.length_drop, List.length_take]; rfl)) ?_; (with_reducible refine (ih kj19 (by have := HJ19.out; omega) (Go.bits .or .u8 a0 32) t249 t250 _ A26.out).mono ?_); rintro e w28 ⟨v251, rfl, ho0, hb⟩; refine ⟨_, rfl, ?_⟩; have n0_ := Aside0.mk (Kd.R_lower ho0 (below_size (by repeat (first | (with_reducible first | exact HB.out | apply below_alloc | apply pw_below_drewN | apply below_drew1) | exact HB.out)))); have n1_ := Aside0.mk (below_step (by repeat (first | (with_reducible first | exact HB.out | apply below_alloc | apply pw_below_drewN | apply below_drew1) | exact HB.out)) hb); clear HB; have HO252 := n0_; have HB := n1_; clear n0_ n1_; (try clear hb); (try clear hb2); (try clear hk); (try clear hi); (try clear ho0); obtain ⟨Ao29, co29, eo29⟩ := Kd.R_slice HO252.out; subst eo29) | ((with_reducible refine gate_callee (f := 36) rfl ?_); refine goesL_ (some 36) rfl rfl Try.func36 (by kernel_rfl) rfl #[.slice Ao29 t249.length co29, .bool t250] rfl (by (try simp only [List.map_toArray, List.map_cons, List.map_nil]); first | done | rfl | (simp only [List.length_drop, List.length_take]; rfl)) ?_; (with_reducible refine (set_not.calls kj19 _ _ t249 t250 t253 t254 _ ?side1 ?side2 A27.out).mono ?_); (case side1 => repeat (first | exact (Kd.R_reads' HO252.out).2.2 | (with_reducible refine Kd.C_alloc ?_ _) | (with_reducible refine Kd.C_drewN ?_ _) | (with_reducible refine Kd.C_drew ?_))); (case side2 => exact (Kd.R_reads' HO252.out).2.1); rintro e w30 ⟨v255, rfl, ho0, hb⟩; refine ⟨_, rfl, ?_⟩; have n0_ := Aside0.mk (Kd.R_elder' (S.r HO252.out) (Kd.R_base ho0) hb); have n1_ := Aside0.mk (Kd.R_lower (Kd.R_new' ho0 (Kd.R_lt (S.r HO252.out))) (below_size (by repeat (first | (with_reducible first | exact HB.out | apply below_alloc | apply pw_below_drewN | apply below_drew1) | exact HB.out)))); have n2_ := Aside0.mk (below_step (by repeat (first | (with_reducible first | exact HB.out | apply below_alloc | apply pw_below_drewN | apply below_drew1) | exact HB.out)) hb); clear HO252; clear HB; have HO252 := n0_; have HO256 := n1_; have HB := n2_; clear n0_ n1_ n2_; (try clear hb); (try clear hb2); (try clear hk); (try clear hi); (try clear ho0)))
         go_ret2
         exact ⟨_, by first | rfl | (simp [errW_none, errW_some] <;> rfl) | (simp [*, errW_none, errW_some] <;> rfl), by (with_reducible repeat (first | apply Kd.R_alloc | apply Kd.R_drewN | apply Kd.R_drew)); exact Kd.R_mono HO256.out (fun _ hk => trivial), by repeat (first | (with_reducible first | exact HB.out | apply below_alloc | apply pw_below_drewN | apply below_drew1) | exact HB.out)⟩
        ·replace c25 := Bool.eq_false_iff.mpr c25
         subst c25
         have H1 : (some (([] : List (S24)), false)) = some (r1, r2) := by rw [if_neg (show ¬ (false = true) by decide)] at H; exact H
         clear H
         have H := H1
         clear H1
         simp only [Option.some.injEq, Prod.mk.injEq] at H
         obtain ⟨rfl, rfl⟩ := H
         go_wp2
         go_ret2
         exact ⟨_, by first | rfl | (simp [errW_none, errW_some] <;> rfl) | (simp [*, errW_none, errW_some] <;> rfl), by first | exact Kd.R_nil _ _ _ _ _ | exact Kd.N_nil _ _ _ _ _ | exact Kd.V_nil _ _ _ _ _ | exact Kd.Q_nil _ _ _ _ _ | exact Kd.S_nil _ _ _ _ _, by repeat (first | (with_reducible first | exact HB.out | apply below_alloc | apply pw_below_drewN | apply below_drew1) | exact HB.out)⟩

/-! ### rubriclaw7_known: function 7 -/
def rubriclaw7_known.f (k : Nat)  : Option (Bool) := (set_Of.f k (([(⟨97, 99⟩ : S24), (⟨100, 102⟩ : S24)] : List (S24)))).bind fun t260 => ((set_Escape.f k 100).bind fun bt263 => ((set_Escape.f k 113).bind fun bt267 => (if (t260.length : Int) = 1 then ((G.set_Has.f t260 101).bind fun t271 => (if t271 = true then ((set_Set_Size.f k t260).bind fun t272 => (if t272 = 6 then ((set_Set_Not.f k t260).bind fun t273 => ((G.set_Has.f t273 97).bind fun t276 => (if t276 = true then (some false) else (if bt263.2 = true then ((G.set_Has.f bt263.1 53).bind fun t277 => (if t277 = true then (some (!bt267.2)) else (some false))) else (some false))))) else (some false))) else (some false))) else (some false))))
theorem rubriclaw7_known.mono : ∀ k, LeO (rubriclaw7_known.f k ) (rubriclaw7_known.f (k + 1) ) := by
 intro  k
 unfold rubriclaw7_known.f
 repeat' first
   | (with_reducible exact set_Escape.mono _ _)
   | (with_reducible exact set_Of.mono _ _)
   | (with_reducible exact set_Set_Not.mono _ _)
   | (with_reducible exact set_Set_Size.mono _ _)
   | (with_reducible exact LeO.refl _)
   | (with_reducible exact LeO.none _)
   | (with_reducible refine LeO.ite ?_ ?_)
   | (with_reducible refine LeO.bind ?_ (fun _ => ?_))
   | exact set_Escape.mono _ _
   | exact set_Of.mono _ _
   | exact set_Set_Not.mono _ _
   | exact set_Set_Size.mono _ _
   | exact LeO.none _
   | refine LeO.ite ?_ ?_
   | refine LeO.bind ?_ (fun _ => ?_)
set_option maxHeartbeats 8000000 in
set_option maxRecDepth 100000 in
theorem rubriclaw7_known.calls (k : Nat)  (r : Bool) (w : World) (h : rubriclaw7_known.f k  = some r) (hrt : r = true) :
  Calls Try.prog 7 #[] w fun e w' => e = .returned (.bool r) ∧ Below w.heap.size w w' := by
 have hu24 := Try.underlying24
 have HB := Aside0.mk (Below.refl w.heap.size w)
 have HRT := Aside0.mk hrt
 clear hrt
 have H : ((set_Of.f k (([(⟨97, 99⟩ : S24), (⟨100, 102⟩ : S24)] : List (S24)))).bind fun t260 => ((set_Escape.f k 100).bind fun bt263 => ((set_Escape.f k 113).bind fun bt267 => (if (t260.length : Int) = 1 then ((G.set_Has.f t260 101).bind fun t271 => (if t271 = true then ((set_Set_Size.f k t260).bind fun t272 => (if t272 = 6 then ((set_Set_Not.f k t260).bind fun t273 => ((G.set_Has.f t273 97).bind fun t276 => (if t276 = true then (some false) else (if bt263.2 = true then ((G.set_Has.f bt263.1 53).bind fun t277 => (if t277 = true then (some (!bt267.2)) else (some false))) else (some false))))) else (some false))) else (some false))) else (some false))))) = some r := h
 clear h
 obtain ⟨y257, hy257⟩ : ∃ y_ : List (S24), y_ = (([(⟨97, 99⟩ : S24), (⟨100, 102⟩ : S24)] : List (S24))) := ⟨_, rfl⟩
 replace H : ((set_Of.f k y257).bind fun t260 => ((set_Escape.f k 100).bind fun bt263 => ((set_Escape.f k 113).bind fun bt267 => (if (t260.length : Int) = 1 then ((G.set_Has.f t260 101).bind fun t271 => (if t271 = true then ((set_Set_Size.f k t260).bind fun t272 => (if t272 = 6 then ((set_Set_Not.f k t260).bind fun t273 => ((G.set_Has.f t273 97).bind fun t276 => (if t276 = true then (some false) else (if bt263.2 = true then ((G.set_Has.f bt263.1 53).bind fun t277 => (if t277 = true then (some (!bt267.2)) else (some false))) else (some false))))) else (some false))) else (some false))) else (some false))))) = some r := by first | (rw [hy257]; with_reducible exact H) | (have H2_ := (Option.bind_some _ _).symm.trans H; rw [hy257]; with_reducible exact H2_) | (have H2_ := (Option.bind_some _ _).symm.trans H; with_reducible exact H2_) | with_reducible exact H | (rw [hy257]; exact H) | exact H
 have Ny257 := Aside0.mk hy257
 clear hy257
 replace H := Option.bind_eq_some_iff.mp H
 obtain ⟨t260, A10, H⟩ := H
 replace H : ((set_Escape.f k 100).bind fun bt263 => ((set_Escape.f k 113).bind fun bt267 => (if (t260.length : Int) = 1 then ((G.set_Has.f t260 101).bind fun t271 => (if t271 = true then ((set_Set_Size.f k t260).bind fun t272 => (if t272 = 6 then ((set_Set_Not.f k t260).bind fun t273 => ((G.set_Has.f t273 97).bind fun t276 => (if t276 = true then (some false) else (if bt263.2 = true then ((G.set_Has.f bt263.1 53).bind fun t277 => (if t277 = true then (some (!bt267.2)) else (some false))) else (some false))))) else (some false))) else (some false))) else (some false)))) = some r := H
 have A1 := Aside0.mk A10
 clear A10
 replace H := Option.bind_eq_some_iff.mp H
 obtain ⟨⟨t263, t264⟩, A20, H⟩ := H
 replace H : ((set_Escape.f k 113).bind fun bt267 => (if (t260.length : Int) = 1 then ((G.set_Has.f t260 101).bind fun t271 => (if t271 = true then ((set_Set_Size.f k t260).bind fun t272 => (if t272 = 6 then ((set_Set_Not.f k t260).bind fun t273 => ((G.set_Has.f t273 97).bind fun t276 => (if t276 = true then (some false) else (if t264 = true then ((G.set_Has.f t263 53).bind fun t277 => (if t277 = true then (some (!bt267.2)) else (some false))) else (some false))))) else (some false))) else (some false))) else (some false))) = some r := H
 have A2 := Aside0.mk A20
 clear A20
 replace H := Option.bind_eq_some_iff.mp H
 obtain ⟨⟨t267, t268⟩, A30, H⟩ := H
 replace H : (if (t260.length : Int) = 1 then ((G.set_Has.f t260 101).bind fun t271 => (if t271 = true then ((set_Set_Size.f k t260).bind fun t272 => (if t272 = 6 then ((set_Set_Not.f k t260).bind fun t273 => ((G.set_Has.f t273 97).bind fun t276 => (if t276 = true then (some false) else (if t264 = true then ((G.set_Has.f t263 53).bind fun t277 => (if t277 = true then (some (!t268)) else (some false))) else (some false))))) else (some false))) else (some false))) else (some false)) = some r := H
 have A3 := Aside0.mk A30
 clear A30
 by_cases c4 : (t260.length : Int) = 1
 ·rw [if_pos c4] at H
  have c4b0 : ((t260.length : Int) == 1) = true := beq_iff_eq.mpr c4
  have c4b1 : ((t260.length : Int) != 1) = false := bne_eq_false_iff_eq.mpr c4
  clear c4
  replace H := Option.bind_eq_some_iff.mp H
  obtain ⟨t271, A50, H⟩ := H
  replace H : (if t271 = true then ((set_Set_Size.f k t260).bind fun t272 => (if t272 = 6 then ((set_Set_Not.f k t260).bind fun t273 => ((G.set_Has.f t273 97).bind fun t276 => (if t276 = true then (some false) else (if t264 = true then ((G.set_Has.f t263 53).bind fun t277 => (if t277 = true then (some (!t268)) else (some false))) else (some false))))) else (some false))) else (some false)) = some r := H
  have A5 := Aside0.mk A50
  clear A50
  by_cases c6 : t271 = true
  ·subst c6
   have H1 : ((set_Set_Size.f k t260).bind fun t272 => (if t272 = 6 then ((set_Set_Not.f k t260).bind fun t273 => ((G.set_Has.f t273 97).bind fun t276 => (if t276 = true then (some false) else (if t264 = true then ((G.set_Has.f t263 53).bind fun t277 => (if t277 = true then (some (!t268)) else (some false))) else (some false))))) else (some false))) = some r := by rw [if_pos rfl] at H; exact H
   clear H
   have H := H1
   clear H1
   replace H := Option.bind_eq_some_iff.mp H
   obtain ⟨t272, A70, H⟩ := H
   replace H : (if t272 = 6 then ((set_Set_Not.f k t260).bind fun t273 => ((G.set_Has.f t273 97).bind fun t276 => (if t276 = true then (some false) else (if t264 = true then ((G.set_Has.f t263 53).bind fun t277 => (if t277 = true then (some (!t268)) else (some false))) else (some false))))) else (some false)) = some r := H
   have A7 := Aside0.mk A70
   clear A70
   by_cases c8 : t272 = 6
   ·rw [if_pos c8] at H
    have c8b0 : (t272 == 6) = true := beq_iff_eq.mpr c8
    have c8b1 : (t272 != 6) = false := bne_eq_false_iff_eq.mpr c8
    clear c8
    replace H := Option.bind_eq_some_iff.mp H
    obtain ⟨t273, A90, H⟩ := H
    replace H : ((G.set_Has.f t273 97).bind fun t276 => (if t276 = true then (some false) else (if t264 = true then ((G.set_Has.f t263 53).bind fun t277 => (if t277 = true then (some (!t268)) else (some false))) else (some false)))) = some r := H
    have A9 := Aside0.mk A90
    clear A90
    replace H := Option.bind_eq_some_iff.mp H
    obtain ⟨t276, A100, H⟩ := H
    replace H : (if t276 = true then (some false) else (if t264 = true then ((G.set_Has.f t263 53).bind fun t277 => (if t277 = true then (some (!t268)) else (some false))) else (some false))) = some r := H
    have A10 := Aside0.mk A100
    clear A100
    by_cases c11 : t276 = true
    ·subst c11
     have H1 : (some false) = some r := by rw [if_pos rfl] at H; exact H
     clear H
     have H := H1
     clear H1
     exact absurd ((Option.some.inj H).trans HRT.out) (by decide)
    ·replace c11 := Bool.eq_false_iff.mpr c11
     subst c11
     have H1 : (if t264 = true then ((G.set_Has.f t263 53).bind fun t277 => (if t277 = true then (some (!t268)) else (some false))) else (some false)) = some r := by rw [if_neg (show ¬ (false = true) by decide)] at H; exact H
     clear H
     have H := H1
     clear H1
     by_cases c12 : t264 = true
     ·subst c12
      have H1 : ((G.set_Has.f t263 53).bind fun t277 => (if t277 = true then (some (!t268)) else (some false))) = some r := by rw [if_pos rfl] at H; exact H
      clear H
      have H := H1
      clear H1
      replace H := Option.bind_eq_some_iff.mp H
      obtain ⟨t277, A130, H⟩ := H
      replace H : (if t277 = true then (some (!t268)) else (some false)) = some r := H
      have A13 := Aside0.mk A130
      clear A130
      by_cases c14 : t277 = true
      ·subst c14
       have H1 : (some (!t268)) = some r := by rw [if_pos rfl] at H; exact H
       clear H
       have H := H1
       clear H1
       obtain rfl := Option.some.inj H
       go_enter Try.func7, Try.ntmps7
       go_wp2_with (first | ((with_reducible refine gate_dst (N := 8) rfl ?_); refine Kd.R_lit k24 _ 24 ?hg (N := 8) ?hd (xs := ([(⟨97, 99⟩ : S24), (⟨100, 102⟩ : S24)] : List (S24))) (inner := [.int .i32 97, .int .i32 99, .int .i32 100, .int .i32 102]) (ok := fun _ => True) (okp := fun _ => True) ?hr ?hp (fun _ hk => hk) trivial (Below.refl _ _) (Nat.le_refl _) (by simp) ?_; (case hd => rfl); (case hg => rfl); (case hr => first | (go_simp; done) | (go_simp; rfl)); (case hp => exact (Reps.c2 (show Kd.M k24 _ _ _ (⟨97, 99⟩ : S24) [.int .i32 97, .int .i32 99] from (k24_mkM _ _ _ (⟨97, 99⟩ : S24) )) (Reps.c2 (show Kd.M k24 _ _ _ (⟨100, 102⟩ : S24) [.int .i32 100, .int .i32 102] from (k24_mkM _ _ _ (⟨100, 102⟩ : S24) )) (Reps.none _ _)))); intro v258 w15 ho16 hb hg_ hnew_; clear hg_ hnew_; (first | rw [← Ny257.out] at ho16 | (simp only [Int.reduceToNat] at ho16; rw [← Ny257.out] at ho16)); have n0_ := Aside0.mk (Kd.R_lower ho16 (below_size (by repeat (first | (with_reducible first | exact HB.out | apply below_alloc | apply pw_below_drewN | apply below_drew1) | exact HB.out)))); have n1_ := Aside0.mk (below_step (by repeat (first | (with_reducible first | exact HB.out | apply below_alloc | apply pw_below_drewN | apply below_drew1) | exact HB.out)) hb); clear HB; have HO259 := n0_; have HB := n1_; clear n0_ n1_; clear hb ho16; obtain ⟨Ao17, co17, eo17⟩ := Kd.R_slice HO259.out; subst eo17) | ((with_reducible refine gate_callee (f := 8) rfl ?_); refine goesL_ (some 9) rfl rfl Try.func8 (by kernel_rfl) rfl #[.slice Ao17 y257.length co17] rfl (by (try simp only [List.map_toArray, List.map_cons, List.map_nil]); first | done | rfl | (simp only [List.length_drop, List.length_take]; rfl)) ?_; (with_reducible refine (set_Of.calls k _ _ y257 t260 _ ?side1 ?side2 A1.out).mono ?_); (case side1 => repeat (first | exact (Kd.R_reads' HO259.out).2.2 | (with_reducible refine Kd.C_alloc ?_ _) | (with_reducible refine Kd.C_drewN ?_ _) | (with_reducible refine Kd.C_drew ?_))); (case side2 => exact (Kd.R_reads' HO259.out).2.1); rintro e w18 ⟨v261, rfl, ho0, hb⟩; refine ⟨_, rfl, ?_⟩; have n0_ := Aside0.mk (Kd.R_elder' (S.r HO259.out) (Kd.R_base ho0) hb); have n1_ := Aside0.mk (Kd.R_lower (Kd.R_new' ho0 (Kd.R_lt (S.r HO259.out))) (below_size (by repeat (first | (with_reducible first | exact HB.out | apply below_alloc | apply pw_below_drewN | apply below_drew1) | exact HB.out)))); have n2_ := Aside0.mk (below_step (by repeat (first | (with_reducible first | exact HB.out | apply below_alloc | apply pw_below_drewN | apply below_drew1) | exact HB.out)) hb); clear HO259; clear HB; have HO259 := n0_; have HO262 := n1_; have HB := n2_; clear n0_ n1_ n2_; (try clear hb); (try clear hb2); (try clear hk); (try clear hi); (try clear ho0)) | ((with_reducible refine gate_callee (f := 14) rfl ?_); refine goesL_ (some 11) rfl rfl Try.func14 (by kernel_rfl) rfl #[.int .u8 100] rfl (by (try simp only [List.map_toArray, List.map_cons, List.map_nil]); first | done | rfl | (simp only [List.length_drop, List.length_take]; rfl)) ?_; (with_reducible refine (set_Escape.calls k 100 t263 true _ A2.out).mono ?_); rintro e w19 ⟨v265, rfl, ho0, hb⟩; refine ⟨_, rfl, ?_⟩; have n0_ := Aside0.mk (Kd.R_elder' (S.r HO259.out) (Kd.R_base ho0) hb); have n1_ := Aside0.mk (Kd.R_elder' (S.r HO262.out) (Kd.R_base ho0) hb); have n2_ := Aside0.mk (Kd.R_lower (Kd.R_new' (Kd.R_new' ho0 (Kd.R_lt (S.r HO259.out))) (Kd.R_lt (S.r HO262.out))) (below_size (by repeat (first | (with_reducible first | exact HB.out | apply below_alloc | apply pw_below_drewN | apply below_drew1) | exact HB.out)))); have n3_ := Aside0.mk (below_step (by repeat (first | (with_reducible first | exact HB.out | apply below_alloc | apply pw_below_drewN | apply below_drew1) | exact HB.out)) hb); clear HO259; clear HO262; clear HB; have HO259 := n0_; have HO262 := n1_; have HO266 := n2_; have HB := n3_; clear n0_ n1_ n2_ n3_; (try clear hb); (try clear hb2); (try clear hk); (try clear hi); (try clear ho0)) | ((with_reducible refine gate_callee (f := 14) rfl ?_); refine goesL_ (some 15) rfl rfl Try.func14 (by kernel_rfl) rfl #[.int .u8 113] rfl (by (try simp only [List.map_toArray, List.map_cons, List.map_nil]); first | done | rfl | (simp only [List.length_drop, List.length_take]; rfl)) ?_; (with_reducible refine (set_Escape.calls k 113 t267 t268 _ A3.out).mono ?_); rintro e w20 ⟨v269, rfl, ho0, hb⟩; refine ⟨_, rfl, ?_⟩; have n0_ := Aside0.mk (Kd.R_elder' (S.r HO259.out) (Kd.R_base ho0) hb); have n1_ := Aside0.mk (Kd.R_elder' (S.r HO262.out) (Kd.R_base ho0) hb); have n2_ := Aside0.mk (Kd.R_elder' (S.r HO266.out) (Kd.R_base ho0) hb); have n3_ := Aside0.mk (Kd.R_lower (Kd.R_new' (Kd.R_new' (Kd.R_new' ho0 (Kd.R_lt (S.r HO259.out))) (Kd.R_lt (S.r HO262.out))) (Kd.R_lt (S.r HO266.out))) (below_size (by repeat (first | (with_reducible first | exact HB.out | apply below_alloc | apply pw_below_drewN | apply below_drew1) | exact HB.out)))); have n4_ := Aside0.mk (below_step (by repeat (first | (with_reducible first | exact HB.out | apply below_alloc | apply pw_below_drewN | apply below_drew1) | exact HB.out)) hb); clear HO259; clear HO262; clear HO266; clear HB; have HO259 := n0_; have HO262 := n1_; have HO266 := n2_; have HO270 := n3_; have HB := n4_; clear n0_ n1_ n2_ n3_ n4_; (try clear hb); (try clear hb2); (try clear hk); (try clear hi); (try clear ho0); obtain ⟨Ao21, co21, eo21⟩ := Kd.R_slice HO262.out; subst eo21) | (go_at_call 11; (with_reducible refine (G.set_Has.calls _ _ t260 101 true _ ?side1 ?side2 A5.out).mono ?_); (case side1 => repeat (first | exact (Kd.R_reads' HO262.out).2.2 | (with_reducible refine Kd.C_alloc ?_ _) | (with_reducible refine Kd.C_drewN ?_ _) | (with_reducible refine Kd.C_drew ?_))); (case side2 => exact (Kd.R_reads' HO262.out).2.1); rintro e w22 ⟨rfl, hb⟩; have n0_ := Aside0.mk (Kd.R_below (S.r HO259.out) hb); have n1_ := Aside0.mk (Kd.R_below (S.r HO262.out) hb); have n2_ := Aside0.mk (Kd.R_below (S.r HO266.out) hb); have n3_ := Aside0.mk (Kd.R_below (S.r HO270.out) hb); have n4_ := Aside0.mk (below_step (by repeat (first | (with_reducible first | exact HB.out | apply below_alloc | apply pw_below_drewN | apply below_drew1) | exact HB.out)) hb); clear HO259; clear HO262; clear HO266; clear HO270; clear HB; have HO259 := n0_; have HO262 := n1_; have HO266 := n2_; have HO270 := n3_; have HB := n4_; clear n0_ n1_ n2_ n3_ n4_; (try clear hb); (try clear hb2); (try clear hk); (try clear hi)) | (go_at_call 9; (with_reducible refine (set_Set_Size.calls k _ _ t260 t272 _ ?side1 ?side2 A7.out).mono ?_); (case side1 => repeat (first | exact (Kd.R_reads' HO262.out).2.2 | (with_reducible refine Kd.C_alloc ?_ _) | (with_reducible refine Kd.C_drewN ?_ _) | (with_reducible refine Kd.C_drew ?_))); (case side2 => exact (Kd.R_reads' HO262.out).2.1); rintro e w23 ⟨rfl, hb⟩; have n0_ := Aside0.mk (Kd.R_below (S.r HO259.out) hb); have n1_ := Aside0.mk (Kd.R_below (S.r HO262.out) hb); have n2_ := Aside0.mk (Kd.R_below (S.r HO266.out) hb); have n3_ := Aside0.mk (Kd.R_below (S.r HO270.out) hb); have n4_ := Aside0.mk (below_step (by repeat (first | (with_reducible first | exact HB.out | apply below_alloc | apply pw_below_drewN | apply below_drew1) | exact HB.out)) hb); clear HO259; clear HO262; clear HO266; clear HO270; clear HB; have HO259 := n0_; have HO262 := n1_; have HO266 := n2_; have HO270 := n3_; have HB := n4_; clear n0_ n1_ n2_ n3_ n4_; (try clear hb); (try clear hb2); (try clear hk); (try clear hi)) | (go_at_call 25; (with_reducible refine (set_Set_Not.calls k _ _ t260 t273 _ ?side1 ?side2 A9.out).mono ?_); (case side1 => repeat (first | exact (Kd.R_reads' HO262.out).2.2 | (with_reducible refine Kd.C_alloc ?_ _) | (with_reducible refine Kd.C_drewN ?_ _) | (with_reducible refine Kd.C_drew ?_))); (case side2 => exact (Kd.R_reads' HO262.out).2.1); rintro e w24 ⟨v274, rfl, ho0, hb⟩; have n0_ := Aside0.mk (Kd.R_elder' (S.r HO259.out) (Kd.R_base ho0) hb); have n1_ := Aside0.mk (Kd.R_elder' (S.r HO262.out) (Kd.R_base ho0) hb); have n2_ := Aside0.mk (Kd.R_elder' (S.r HO266.out) (Kd.R_base ho0) hb); have n3_ := Aside0.mk (Kd.R_elder' (S.r HO270.out) (Kd.R_base ho0) hb); have n4_ := Aside0.mk (Kd.R_lower (Kd.R_new' (Kd.R_new' (Kd.R_new' (Kd.R_new' ho0 (Kd.R_lt (S.r HO259.out))) (Kd.R_lt (S.r HO262.out))) (Kd.R_lt (S.r HO266.out))) (Kd.R_lt (S.r HO270.out))) (below_size (by repeat (first | (with_reducible first | exact HB.out | apply below_alloc | apply pw_below_drewN | apply below_drew1) | exact HB.out)))); have n5_ := Aside0.mk (below_step (by repeat (first | (with_reducible first | exact HB.out | apply below_alloc | apply pw_below_drewN | apply below_drew1) | exact HB.out)) hb); clear HO259; clear HO262; clear HO266; clear HO270; clear HB; have HO259 := n0_; have HO262 := n1_; have HO266 := n2_; have HO270 := n3_; have HO275 := n4_; have HB := n5_; clear n0_ n1_ n2_ n3_ n4_ n5_; (try clear hb); (try clear hb2); (try clear hk); (try clear hi); (try clear ho0); obtain ⟨Ao25, co25, eo25⟩ := Kd.R_slice HO275.out; subst eo25) | (go_at_call 11; (with_reducible refine (G.set_Has.calls _ _ t273 97 false _ ?side1 ?side2 A10.out).mono ?_); (case side1 => repeat (first | exact (Kd.R_reads' HO275.out).2.2 | (with_reducible refine Kd.C_alloc ?_ _) | (with_reducible refine Kd.C_drewN ?_ _) | (with_reducible refine Kd.C_drew ?_))); (case side2 => exact (Kd.R_reads' HO275.out).2.1); rintro e w26 ⟨rfl, hb⟩; have n0_ := Aside0.mk (Kd.R_below (S.r HO259.out) hb); have n1_ := Aside0.mk (Kd.R_below (S.r HO262.out) hb); have n2_ := Aside0.mk (Kd.R_below (S.r HO266.out) hb); have n3_ := Aside0.mk (Kd.R_below (S.r HO270.out) hb); have n4_ := Aside0.mk (Kd.R_below (S.r HO275.out) hb); have n5_ := Aside0.mk (below_step (by repeat (first | (with_reducible first | exact HB.out | apply below_alloc | apply pw_below_drewN | apply below_drew1) | exact HB.out)) hb); clear HO259; clear HO262; clear HO266; clear HO270; clear HO275; clear HB; have HO259 := n0_; have HO262 := n1_; have HO266 := n2_; have HO270 := n3_; have HO275 := n4_; have HB := n5_; clear n0_ n1_ n2_ n3_ n4_ n5_; (try clear hb); (try clear hb2); (try clear hk); (try clear hi); obtain ⟨Ao27, co27, eo27⟩ := Kd.R_slice HO266.out; subst eo27) | (go_at_call 11; (with_reducible refine (G.set_Has.calls _ _ t263 53 true _ ?side1 ?side2 A13.out).mono ?_); (case side1 => repeat (first | exact (Kd.R_reads' HO266.out).2.2 | (with_reducible refine Kd.C_alloc ?_ _) | (with_reducible refine Kd.C_drewN ?_ _) | (with_reducible refine Kd.C_drew ?_))); (case side2 => exact (Kd.R_reads' HO266.out).2.1); rintro e w28 ⟨rfl, hb⟩; have n0_ := Aside0.mk (Kd.R_below (S.r HO259.out) hb); have n1_ := Aside0.mk (Kd.R_below (S.r HO262.out) hb); have n2_ := Aside0.mk (Kd.R_below (S.r HO266.out) hb); have n3_ := Aside0.mk (Kd.R_below (S.r HO270.out) hb); have n4_ := Aside0.mk (Kd.R_below (S.r HO275.out) hb); have n5_ := Aside0.mk (below_step (by repeat (first | (with_reducible first | exact HB.out | apply below_alloc | apply pw_below_drewN | apply below_drew1) | exact HB.out)) hb); clear HO259; clear HO262; clear HO266; clear HO270; clear HO275; clear HB; have HO259 := n0_; have HO262 := n1_; have HO266 := n2_; have HO270 := n3_; have HO275 := n4_; have HB := n5_; clear n0_ n1_ n2_ n3_ n4_ n5_; (try clear hb); (try clear hb2); (try clear hk); (try clear hi)))
       go_ret
       exact ⟨by first | rfl | (simp [errW_none, errW_some] <;> rfl) | (simp [*, errW_none, errW_some] <;> rfl), by repeat (first | (with_reducible first | exact HB.out | apply below_alloc | apply pw_below_drewN | apply below_drew1) | exact HB.out)⟩
      ·replace c14 := Bool.eq_false_iff.mpr c14
       subst c14
       have H1 : (some false) = some r := by rw [if_neg (show ¬ (false = true) by decide)] at H; exact H
       clear H
       have H := H1
       clear H1
       exact absurd ((Option.some.inj H).trans HRT.out) (by decide)
     ·replace c12 := Bool.eq_false_iff.mpr c12
      subst c12
      have H1 : (some false) = some r := by rw [if_neg (show ¬ (false = true) by decide)] at H; exact H
      clear H
      have H := H1
      clear H1
      exact absurd ((Option.some.inj H).trans HRT.out) (by decide)
   ·rw [if_neg c8] at H
    have c8b0 : (t272 == 6) = false := beq_eq_false_iff_ne.mpr c8
    have c8b1 : (t272 != 6) = true := bne_iff_ne.mpr c8
    exact absurd ((Option.some.inj H).trans HRT.out) (by decide)
  ·replace c6 := Bool.eq_false_iff.mpr c6
   subst c6
   have H1 : (some false) = some r := by rw [if_neg (show ¬ (false = true) by decide)] at H; exact H
   clear H
   have H := H1
   clear H1
   exact absurd ((Option.some.inj H).trans HRT.out) (by decide)
 ·rw [if_neg c4] at H
  have c4b0 : ((t260.length : Int) == 1) = false := beq_eq_false_iff_ne.mpr c4
  have c4b1 : ((t260.length : Int) != 1) = true := bne_iff_ne.mpr c4
  exact absurd ((Option.some.inj H).trans HRT.out) (by decide)

end Go.Proofs.Ytjhmpippcndloaa.Pr
