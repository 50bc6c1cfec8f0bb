-- printed by wip/gprint.py (ours) out of the translation, by the kit's print program with given contracts
import Derived.Test.YtnafjabpkbahdaaPrx0
namespace Go.Proofs.Ytnafjabpkbahdaa.Pr
open Go.RowKit Go.Proofs.YtnafjabpkbahdaaW.PrintWords Go.Proofs.YtnafjabpkbahdaaW.PrintLast Go.Proofs.YtnafjabpkbahdaaW.PrintMore
attribute [local go_sem] max2_int min2_int max_two min_two max_three min_three max_four min_four   -- for this text's walks alone
set_option linter.unusedVariables false
set_option linter.unusedSimpArgs false

/-! ### rubricref5_Dec_zero: function 40 -/
def rubricref5_Dec_zero.l0 : Nat → Int → Bool → List Int → Int → Option (Bool)
 | 0, _, _, _, _ => none
 | k + 1, x3, x302000, x302001, x302002 => if x3 < (x302001.length : Int) then (if 0 ≤ x3 then (if (rd x302001 x3) = 0 then (rubricref5_Dec_zero.l0 k (wrap64 (x3 + 1)) x302000 x302001 x302002) else (some false)) else (none)) else (some true)
def rubricref5_Dec_zero.f (k : Nat) (a0_0 : Bool) (l0_1 : List Int) (a0_2 : Int) : Option (Bool) := rubricref5_Dec_zero.l0 k 0 a0_0 l0_1 a0_2
theorem rubricref5_Dec_zero.mono_l : ∀ k, (∀ y0 y1 y2 y3, LeO (rubricref5_Dec_zero.l0 k y0 y1 y2 y3) (rubricref5_Dec_zero.l0 (k + 1) y0 y1 y2 y3))
 | 0 => fun _ _ _ _ r h => by simp [rubricref5_Dec_zero.l0] at h
 | k + 1 => by
  have ih0 := rubricref5_Dec_zero.mono_l k
  ·intro y0 y1 y2 y3
   unfold rubricref5_Dec_zero.l0
   repeat' first
   | (with_reducible exact ih0 _ _ _ _)
   | (with_reducible exact LeO.refl _)
   | (with_reducible exact LeO.none _)
   | (with_reducible refine LeO.ite ?_ ?_)
   | (with_reducible refine LeO.bind ?_ (fun _ => ?_))
   | exact ih0 _ _ _ _
   | exact LeO.none _
   | refine LeO.ite ?_ ?_
   | refine LeO.bind ?_ (fun _ => ?_)
theorem rubricref5_Dec_zero.mono : ∀ a0 a1 a2 k, LeO (rubricref5_Dec_zero.f k a0 a1 a2) (rubricref5_Dec_zero.f (k + 1) a0 a1 a2) := by
 intro a0 a1 a2 k
 have ih0 := rubricref5_Dec_zero.mono_l k
 unfold rubricref5_Dec_zero.f
 repeat' first
   | (with_reducible exact ih0 _ _ _ _)
   | (with_reducible exact LeO.refl _)
   | (with_reducible exact LeO.none _)
   | (with_reducible refine LeO.ite ?_ ?_)
   | (with_reducible refine LeO.bind ?_ (fun _ => ?_))
   | exact ih0 _ _ _ _
   | exact LeO.none _
   | refine LeO.ite ?_ ?_
   | refine LeO.bind ?_ (fun _ => ?_)
set_option maxHeartbeats 8000000 in
set_option maxRecDepth 100000 in
theorem rubricref5_Dec_zero.calls (k : Nat) (a0_0 : Bool) (A0_1 : Option Addr) (c0_1 : Nat) (l0_1 : List Int) (a0_2 : Int) (r : Bool) (w : World) (hr0_1 : Kd.C (Kd.int .u8) w A0_1 l0_1.length l0_1) (hc0_1 : l0_1.length ≤ c0_1) (h : rubricref5_Dec_zero.f k a0_0 l0_1 a0_2 = some r) :
  Calls Try.prog 40 #[.agg #[.bool a0_0, .slice A0_1 l0_1.length c0_1, .int .i64 a0_2]] w fun e w' => e = .returned (.bool r) ∧ Below w.heap.size w w' := by
 have hu36 := Try.underlying36
 have HR0_1 := Aside0.mk hr0_1
 have HC0_1 := Aside0.mk hc0_1
 clear hr0_1 hc0_1
 have HB := Aside0.mk (Below.refl w.heap.size w)
 have H : (rubricref5_Dec_zero.l0 k 0 a0_0 l0_1 a0_2) = some r := h
 clear h
 have H' := Aside0.mk H
 clear H
 go_enter Try.func40, Try.ntmps40
 go_wp2_with (first | ((with_reducible refine gate_dst (N := 1) rfl ?_); refine box_event ?hg (N := 1) ?hd (cs := #[.bool a0_0, .slice A0_1 l0_1.length c0_1, .int .i64 a0_2]) (t := 36) ?hr ?_; (case hd => rfl); (case hg => rfl); (case hr => first | (go_simp; done) | (go_simp; rfl)); intro gb301 hg w2 hbox hb; have n0_ := Aside0.mk (below_step (by repeat (first | (with_reducible first | exact HB.out | apply below_alloc | apply pw_below_drewN | apply below_drew1) | exact HB.out)) hb); have n1_ := Aside0.mk (hbox); have n2_ := Aside0.mk ((by rw [hg]; exact (below_size (by repeat (first | (with_reducible first | exact HB.out | apply below_alloc | apply pw_below_drewN | apply below_drew1) | exact HB.out))) : w.heap.size ≤ gb301)); have n3_ := Aside0.mk ((by rw [hg]; exact (below_size (by repeat (first | (with_reducible first | exact HB.out | apply below_alloc | apply pw_below_drewN | apply below_drew1) | exact HB.out))) : w.heap.size ≤ gb301)); clear HB; have HB := n0_; have BK301 := n1_; have GW301 := n2_; have GE301 := n3_; clear n0_ n1_ n2_ n3_; clear hb hbox hg))
 go_loopg [3] k (fun kq v3 w' => ∃ (x3_1 : Int), v3 = .int .i64 x3_1 ∧ Aside0 (rubricref5_Dec_zero.l0 kq x3_1 a0_0 l0_1 a0_2 = some r) ∧ Aside0 (kq ≤ k) ∧ Aside0 (w'.heap[gb301]? = some (.cells #[.bool a0_0, (.slice A0_1 l0_1.length c0_1), .int .i64 a0_2] 36 (0, 0))) ∧ Aside0 (Below w.heap.size w w'))
 case atStart => exact ⟨(0), (by first | rfl | (simp; done) | (simp [*]; done)), H', ⟨Nat.le_refl _⟩, ⟨S.b BK301.out⟩, ⟨by repeat (first | (with_reducible first | exact HB.out | apply below_alloc | apply pw_below_drewN | apply below_drew1 | refine below_set ?_ GE301.out) | exact HB.out)⟩⟩
 case round =>
  clear H'
  try clear p2
  obtain ⟨x3_1, rfl, HA, HK1, BK301, HB⟩ := hrel
  cases gk with
  | zero => exact absurd HA.out (by simp [rubricref5_Dec_zero.l0])
  | succ k1 =>
   have H := HA.out
   clear HA
   simp only [rubricref5_Dec_zero.l0] at H
   by_cases c3 : x3_1 < (l0_1.length : Int)
   ·rw [if_pos c3] at H
    have c3b0 : decide (x3_1 < (l0_1.length : Int)) = true := decide_eq_true c3
    clear c3
    by_cases c4 : 0 ≤ x3_1
    ·rw [if_pos c4] at H
     have c4b0 : decide (0 ≤ x3_1) = true := decide_eq_true c4
     clear c4
     by_cases c5 : (rd l0_1 x3_1) = 0
     ·rw [if_pos c5] at H
      have c5b0 : ((rd l0_1 x3_1) == 0) = true := beq_iff_eq.mpr c5
      have c5b1 : ((rd l0_1 x3_1) != 0) = false := bne_eq_false_iff_eq.mpr c5
      clear c5
      have H' := Aside0.mk H
      clear H
      have hcz6_0 : wr.cell? ⟨gb301, 0, none⟩ = some (.bool a0_0) := (blk_cell BK301.out 0).trans rfl
      have hcz6_1 : wr.cell? ⟨gb301, 1, none⟩ = some (.slice A0_1 l0_1.length c0_1) := (blk_cell BK301.out 1).trans rfl
      have hcz6_2 : wr.cell? ⟨gb301, 2, none⟩ = some (.int .i64 a0_2) := (blk_cell BK301.out 2).trans rfl
      have hfz6_0 := blk_frozen BK301.out 0
      have hfz6_1 := blk_frozen BK301.out 1
      have hfz6_2 := blk_frozen BK301.out 2
      have p302 : 0 ≤ (x3_1 : Int) := of_decide_eq_true (by first | (with_reducible assumption) | assumption)
      have q302 : x3_1 < (l0_1.length : Int) := of_decide_eq_true (by first | (with_reducible assumption) | assumption)
      obtain ⟨ad302, e302, hx302_0⟩ := Kd.at_int HR0_1.out x3_1 p302 q302
      cases e302
      replace hx302_0 := (HB.out.cell (World.block_lt_of_cell? w _ hx302_0)).trans hx302_0
      replace p302 := eq_true p302
      replace q302 := eq_true q302
      go_wp2
      go_roundg k1
      case measure => have := HK1.out; omega
      case rel => exact ⟨(wrap64 (x3_1 + 1)), (by first | rfl | (simp; done) | (simp [*]; done)), H', ⟨by have := HK1.out; omega⟩, ⟨S.b BK301.out⟩, ⟨by repeat (first | (with_reducible first | exact HB.out | apply below_alloc | apply pw_below_drewN | apply below_drew1 | refine below_set ?_ GE301.out) | exact HB.out)⟩⟩
     ·rw [if_neg c5] at H
      have c5b0 : ((rd l0_1 x3_1) == 0) = false := beq_eq_false_iff_ne.mpr c5
      have c5b1 : ((rd l0_1 x3_1) != 0) = true := bne_iff_ne.mpr c5
      obtain rfl := Option.some.inj H
      have hcz7_0 : wr.cell? ⟨gb301, 0, none⟩ = some (.bool a0_0) := (blk_cell BK301.out 0).trans rfl
      have hcz7_1 : wr.cell? ⟨gb301, 1, none⟩ = some (.slice A0_1 l0_1.length c0_1) := (blk_cell BK301.out 1).trans rfl
      have hcz7_2 : wr.cell? ⟨gb301, 2, none⟩ = some (.int .i64 a0_2) := (blk_cell BK301.out 2).trans rfl
      have hfz7_0 := blk_frozen BK301.out 0
      have hfz7_1 := blk_frozen BK301.out 1
      have hfz7_2 := blk_frozen BK301.out 2
      have p302 : 0 ≤ (x3_1 : Int) := of_decide_eq_true (by first | (with_reducible assumption) | assumption)
      have q302 : x3_1 < (l0_1.length : Int) := of_decide_eq_true (by first | (with_reducible assumption) | assumption)
      obtain ⟨ad302, e302, hx302_0⟩ := Kd.at_int HR0_1.out x3_1 p302 q302
      cases e302
      replace hx302_0 := (HB.out.cell (World.block_lt_of_cell? w _ hx302_0)).trans hx302_0
      replace p302 := eq_true p302
      replace q302 := eq_true q302
      go_wp2
      go_ret
      exact ⟨by first | rfl | (simp [errW_none, errW_some] <;> rfl) | (simp [*, errW_none, errW_some] <;> rfl), by repeat (first | (with_reducible first | exact HB.out | apply below_alloc | apply pw_below_drewN | apply below_drew1 | refine below_set ?_ GE301.out) | exact HB.out)⟩
    ·rw [if_neg c4] at H
     exact absurd H (by simp)
   ·rw [if_neg c3] at H
    have c3b0 : decide (x3_1 < (l0_1.length : Int)) = false := decide_eq_false c3
    clear c3
    obtain rfl := Option.some.inj H
    have hcz8_0 : wr.cell? ⟨gb301, 0, none⟩ = some (.bool a0_0) := (blk_cell BK301.out 0).trans rfl
    have hcz8_1 : wr.cell? ⟨gb301, 1, none⟩ = some (.slice A0_1 l0_1.length c0_1) := (blk_cell BK301.out 1).trans rfl
    have hcz8_2 : wr.cell? ⟨gb301, 2, none⟩ = some (.int .i64 a0_2) := (blk_cell BK301.out 2).trans rfl
    have hfz8_0 := blk_frozen BK301.out 0
    have hfz8_1 := blk_frozen BK301.out 1
    have hfz8_2 := blk_frozen BK301.out 2
    go_wp2
    go_ret
    exact ⟨by first | rfl | (simp [errW_none, errW_some] <;> rfl) | (simp [*, errW_none, errW_some] <;> rfl), by repeat (first | (with_reducible first | exact HB.out | apply below_alloc | apply pw_below_drewN | apply below_drew1 | refine below_set ?_ GE301.out) | exact HB.out)⟩

/-! ### rubricref5_canon: function 33 -/
mutual
def rubricref5_canon.j1 : Nat → Bool → List Int → Int → Option (Bool × List Int × Int)
 | 0, _, _, _ => none
 | k + 1, x0, x1, x2 => rubricref5_canon.l1 k x0 x1 x2
def rubricref5_canon.j3 : Nat → Bool → List Int → Int → Option (Bool × List Int × Int)
 | 0, _, _, _ => none
 | k + 1, x0, x1, x2 => rubricref5_canon.l2 k x0 x1 x2
def rubricref5_canon.l2 : Nat → Bool → List Int → Int → Option (Bool × List Int × Int)
 | 0, _, _, _ => none
 | k + 1, x0, x1, x2 => if (x1.length : Int) < (wrap64 (x2 + 1)) then ((some (([0] : List Int) : List Int)).bind fun y316 => (if y316.length + x1.length < 140737488355328 then (rubricref5_canon.l2 k x0 (y316 ++ x1) x2) else (none))) else ((some (([] : List Int) : List Int)).bind fun y322 => (if y322.length + x1.length < 140737488355328 then ((some (y322 ++ x1 : List Int)).bind fun y325 => ((rubricref5_Dec_zero.f k x0 y325 x2).bind fun t329 => (if t329 = true then (some (false, y325, x2)) else (some (x0, y325, x2))))) else (none)))
def rubricref5_canon.l1 : Nat → Bool → List Int → Int → Option (Bool × List Int × Int)
 | 0, _, _, _ => none
 | k + 1, x0, x1, x2 => if (wrap64 ((x1.length : Int) - x2)) > 1 then (if 0 < (x1.length : Int) then (if (rd x1 0) = 0 then (if 1 ≤ (x1.length : Int) then (rubricref5_canon.l1 k x0 (x1.drop 1) x2) else (none)) else (rubricref5_canon.j3 k x0 x1 x2)) else (none)) else (rubricref5_canon.j3 k x0 x1 x2)
def rubricref5_canon.l0 : Nat → Bool → List Int → Int → Option (Bool × List Int × Int)
 | 0, _, _, _ => none
 | k + 1, x0, x1, x2 => if x2 > 0 then (if (x1.length : Int) > 0 then (if 0 ≤ (wrap64 ((x1.length : Int) - 1)) then (if (wrap64 ((x1.length : Int) - 1)) < (x1.length : Int) then (if (rd x1 (wrap64 ((x1.length : Int) - 1))) = 0 then (if (wrap64 ((x1.length : Int) - 1)) ≤ (x1.length : Int) then (rubricref5_canon.l0 k x0 (x1.take ((wrap64 ((x1.length : Int) - 1)) : Int).toNat) (wrap64 (x2 - 1))) else (none)) else (rubricref5_canon.j1 k x0 x1 x2)) else (none)) else (none)) else (rubricref5_canon.j1 k x0 x1 x2)) else (rubricref5_canon.j1 k x0 x1 x2)
end
def rubricref5_canon.f (k : Nat) (a0 : Bool) (l1 : List Int) (a2 : Int) : Option (Bool × List Int × Int) := rubricref5_canon.l0 k a0 l1 a2
theorem rubricref5_canon.mono_l : ∀ k, (∀ y0 y1 y2, LeO (rubricref5_canon.j1 k y0 y1 y2) (rubricref5_canon.j1 (k + 1) y0 y1 y2)) ∧ (∀ y0 y1 y2, LeO (rubricref5_canon.j3 k y0 y1 y2) (rubricref5_canon.j3 (k + 1) y0 y1 y2)) ∧ (∀ y0 y1 y2, LeO (rubricref5_canon.l2 k y0 y1 y2) (rubricref5_canon.l2 (k + 1) y0 y1 y2)) ∧ (∀ y0 y1 y2, LeO (rubricref5_canon.l1 k y0 y1 y2) (rubricref5_canon.l1 (k + 1) y0 y1 y2)) ∧ (∀ y0 y1 y2, LeO (rubricref5_canon.l0 k y0 y1 y2) (rubricref5_canon.l0 (k + 1) y0 y1 y2))
 | 0 => ⟨fun _ _ _ r h => by simp [rubricref5_canon.j1] at h, fun _ _ _ r h => by simp [rubricref5_canon.j3] at h, fun _ _ _ r h => by simp [rubricref5_canon.l2] at h, fun _ _ _ r h => by simp [rubricref5_canon.l1] at h, fun _ _ _ r h => by simp [rubricref5_canon.l0] at h⟩
 | k + 1 => by
  obtain ⟨ih0, ih1, ih2, ih3, ih4⟩ := rubricref5_canon.mono_l k
  refine ⟨?_, ?_, ?_, ?_, ?_⟩
  ·intro y0 y1 y2
   unfold rubricref5_canon.j1
   repeat' first
   | (with_reducible exact ih0 _ _ _)
   | (with_reducible exact ih1 _ _ _)
   | (with_reducible exact ih2 _ _ _)
   | (with_reducible exact ih3 _ _ _)
   | (with_reducible exact ih4 _ _ _)
   | (with_reducible exact rubricref5_Dec_zero.mono _ _ _ _)
   | (with_reducible exact LeO.refl _)
   | (with_reducible exact LeO.none _)
   | (with_reducible refine LeO.ite ?_ ?_)
   | (with_reducible refine LeO.bind ?_ (fun _ => ?_))
   | exact ih0 _ _ _
   | exact ih1 _ _ _
   | exact ih2 _ _ _
   | exact ih3 _ _ _
   | exact ih4 _ _ _
   | exact rubricref5_Dec_zero.mono _ _ _ _
   | exact LeO.none _
   | refine LeO.ite ?_ ?_
   | refine LeO.bind ?_ (fun _ => ?_)
  ·intro y0 y1 y2
   unfold rubricref5_canon.j3
   repeat' first
   | (with_reducible exact ih0 _ _ _)
   | (with_reducible exact ih1 _ _ _)
   | (with_reducible exact ih2 _ _ _)
   | (with_reducible exact ih3 _ _ _)
   | (with_reducible exact ih4 _ _ _)
   | (with_reducible exact rubricref5_Dec_zero.mono _ _ _ _)
   | (with_reducible exact LeO.refl _)
   | (with_reducible exact LeO.none _)
   | (with_reducible refine LeO.ite ?_ ?_)
   | (with_reducible refine LeO.bind ?_ (fun _ => ?_))
   | exact ih0 _ _ _
   | exact ih1 _ _ _
   | exact ih2 _ _ _
   | exact ih3 _ _ _
   | exact ih4 _ _ _
   | exact rubricref5_Dec_zero.mono _ _ _ _
   | exact LeO.none _
   | refine LeO.ite ?_ ?_
   | refine LeO.bind ?_ (fun _ => ?_)
  ·intro y0 y1 y2
   unfold rubricref5_canon.l2
   repeat' first
   | (with_reducible exact ih0 _ _ _)
   | (with_reducible exact ih1 _ _ _)
   | (with_reducible exact ih2 _ _ _)
   | (with_reducible exact ih3 _ _ _)
   | (with_reducible exact ih4 _ _ _)
   | (with_reducible exact rubricref5_Dec_zero.mono _ _ _ _)
   | (with_reducible exact LeO.refl _)
   | (with_reducible exact LeO.none _)
   | (with_reducible refine LeO.ite ?_ ?_)
   | (with_reducible refine LeO.bind ?_ (fun _ => ?_))
   | exact ih0 _ _ _
   | exact ih1 _ _ _
   | exact ih2 _ _ _
   | exact ih3 _ _ _
   | exact ih4 _ _ _
   | exact rubricref5_Dec_zero.mono _ _ _ _
   | exact LeO.none _
   | refine LeO.ite ?_ ?_
   | refine LeO.bind ?_ (fun _ => ?_)
  ·intro y0 y1 y2
   unfold rubricref5_canon.l1
   repeat' first
   | (with_reducible exact ih0 _ _ _)
   | (with_reducible exact ih1 _ _ _)
   | (with_reducible exact ih2 _ _ _)
   | (with_reducible exact ih3 _ _ _)
   | (with_reducible exact ih4 _ _ _)
   | (with_reducible exact rubricref5_Dec_zero.mono _ _ _ _)
   | (with_reducible exact LeO.refl _)
   | (with_reducible exact LeO.none _)
   | (with_reducible refine LeO.ite ?_ ?_)
   | (with_reducible refine LeO.bind ?_ (fun _ => ?_))
   | exact ih0 _ _ _
   | exact ih1 _ _ _
   | exact ih2 _ _ _
   | exact ih3 _ _ _
   | exact ih4 _ _ _
   | exact rubricref5_Dec_zero.mono _ _ _ _
   | exact LeO.none _
   | refine LeO.ite ?_ ?_
   | refine LeO.bind ?_ (fun _ => ?_)
  ·intro y0 y1 y2
   unfold rubricref5_canon.l0
   repeat' first
   | (with_reducible exact ih0 _ _ _)
   | (with_reducible exact ih1 _ _ _)
   | (with_reducible exact ih2 _ _ _)
   | (with_reducible exact ih3 _ _ _)
   | (with_reducible exact ih4 _ _ _)
   | (with_reducible exact rubricref5_Dec_zero.mono _ _ _ _)
   | (with_reducible exact LeO.refl _)
   | (with_reducible exact LeO.none _)
   | (with_reducible refine LeO.ite ?_ ?_)
   | (with_reducible refine LeO.bind ?_ (fun _ => ?_))
   | exact ih0 _ _ _
   | exact ih1 _ _ _
   | exact ih2 _ _ _
   | exact ih3 _ _ _
   | exact ih4 _ _ _
   | exact rubricref5_Dec_zero.mono _ _ _ _
   | exact LeO.none _
   | refine LeO.ite ?_ ?_
   | refine LeO.bind ?_ (fun _ => ?_)
theorem rubricref5_canon.mono : ∀ a0 a1 a2 k, LeO (rubricref5_canon.f k a0 a1 a2) (rubricref5_canon.f (k + 1) a0 a1 a2) := by
 intro a0 a1 a2 k
 obtain ⟨ih0, ih1, ih2, ih3, ih4⟩ := rubricref5_canon.mono_l k
 unfold rubricref5_canon.f
 repeat' first
   | (with_reducible exact ih0 _ _ _)
   | (with_reducible exact ih1 _ _ _)
   | (with_reducible exact ih2 _ _ _)
   | (with_reducible exact ih3 _ _ _)
   | (with_reducible exact ih4 _ _ _)
   | (with_reducible exact rubricref5_Dec_zero.mono _ _ _ _)
   | (with_reducible exact LeO.refl _)
   | (with_reducible exact LeO.none _)
   | (with_reducible refine LeO.ite ?_ ?_)
   | (with_reducible refine LeO.bind ?_ (fun _ => ?_))
   | exact ih0 _ _ _
   | exact ih1 _ _ _
   | exact ih2 _ _ _
   | exact ih3 _ _ _
   | exact ih4 _ _ _
   | exact rubricref5_Dec_zero.mono _ _ _ _
   | exact LeO.none _
   | refine LeO.ite ?_ ?_
   | refine LeO.bind ?_ (fun _ => ?_)
set_option maxHeartbeats 8000000 in
set_option maxRecDepth 100000 in
theorem rubricref5_canon.calls (k : Nat) (a0 : Bool) (P1_ : Nat → Prop) (A1 : Option Addr) (c1 : Nat) (l1 : List Int) (a2 : Int) (r1 : Bool) (r2 : List Int) (r3 : Int) (w : World) (hs1 : Kd.V (Kd.int .u8) 5 w w.heap.size (fun k_ => P1_ k_) (.slice A1 l1.length c1) l1) (h : rubricref5_canon.f k a0 l1 a2 = some (r1, r2, r3)) :
  Calls Try.prog 33 #[.bool a0, .slice A1 l1.length c1, .int .i64 a2] w fun e w' => ∃ v1_ : Value, e = .returned (.agg #[.bool r1, v1_, .int .i64 r3]) ∧ Kd.R (Kd.int .u8) 5 w' w.heap.size (fun k_ => (w.heap.size ≤ k_)) v1_ r2 ∧ Below w.heap.size w w' := by
 have hu36 := Try.underlying36
 have HO1 := Aside0.mk (show Kd.V (Kd.int .u8) 5 w w.heap.size (fun k_ => (P1_ k_ ∨ w.heap.size ≤ k_)) (.slice A1 l1.length c1) l1 from Kd.V_mono hs1 (fun k_ hk => .inl hk))
 have HB := Aside0.mk (Below.refl w.heap.size w)
 have H : (rubricref5_canon.l0 k a0 l1 a2) = some (r1, r2, r3) := h
 clear h
 have HC4 := Aside0.mk H
 clear H
 go_enter Try.func33, Try.ntmps33
 go_upto_block 0 with (first | ((with_reducible refine gate_dst (N := 6) rfl ?_); (try (refine gate_guard (by rfl) ?_; dsimp only)); refine box_event ?hg (N := 6) ?hd (cs := #[.bool false, .slice none 0 0, .int .i64 0]) (t := 36) ?hr ?_; (case hd => rfl); (case hg => rfl); (case hr => first | (go_simp; done) | (go_simp; rfl)); intro gb303 hg w5 hbox hb; have n0_ := Aside0.mk (Kd.V_below (Kd.V_elderB (S.v HO1.out) gb303 (Nat.le_of_eq hg.symm)) hb); have n1_ := Aside0.mk (below_step (by repeat (first | (with_reducible first | exact HB.out | apply below_alloc | apply pw_below_drewN | apply below_drew1) | exact HB.out)) hb); have n2_ := Aside0.mk (hbox); have n3_ := Aside0.mk ((by rw [hg]; exact (below_size (by repeat (first | (with_reducible first | exact HB.out | apply below_alloc | apply pw_below_drewN | apply below_drew1) | exact HB.out))) : w.heap.size ≤ gb303)); have n4_ := Aside0.mk ((by rw [hg]; exact (below_size (by repeat (first | (with_reducible first | exact HB.out | apply below_alloc | apply pw_below_drewN | apply below_drew1) | exact HB.out))) : w.heap.size ≤ gb303)); clear HO1; clear HB; have HO1 := n0_; have HB := n1_; have BK303 := n2_; have GW303 := n3_; have GE303 := n4_; clear n0_ n1_ n2_ n3_ n4_; clear hb hbox hg))
 (try simp only [Act.put, List.setIfInBounds_toArray, List.set_cons_zero, List.set_cons_succ])
 go_cut [1, 2] (fun v1 v2 wc => ∃ (kq : Nat) (x1_3 : List Int) (x2_3 : Int), v2 = .int .i64 x2_3 ∧ Aside0 (rubricref5_canon.j1 kq a0 x1_3 x2_3 = some (r1, r2, r3)) ∧ Aside0 (kq ≤ k) ∧ Aside0 (Kd.V (Kd.int .u8) 5 wc w.heap.size (fun k_ => (P1_ k_ ∨ w.heap.size ≤ k_) ∧ k_ ≠ gb303) v1 x1_3) ∧ Aside0 (wc.heap[gb303]? = some (.cells #[.bool false, (.slice none 0 0), .int .i64 0] 36 (0, 0))) ∧ Aside0 (Below w.heap.size w wc))
 case first =>
  have H := HC4.out
  clear HC4
  have H' := Aside0.mk H
  clear H
  go_wp2
  go_loopg [1, 2] k (fun kq v1 v2 w' => ∃ (x1_1 : List Int) (x2_1 : Int), v2 = .int .i64 x2_1 ∧ Aside0 (rubricref5_canon.l0 kq a0 x1_1 x2_1 = some (r1, r2, r3)) ∧ Aside0 (kq ≤ k) ∧ Aside0 (Kd.V (Kd.int .u8) 5 w' w.heap.size (fun k_ => (P1_ k_ ∨ w.heap.size ≤ k_) ∧ k_ ≠ gb303) v1 x1_1) ∧ Aside0 (w'.heap[gb303]? = some (.cells #[.bool false, (.slice none 0 0), .int .i64 0] 36 (0, 0))) ∧ Aside0 (Below w.heap.size w w'))
  case atStart => exact ⟨(l1), (a2), (by first | rfl | (simp; done) | (simp [*]; done)), H', ⟨Nat.le_refl _⟩, ⟨S.v HO1.out⟩, ⟨S.b BK303.out⟩, ⟨by repeat (first | (with_reducible first | exact HB.out | apply below_alloc | apply pw_below_drewN | apply below_drew1 | refine below_set ?_ GE303.out) | exact HB.out)⟩⟩
  case round =>
   clear H'
   try clear c1
   try clear p2
   try clear c3
   obtain ⟨x1_1, x2_1, rfl, HA, HK1, HO_1, BK303, HB⟩ := hrel
   cases gk with
   | zero => exact absurd HA.out (by simp [rubricref5_canon.l0])
   | succ k1 =>
    have H := HA.out
    clear HA
    simp only [rubricref5_canon.l0] at H
    by_cases c6 : x2_1 > 0
    ·rw [if_pos c6] at H
     have c6b0 : decide (0 < x2_1) = true := decide_eq_true c6
     clear c6
     (first | rw [c6b0] | (simp only [i64_w, i32_w]; rw [c6b0]) | skip)
     by_cases c7 : (x1_1.length : Int) > 0
     ·rw [if_pos c7] at H
      have c7b0 : decide (0 < (x1_1.length : Int)) = true := decide_eq_true c7
      have c7b1 : decide (0 < x1_1.length) = true := decide_eq_true (by omega)
      clear c7
      obtain ⟨ji8, hji8⟩ : ∃ j_ : Int, (wrap64 ((x1_1.length : Int) - 1)) = j_ := ⟨_, rfl⟩
      replace H : (if 0 ≤ (ji8) then (if (ji8) < (x1_1.length : Int) then (if (rd x1_1 (ji8)) = 0 then (if (ji8) ≤ (x1_1.length : Int) then (rubricref5_canon.l0 k1 a0 (x1_1.take ((ji8) : Int).toNat) (wrap64 (x2_1 - 1))) else (none)) else (rubricref5_canon.j1 k1 a0 x1_1 x2_1)) else (none)) else (none)) = some (r1, r2, r3) := by first | (rw [hji8] at H; exact H) | (simp only [hji8] at H ⊢; exact H)
      have hji8w : (IntKind.i64.wrap ((x1_1.length : Int) - 1)) = ji8 := (i64_w _).trans hji8
      by_cases c9 : 0 ≤ (ji8)
      ·rw [if_pos c9] at H
       have c9b0 : decide (0 ≤ (ji8)) = true := decide_eq_true c9
       clear c9
       by_cases c10 : (ji8) < (x1_1.length : Int)
       ·rw [if_pos c10] at H
        have c10b0 : decide ((ji8) < (x1_1.length : Int)) = true := decide_eq_true c10
        clear c10
        by_cases c11 : (rd x1_1 (ji8)) = 0
        ·rw [if_pos c11] at H
         have c11b0 : ((rd x1_1 (ji8)) == 0) = true := beq_iff_eq.mpr c11
         have c11b1 : ((rd x1_1 (ji8)) != 0) = false := bne_eq_false_iff_eq.mpr c11
         clear c11
         have c12b0 := eq_true (of_decide_eq_true (by first | (with_reducible assumption) | assumption) : 0 ≤ (ji8))
         by_cases c13 : (ji8) ≤ (x1_1.length : Int)
         ·rw [if_pos c13] at H
          have c13b0 := eq_true c13
          have c13b1 : decide ((ji8) ≤ (x1_1.length : Int)) = true := decide_eq_true c13
          clear c13
          obtain ⟨y305, hy305⟩ : ∃ y_ : List Int, y_ = (x1_1.take ((ji8) : Int).toNat) := ⟨_, rfl⟩
          replace H : (rubricref5_canon.l0 k1 a0 y305 (wrap64 (x2_1 - 1))) = some (r1, r2, r3) := by first | (rw [hy305]; with_reducible exact H) | (have H2_ := (Option.bind_some _ _).symm.trans H; rw [hy305]; with_reducible exact H2_) | (have H2_ := (Option.bind_some _ _).symm.trans H; with_reducible exact H2_) | with_reducible exact H | (rw [hy305]; exact H) | exact H
          have Ny305 := Aside0.mk hy305
          clear hy305
          have H' := Aside0.mk H
          clear H
          obtain ⟨Ao14, co14, eo14⟩ := Kd.V_slice HO_1.out
          subst eo14
          have p304 : 0 ≤ ((ji8) : Int) := of_decide_eq_true (by first | (with_reducible assumption) | assumption)
          have q304 : (ji8) < (x1_1.length : Int) := of_decide_eq_true (by first | (with_reducible assumption) | assumption)
          obtain ⟨ad304, e304, hx304_0⟩ := Kd.at_int (Kd.V_reads' HO_1.out).2.2 (ji8) p304 q304
          cases e304
          replace p304 := eq_true p304
          replace q304 := eq_true q304
          have q15 : ((ji8) : Int) ≤ ((x1_1.length : Int) : Int) := of_decide_eq_true (by first | (with_reducible assumption) | assumption)
          obtain ⟨i015, hi015, _, hsz15, _⟩ := info_parts info5
          have hroom15 : x1_1.length ≤ co14 := (Kd.V_reads' HO_1.out).2.1
          have hC15 : Kd.F (Kd.int .u8) _ _ (some ad304) x1_1.length x1_1 := (Kd.V_at (base := w.heap.size) HO_1.out).2.2
          have hcut15 := cut_to (P := Try.prog) 22 5 .i64 Try.underlying22 hi015 (some ad304) x1_1.length co14 (ji8) (of_decide_eq_true (by first | (with_reducible assumption) | assumption)) q15 hroom15
          have hr15 := Kd.F_take (m := ((ji8) : Int).toNat) hC15 (by omega)
          have hy15 : y305.length = ((ji8) : Int).toNat := (by rw [Ny305.out, List.length_take]; omega)
          rw [← Ny305.out] at hr15
          rw [← hy15] at hcut15
          have HO309 := Aside0.mk (show Kd.V (Kd.int .u8) 5 _ w.heap.size _ (.slice (some ad304) y305.length co14) y305 from Kd.V_mk (by omega) hr15)
          have HC309 := Aside0.mk (show y305.length ≤ co14 from by omega)
          clear hr15 hC15 hroom15 hi015 hsz15
          have KY15 := Aside0.mk hy15
          clear hy15
          replace q15 := eq_true q15
          go_wp2
          go_roundg k1
          case measure => have := HK1.out; omega
          case rel => exact ⟨(y305), (wrap64 (x2_1 - 1)), (by first | rfl | (simp; done) | (simp [*]; done)), H', ⟨by have := HK1.out; omega⟩, ⟨S.v HO309.out⟩, ⟨S.b BK303.out⟩, ⟨by repeat (first | (with_reducible first | exact HB.out | apply below_alloc | apply pw_below_drewN | apply below_drew1 | refine below_set ?_ GE303.out) | exact HB.out)⟩⟩
         ·rw [if_neg c13] at H
          exact absurd H (by simp)
        ·rw [if_neg c11] at H
         have c11b0 : ((rd x1_1 (ji8)) == 0) = false := beq_eq_false_iff_ne.mpr c11
         have c11b1 : ((rd x1_1 (ji8)) != 0) = true := bne_iff_ne.mpr c11
         have H' := Aside0.mk H
         clear H
         obtain ⟨Ao16, co16, eo16⟩ := Kd.V_slice HO_1.out
         subst eo16
         have p304 : 0 ≤ ((ji8) : Int) := of_decide_eq_true (by first | (with_reducible assumption) | assumption)
         have q304 : (ji8) < (x1_1.length : Int) := of_decide_eq_true (by first | (with_reducible assumption) | assumption)
         obtain ⟨ad304, e304, hx304_0⟩ := Kd.at_int (Kd.V_reads' HO_1.out).2.2 (ji8) p304 q304
         cases e304
         replace p304 := eq_true p304
         replace q304 := eq_true q304
         go_wp2
         go_meet
         case rel => exact ⟨_, (x1_1), (x2_1), (by first | rfl | (simp; done) | (simp [*]; done)), H', ⟨by have := HK1.out; first | omega | exact Nat.le_refl _⟩, ⟨S.v HO_1.out⟩, ⟨S.b BK303.out⟩, ⟨by repeat (first | (with_reducible first | exact HB.out | apply below_alloc | apply pw_below_drewN | apply below_drew1 | refine below_set ?_ GE303.out) | exact HB.out)⟩⟩
       ·rw [if_neg c10] at H
        exact absurd H (by simp)
      ·rw [if_neg c9] at H
       exact absurd H (by simp)
     ·rw [if_neg c7] at H
      have c7b0 : decide (0 < (x1_1.length : Int)) = false := decide_eq_false c7
      have c7b1 : decide (0 < x1_1.length) = false := decide_eq_false (by omega)
      clear c7
      have H' := Aside0.mk H
      clear H
      obtain ⟨Ao17, co17, eo17⟩ := Kd.V_slice HO_1.out
      subst eo17
      go_wp2
      go_meet
      case rel => exact ⟨_, (x1_1), (x2_1), (by first | rfl | (simp; done) | (simp [*]; done)), H', ⟨by have := HK1.out; first | omega | exact Nat.le_refl _⟩, ⟨S.v HO_1.out⟩, ⟨S.b BK303.out⟩, ⟨by repeat (first | (with_reducible first | exact HB.out | apply below_alloc | apply pw_below_drewN | apply below_drew1 | refine below_set ?_ GE303.out) | exact HB.out)⟩⟩
    ·rw [if_neg c6] at H
     have c6b0 : decide (0 < x2_1) = false := decide_eq_false c6
     clear c6
     (first | rw [c6b0] | (simp only [i64_w, i32_w]; rw [c6b0]) | skip)
     have H' := Aside0.mk H
     clear H
     go_wp2
     go_meet
     case rel => exact ⟨_, (x1_1), (x2_1), (by first | rfl | (simp; done) | (simp [*]; done)), H', ⟨by have := HK1.out; first | omega | exact Nat.le_refl _⟩, ⟨S.v HO_1.out⟩, ⟨S.b BK303.out⟩, ⟨by repeat (first | (with_reducible first | exact HB.out | apply below_alloc | apply pw_below_drewN | apply below_drew1 | refine below_set ?_ GE303.out) | exact HB.out)⟩⟩
 case rest =>
  clear HC4
  try clear c1
  try clear q1
  try clear p2
  try clear c3
  try clear p3
  try clear q3
  try clear hx3
  try clear c6
  try clear c6b0
  try clear p6
  try clear c7
  try clear c7b0
  try clear c7b1
  try clear c9
  try clear c9b0
  try clear c10
  try clear c10b0
  try clear c11
  try clear c11b0
  try clear c11b1
  try clear c12
  try clear c12b0
  try clear c13
  try clear c13b0
  try clear c13b1
  try clear q15
  try clear hx304_0
  try clear p2
  try clear p304
  try clear q15
  try clear q304
  obtain ⟨kq, x1_3, x2_3, rfl, HA, HJ3, HO_1, BK303, HB⟩ := hcut
  cases kq with
  | zero => exact absurd HA.out (by simp [rubricref5_canon.j1])
  | succ kj3 =>
   have H := HA.out
   clear HA
   simp only [rubricref5_canon.j1] at H
   have HC18 := Aside0.mk H
   clear H
   go_upto_block 2 with (fail)
   go_cut [1] (fun v1 wc => ∃ (kq : Nat) (x1_17 : List Int), Aside0 (rubricref5_canon.j3 kq a0 x1_17 x2_3 = some (r1, r2, r3)) ∧ Aside0 (kq ≤ kj3) ∧ Aside0 (Kd.V (Kd.int .u8) 5 wc w.heap.size (fun k_ => (P1_ k_ ∨ w.heap.size ≤ k_) ∧ k_ ≠ gb303) v1 x1_17) ∧ Aside0 (wc.heap[gb303]? = some (.cells #[.bool false, (.slice none 0 0), .int .i64 0] 36 (0, 0))) ∧ Aside0 (Below w.heap.size w wc))
   case first =>
    have H := HC18.out
    clear HC18
    have H' := Aside0.mk H
    clear H
    go_wp2
    go_loopg [1] kj3 (fun kq v1 w' => ∃ (x1_2 : List Int), Aside0 (rubricref5_canon.l1 kq a0 x1_2 x2_3 = some (r1, r2, r3)) ∧ Aside0 (kq ≤ kj3) ∧ Aside0 (Kd.V (Kd.int .u8) 5 w' w.heap.size (fun k_ => (P1_ k_ ∨ w.heap.size ≤ k_) ∧ k_ ≠ gb303) v1 x1_2) ∧ Aside0 (w'.heap[gb303]? = some (.cells #[.bool false, (.slice none 0 0), .int .i64 0] 36 (0, 0))) ∧ Aside0 (Below w.heap.size w w'))
    case atStart => exact ⟨(x1_3), H', ⟨Nat.le_refl _⟩, ⟨S.v HO_1.out⟩, ⟨S.b BK303.out⟩, ⟨by repeat (first | (with_reducible first | exact HB.out | apply below_alloc | apply pw_below_drewN | apply below_drew1 | refine below_set ?_ GE303.out) | exact HB.out)⟩⟩
    case round =>
     clear H'
     try clear c1
     try clear q1
     try clear p2
     try clear c3
     try clear p3
     try clear q3
     try clear hx3
     try clear c6
     try clear c6b0
     try clear p6
     try clear c7
     try clear c7b0
     try clear c7b1
     try clear c9
     try clear c9b0
     try clear c10
     try clear c10b0
     try clear c11
     try clear c11b0
     try clear c11b1
     try clear c12
     try clear c12b0
     try clear c13
     try clear c13b0
     try clear c13b1
     try clear q15
     try clear hx304_0
     try clear p2
     try clear p3
     try clear p304
     try clear p6
     try clear q1
     try clear q15
     try clear q3
     try clear q304
     obtain ⟨x1_2, HA, HK2, HO_1, BK303, HB⟩ := hrel
     cases gk with
     | zero => exact absurd HA.out (by simp [rubricref5_canon.l1])
     | succ k2 =>
      have H := HA.out
      clear HA
      simp only [rubricref5_canon.l1] at H
      by_cases c19 : (wrap64 ((x1_2.length : Int) - x2_3)) > 1
      ·rw [if_pos c19] at H
       have c19b0 : decide (1 < (wrap64 ((x1_2.length : Int) - x2_3))) = true := decide_eq_true c19
       clear c19
       (first | rw [c19b0] | (simp only [i64_w, i32_w]; rw [c19b0]) | skip)
       by_cases c20 : 0 < (x1_2.length : Int)
       ·rw [if_pos c20] at H
        have c20b0 : decide (0 < (x1_2.length : Int)) = true := decide_eq_true c20
        have c20b1 : decide (0 < x1_2.length) = true := decide_eq_true (by omega)
        clear c20
        by_cases c21 : (rd x1_2 0) = 0
        ·rw [if_pos c21] at H
         have c21b0 : ((rd x1_2 0) == 0) = true := beq_iff_eq.mpr c21
         have c21b1 : ((rd x1_2 0) != 0) = false := bne_eq_false_iff_eq.mpr c21
         clear c21
         by_cases c22 : 1 ≤ (x1_2.length : Int)
         ·rw [if_pos c22] at H
          have c22b0 := eq_true c22
          have c22b1 : decide (1 ≤ (x1_2.length : Int)) = true := decide_eq_true c22
          clear c22
          obtain ⟨y311, hy311⟩ : ∃ y_ : List Int, y_ = (x1_2.drop 1) := ⟨_, rfl⟩
          replace H : (rubricref5_canon.l1 k2 a0 y311 x2_3) = some (r1, r2, r3) := by first | (rw [hy311]; with_reducible exact H) | (have H2_ := (Option.bind_some _ _).symm.trans H; rw [hy311]; with_reducible exact H2_) | (have H2_ := (Option.bind_some _ _).symm.trans H; with_reducible exact H2_) | with_reducible exact H | (rw [hy311]; exact H) | exact H
          have Ny311 := Aside0.mk hy311
          clear hy311
          have H' := Aside0.mk H
          clear H
          obtain ⟨Ao23, co23, eo23⟩ := Kd.V_slice HO_1.out
          subst eo23
          have p310 : 0 ≤ (0 : Int) := (by omega)
          have q310 : 0 < (x1_2.length : Int) := of_decide_eq_true (by first | (with_reducible assumption) | assumption)
          obtain ⟨ad310, e310, hx310_0⟩ := Kd.at_int (Kd.V_reads' HO_1.out).2.2 0 p310 q310
          cases e310
          have qi310 : (0 < x1_2.length) = True := eq_true (by omega)
          (try rw [show ((0 : Int)).toNat = 0 from rfl] at hx310_0)
          (try rw [Addr.add_zero'] at hx310_0)
          replace p310 := eq_true p310
          replace q310 := eq_true q310
          have q24 : (1 : Int) ≤ ((x1_2.length : Int) : Int) := of_decide_eq_true (by first | (with_reducible assumption) | assumption)
          obtain ⟨i024, hi024, _, hsz24, _⟩ := info_parts info5
          have hroom24 : x1_2.length ≤ co23 := (Kd.V_reads' HO_1.out).2.1
          have hC24 : Kd.F (Kd.int .u8) _ _ (some ad310) x1_2.length x1_2 := (Kd.V_at (base := w.heap.size) HO_1.out).2.2
          have hcut24 := cut_from (P := Try.prog) 22 5 .i64 Try.underlying22 hi024 1 hsz24 (some ad310) x1_2.length co23 1 (by omega) q24
          have hr24 := Kd.F_cut (m := (1 : Int).toNat) (c := co23) hC24 (by omega) hroom24
          obtain ⟨A24, hA24⟩ : ∃ A1, A1 = (if co23 = (1 : Int).toNat then (some ad310) else ((some ad310) : Option Addr).map (·.add ((1 : Int).toNat * 1))) := ⟨_, rfl⟩
          obtain ⟨c24, hc24⟩ : ∃ c1, c1 = co23 - (1 : Int).toNat := ⟨_, rfl⟩
          have hy24 : y311.length = x1_2.length - (1 : Int).toNat := (by rw [Ny311.out, List.length_drop] <;> omega)
          rw [show (x1_2).drop (1 : Int).toNat = y311 from Ny311.out.symm] at hr24
          replace hr24 : Kd.F (Kd.int .u8) _ _ A24 y311.length y311 := (by rw [hA24]; exact hr24)
          rw [← hy24, ← hA24, ← hc24] at hcut24
          have HO315 := Aside0.mk (show Kd.V (Kd.int .u8) 5 _ w.heap.size _ (.slice A24 y311.length c24) y311 from Kd.V_mk (by rw [hy24, hc24]; exact Nat.sub_le_sub_right hroom24 _) hr24)
          have HC315 := Aside0.mk (show y311.length ≤ c24 from by rw [hy24, hc24]; exact Nat.sub_le_sub_right hroom24 _)
          clear hr24 hC24 hroom24 hi024 hsz24 hc24
          have KY24 := Aside0.mk hy24
          have KA24 := Aside0.mk hA24
          clear hy24 hA24
          replace q24 := eq_true q24
          go_wp2
          go_roundg k2
          case measure => have := HJ3.out; have := HK2.out; omega
          case rel => exact ⟨(y311), H', ⟨by have := HJ3.out; have := HK2.out; omega⟩, ⟨S.v HO315.out⟩, ⟨S.b BK303.out⟩, ⟨by repeat (first | (with_reducible first | exact HB.out | apply below_alloc | apply pw_below_drewN | apply below_drew1 | refine below_set ?_ GE303.out) | exact HB.out)⟩⟩
         ·rw [if_neg c22] at H
          exact absurd H (by simp)
        ·rw [if_neg c21] at H
         have c21b0 : ((rd x1_2 0) == 0) = false := beq_eq_false_iff_ne.mpr c21
         have c21b1 : ((rd x1_2 0) != 0) = true := bne_iff_ne.mpr c21
         have H' := Aside0.mk H
         clear H
         obtain ⟨Ao25, co25, eo25⟩ := Kd.V_slice HO_1.out
         subst eo25
         have p310 : 0 ≤ (0 : Int) := (by omega)
         have q310 : 0 < (x1_2.length : Int) := of_decide_eq_true (by first | (with_reducible assumption) | assumption)
         obtain ⟨ad310, e310, hx310_0⟩ := Kd.at_int (Kd.V_reads' HO_1.out).2.2 0 p310 q310
         cases e310
         have qi310 : (0 < x1_2.length) = True := eq_true (by omega)
         (try rw [show ((0 : Int)).toNat = 0 from rfl] at hx310_0)
         (try rw [Addr.add_zero'] at hx310_0)
         replace p310 := eq_true p310
         replace q310 := eq_true q310
         go_wp2
         go_meet
         case rel => exact ⟨_, (x1_2), H', ⟨by have := HJ3.out; have := HK2.out; first | omega | exact Nat.le_refl _⟩, ⟨S.v HO_1.out⟩, ⟨S.b BK303.out⟩, ⟨by repeat (first | (with_reducible first | exact HB.out | apply below_alloc | apply pw_below_drewN | apply below_drew1 | refine below_set ?_ GE303.out) | exact HB.out)⟩⟩
       ·rw [if_neg c20] at H
        exact absurd H (by simp)
      ·rw [if_neg c19] at H
       have c19b0 : decide (1 < (wrap64 ((x1_2.length : Int) - x2_3))) = false := decide_eq_false c19
       clear c19
       (first | rw [c19b0] | (simp only [i64_w, i32_w]; rw [c19b0]) | skip)
       have H' := Aside0.mk H
       clear H
       obtain ⟨Ao26, co26, eo26⟩ := Kd.V_slice HO_1.out
       subst eo26
       go_wp2
       go_meet
       case rel => exact ⟨_, (x1_2), H', ⟨by have := HJ3.out; have := HK2.out; first | omega | exact Nat.le_refl _⟩, ⟨S.v HO_1.out⟩, ⟨S.b BK303.out⟩, ⟨by repeat (first | (with_reducible first | exact HB.out | apply below_alloc | apply pw_below_drewN | apply below_drew1 | refine below_set ?_ GE303.out) | exact HB.out)⟩⟩
   case rest =>
    clear HC18
    try clear c1
    try clear q1
    try clear c2
    try clear p2
    try clear q2
    try clear c3
    try clear p3
    try clear q3
    try clear hx3
    try clear qi3
    try clear c6
    try clear c6b0
    try clear p6
    try clear c7
    try clear c7b0
    try clear c7b1
    try clear c9
    try clear c9b0
    try clear c10
    try clear c10b0
    try clear c11
    try clear c11b0
    try clear c11b1
    try clear c12
    try clear c12b0
    try clear c13
    try clear c13b0
    try clear c13b1
    try clear q15
    try clear c19
    try clear c19b0
    try clear c20
    try clear c20b0
    try clear c20b1
    try clear c21
    try clear c21b0
    try clear c21b1
    try clear c22
    try clear c22b0
    try clear c22b1
    try clear c24
    try clear q24
    try clear hx304_0
    try clear hx310_0
    try clear p2
    try clear p3
    try clear p304
    try clear p310
    try clear p6
    try clear q1
    try clear q15
    try clear q24
    try clear q3
    try clear q304
    try clear q310
    obtain ⟨kq, x1_17, HA, HJ17, HO_1, BK303, HB⟩ := hcut
    cases kq with
    | zero => exact absurd HA.out (by simp [rubricref5_canon.j3])
    | succ kj17 =>
     have H := HA.out
     clear HA
     simp only [rubricref5_canon.j3] at H
     have H' := Aside0.mk H
     clear H
     go_wp2
     go_loopg [1] kj17 (fun kq v1 w' => ∃ (x1_3 : List Int), Aside0 (rubricref5_canon.l2 kq a0 x1_3 x2_3 = some (r1, r2, r3)) ∧ Aside0 (kq ≤ kj17) ∧ Aside0 (Kd.V (Kd.int .u8) 5 w' w.heap.size (fun k_ => (P1_ k_ ∨ w.heap.size ≤ k_) ∧ k_ ≠ gb303) v1 x1_3) ∧ Aside0 (w'.heap[gb303]? = some (.cells #[.bool false, (.slice none 0 0), .int .i64 0] 36 (0, 0))) ∧ Aside0 (Below w.heap.size w w'))
     case atStart => exact ⟨(x1_17), H', ⟨Nat.le_refl _⟩, ⟨S.v HO_1.out⟩, ⟨S.b BK303.out⟩, ⟨by repeat (first | (with_reducible first | exact HB.out | apply below_alloc | apply pw_below_drewN | apply below_drew1 | refine below_set ?_ GE303.out) | exact HB.out)⟩⟩
     case round =>
      clear H'
      try clear c1
      try clear q1
      try clear c2
      try clear p2
      try clear q2
      try clear c3
      try clear p3
      try clear q3
      try clear hx3
      try clear qi3
      try clear c6
      try clear c6b0
      try clear p6
      try clear c7
      try clear c7b0
      try clear c7b1
      try clear c9
      try clear c9b0
      try clear c10
      try clear c10b0
      try clear c11
      try clear c11b0
      try clear c11b1
      try clear c12
      try clear c12b0
      try clear c13
      try clear c13b0
      try clear c13b1
      try clear q15
      try clear c19
      try clear c19b0
      try clear c20
      try clear c20b0
      try clear c20b1
      try clear c21
      try clear c21b0
      try clear c21b1
      try clear c22
      try clear c22b0
      try clear c22b1
      try clear c24
      try clear q24
      try clear hx304_0
      try clear hx310_0
      try clear p2
      try clear p3
      try clear p304
      try clear p310
      try clear p6
      try clear q1
      try clear q15
      try clear q2
      try clear q24
      try clear q3
      try clear q304
      try clear q310
      obtain ⟨x1_3, HA, HK3, HO_1, BK303, HB⟩ := hrel
      cases gk with
      | zero => exact absurd HA.out (by simp [rubricref5_canon.l2])
      | succ k3 =>
       have H := HA.out
       clear HA
       simp only [rubricref5_canon.l2] at H
       by_cases c27 : (x1_3.length : Int) < (wrap64 (x2_3 + 1))
       ·rw [if_pos c27] at H
        have c27b0 : decide ((x1_3.length : Int) < (wrap64 (x2_3 + 1))) = true := decide_eq_true c27
        clear c27
        obtain ⟨y316, hy316⟩ : ∃ y_ : List Int, y_ = (([0] : List Int)) := ⟨_, rfl⟩
        replace H : (if y316.length + x1_3.length < 140737488355328 then (rubricref5_canon.l2 k3 a0 (y316 ++ x1_3) x2_3) else (none)) = some (r1, r2, r3) := by first | (rw [hy316]; with_reducible exact H) | (have H2_ := (Option.bind_some _ _).symm.trans H; rw [hy316]; with_reducible exact H2_) | (have H2_ := (Option.bind_some _ _).symm.trans H; with_reducible exact H2_) | with_reducible exact H | (rw [hy316]; exact H) | exact H
        have Ny316 := Aside0.mk hy316
        clear hy316
        by_cases c28 : y316.length + x1_3.length < 140737488355328
        ·rw [if_pos c28] at H
         have LMc28 := Aside0.mk c28
         clear c28
         obtain ⟨y319, hy319⟩ : ∃ y_ : List Int, y_ = (y316 ++ x1_3) := ⟨_, rfl⟩
         replace H : (rubricref5_canon.l2 k3 a0 y319 x2_3) = some (r1, r2, r3) := by first | (rw [hy319]; with_reducible exact H) | (have H2_ := (Option.bind_some _ _).symm.trans H; rw [hy319]; with_reducible exact H2_) | (have H2_ := (Option.bind_some _ _).symm.trans H; with_reducible exact H2_) | with_reducible exact H | (rw [hy319]; exact H) | exact H
         have Ny319 := Aside0.mk hy319
         clear hy319
         have H' := Aside0.mk H
         clear H
         obtain ⟨Ao29, co29, eo29⟩ := Kd.V_slice HO_1.out
         subst eo29
         go_wp2_with (first | ((with_reducible refine gate_dst (N := 49) rfl ?_); (try (refine gate_guard (by rfl) ?_; dsimp only)); refine Kd.R_lit (Kd.int .u8) _ 5 ?hg (N := 49) ?hd (xs := ([0] : List Int)) (inner := [.int .u8 0]) (ok := fun _ => True) (okp := fun _ => True) ?hr ?hp (fun _ hk => hk) trivial (Below.refl _ _) (Nat.le_refl _) (by simp) ?_; (case hd => rfl); (case hg => rfl); (case hr => first | (go_simp; done) | (go_simp; rfl)); (case hp => exact (Reps.one (show Kd.M (Kd.int .u8) _ _ _ 0 [.int .u8 0] from rfl) (Reps.none _ _))); intro v317 w30 ho31 hb hg_ hnew_; clear hg_ hnew_; (first | rw [← Ny316.out] at ho31 | (simp only [Int.reduceToNat] at ho31; rw [← Ny316.out] at ho31)); have n0_ := Aside0.mk (Kd.V_elder' (S.v HO_1.out) (Kd.R_base ho31) hb); have n1_ := Aside0.mk (Kd.R_lower (Kd.R_newM (M := fun k_ => (w.heap.size ≤ k_)) ho31 (below_size (by repeat (first | (with_reducible first | exact HB.out | apply below_alloc | apply pw_below_drewN | apply below_drew1 | refine below_set ?_ GE303.out) | exact HB.out))) (fun k_ h_ => h_)) (below_size (by repeat (first | (with_reducible first | exact HB.out | apply below_alloc | apply pw_below_drewN | apply below_drew1 | refine below_set ?_ GE303.out) | exact HB.out)))); have n2_ := Aside0.mk (blk_below (g := gb303) (o := .cells #[.bool false, .slice none 0 0, .int .i64 0] 36 (0, 0)) (S.b BK303.out) hb); have n3_ := Aside0.mk (below_step (by repeat (first | (with_reducible first | exact HB.out | apply below_alloc | apply pw_below_drewN | apply below_drew1 | refine below_set ?_ GE303.out) | exact HB.out)) hb); clear HO_1; clear BK303; clear HB; have HO_1 := n0_; have HO318 := n1_; have BK303 := n2_; have HB := n3_; clear n0_ n1_ n2_ n3_; clear hb ho31) | ((with_reducible refine gate_builtin (b := .append) (xs := #[.tmp 49, .tmp 50]) rfl ?_); (try (refine gate_guard (by rfl) ?_; dsimp only)); at_builtin; refine Kd.R_append_rows (Kd.int .u8) (w0 := w) w.heap.size rfl (.tmp 49) (.tmp 50) 22 5 (.int .u8 0) 1 rfl Try.underlying22 info5 rfl (by decide) (by omega) v317 y316 x1_3 _ _ _ (fun k_ => (w.heap.size ≤ k_)) (fun _ => False) rfl rfl ?aO ?aR (fun _ _ h => h) (fun _ h => h.elim) ?aF ?aB ?aS ?aL ?_; (case aR => repeat (first | exact (Kd.V_reads' HO_1.out).2.2 | (with_reducible refine Kd.C_alloc ?_ _) | (with_reducible refine Kd.C_drewN ?_ _) | (with_reducible refine Kd.C_drew ?_))); (case aB => exact (by repeat (first | (with_reducible first | exact HB.out | apply below_alloc | apply pw_below_drewN | apply below_drew1 | refine below_set ?_ GE303.out) | exact HB.out))); (case aF => exact (fun k_ hk => (Nat.le_trans (below_size (by repeat (first | (with_reducible first | exact HB.out | apply below_alloc | apply pw_below_drewN | apply below_drew1 | refine below_set ?_ GE303.out) | exact HB.out))) hk))); (case aO => exact (by (with_reducible repeat (first | apply Kd.R_alloc | apply Kd.R_drewN | apply Kd.R_drew)); exact Kd.R_mono HO318.out (fun _ hk => hk.1))); (case aS => exact (below_size (by repeat (first | (with_reducible first | exact HB.out | apply below_alloc | apply pw_below_drewN | apply below_drew1 | refine below_set ?_ GE303.out) | exact HB.out)))); (case aL => have := LMc28.out; omega); intro v320 w32 ho hb hg hat; rw [← Ny319.out] at ho; have n0_ := Aside0.mk (Kd.V_afterv (ok := (fun k_ => (P1_ k_ ∨ w.heap.size ≤ k_) ∧ k_ ≠ gb303)) (S.v HO_1.out) hg hat); have n1_ := Aside0.mk (blk_grown (g := gb303) (o := .cells #[.bool false, .slice none 0 0, .int .i64 0] 36 (0, 0)) (S.b BK303.out) hg (Kd.R_ne HO318.out BK303.out (by decide))); have n2_ := Aside0.mk (hb); have n3_ := Aside0.mk (ho); clear HO_1; clear BK303; clear HB; clear HO318; have HO_1 := n0_; have BK303 := n1_; have HB := n2_; have HO321 := n3_; clear n0_ n1_ n2_ n3_; clear ho hb hg hat))
         go_roundg k3
         case measure => have := HJ3.out; have := HJ17.out; have := HK3.out; omega
         case rel => exact ⟨(y319), H', ⟨by have := HJ3.out; have := HJ17.out; have := HK3.out; omega⟩, ⟨Kd.V_mono (Kd.R_V (by (with_reducible repeat (first | apply Kd.R_alloc | apply Kd.R_drewN | apply Kd.R_drew)); exact (Kd.R_types HO321.out BK303.out (by decide)))) (fun k_ hk => by first | exact ⟨(.inr (hk.1)), hk.2⟩ | exact (.inr (hk)))⟩, ⟨S.b BK303.out⟩, ⟨by repeat (first | (with_reducible first | exact HB.out | apply below_alloc | apply pw_below_drewN | apply below_drew1 | refine below_set ?_ GE303.out) | exact HB.out)⟩⟩
        ·rw [if_neg c28] at H
         exact absurd H (by simp)
       ·rw [if_neg c27] at H
        have c27b0 : decide ((x1_3.length : Int) < (wrap64 (x2_3 + 1))) = false := decide_eq_false c27
        clear c27
        obtain ⟨y322, hy322⟩ : ∃ y_ : List Int, y_ = (([] : List Int)) := ⟨_, rfl⟩
        replace H : (if y322.length + x1_3.length < 140737488355328 then ((some (y322 ++ x1_3 : List Int)).bind fun y325 => ((rubricref5_Dec_zero.f k3 a0 y325 x2_3).bind fun t329 => (if t329 = true then (some (false, y325, x2_3)) else (some (a0, y325, x2_3))))) else (none)) = some (r1, r2, r3) := by first | (rw [hy322]; with_reducible exact H) | (have H2_ := (Option.bind_some _ _).symm.trans H; rw [hy322]; with_reducible exact H2_) | (have H2_ := (Option.bind_some _ _).symm.trans H; with_reducible exact H2_) | with_reducible exact H | (rw [hy322]; exact H) | exact H
        have Ny322 := Aside0.mk hy322
        clear hy322
        by_cases c33 : y322.length + x1_3.length < 140737488355328
        ·rw [if_pos c33] at H
         have LMc33 := Aside0.mk c33
         clear c33
         obtain ⟨y325, hy325⟩ : ∃ y_ : List Int, y_ = (y322 ++ x1_3) := ⟨_, rfl⟩
         replace H : ((rubricref5_Dec_zero.f k3 a0 y325 x2_3).bind fun t329 => (if t329 = true then (some (false, y325, x2_3)) else (some (a0, y325, x2_3)))) = some (r1, r2, r3) := by first | (rw [hy325]; with_reducible exact H) | (have H2_ := (Option.bind_some _ _).symm.trans H; rw [hy325]; with_reducible exact H2_) | (have H2_ := (Option.bind_some _ _).symm.trans H; with_reducible exact H2_) | with_reducible exact H | (rw [hy325]; exact H) | exact H
         have Ny325 := Aside0.mk hy325
         clear hy325
         replace H := Option.bind_eq_some_iff.mp H
         obtain ⟨t329, A340, H⟩ := H
         replace H : (if t329 = true then (some (false, y325, x2_3)) else (some (a0, y325, x2_3))) = some (r1, r2, r3) := H
         have A34 := Aside0.mk A340
         clear A340
         by_cases c35 : t329 = true
         ·subst c35
          have H1 : (some (false, y325, x2_3)) = some (r1, r2, r3) := by rw [if_pos rfl] at H; exact H
          clear H
          have H := H1
          clear H1
          simp only [Option.some.injEq, Prod.mk.injEq] at H
          obtain ⟨rfl, rfl, rfl⟩ := H
          obtain ⟨Ao36, co36, eo36⟩ := Kd.V_slice HO_1.out
          subst eo36
          go_wp2_with (first | ((with_reducible refine gate_dst (N := 53) rfl ?_); (try (refine gate_guard (by rfl) ?_; dsimp only)); refine Kd.R_lit (Kd.int .u8) _ 5 ?hg (N := 53) ?hd (xs := ([] : List Int)) (inner := []) (ok := fun _ => True) (okp := fun _ => True) ?hr ?hp (fun _ hk => hk) trivial (Below.refl _ _) (Nat.le_refl _) (by simp) ?_; (case hd => rfl); (case hg => rfl); (case hr => first | (go_simp; done) | (go_simp; rfl)); (case hp => exact (Reps.none _ _)); intro v323 w37 ho38 hb hg_ hnew_; clear hg_ hnew_; (first | rw [← Ny322.out] at ho38 | (simp only [Int.reduceToNat] at ho38; rw [← Ny322.out] at ho38)); have n0_ := Aside0.mk (Kd.V_elder' (S.v HO_1.out) (Kd.R_base ho38) hb); have n1_ := Aside0.mk (Kd.R_lower (Kd.R_newM (M := fun k_ => (w.heap.size ≤ k_)) ho38 (below_size (by repeat (first | (with_reducible first | exact HB.out | apply below_alloc | apply pw_below_drewN | apply below_drew1 | refine below_set ?_ GE303.out) | exact HB.out))) (fun k_ h_ => h_)) (below_size (by repeat (first | (with_reducible first | exact HB.out | apply below_alloc | apply pw_below_drewN | apply below_drew1 | refine below_set ?_ GE303.out) | exact HB.out)))); have n2_ := Aside0.mk (blk_below (g := gb303) (o := .cells #[.bool false, .slice none 0 0, .int .i64 0] 36 (0, 0)) (S.b BK303.out) hb); have n3_ := Aside0.mk (below_step (by repeat (first | (with_reducible first | exact HB.out | apply below_alloc | apply pw_below_drewN | apply below_drew1 | refine below_set ?_ GE303.out) | exact HB.out)) hb); clear HO_1; clear BK303; clear HB; have HO_1 := n0_; have HO324 := n1_; have BK303 := n2_; have HB := n3_; clear n0_ n1_ n2_ n3_; clear hb ho38) | ((with_reducible refine gate_builtin (b := .append) (xs := #[.tmp 53, .tmp 54]) rfl ?_); (try (refine gate_guard (by rfl) ?_; dsimp only)); at_builtin; refine Kd.R_append_rows (Kd.int .u8) (w0 := w) w.heap.size rfl (.tmp 53) (.tmp 54) 22 5 (.int .u8 0) 1 rfl Try.underlying22 info5 rfl (by decide) (by omega) v323 y322 x1_3 _ _ _ (fun k_ => (w.heap.size ≤ k_)) (fun _ => False) rfl rfl ?aO ?aR (fun _ _ h => h) (fun _ h => h.elim) ?aF ?aB ?aS ?aL ?_; (case aR => repeat (first | exact (Kd.V_reads' HO_1.out).2.2 | (with_reducible refine Kd.C_alloc ?_ _) | (with_reducible refine Kd.C_drewN ?_ _) | (with_reducible refine Kd.C_drew ?_))); (case aB => exact (by repeat (first | (with_reducible first | exact HB.out | apply below_alloc | apply pw_below_drewN | apply below_drew1 | refine below_set ?_ GE303.out) | exact HB.out))); (case aF => exact (fun k_ hk => (Nat.le_trans (below_size (by repeat (first | (with_reducible first | exact HB.out | apply below_alloc | apply pw_below_drewN | apply below_drew1 | refine below_set ?_ GE303.out) | exact HB.out))) hk))); (case aO => exact (by (with_reducible repeat (first | apply Kd.R_alloc | apply Kd.R_drewN | apply Kd.R_drew)); exact Kd.R_mono HO324.out (fun _ hk => hk.1))); (case aS => exact (below_size (by repeat (first | (with_reducible first | exact HB.out | apply below_alloc | apply pw_below_drewN | apply below_drew1 | refine below_set ?_ GE303.out) | exact HB.out)))); (case aL => have := LMc33.out; omega); intro v326 w39 ho hb hg hat; rw [← Ny325.out] at ho; have n0_ := Aside0.mk (Kd.V_afterv (ok := (fun k_ => (P1_ k_ ∨ w.heap.size ≤ k_) ∧ k_ ≠ gb303)) (S.v HO_1.out) hg hat); have n1_ := Aside0.mk (blk_grown (g := gb303) (o := .cells #[.bool false, .slice none 0 0, .int .i64 0] 36 (0, 0)) (S.b BK303.out) hg (Kd.R_ne HO324.out BK303.out (by decide))); have n2_ := Aside0.mk (hb); have n3_ := Aside0.mk (ho); clear HO_1; clear BK303; clear HB; clear HO324; have HO_1 := n0_; have BK303 := n1_; have HB := n2_; have HO327 := n3_; clear n0_ n1_ n2_ n3_; clear ho hb hg hat; obtain ⟨Ao40, co40, eo40⟩ := Kd.R_slice HO327.out; subst eo40) | ((with_reducible refine gate_dst (N := 7) rfl ?_); (try (refine gate_guard (by rfl) ?_; dsimp only)); refine box_event ?hg (N := 7) ?hd (cs := #[.bool false, .slice none 0 0, .int .i64 0]) (t := 36) ?hr ?_; (case hd => rfl); (case hg => rfl); (case hr => first | (go_simp; done) | (go_simp; rfl)); intro gb328 hg w41 hbox hb; have n0_ := Aside0.mk (Kd.V_below (Kd.V_elderB (S.v HO_1.out) gb328 (Nat.le_of_eq hg.symm)) hb); have n1_ := Aside0.mk (Kd.R_below (S.r HO327.out) hb); have n2_ := Aside0.mk (blk_below (g := gb303) (o := .cells #[.bool false, .slice none 0 0, .int .i64 0] 36 (0, 0)) (S.b BK303.out) hb); have n3_ := Aside0.mk (below_step (by repeat (first | (with_reducible first | exact HB.out | apply below_alloc | apply pw_below_drewN | apply below_drew1 | refine below_set ?_ GE303.out) | exact HB.out)) hb); have n4_ := Aside0.mk (hbox); have n5_ := Aside0.mk ((by rw [hg]; exact (below_size (by repeat (first | (with_reducible first | exact HB.out | apply below_alloc | apply pw_below_drewN | apply below_drew1 | refine below_set ?_ GE303.out) | exact HB.out))) : w.heap.size ≤ gb328)); have n6_ := Aside0.mk ((by rw [hg]; exact (below_size (by repeat (first | (with_reducible first | exact HB.out | apply below_alloc | apply pw_below_drewN | apply below_drew1 | refine below_set ?_ GE303.out) | exact HB.out))) : w.heap.size ≤ gb328)); have n7_ := Aside0.mk ((by rw [hg]; exact Nat.ne_of_lt (blk_lt (g := gb303) (o := .cells #[.bool false, .slice none 0 0, .int .i64 0] 36 (0, 0)) (S.b BK303.out)) : gb303 ≠ gb328)); have n8_ := Aside0.mk ((by rw [hg]; exact Nat.ne_of_gt (blk_lt (g := gb303) (o := .cells #[.bool false, .slice none 0 0, .int .i64 0] 36 (0, 0)) (S.b BK303.out)) : gb328 ≠ gb303)); clear HO_1; clear HO327; clear BK303; clear HB; have HO_1 := n0_; have HO327 := n1_; have BK303 := n2_; have HB := n3_; have BK328 := n4_; have GW328 := n5_; have GE328 := n6_; have NB303_328 := n7_; have NB328_303 := n8_; clear n0_ n1_ n2_ n3_ n4_ n5_ n6_ n7_ n8_; clear hb hbox hg; have hnb42 := NB328_303.out; have hnc42 := NB303_328.out; have hcz43_0 : w41.cell? ⟨gb328, 0, none⟩ = some (.bool false) := (blk_cell BK328.out 0).trans rfl; have hcz43_1 : w41.cell? ⟨gb328, 1, none⟩ = some (.slice none 0 0) := (blk_cell BK328.out 1).trans rfl; have hcz43_2 : w41.cell? ⟨gb328, 2, none⟩ = some (.int .i64 0) := (blk_cell BK328.out 2).trans rfl; have hfz43_0 := blk_frozen BK328.out 0; have hfz43_1 := blk_frozen BK328.out 1; have hfz43_2 := blk_frozen BK328.out 2) | ((with_reducible refine gate_callee (f := 40) rfl ?_); refine goesL_ (some 59) rfl rfl Try.func40 (by kernel_rfl) rfl #[.agg #[.bool a0, .slice Ao40 y325.length co40, .int .i64 x2_3]] rfl (by (try simp only [List.map_toArray, List.map_cons, List.map_nil]); first | done | rfl | (simp only [List.length_drop, List.length_take]; rfl)) ?_; (with_reducible refine (rubricref5_Dec_zero.calls k3 a0 _ _ y325 x2_3 true _ ?side1 ?side2 A34.out).mono ?_); (case side1 => refine (Kd.R_reads' (e := 5) (base := w.heap.size) (ok := fun k_ => (w.heap.size ≤ k_)) (n := y325.length) (c := co40) ?_).2.2; exact (by (with_reducible repeat (first | apply Kd.R_alloc | apply Kd.R_drewN | apply Kd.R_drew)); exact (Kd.R_mono (Kd.R_far (p := ⟨gb328, 2, none⟩) (Kd.R_far (p := ⟨gb328, 1, none⟩) (Kd.R_far (p := ⟨gb328, 0, none⟩) (Kd.R_types HO327.out BK328.out (by decide)) (fun _ hk => hk.2) (.bool a0)) (fun _ hk => hk.2) (.slice Ao40 y325.length co40)) (fun _ hk => hk.2) (.int .i64 x2_3)) (fun _ h_ => h_.1)))); (case side2 => exact (Kd.R_reads' HO327.out).2.1); rintro e w44 ⟨rfl, hb⟩; refine ⟨_, rfl, ?_⟩; have n0_ := Aside0.mk (Kd.V_below (by (with_reducible repeat (first | apply Kd.V_alloc | apply Kd.V_drewN | apply Kd.V_drew)); exact (Kd.V_mono (Kd.V_far (p := ⟨gb328, 2, none⟩) (Kd.V_far (p := ⟨gb328, 1, none⟩) (Kd.V_far (p := ⟨gb328, 0, none⟩) (Kd.V_mono HO_1.out (fun k_ hk => (⟨hk, hk.2⟩ : _ ∧ k_ ≠ gb328))) (fun _ hk => hk.2) (.bool a0)) (fun _ hk => hk.2) (.slice Ao40 y325.length co40)) (fun _ hk => hk.2) (.int .i64 x2_3)) (fun _ h_ => h_.1))) hb); have n1_ := Aside0.mk (Kd.R_below (by (with_reducible repeat (first | apply Kd.R_alloc | apply Kd.R_drewN | apply Kd.R_drew)); exact (Kd.R_mono (Kd.R_far (p := ⟨gb328, 2, none⟩) (Kd.R_far (p := ⟨gb328, 1, none⟩) (Kd.R_far (p := ⟨gb328, 0, none⟩) (Kd.R_types HO327.out BK328.out (by decide)) (fun _ hk => hk.2) (.bool a0)) (fun _ hk => hk.2) (.slice Ao40 y325.length co40)) (fun _ hk => hk.2) (.int .i64 x2_3)) (fun _ h_ => h_.1))) hb); have n2_ := Aside0.mk (blk_below (g := gb303) (o := .cells #[.bool false, .slice none 0 0, .int .i64 0] 36 (0, 0)) (by (with_reducible repeat (first | refine blk_drewN ?_ _ | refine blk_drew ?_ | refine blk_alloc ?_ _)); refine blk_far ?_ NB303_328.out _; (with_reducible repeat (first | refine blk_drewN ?_ _ | refine blk_drew ?_ | refine blk_alloc ?_ _)); refine blk_far ?_ NB303_328.out _; (with_reducible repeat (first | refine blk_drewN ?_ _ | refine blk_drew ?_ | refine blk_alloc ?_ _)); refine blk_far ?_ NB303_328.out _; (with_reducible repeat (first | refine blk_drewN ?_ _ | refine blk_drew ?_ | refine blk_alloc ?_ _)); exact BK303.out) hb); have n3_ := Aside0.mk (blk_below (g := gb328) (o := .cells #[.bool a0, .slice Ao40 y325.length co40, .int .i64 x2_3] 36 (0, 0)) (by (with_reducible repeat (first | refine blk_drewN ?_ _ | refine blk_drew ?_ | refine blk_alloc ?_ _)); refine blk_put (cs := #[.bool a0, .slice Ao40 y325.length co40, .int .i64 0]) ?_ 2 _ rfl; (with_reducible repeat (first | refine blk_drewN ?_ _ | refine blk_drew ?_ | refine blk_alloc ?_ _)); refine blk_put (cs := #[.bool a0, .slice none 0 0, .int .i64 0]) ?_ 1 _ rfl; (with_reducible repeat (first | refine blk_drewN ?_ _ | refine blk_drew ?_ | refine blk_alloc ?_ _)); refine blk_put (cs := #[.bool false, .slice none 0 0, .int .i64 0]) ?_ 0 _ rfl; (with_reducible repeat (first | refine blk_drewN ?_ _ | refine blk_drew ?_ | refine blk_alloc ?_ _)); exact BK328.out) hb); have n4_ := Aside0.mk (below_step (by repeat (first | (with_reducible first | exact HB.out | apply below_alloc | apply pw_below_drewN | apply below_drew1 | refine below_set ?_ GE303.out | refine below_set ?_ GE328.out) | exact HB.out)) hb); clear HO_1; clear HO327; clear BK303; clear BK328; clear HB; have HO_1 := n0_; have HO327 := n1_; have BK303 := n2_; have BK328 := n3_; have HB := n4_; clear n0_ n1_ n2_ n3_ n4_; (try clear hb); (try clear hb2); (try clear hk); (try clear hi); have hcz45_0 : w44.cell? ⟨gb328, 0, none⟩ = some (.bool a0) := (blk_cell BK328.out 0).trans rfl; have hcz45_1 : w44.cell? ⟨gb328, 1, none⟩ = some (.slice Ao40 y325.length co40) := (blk_cell BK328.out 1).trans rfl; have hcz45_2 : w44.cell? ⟨gb328, 2, none⟩ = some (.int .i64 x2_3) := (blk_cell BK328.out 2).trans rfl; have hfz45_0 := blk_frozen BK328.out 0; have hfz45_1 := blk_frozen BK328.out 1; have hfz45_2 := blk_frozen BK328.out 2; have hcz46_0 : w44.cell? ⟨gb303, 0, none⟩ = some (.bool false) := (blk_cell BK303.out 0).trans rfl; have hcz46_1 : w44.cell? ⟨gb303, 1, none⟩ = some (.slice none 0 0) := (blk_cell BK303.out 1).trans rfl; have hcz46_2 : w44.cell? ⟨gb303, 2, none⟩ = some (.int .i64 0) := (blk_cell BK303.out 2).trans rfl; have hfz46_0 := blk_frozen BK303.out 0; have hfz46_1 := blk_frozen BK303.out 1; have hfz46_2 := blk_frozen BK303.out 2))
          refine bodyPost_ret (results_cell_row rfl _ _ gb303 36 #[.bool false, .slice Ao40 y325.length co40, .int .i64 x2_3] (0, 0) _ rfl (by (with_reducible repeat (first | refine blk_drewN ?_ _ | refine blk_drew ?_ | refine blk_alloc ?_ _)); refine blk_put (cs := #[.bool false, .slice Ao40 y325.length co40, .int .i64 0]) ?_ 2 _ rfl; (with_reducible repeat (first | refine blk_drewN ?_ _ | refine blk_drew ?_ | refine blk_alloc ?_ _)); refine blk_put (cs := #[.bool false, .slice none 0 0, .int .i64 0]) ?_ 1 _ rfl; (with_reducible repeat (first | refine blk_drewN ?_ _ | refine blk_drew ?_ | refine blk_alloc ?_ _)); refine blk_put (cs := #[.bool false, .slice none 0 0, .int .i64 0]) ?_ 0 _ rfl; (with_reducible repeat (first | refine blk_drewN ?_ _ | refine blk_drew ?_ | refine blk_alloc ?_ _)); refine blk_far ?_ NB303_328.out _; (with_reducible repeat (first | refine blk_drewN ?_ _ | refine blk_drew ?_ | refine blk_alloc ?_ _)); exact BK303.out) Try.underlying36 rfl (by kernel_rfl)) rfl ?_
          exact ⟨_, by first | rfl | (simp [errW_none, errW_some] <;> rfl) | (simp [*, errW_none, errW_some] <;> rfl), by (with_reducible repeat (first | apply Kd.R_alloc | apply Kd.R_drewN | apply Kd.R_drew)); exact Kd.R_mono (Kd.R_far (p := ⟨gb303, 2, none⟩) (Kd.R_far (p := ⟨gb303, 1, none⟩) (Kd.R_far (p := ⟨gb303, 0, none⟩) (Kd.R_far (p := ⟨gb328, 0, none⟩) (Kd.R_types (Kd.R_types HO327.out BK328.out (by decide)) BK303.out (by decide)) (fun _ hk => hk.1.2) (.bool false)) (fun _ hk => hk.2) (.bool false)) (fun _ hk => hk.2) (.slice Ao40 y325.length co40)) (fun _ hk => hk.2) (.int .i64 x2_3)) (fun _ hk => hk.1.1), by repeat (first | (with_reducible first | exact HB.out | apply below_alloc | apply pw_below_drewN | apply below_drew1 | refine below_set ?_ GE303.out | refine below_set ?_ GE328.out) | exact HB.out)⟩
         ·replace c35 := Bool.eq_false_iff.mpr c35
          subst c35
          have H1 : (some (a0, y325, x2_3)) = some (r1, r2, r3) := by rw [if_neg (show ¬ (false = true) by decide)] at H; exact H
          clear H
          have H := H1
          clear H1
          simp only [Option.some.injEq, Prod.mk.injEq] at H
          obtain ⟨rfl, rfl, rfl⟩ := H
          obtain ⟨Ao47, co47, eo47⟩ := Kd.V_slice HO_1.out
          subst eo47
          go_wp2_with (first | ((with_reducible refine gate_dst (N := 53) rfl ?_); (try (refine gate_guard (by rfl) ?_; dsimp only)); refine Kd.R_lit (Kd.int .u8) _ 5 ?hg (N := 53) ?hd (xs := ([] : List Int)) (inner := []) (ok := fun _ => True) (okp := fun _ => True) ?hr ?hp (fun _ hk => hk) trivial (Below.refl _ _) (Nat.le_refl _) (by simp) ?_; (case hd => rfl); (case hg => rfl); (case hr => first | (go_simp; done) | (go_simp; rfl)); (case hp => exact (Reps.none _ _)); intro v323 w48 ho49 hb hg_ hnew_; clear hg_ hnew_; (first | rw [← Ny322.out] at ho49 | (simp only [Int.reduceToNat] at ho49; rw [← Ny322.out] at ho49)); have n0_ := Aside0.mk (Kd.V_elder' (S.v HO_1.out) (Kd.R_base ho49) hb); have n1_ := Aside0.mk (Kd.R_lower (Kd.R_newM (M := fun k_ => (w.heap.size ≤ k_)) ho49 (below_size (by repeat (first | (with_reducible first | exact HB.out | apply below_alloc | apply pw_below_drewN | apply below_drew1 | refine below_set ?_ GE303.out) | exact HB.out))) (fun k_ h_ => h_)) (below_size (by repeat (first | (with_reducible first | exact HB.out | apply below_alloc | apply pw_below_drewN | apply below_drew1 | refine below_set ?_ GE303.out) | exact HB.out)))); have n2_ := Aside0.mk (blk_below (g := gb303) (o := .cells #[.bool false, .slice none 0 0, .int .i64 0] 36 (0, 0)) (S.b BK303.out) hb); have n3_ := Aside0.mk (below_step (by repeat (first | (with_reducible first | exact HB.out | apply below_alloc | apply pw_below_drewN | apply below_drew1 | refine below_set ?_ GE303.out) | exact HB.out)) hb); clear HO_1; clear BK303; clear HB; have HO_1 := n0_; have HO324 := n1_; have BK303 := n2_; have HB := n3_; clear n0_ n1_ n2_ n3_; clear hb ho49) | ((with_reducible refine gate_builtin (b := .append) (xs := #[.tmp 53, .tmp 54]) rfl ?_); (try (refine gate_guard (by rfl) ?_; dsimp only)); at_builtin; refine Kd.R_append_rows (Kd.int .u8) (w0 := w) w.heap.size rfl (.tmp 53) (.tmp 54) 22 5 (.int .u8 0) 1 rfl Try.underlying22 info5 rfl (by decide) (by omega) v323 y322 x1_3 _ _ _ (fun k_ => (w.heap.size ≤ k_)) (fun _ => False) rfl rfl ?aO ?aR (fun _ _ h => h) (fun _ h => h.elim) ?aF ?aB ?aS ?aL ?_; (case aR => repeat (first | exact (Kd.V_reads' HO_1.out).2.2 | (with_reducible refine Kd.C_alloc ?_ _) | (with_reducible refine Kd.C_drewN ?_ _) | (with_reducible refine Kd.C_drew ?_))); (case aB => exact (by repeat (first | (with_reducible first | exact HB.out | apply below_alloc | apply pw_below_drewN | apply below_drew1 | refine below_set ?_ GE303.out) | exact HB.out))); (case aF => exact (fun k_ hk => (Nat.le_trans (below_size (by repeat (first | (with_reducible first | exact HB.out | apply below_alloc | apply pw_below_drewN | apply below_drew1 | refine below_set ?_ GE303.out) | exact HB.out))) hk))); (case aO => exact (by (with_reducible repeat (first | apply Kd.R_alloc | apply Kd.R_drewN | apply Kd.R_drew)); exact Kd.R_mono HO324.out (fun _ hk => hk.1))); (case aS => exact (below_size (by repeat (first | (with_reducible first | exact HB.out | apply below_alloc | apply pw_below_drewN | apply below_drew1 | refine below_set ?_ GE303.out) | exact HB.out)))); (case aL => have := LMc33.out; omega); intro v326 w50 ho hb hg hat; rw [← Ny325.out] at ho; have n0_ := Aside0.mk (Kd.V_afterv (ok := (fun k_ => (P1_ k_ ∨ w.heap.size ≤ k_) ∧ k_ ≠ gb303)) (S.v HO_1.out) hg hat); have n1_ := Aside0.mk (blk_grown (g := gb303) (o := .cells #[.bool false, .slice none 0 0, .int .i64 0] 36 (0, 0)) (S.b BK303.out) hg (Kd.R_ne HO324.out BK303.out (by decide))); have n2_ := Aside0.mk (hb); have n3_ := Aside0.mk (ho); clear HO_1; clear BK303; clear HB; clear HO324; have HO_1 := n0_; have BK303 := n1_; have HB := n2_; have HO327 := n3_; clear n0_ n1_ n2_ n3_; clear ho hb hg hat; obtain ⟨Ao51, co51, eo51⟩ := Kd.R_slice HO327.out; subst eo51) | ((with_reducible refine gate_dst (N := 7) rfl ?_); (try (refine gate_guard (by rfl) ?_; dsimp only)); refine box_event ?hg (N := 7) ?hd (cs := #[.bool false, .slice none 0 0, .int .i64 0]) (t := 36) ?hr ?_; (case hd => rfl); (case hg => rfl); (case hr => first | (go_simp; done) | (go_simp; rfl)); intro gb328 hg w52 hbox hb; have n0_ := Aside0.mk (Kd.V_below (Kd.V_elderB (S.v HO_1.out) gb328 (Nat.le_of_eq hg.symm)) hb); have n1_ := Aside0.mk (Kd.R_below (S.r HO327.out) hb); have n2_ := Aside0.mk (blk_below (g := gb303) (o := .cells #[.bool false, .slice none 0 0, .int .i64 0] 36 (0, 0)) (S.b BK303.out) hb); have n3_ := Aside0.mk (below_step (by repeat (first | (with_reducible first | exact HB.out | apply below_alloc | apply pw_below_drewN | apply below_drew1 | refine below_set ?_ GE303.out) | exact HB.out)) hb); have n4_ := Aside0.mk (hbox); have n5_ := Aside0.mk ((by rw [hg]; exact (below_size (by repeat (first | (with_reducible first | exact HB.out | apply below_alloc | apply pw_below_drewN | apply below_drew1 | refine below_set ?_ GE303.out) | exact HB.out))) : w.heap.size ≤ gb328)); have n6_ := Aside0.mk ((by rw [hg]; exact (below_size (by repeat (first | (with_reducible first | exact HB.out | apply below_alloc | apply pw_below_drewN | apply below_drew1 | refine below_set ?_ GE303.out) | exact HB.out))) : w.heap.size ≤ gb328)); have n7_ := Aside0.mk ((by rw [hg]; exact Nat.ne_of_lt (blk_lt (g := gb303) (o := .cells #[.bool false, .slice none 0 0, .int .i64 0] 36 (0, 0)) (S.b BK303.out)) : gb303 ≠ gb328)); have n8_ := Aside0.mk ((by rw [hg]; exact Nat.ne_of_gt (blk_lt (g := gb303) (o := .cells #[.bool false, .slice none 0 0, .int .i64 0] 36 (0, 0)) (S.b BK303.out)) : gb328 ≠ gb303)); clear HO_1; clear HO327; clear BK303; clear HB; have HO_1 := n0_; have HO327 := n1_; have BK303 := n2_; have HB := n3_; have BK328 := n4_; have GW328 := n5_; have GE328 := n6_; have NB303_328 := n7_; have NB328_303 := n8_; clear n0_ n1_ n2_ n3_ n4_ n5_ n6_ n7_ n8_; clear hb hbox hg; have hnb53 := NB328_303.out; have hnc53 := NB303_328.out; have hcz54_0 : w52.cell? ⟨gb328, 0, none⟩ = some (.bool false) := (blk_cell BK328.out 0).trans rfl; have hcz54_1 : w52.cell? ⟨gb328, 1, none⟩ = some (.slice none 0 0) := (blk_cell BK328.out 1).trans rfl; have hcz54_2 : w52.cell? ⟨gb328, 2, none⟩ = some (.int .i64 0) := (blk_cell BK328.out 2).trans rfl; have hfz54_0 := blk_frozen BK328.out 0; have hfz54_1 := blk_frozen BK328.out 1; have hfz54_2 := blk_frozen BK328.out 2) | ((with_reducible refine gate_callee (f := 40) rfl ?_); refine goesL_ (some 59) rfl rfl Try.func40 (by kernel_rfl) rfl #[.agg #[.bool a0, .slice Ao51 y325.length co51, .int .i64 x2_3]] rfl (by (try simp only [List.map_toArray, List.map_cons, List.map_nil]); first | done | rfl | (simp only [List.length_drop, List.length_take]; rfl)) ?_; (with_reducible refine (rubricref5_Dec_zero.calls k3 a0 _ _ y325 x2_3 false _ ?side1 ?side2 A34.out).mono ?_); (case side1 => refine (Kd.R_reads' (e := 5) (base := w.heap.size) (ok := fun k_ => (w.heap.size ≤ k_)) (n := y325.length) (c := co51) ?_).2.2; exact (by (with_reducible repeat (first | apply Kd.R_alloc | apply Kd.R_drewN | apply Kd.R_drew)); exact (Kd.R_mono (Kd.R_far (p := ⟨gb328, 2, none⟩) (Kd.R_far (p := ⟨gb328, 1, none⟩) (Kd.R_far (p := ⟨gb328, 0, none⟩) (Kd.R_types HO327.out BK328.out (by decide)) (fun _ hk => hk.2) (.bool a0)) (fun _ hk => hk.2) (.slice Ao51 y325.length co51)) (fun _ hk => hk.2) (.int .i64 x2_3)) (fun _ h_ => h_.1)))); (case side2 => exact (Kd.R_reads' HO327.out).2.1); rintro e w55 ⟨rfl, hb⟩; refine ⟨_, rfl, ?_⟩; have n0_ := Aside0.mk (Kd.V_below (by (with_reducible repeat (first | apply Kd.V_alloc | apply Kd.V_drewN | apply Kd.V_drew)); exact (Kd.V_mono (Kd.V_far (p := ⟨gb328, 2, none⟩) (Kd.V_far (p := ⟨gb328, 1, none⟩) (Kd.V_far (p := ⟨gb328, 0, none⟩) (Kd.V_mono HO_1.out (fun k_ hk => (⟨hk, hk.2⟩ : _ ∧ k_ ≠ gb328))) (fun _ hk => hk.2) (.bool a0)) (fun _ hk => hk.2) (.slice Ao51 y325.length co51)) (fun _ hk => hk.2) (.int .i64 x2_3)) (fun _ h_ => h_.1))) hb); have n1_ := Aside0.mk (Kd.R_below (by (with_reducible repeat (first | apply Kd.R_alloc | apply Kd.R_drewN | apply Kd.R_drew)); exact (Kd.R_mono (Kd.R_far (p := ⟨gb328, 2, none⟩) (Kd.R_far (p := ⟨gb328, 1, none⟩) (Kd.R_far (p := ⟨gb328, 0, none⟩) (Kd.R_types HO327.out BK328.out (by decide)) (fun _ hk => hk.2) (.bool a0)) (fun _ hk => hk.2) (.slice Ao51 y325.length co51)) (fun _ hk => hk.2) (.int .i64 x2_3)) (fun _ h_ => h_.1))) hb); have n2_ := Aside0.mk (blk_below (g := gb303) (o := .cells #[.bool false, .slice none 0 0, .int .i64 0] 36 (0, 0)) (by (with_reducible repeat (first | refine blk_drewN ?_ _ | refine blk_drew ?_ | refine blk_alloc ?_ _)); refine blk_far ?_ NB303_328.out _; (with_reducible repeat (first | refine blk_drewN ?_ _ | refine blk_drew ?_ | refine blk_alloc ?_ _)); refine blk_far ?_ NB303_328.out _; (with_reducible repeat (first | refine blk_drewN ?_ _ | refine blk_drew ?_ | refine blk_alloc ?_ _)); refine blk_far ?_ NB303_328.out _; (with_reducible repeat (first | refine blk_drewN ?_ _ | refine blk_drew ?_ | refine blk_alloc ?_ _)); exact BK303.out) hb); have n3_ := Aside0.mk (blk_below (g := gb328) (o := .cells #[.bool a0, .slice Ao51 y325.length co51, .int .i64 x2_3] 36 (0, 0)) (by (with_reducible repeat (first | refine blk_drewN ?_ _ | refine blk_drew ?_ | refine blk_alloc ?_ _)); refine blk_put (cs := #[.bool a0, .slice Ao51 y325.length co51, .int .i64 0]) ?_ 2 _ rfl; (with_reducible repeat (first | refine blk_drewN ?_ _ | refine blk_drew ?_ | refine blk_alloc ?_ _)); refine blk_put (cs := #[.bool a0, .slice none 0 0, .int .i64 0]) ?_ 1 _ rfl; (with_reducible repeat (first | refine blk_drewN ?_ _ | refine blk_drew ?_ | refine blk_alloc ?_ _)); refine blk_put (cs := #[.bool false, .slice none 0 0, .int .i64 0]) ?_ 0 _ rfl; (with_reducible repeat (first | refine blk_drewN ?_ _ | refine blk_drew ?_ | refine blk_alloc ?_ _)); exact BK328.out) hb); have n4_ := Aside0.mk (below_step (by repeat (first | (with_reducible first | exact HB.out | apply below_alloc | apply pw_below_drewN | apply below_drew1 | refine below_set ?_ GE303.out | refine below_set ?_ GE328.out) | exact HB.out)) hb); clear HO_1; clear HO327; clear BK303; clear BK328; clear HB; have HO_1 := n0_; have HO327 := n1_; have BK303 := n2_; have BK328 := n3_; have HB := n4_; clear n0_ n1_ n2_ n3_ n4_; (try clear hb); (try clear hb2); (try clear hk); (try clear hi); have hcz56_0 : w55.cell? ⟨gb328, 0, none⟩ = some (.bool a0) := (blk_cell BK328.out 0).trans rfl; have hcz56_1 : w55.cell? ⟨gb328, 1, none⟩ = some (.slice Ao51 y325.length co51) := (blk_cell BK328.out 1).trans rfl; have hcz56_2 : w55.cell? ⟨gb328, 2, none⟩ = some (.int .i64 x2_3) := (blk_cell BK328.out 2).trans rfl; have hfz56_0 := blk_frozen BK328.out 0; have hfz56_1 := blk_frozen BK328.out 1; have hfz56_2 := blk_frozen BK328.out 2; have hcz57_0 : w55.cell? ⟨gb303, 0, none⟩ = some (.bool false) := (blk_cell BK303.out 0).trans rfl; have hcz57_1 : w55.cell? ⟨gb303, 1, none⟩ = some (.slice none 0 0) := (blk_cell BK303.out 1).trans rfl; have hcz57_2 : w55.cell? ⟨gb303, 2, none⟩ = some (.int .i64 0) := (blk_cell BK303.out 2).trans rfl; have hfz57_0 := blk_frozen BK303.out 0; have hfz57_1 := blk_frozen BK303.out 1; have hfz57_2 := blk_frozen BK303.out 2))
          refine bodyPost_ret (results_cell_row rfl _ _ gb303 36 #[.bool a0, .slice Ao51 y325.length co51, .int .i64 x2_3] (0, 0) _ rfl (by (with_reducible repeat (first | refine blk_drewN ?_ _ | refine blk_drew ?_ | refine blk_alloc ?_ _)); refine blk_put (cs := #[.bool a0, .slice Ao51 y325.length co51, .int .i64 0]) ?_ 2 _ rfl; (with_reducible repeat (first | refine blk_drewN ?_ _ | refine blk_drew ?_ | refine blk_alloc ?_ _)); refine blk_put (cs := #[.bool a0, .slice none 0 0, .int .i64 0]) ?_ 1 _ rfl; (with_reducible repeat (first | refine blk_drewN ?_ _ | refine blk_drew ?_ | refine blk_alloc ?_ _)); refine blk_put (cs := #[.bool false, .slice none 0 0, .int .i64 0]) ?_ 0 _ rfl; (with_reducible repeat (first | refine blk_drewN ?_ _ | refine blk_drew ?_ | refine blk_alloc ?_ _)); exact BK303.out) Try.underlying36 rfl (by kernel_rfl)) rfl ?_
          exact ⟨_, by first | rfl | (simp [errW_none, errW_some] <;> rfl) | (simp [*, errW_none, errW_some] <;> rfl), by (with_reducible repeat (first | apply Kd.R_alloc | apply Kd.R_drewN | apply Kd.R_drew)); exact Kd.R_mono (Kd.R_far (p := ⟨gb303, 2, none⟩) (Kd.R_far (p := ⟨gb303, 1, none⟩) (Kd.R_far (p := ⟨gb303, 0, none⟩) (Kd.R_types HO327.out BK303.out (by decide)) (fun _ hk => hk.2) (.bool a0)) (fun _ hk => hk.2) (.slice Ao51 y325.length co51)) (fun _ hk => hk.2) (.int .i64 x2_3)) (fun _ hk => hk.1), by repeat (first | (with_reducible first | exact HB.out | apply below_alloc | apply pw_below_drewN | apply below_drew1 | refine below_set ?_ GE303.out | refine below_set ?_ GE328.out) | exact HB.out)⟩
        ·rw [if_neg c33] at H
         exact absurd H (by simp)

end Go.Proofs.Ytnafjabpkbahdaa.Pr
