-- printed by wip/gprint.py (ours) out of the translation, by the kit's print program with given contracts
import Derived.Test.YtjhmpippcndloaaG4
import Derived.Test.YtjhmpippcndloaaPrx0
import Derived.Test.YtjhmpippcndloaaPrx4
import Derived.Test.YtjhmpippcndloaaPrx5
import Derived.Test.YtjhmpippcndloaaPrx6
import Derived.Test.YtjhmpippcndloaaPrx9
namespace Go.Proofs.Ytjhmpippcndloaa.Pr
open Go.RowKit Go.Proofs.YtjhmpippcndloaaW.PrintWords Go.Proofs.YtjhmpippcndloaaW.PrintLast Go.Proofs.YtjhmpippcndloaaW.PrintMore
attribute [local go_sem] max2_int min2_int max_two min_two max_three min_three max_four min_four   -- for this text's walks alone
set_option linter.unusedVariables false
set_option linter.unusedSimpArgs false

/-! ### rubriclaw7_SetEdges: function 3 -/
mutual
def rubriclaw7_SetEdges.j0 : Nat → Int → Int → Int → Int → Bool → Option (Bool)
 | 0, _, _, _, _, _ => none
 | k + 1, x0, x1, x2, x3, x47 => if x47 = true then (some true) else ((set_Of.f k (([(⟨wrap32 ((wrap32 (x0 + x1)) + x2), wrap32 ((wrap32 ((wrap32 ((wrap32 (x0 + x1)) + x2)) + x3)) - 1)⟩ : S24), (⟨x0, wrap32 ((wrap32 (x0 + x1)) - 1)⟩ : S24)] : List (S24)))).bind fun t377 => ((some (([(⟨x0, wrap32 ((wrap32 (x0 + x1)) - 1)⟩ : S24), (⟨wrap32 ((wrap32 (x0 + x1)) + x2), wrap32 ((wrap32 ((wrap32 ((wrap32 (x0 + x1)) + x2)) + x3)) - 1)⟩ : S24)] : List (S24)) : List (S24))).bind fun y380 => (rubriclaw7_SetEdges.l0 k x0 x2 t377 0 y380 (y380.length : Int) 0 (wrap32 ((wrap32 (x0 + x1)) + x2)) (wrap32 ((wrap32 ((wrap32 ((wrap32 (x0 + x1)) + x2)) + x3)) - 1)))))
def rubriclaw7_SetEdges.l0 : Nat → Int → Int → List (S24) → Int → List (S24) → Int → Int → Int → Int → Option (Bool)
 | 0, _, _, _, _, _, _, _, _, _ => none
 | k + 1, x0, x2, x11, x12, x74, x75, x76, x374000, x374001 => if x76 < x75 then (if 0 ≤ x76 then (if x76 < (x74.length : Int) then (if ((rd_T24 x74 x76).f1) > 1114111 then (if ((rd_T24 x74 x76).f0) ≤ 1114111 then (rubriclaw7_SetEdges.l0 k x0 x2 x11 (wrap64 ((wrap64 (x12 + (wrap64 (wrap32 (1114111 - ((rd_T24 x74 x76).f0)))))) + 1)) x74 x75 (wrap64 (x76 + 1)) x374000 x374001) else (rubriclaw7_SetEdges.l0 k x0 x2 x11 x12 x74 x75 (wrap64 (x76 + 1)) x374000 x374001)) else (if ((rd_T24 x74 x76).f0) ≤ ((rd_T24 x74 x76).f1) then (rubriclaw7_SetEdges.l0 k x0 x2 x11 (wrap64 ((wrap64 (x12 + (wrap64 (wrap32 (((rd_T24 x74 x76).f1) - ((rd_T24 x74 x76).f0)))))) + 1)) x74 x75 (wrap64 (x76 + 1)) x374000 x374001) else (rubriclaw7_SetEdges.l0 k x0 x2 x11 x12 x74 x75 (wrap64 (x76 + 1)) x374000 x374001))) else (none)) else (none)) else (if x2 = 0 then (rubriclaw7_SetEdges.j2 k x0 x11 x12 2 true) else (rubriclaw7_SetEdges.j2 k x0 x11 x12 2 (decide (x374000 > 1114111))))
def rubriclaw7_SetEdges.j2 : Nat → Int → List (S24) → Int → Int → Bool → Option (Bool)
 | 0, _, _, _, _, _ => none
 | k + 1, x0, x11, x12, x15, x105 => if x105 = true then (rubriclaw7_SetEdges.j3 k x0 x11 x12 1) else (rubriclaw7_SetEdges.j3 k x0 x11 x12 x15)
def rubriclaw7_SetEdges.j3 : Nat → Int → List (S24) → Int → Int → Option (Bool)
 | 0, _, _, _, _ => none
 | k + 1, x0, x11, x12, x15 => if (x11.length : Int) = x15 then ((set_Set_Size.f k x11).bind fun t385 => (if t385 = x12 then ((set_Set_Right.f k x11).bind fun t386 => (if t386 = true then ((G.set_Has.f x11 x0).bind fun t387 => (if t387 = true then ((G.set_Has.f x11 (wrap32 (x0 - 1))).bind fun t388 => (some (!t388))) else (some false))) else (some false))) else (some false))) else (some false)
end
def rubriclaw7_SetEdges.f (k : Nat) (a0 : Int) (a1 : Int) (a2 : Int) (a3 : Int) : Option (Bool) := (rubriclaw7_known.f k).bind fun t371 => (if t371 = true then (if a0 < 0 then (rubriclaw7_SetEdges.j0 k a0 a1 a2 a3 true) else (if a1 < 1 then (rubriclaw7_SetEdges.j0 k a0 a1 a2 a3 true) else (if a2 < 0 then (rubriclaw7_SetEdges.j0 k a0 a1 a2 a3 true) else (if a3 < 1 then (rubriclaw7_SetEdges.j0 k a0 a1 a2 a3 true) else (if a0 > 1114111 then (rubriclaw7_SetEdges.j0 k a0 a1 a2 a3 true) else (if a1 > 1000 then (rubriclaw7_SetEdges.j0 k a0 a1 a2 a3 true) else (if a2 > 1000 then (rubriclaw7_SetEdges.j0 k a0 a1 a2 a3 true) else (rubriclaw7_SetEdges.j0 k a0 a1 a2 a3 (decide (a3 > 1000)))))))))) else (some false))
theorem rubriclaw7_SetEdges.mono_l : ∀ k, (∀ y0 y1 y2 y3 y4, LeO (rubriclaw7_SetEdges.j0 k y0 y1 y2 y3 y4) (rubriclaw7_SetEdges.j0 (k + 1) y0 y1 y2 y3 y4)) ∧ (∀ y0 y1 y2 y3 y4 y5 y6 y7 y8, LeO (rubriclaw7_SetEdges.l0 k y0 y1 y2 y3 y4 y5 y6 y7 y8) (rubriclaw7_SetEdges.l0 (k + 1) y0 y1 y2 y3 y4 y5 y6 y7 y8)) ∧ (∀ y0 y1 y2 y3 y4, LeO (rubriclaw7_SetEdges.j2 k y0 y1 y2 y3 y4) (rubriclaw7_SetEdges.j2 (k + 1) y0 y1 y2 y3 y4)) ∧ (∀ y0 y1 y2 y3, LeO (rubriclaw7_SetEdges.j3 k y0 y1 y2 y3) (rubriclaw7_SetEdges.j3 (k + 1) y0 y1 y2 y3))
 | 0 => ⟨fun _ _ _ _ _ r h => by simp [rubriclaw7_SetEdges.j0] at h, fun _ _ _ _ _ _ _ _ _ r h => by simp [rubriclaw7_SetEdges.l0] at h, fun _ _ _ _ _ r h => by simp [rubriclaw7_SetEdges.j2] at h, fun _ _ _ _ r h => by simp [rubriclaw7_SetEdges.j3] at h⟩
 | k + 1 => by
  obtain ⟨ih0, ih1, ih2, ih3⟩ := rubriclaw7_SetEdges.mono_l k
  refine ⟨?_, ?_, ?_, ?_⟩
  ·intro y0 y1 y2 y3 y4
   unfold rubriclaw7_SetEdges.j0
   repeat' first
   | (with_reducible exact ih0 _ _ _ _ _)
   | (with_reducible exact ih1 _ _ _ _ _ _ _ _ _)
   | (with_reducible exact ih2 _ _ _ _ _)
   | (with_reducible exact ih3 _ _ _ _)
   | (with_reducible exact rubriclaw7_known.mono _)
   | (with_reducible exact set_Of.mono _ _)
   | (with_reducible exact set_Set_Right.mono _ _)
   | (with_reducible exact set_Set_Size.mono _ _)
   | (with_reducible exact LeO.refl _)
   | (with_reducible exact LeO.none _)
   | (with_reducible refine LeO.ite ?_ ?_)
   | (with_reducible refine LeO.bind ?_ (fun _ => ?_))
   | exact ih0 _ _ _ _ _
   | exact ih1 _ _ _ _ _ _ _ _ _
   | exact ih2 _ _ _ _ _
   | exact ih3 _ _ _ _
   | exact rubriclaw7_known.mono _
   | exact set_Of.mono _ _
   | exact set_Set_Right.mono _ _
   | exact set_Set_Size.mono _ _
   | exact LeO.none _
   | refine LeO.ite ?_ ?_
   | refine LeO.bind ?_ (fun _ => ?_)
  ·intro y0 y1 y2 y3 y4 y5 y6 y7 y8
   unfold rubriclaw7_SetEdges.l0
   repeat' first
   | (with_reducible exact ih0 _ _ _ _ _)
   | (with_reducible exact ih1 _ _ _ _ _ _ _ _ _)
   | (with_reducible exact ih2 _ _ _ _ _)
   | (with_reducible exact ih3 _ _ _ _)
   | (with_reducible exact rubriclaw7_known.mono _)
   | (with_reducible exact set_Of.mono _ _)
   | (with_reducible exact set_Set_Right.mono _ _)
   | (with_reducible exact set_Set_Size.mono _ _)
   | (with_reducible exact LeO.refl _)
   | (with_reducible exact LeO.none _)
   | (with_reducible refine LeO.ite ?_ ?_)
   | (with_reducible refine LeO.bind ?_ (fun _ => ?_))
   | exact ih0 _ _ _ _ _
   | exact ih1 _ _ _ _ _ _ _ _ _
   | exact ih2 _ _ _ _ _
   | exact ih3 _ _ _ _
   | exact rubriclaw7_known.mono _
   | exact set_Of.mono _ _
   | exact set_Set_Right.mono _ _
   | exact set_Set_Size.mono _ _
   | exact LeO.none _
   | refine LeO.ite ?_ ?_
   | refine LeO.bind ?_ (fun _ => ?_)
  ·intro y0 y1 y2 y3 y4
   unfold rubriclaw7_SetEdges.j2
   repeat' first
   | (with_reducible exact ih0 _ _ _ _ _)
   | (with_reducible exact ih1 _ _ _ _ _ _ _ _ _)
   | (with_reducible exact ih2 _ _ _ _ _)
   | (with_reducible exact ih3 _ _ _ _)
   | (with_reducible exact rubriclaw7_known.mono _)
   | (with_reducible exact set_Of.mono _ _)
   | (with_reducible exact set_Set_Right.mono _ _)
   | (with_reducible exact set_Set_Size.mono _ _)
   | (with_reducible exact LeO.refl _)
   | (with_reducible exact LeO.none _)
   | (with_reducible refine LeO.ite ?_ ?_)
   | (with_reducible refine LeO.bind ?_ (fun _ => ?_))
   | exact ih0 _ _ _ _ _
   | exact ih1 _ _ _ _ _ _ _ _ _
   | exact ih2 _ _ _ _ _
   | exact ih3 _ _ _ _
   | exact rubriclaw7_known.mono _
   | exact set_Of.mono _ _
   | exact set_Set_Right.mono _ _
   | exact set_Set_Size.mono _ _
   | exact LeO.none _
   | refine LeO.ite ?_ ?_
   | refine LeO.bind ?_ (fun _ => ?_)
  ·intro y0 y1 y2 y3
   unfold rubriclaw7_SetEdges.j3
   repeat' first
   | (with_reducible exact ih0 _ _ _ _ _)
   | (with_reducible exact ih1 _ _ _ _ _ _ _ _ _)
   | (with_reducible exact ih2 _ _ _ _ _)
   | (with_reducible exact ih3 _ _ _ _)
   | (with_reducible exact rubriclaw7_known.mono _)
   | (with_reducible exact set_Of.mono _ _)
   | (with_reducible exact set_Set_Right.mono _ _)
   | (with_reducible exact set_Set_Size.mono _ _)
   | (with_reducible exact LeO.refl _)
   | (with_reducible exact LeO.none _)
   | (with_reducible refine LeO.ite ?_ ?_)
   | (with_reducible refine LeO.bind ?_ (fun _ => ?_))
   | exact ih0 _ _ _ _ _
   | exact ih1 _ _ _ _ _ _ _ _ _
   | exact ih2 _ _ _ _ _
   | exact ih3 _ _ _ _
   | exact rubriclaw7_known.mono _
   | exact set_Of.mono _ _
   | exact set_Set_Right.mono _ _
   | exact set_Set_Size.mono _ _
   | exact LeO.none _
   | refine LeO.ite ?_ ?_
   | refine LeO.bind ?_ (fun _ => ?_)
theorem rubriclaw7_SetEdges.mono : ∀ a0 a1 a2 a3 k, LeO (rubriclaw7_SetEdges.f k a0 a1 a2 a3) (rubriclaw7_SetEdges.f (k + 1) a0 a1 a2 a3) := by
 intro a0 a1 a2 a3 k
 obtain ⟨ih0, ih1, ih2, ih3⟩ := rubriclaw7_SetEdges.mono_l k
 unfold rubriclaw7_SetEdges.f
 repeat' first
   | (with_reducible exact ih0 _ _ _ _ _)
   | (with_reducible exact ih1 _ _ _ _ _ _ _ _ _)
   | (with_reducible exact ih2 _ _ _ _ _)
   | (with_reducible exact ih3 _ _ _ _)
   | (with_reducible exact rubriclaw7_known.mono _)
   | (with_reducible exact set_Of.mono _ _)
   | (with_reducible exact set_Set_Right.mono _ _)
   | (with_reducible exact set_Set_Size.mono _ _)
   | (with_reducible exact LeO.refl _)
   | (with_reducible exact LeO.none _)
   | (with_reducible refine LeO.ite ?_ ?_)
   | (with_reducible refine LeO.bind ?_ (fun _ => ?_))
   | exact ih0 _ _ _ _ _
   | exact ih1 _ _ _ _ _ _ _ _ _
   | exact ih2 _ _ _ _ _
   | exact ih3 _ _ _ _
   | exact rubriclaw7_known.mono _
   | exact set_Of.mono _ _
   | exact set_Set_Right.mono _ _
   | exact set_Set_Size.mono _ _
   | exact LeO.none _
   | refine LeO.ite ?_ ?_
   | refine LeO.bind ?_ (fun _ => ?_)
set_option maxHeartbeats 8000000 in
set_option maxRecDepth 100000 in
theorem rubriclaw7_SetEdges.calls (k : Nat) (a0 : Int) (a1 : Int) (a2 : Int) (a3 : Int) (r : Bool) (w : World) (h : rubriclaw7_SetEdges.f k a0 a1 a2 a3 = some r) (hrt : r = true) :
  Calls Try.prog 3 #[.int .i32 a0, .int .i32 a1, .int .i32 a2, .int .i32 a3] w fun e w' => e = .returned (.bool r) ∧ Below w.heap.size w w' := by
 have hu24 := Try.underlying24
 have HB := Aside0.mk (Below.refl w.heap.size w)
 have HRT := Aside0.mk hrt
 clear hrt
 have H : ((rubriclaw7_known.f k).bind fun t371 => (if t371 = true then (if a0 < 0 then (rubriclaw7_SetEdges.j0 k a0 a1 a2 a3 true) else (if a1 < 1 then (rubriclaw7_SetEdges.j0 k a0 a1 a2 a3 true) else (if a2 < 0 then (rubriclaw7_SetEdges.j0 k a0 a1 a2 a3 true) else (if a3 < 1 then (rubriclaw7_SetEdges.j0 k a0 a1 a2 a3 true) else (if a0 > 1114111 then (rubriclaw7_SetEdges.j0 k a0 a1 a2 a3 true) else (if a1 > 1000 then (rubriclaw7_SetEdges.j0 k a0 a1 a2 a3 true) else (if a2 > 1000 then (rubriclaw7_SetEdges.j0 k a0 a1 a2 a3 true) else (rubriclaw7_SetEdges.j0 k a0 a1 a2 a3 (decide (a3 > 1000)))))))))) else (some false))) = some r := h
 clear h
 replace H := Option.bind_eq_some_iff.mp H
 obtain ⟨t371, A50, H⟩ := H
 replace H : (if t371 = true then (if a0 < 0 then (rubriclaw7_SetEdges.j0 k a0 a1 a2 a3 true) else (if a1 < 1 then (rubriclaw7_SetEdges.j0 k a0 a1 a2 a3 true) else (if a2 < 0 then (rubriclaw7_SetEdges.j0 k a0 a1 a2 a3 true) else (if a3 < 1 then (rubriclaw7_SetEdges.j0 k a0 a1 a2 a3 true) else (if a0 > 1114111 then (rubriclaw7_SetEdges.j0 k a0 a1 a2 a3 true) else (if a1 > 1000 then (rubriclaw7_SetEdges.j0 k a0 a1 a2 a3 true) else (if a2 > 1000 then (rubriclaw7_SetEdges.j0 k a0 a1 a2 a3 true) else (rubriclaw7_SetEdges.j0 k a0 a1 a2 a3 (decide (a3 > 1000)))))))))) else (some false)) = some r := H
 have A5 := Aside0.mk A50
 clear A50
 by_cases c6 : t371 = true
 ·subst c6
  have H1 : (if a0 < 0 then (rubriclaw7_SetEdges.j0 k a0 a1 a2 a3 true) else (if a1 < 1 then (rubriclaw7_SetEdges.j0 k a0 a1 a2 a3 true) else (if a2 < 0 then (rubriclaw7_SetEdges.j0 k a0 a1 a2 a3 true) else (if a3 < 1 then (rubriclaw7_SetEdges.j0 k a0 a1 a2 a3 true) else (if a0 > 1114111 then (rubriclaw7_SetEdges.j0 k a0 a1 a2 a3 true) else (if a1 > 1000 then (rubriclaw7_SetEdges.j0 k a0 a1 a2 a3 true) else (if a2 > 1000 then (rubriclaw7_SetEdges.j0 k a0 a1 a2 a3 true) else (rubriclaw7_SetEdges.j0 k a0 a1 a2 a3 (decide (a3 > 1000)))))))))) = some r := by rw [if_pos rfl] at H; exact H
  clear H
  have H := H1
  clear H1
  have HC7 := Aside0.mk H
  clear H
  go_enter Try.func3, Try.ntmps3
  go_upto_region 3 with (first | ((with_reducible refine gate_callee (f := 7) rfl ?_); refine goesL_ (some 16) rfl rfl Try.func7 (by kernel_rfl) rfl #[] rfl (by (try simp only [List.map_toArray, List.map_cons, List.map_nil]); first | done | rfl | (simp only [List.length_drop, List.length_take]; rfl)) ?_; (with_reducible refine (rubriclaw7_known.calls k  true _ A5.out rfl).mono ?_); rintro e w8 ⟨rfl, hb⟩; refine ⟨_, rfl, ?_⟩; have n0_ := Aside0.mk (below_step (by repeat (first | (with_reducible first | exact HB.out | apply below_alloc | apply pw_below_drewN | apply below_drew1) | exact HB.out)) hb); clear HB; have HB := n0_; clear n0_; (try clear hb); (try clear hb2); (try clear hk); (try clear hi)))
  (try simp only [Act.put, List.setIfInBounds_toArray, List.set_cons_zero, List.set_cons_succ])
  go_cut [47] (fun v47 wc => ∃ (kq : Nat) (x47_6 : Bool), v47 = .bool x47_6 ∧ Aside0 (rubriclaw7_SetEdges.j0 kq a0 a1 a2 a3 x47_6 = some r) ∧ Aside0 (kq ≤ k) ∧ Aside0 (Below w.heap.size w wc))
  case first =>
   have H := HC7.out
   clear HC7
   by_cases c9 : a0 < 0
   ·rw [if_pos c9] at H
    have c9b0 : decide (a0 < 0) = true := decide_eq_true c9
    clear c9
    (first | rw [c9b0] | (simp only [i64_w, i32_w]; rw [c9b0]) | skip)
    have H' := Aside0.mk H
    clear H
    go_wp2
    go_meet
    case rel => exact ⟨_, (true), (by first | rfl | (simp; done) | (simp [*]; done)), H', ⟨by first | omega | exact Nat.le_refl _⟩, ⟨by repeat (first | (with_reducible first | exact HB.out | apply below_alloc | apply pw_below_drewN | apply below_drew1) | exact HB.out)⟩⟩
   ·rw [if_neg c9] at H
    have c9b0 : decide (a0 < 0) = false := decide_eq_false c9
    clear c9
    (first | rw [c9b0] | (simp only [i64_w, i32_w]; rw [c9b0]) | skip)
    by_cases c10 : a1 < 1
    ·rw [if_pos c10] at H
     have c10b0 : decide (a1 < 1) = true := decide_eq_true c10
     clear c10
     have H' := Aside0.mk H
     clear H
     go_wp2
     go_meet
     case rel => exact ⟨_, (true), (by first | rfl | (simp; done) | (simp [*]; done)), H', ⟨by first | omega | exact Nat.le_refl _⟩, ⟨by repeat (first | (with_reducible first | exact HB.out | apply below_alloc | apply pw_below_drewN | apply below_drew1) | exact HB.out)⟩⟩
    ·rw [if_neg c10] at H
     have c10b0 : decide (a1 < 1) = false := decide_eq_false c10
     clear c10
     by_cases c11 : a2 < 0
     ·rw [if_pos c11] at H
      have c11b0 : decide (a2 < 0) = true := decide_eq_true c11
      clear c11
      have H' := Aside0.mk H
      clear H
      go_wp2
      go_meet
      case rel => exact ⟨_, (true), (by first | rfl | (simp; done) | (simp [*]; done)), H', ⟨by first | omega | exact Nat.le_refl _⟩, ⟨by repeat (first | (with_reducible first | exact HB.out | apply below_alloc | apply pw_below_drewN | apply below_drew1) | exact HB.out)⟩⟩
     ·rw [if_neg c11] at H
      have c11b0 : decide (a2 < 0) = false := decide_eq_false c11
      clear c11
      by_cases c12 : a3 < 1
      ·rw [if_pos c12] at H
       have c12b0 : decide (a3 < 1) = true := decide_eq_true c12
       clear c12
       have H' := Aside0.mk H
       clear H
       go_wp2
       go_meet
       case rel => exact ⟨_, (true), (by first | rfl | (simp; done) | (simp [*]; done)), H', ⟨by first | omega | exact Nat.le_refl _⟩, ⟨by repeat (first | (with_reducible first | exact HB.out | apply below_alloc | apply pw_below_drewN | apply below_drew1) | exact HB.out)⟩⟩
      ·rw [if_neg c12] at H
       have c12b0 : decide (a3 < 1) = false := decide_eq_false c12
       clear c12
       by_cases c13 : a0 > 1114111
       ·rw [if_pos c13] at H
        have c13b0 : decide (1114111 < a0) = true := decide_eq_true c13
        clear c13
        have H' := Aside0.mk H
        clear H
        go_wp2
        go_meet
        case rel => exact ⟨_, (true), (by first | rfl | (simp; done) | (simp [*]; done)), H', ⟨by first | omega | exact Nat.le_refl _⟩, ⟨by repeat (first | (with_reducible first | exact HB.out | apply below_alloc | apply pw_below_drewN | apply below_drew1) | exact HB.out)⟩⟩
       ·rw [if_neg c13] at H
        have c13b0 : decide (1114111 < a0) = false := decide_eq_false c13
        clear c13
        by_cases c14 : a1 > 1000
        ·rw [if_pos c14] at H
         have c14b0 : decide (1000 < a1) = true := decide_eq_true c14
         clear c14
         have H' := Aside0.mk H
         clear H
         go_wp2
         go_meet
         case rel => exact ⟨_, (true), (by first | rfl | (simp; done) | (simp [*]; done)), H', ⟨by first | omega | exact Nat.le_refl _⟩, ⟨by repeat (first | (with_reducible first | exact HB.out | apply below_alloc | apply pw_below_drewN | apply below_drew1) | exact HB.out)⟩⟩
        ·rw [if_neg c14] at H
         have c14b0 : decide (1000 < a1) = false := decide_eq_false c14
         clear c14
         by_cases c15 : a2 > 1000
         ·rw [if_pos c15] at H
          have c15b0 : decide (1000 < a2) = true := decide_eq_true c15
          clear c15
          have H' := Aside0.mk H
          clear H
          go_wp2
          go_meet
          case rel => exact ⟨_, (true), (by first | rfl | (simp; done) | (simp [*]; done)), H', ⟨by first | omega | exact Nat.le_refl _⟩, ⟨by repeat (first | (with_reducible first | exact HB.out | apply below_alloc | apply pw_below_drewN | apply below_drew1) | exact HB.out)⟩⟩
         ·rw [if_neg c15] at H
          have c15b0 : decide (1000 < a2) = false := decide_eq_false c15
          clear c15
          have H' := Aside0.mk H
          clear H
          go_wp2
          go_meet
          case rel => exact ⟨_, (decide (a3 > 1000)), (by first | rfl | (simp; done) | (simp [*]; done)), H', ⟨by first | omega | exact Nat.le_refl _⟩, ⟨by repeat (first | (with_reducible first | exact HB.out | apply below_alloc | apply pw_below_drewN | apply below_drew1) | exact HB.out)⟩⟩
  case rest =>
   clear HC7
   try clear c1
   try clear p2
   try clear c3
   try clear c6
   try clear c7
   try clear c9
   try clear c9b0
   try clear c10
   try clear c10b0
   try clear c11
   try clear c11b0
   try clear c12
   try clear c12b0
   try clear c13
   try clear c13b0
   try clear c14
   try clear c14b0
   try clear c15
   try clear c15b0
   obtain ⟨kq, x47_6, rfl, HA, HJ6, HB⟩ := hcut
   cases kq with
   | zero => exact absurd HA.out (by simp [rubriclaw7_SetEdges.j0])
   | succ kj6 =>
    have H := HA.out
    clear HA
    simp only [rubriclaw7_SetEdges.j0] at H
    by_cases c16 : x47_6 = true
    ·subst c16
     have H1 : (some true) = some r := by rw [if_pos rfl] at H; exact H
     clear H
     have H := H1
     clear H1
     obtain rfl := Option.some.inj H
     go_wp2
     go_ret
     exact ⟨by first | rfl | (simp [errW_none, errW_some] <;> rfl) | (simp [*, errW_none, errW_some] <;> rfl), by repeat (first | (with_reducible first | exact HB.out | apply below_alloc | apply pw_below_drewN | apply below_drew1) | exact HB.out)⟩
    ·replace c16 := Bool.eq_false_iff.mpr c16
     subst c16
     have H1 : ((set_Of.f kj6 (([(⟨wrap32 ((wrap32 (a0 + a1)) + a2), wrap32 ((wrap32 ((wrap32 ((wrap32 (a0 + a1)) + a2)) + a3)) - 1)⟩ : S24), (⟨a0, wrap32 ((wrap32 (a0 + a1)) - 1)⟩ : S24)] : List (S24)))).bind fun t377 => ((some (([(⟨a0, wrap32 ((wrap32 (a0 + a1)) - 1)⟩ : S24), (⟨wrap32 ((wrap32 (a0 + a1)) + a2), wrap32 ((wrap32 ((wrap32 ((wrap32 (a0 + a1)) + a2)) + a3)) - 1)⟩ : S24)] : List (S24)) : List (S24))).bind fun y380 => (rubriclaw7_SetEdges.l0 kj6 a0 a2 t377 0 y380 (y380.length : Int) 0 (wrap32 ((wrap32 (a0 + a1)) + a2)) (wrap32 ((wrap32 ((wrap32 ((wrap32 (a0 + a1)) + a2)) + a3)) - 1))))) = some r := by rw [if_neg (show ¬ (false = true) by decide)] at H; exact H
     clear H
     have H := H1
     clear H1
     obtain ⟨y374, hy374⟩ : ∃ y_ : List (S24), y_ = (([(⟨wrap32 ((wrap32 (a0 + a1)) + a2), wrap32 ((wrap32 ((wrap32 ((wrap32 (a0 + a1)) + a2)) + a3)) - 1)⟩ : S24), (⟨a0, wrap32 ((wrap32 (a0 + a1)) - 1)⟩ : S24)] : List (S24))) := ⟨_, rfl⟩
     replace H : ((set_Of.f kj6 y374).bind fun t377 => ((some (([(⟨a0, wrap32 ((wrap32 (a0 + a1)) - 1)⟩ : S24), (⟨wrap32 ((wrap32 (a0 + a1)) + a2), wrap32 ((wrap32 ((wrap32 ((wrap32 (a0 + a1)) + a2)) + a3)) - 1)⟩ : S24)] : List (S24)) : List (S24))).bind fun y380 => (rubriclaw7_SetEdges.l0 kj6 a0 a2 t377 0 y380 (y380.length : Int) 0 (wrap32 ((wrap32 (a0 + a1)) + a2)) (wrap32 ((wrap32 ((wrap32 ((wrap32 (a0 + a1)) + a2)) + a3)) - 1))))) = some r := by first | (rw [hy374]; with_reducible exact H) | (have H2_ := (Option.bind_some _ _).symm.trans H; rw [hy374]; with_reducible exact H2_) | (have H2_ := (Option.bind_some _ _).symm.trans H; with_reducible exact H2_) | with_reducible exact H | (rw [hy374]; exact H) | exact H
     have Ny374 := Aside0.mk hy374
     clear hy374
     replace H := Option.bind_eq_some_iff.mp H
     obtain ⟨t377, A170, H⟩ := H
     replace H : ((some (([(⟨a0, wrap32 ((wrap32 (a0 + a1)) - 1)⟩ : S24), (⟨wrap32 ((wrap32 (a0 + a1)) + a2), wrap32 ((wrap32 ((wrap32 ((wrap32 (a0 + a1)) + a2)) + a3)) - 1)⟩ : S24)] : List (S24)) : List (S24))).bind fun y380 => (rubriclaw7_SetEdges.l0 kj6 a0 a2 t377 0 y380 (y380.length : Int) 0 (wrap32 ((wrap32 (a0 + a1)) + a2)) (wrap32 ((wrap32 ((wrap32 ((wrap32 (a0 + a1)) + a2)) + a3)) - 1)))) = some r := H
     have A17 := Aside0.mk A170
     clear A170
     obtain ⟨y380, hy380⟩ : ∃ y_ : List (S24), y_ = (([(⟨a0, wrap32 ((wrap32 (a0 + a1)) - 1)⟩ : S24), (⟨wrap32 ((wrap32 (a0 + a1)) + a2), wrap32 ((wrap32 ((wrap32 ((wrap32 (a0 + a1)) + a2)) + a3)) - 1)⟩ : S24)] : List (S24))) := ⟨_, rfl⟩
     replace H : (rubriclaw7_SetEdges.l0 kj6 a0 a2 t377 0 y380 (y380.length : Int) 0 (wrap32 ((wrap32 (a0 + a1)) + a2)) (wrap32 ((wrap32 ((wrap32 ((wrap32 (a0 + a1)) + a2)) + a3)) - 1))) = some r := by first | (rw [hy380]; with_reducible exact H) | (have H2_ := (Option.bind_some _ _).symm.trans H; rw [hy380]; with_reducible exact H2_) | (have H2_ := (Option.bind_some _ _).symm.trans H; with_reducible exact H2_) | with_reducible exact H | (rw [hy380]; exact H) | exact H
     have Ny380 := Aside0.mk hy380
     clear hy380
     have H' := Aside0.mk H
     clear H
     go_wp2_with (first | ((with_reducible refine gate_dst (N := 9) rfl ?_); refine box_event ?hg (N := 9) ?hd (cs := #[.int .i32 0, .int .i32 0]) (t := 24) ?hr ?_; (case hd => rfl); (case hg => rfl); (case hr => first | (go_simp; done) | (go_simp; rfl)); intro gb372 hg w18 hbox hb; have n0_ := Aside0.mk (below_step (by repeat (first | (with_reducible first | exact HB.out | apply below_alloc | apply pw_below_drewN | apply below_drew1) | exact HB.out)) hb); have n1_ := Aside0.mk (hbox); have n2_ := Aside0.mk ((by rw [hg]; exact (below_size (by repeat (first | (with_reducible first | exact HB.out | apply below_alloc | apply pw_below_drewN | apply below_drew1) | exact HB.out))) : w.heap.size ≤ gb372)); have n3_ := Aside0.mk ((by rw [hg]; exact (below_size (by repeat (first | (with_reducible first | exact HB.out | apply below_alloc | apply pw_below_drewN | apply below_drew1) | exact HB.out))) : w.heap.size ≤ gb372)); clear HB; have HB := n0_; have BK372 := n1_; have GW372 := n2_; have GE372 := n3_; clear n0_ n1_ n2_ n3_; clear hb hbox hg; have hcz19_0 : w18.cell? ⟨gb372, 0, none⟩ = some (.int .i32 0) := (blk_cell BK372.out 0).trans rfl; have hcz19_1 : w18.cell? ⟨gb372, 1, none⟩ = some (.int .i32 0) := (blk_cell BK372.out 1).trans rfl; have hfz19_0 := blk_frozen BK372.out 0; have hfz19_1 := blk_frozen BK372.out 1; have hst19_ : ∀ a b : Value, ((w18.setCell ⟨gb372, 0, none⟩ a).setCell ⟨gb372, 1, none⟩ b).cell? ⟨gb372, 1, none⟩ = some b := fun a b => World.cell?_setCell_same _ _ _ ((World.cell?_setCell_other _ _ _ _ (by intro e; injection e with _ e; cases e)).trans hcz19_1)) | ((with_reducible refine gate_dst (N := 10) rfl ?_); refine box_event ?hg (N := 10) ?hd (cs := #[.int .i32 0, .int .i32 0]) (t := 24) ?hr ?_; (case hd => rfl); (case hg => rfl); (case hr => first | (go_simp; done) | (go_simp; rfl)); intro gb373 hg w20 hbox hb; have n0_ := Aside0.mk (blk_below (g := gb372) (o := .cells #[.int .i32 a0, .int .i32 (wrap32 ((wrap32 (a0 + a1)) - 1))] 24 (0, 0)) (by (with_reducible repeat (first | refine blk_drewN ?_ _ | refine blk_drew ?_ | refine blk_alloc ?_ _)); refine blk_put (cs := #[.int .i32 a0, .int .i32 0]) ?_ 1 _ rfl; (with_reducible repeat (first | refine blk_drewN ?_ _ | refine blk_drew ?_ | refine blk_alloc ?_ _)); refine blk_put (cs := #[.int .i32 0, .int .i32 0]) ?_ 0 _ rfl; (with_reducible repeat (first | refine blk_drewN ?_ _ | refine blk_drew ?_ | refine blk_alloc ?_ _)); exact BK372.out) hb); have n1_ := Aside0.mk (below_step (by repeat (first | (with_reducible first | exact HB.out | apply below_alloc | apply pw_below_drewN | apply below_drew1 | refine below_set ?_ GE372.out) | exact HB.out)) hb); have n2_ := Aside0.mk (hbox); have n3_ := Aside0.mk ((by rw [hg]; exact (below_size (by repeat (first | (with_reducible first | exact HB.out | apply below_alloc | apply pw_below_drewN | apply below_drew1 | refine below_set ?_ GE372.out) | exact HB.out))) : w.heap.size ≤ gb373)); have n4_ := Aside0.mk ((by rw [hg]; exact (below_size (by repeat (first | (with_reducible first | exact HB.out | apply below_alloc | apply pw_below_drewN | apply below_drew1 | refine below_set ?_ GE372.out) | exact HB.out))) : w.heap.size ≤ gb373)); have n5_ := Aside0.mk ((by rw [hg]; exact Nat.ne_of_lt (blk_lt (g := gb372) (o := .cells #[.int .i32 a0, .int .i32 (wrap32 ((wrap32 (a0 + a1)) - 1))] 24 (0, 0)) (by (with_reducible repeat (first | refine blk_drewN ?_ _ | refine blk_drew ?_ | refine blk_alloc ?_ _)); refine blk_put (cs := #[.int .i32 a0, .int .i32 0]) ?_ 1 _ rfl; (with_reducible repeat (first | refine blk_drewN ?_ _ | refine blk_drew ?_ | refine blk_alloc ?_ _)); refine blk_put (cs := #[.int .i32 0, .int .i32 0]) ?_ 0 _ rfl; (with_reducible repeat (first | refine blk_drewN ?_ _ | refine blk_drew ?_ | refine blk_alloc ?_ _)); exact BK372.out)) : gb372 ≠ gb373)); have n6_ := Aside0.mk ((by rw [hg]; exact Nat.ne_of_gt (blk_lt (g := gb372) (o := .cells #[.int .i32 a0, .int .i32 (wrap32 ((wrap32 (a0 + a1)) - 1))] 24 (0, 0)) (by (with_reducible repeat (first | refine blk_drewN ?_ _ | refine blk_drew ?_ | refine blk_alloc ?_ _)); refine blk_put (cs := #[.int .i32 a0, .int .i32 0]) ?_ 1 _ rfl; (with_reducible repeat (first | refine blk_drewN ?_ _ | refine blk_drew ?_ | refine blk_alloc ?_ _)); refine blk_put (cs := #[.int .i32 0, .int .i32 0]) ?_ 0 _ rfl; (with_reducible repeat (first | refine blk_drewN ?_ _ | refine blk_drew ?_ | refine blk_alloc ?_ _)); exact BK372.out)) : gb373 ≠ gb372)); clear BK372; clear HB; have BK372 := n0_; have HB := n1_; have BK373 := n2_; have GW373 := n3_; have GE373 := n4_; have NB372_373 := n5_; have NB373_372 := n6_; clear n0_ n1_ n2_ n3_ n4_ n5_ n6_; clear hb hbox hg; have hnb21 := NB373_372.out; have hnc21 := NB372_373.out; have hcz22_0 : w20.cell? ⟨gb373, 0, none⟩ = some (.int .i32 0) := (blk_cell BK373.out 0).trans rfl; have hcz22_1 : w20.cell? ⟨gb373, 1, none⟩ = some (.int .i32 0) := (blk_cell BK373.out 1).trans rfl; have hfz22_0 := blk_frozen BK373.out 0; have hfz22_1 := blk_frozen BK373.out 1; have hst22_ : ∀ a b : Value, ((w20.setCell ⟨gb373, 0, none⟩ a).setCell ⟨gb373, 1, none⟩ b).cell? ⟨gb373, 1, none⟩ = some b := fun a b => World.cell?_setCell_same _ _ _ ((World.cell?_setCell_other _ _ _ _ (by intro e; injection e with _ e; cases e)).trans hcz22_1); have hcz23_0 : w20.cell? ⟨gb372, 0, none⟩ = some (.int .i32 a0) := (blk_cell BK372.out 0).trans rfl; have hcz23_1 : w20.cell? ⟨gb372, 1, none⟩ = some (.int .i32 (wrap32 ((wrap32 (a0 + a1)) - 1))) := (blk_cell BK372.out 1).trans rfl; have hfz23_0 := blk_frozen BK372.out 0; have hfz23_1 := blk_frozen BK372.out 1; have hst23_ : ∀ a b : Value, ((w20.setCell ⟨gb372, 0, none⟩ a).setCell ⟨gb372, 1, none⟩ b).cell? ⟨gb372, 1, none⟩ = some b := fun a b => World.cell?_setCell_same _ _ _ ((World.cell?_setCell_other _ _ _ _ (by intro e; injection e with _ e; cases e)).trans hcz23_1)) | ((with_reducible refine gate_dst (N := 70) rfl ?_); refine Kd.R_lit k24 _ 24 ?hg (N := 70) ?hd (xs := ([(⟨wrap32 ((wrap32 (a0 + a1)) + a2), wrap32 ((wrap32 ((wrap32 ((wrap32 (a0 + a1)) + a2)) + a3)) - 1)⟩ : S24), (⟨a0, wrap32 ((wrap32 (a0 + a1)) - 1)⟩ : S24)] : List (S24))) (inner := [.int .i32 (wrap32 ((wrap32 (a0 + a1)) + a2)), .int .i32 (wrap32 ((wrap32 ((wrap32 ((wrap32 (a0 + a1)) + a2)) + a3)) - 1)), .int .i32 a0, .int .i32 (wrap32 ((wrap32 (a0 + a1)) - 1))]) (ok := fun _ => True) (okp := fun _ => True) ?hr ?hp (fun _ hk => hk) trivial (Below.refl _ _) (Nat.le_refl _) (by simp) ?_; (case hd => rfl); (case hg => rfl); (case hr => first | (go_simp; done) | (go_simp; rfl)); (case hp => exact (Reps.c2 (show Kd.M k24 _ _ _ (⟨wrap32 ((wrap32 (a0 + a1)) + a2), wrap32 ((wrap32 ((wrap32 ((wrap32 (a0 + a1)) + a2)) + a3)) - 1)⟩ : S24) [.int .i32 (wrap32 ((wrap32 (a0 + a1)) + a2)), .int .i32 (wrap32 ((wrap32 ((wrap32 ((wrap32 (a0 + a1)) + a2)) + a3)) - 1))] from (k24_mkM _ _ _ (⟨wrap32 ((wrap32 (a0 + a1)) + a2), wrap32 ((wrap32 ((wrap32 ((wrap32 (a0 + a1)) + a2)) + a3)) - 1)⟩ : S24) )) (Reps.c2 (show Kd.M k24 _ _ _ (⟨a0, wrap32 ((wrap32 (a0 + a1)) - 1)⟩ : S24) [.int .i32 a0, .int .i32 (wrap32 ((wrap32 (a0 + a1)) - 1))] from (k24_mkM _ _ _ (⟨a0, wrap32 ((wrap32 (a0 + a1)) - 1)⟩ : S24) )) (Reps.none _ _)))); intro v375 w24 ho25 hb hg_ hnew_; clear hg_ hnew_; (first | rw [← Ny374.out] at ho25 | (simp only [Int.reduceToNat] at ho25; rw [← Ny374.out] at ho25)); have n0_ := Aside0.mk (Kd.R_lower (Kd.R_newB (Kd.R_newB ho25 (g := gb372) (o := .cells #[.int .i32 a0, .int .i32 (wrap32 ((wrap32 (a0 + a1)) - 1))] 24 (0, 0)) (by (with_reducible repeat (first | refine blk_drewN ?_ _ | refine blk_drew ?_ | refine blk_alloc ?_ _)); refine blk_far ?_ NB372_373.out _; (with_reducible repeat (first | refine blk_drewN ?_ _ | refine blk_drew ?_ | refine blk_alloc ?_ _)); refine blk_far ?_ NB372_373.out _; (with_reducible repeat (first | refine blk_drewN ?_ _ | refine blk_drew ?_ | refine blk_alloc ?_ _)); exact BK372.out)) (g := gb373) (o := .cells #[.int .i32 (wrap32 ((wrap32 (a0 + a1)) + a2)), .int .i32 (wrap32 ((wrap32 ((wrap32 ((wrap32 (a0 + a1)) + a2)) + a3)) - 1))] 24 (0, 0)) (by (with_reducible repeat (first | refine blk_drewN ?_ _ | refine blk_drew ?_ | refine blk_alloc ?_ _)); refine blk_put (cs := #[.int .i32 (wrap32 ((wrap32 (a0 + a1)) + a2)), .int .i32 0]) ?_ 1 _ rfl; (with_reducible repeat (first | refine blk_drewN ?_ _ | refine blk_drew ?_ | refine blk_alloc ?_ _)); refine blk_put (cs := #[.int .i32 0, .int .i32 0]) ?_ 0 _ rfl; (with_reducible repeat (first | refine blk_drewN ?_ _ | refine blk_drew ?_ | refine blk_alloc ?_ _)); exact BK373.out)) (below_size (by repeat (first | (with_reducible first | exact HB.out | apply below_alloc | apply pw_below_drewN | apply below_drew1 | refine below_set ?_ GE372.out | refine below_set ?_ GE373.out) | exact HB.out)))); have n1_ := Aside0.mk (blk_below (g := gb372) (o := .cells #[.int .i32 a0, .int .i32 (wrap32 ((wrap32 (a0 + a1)) - 1))] 24 (0, 0)) (by (with_reducible repeat (first | refine blk_drewN ?_ _ | refine blk_drew ?_ | refine blk_alloc ?_ _)); refine blk_far ?_ NB372_373.out _; (with_reducible repeat (first | refine blk_drewN ?_ _ | refine blk_drew ?_ | refine blk_alloc ?_ _)); refine blk_far ?_ NB372_373.out _; (with_reducible repeat (first | refine blk_drewN ?_ _ | refine blk_drew ?_ | refine blk_alloc ?_ _)); exact BK372.out) hb); have n2_ := Aside0.mk (blk_below (g := gb373) (o := .cells #[.int .i32 (wrap32 ((wrap32 (a0 + a1)) + a2)), .int .i32 (wrap32 ((wrap32 ((wrap32 ((wrap32 (a0 + a1)) + a2)) + a3)) - 1))] 24 (0, 0)) (by (with_reducible repeat (first | refine blk_drewN ?_ _ | refine blk_drew ?_ | refine blk_alloc ?_ _)); refine blk_put (cs := #[.int .i32 (wrap32 ((wrap32 (a0 + a1)) + a2)), .int .i32 0]) ?_ 1 _ rfl; (with_reducible repeat (first | refine blk_drewN ?_ _ | refine blk_drew ?_ | refine blk_alloc ?_ _)); refine blk_put (cs := #[.int .i32 0, .int .i32 0]) ?_ 0 _ rfl; (with_reducible repeat (first | refine blk_drewN ?_ _ | refine blk_drew ?_ | refine blk_alloc ?_ _)); exact BK373.out) hb); have n3_ := Aside0.mk (below_step (by repeat (first | (with_reducible first | exact HB.out | apply below_alloc | apply pw_below_drewN | apply below_drew1 | refine below_set ?_ GE372.out | refine below_set ?_ GE373.out) | exact HB.out)) hb); clear BK372; clear BK373; clear HB; have HO376 := n0_; have BK372 := n1_; have BK373 := n2_; have HB := n3_; clear n0_ n1_ n2_ n3_; clear hb ho25; obtain ⟨Ao26, co26, eo26⟩ := Kd.R_slice HO376.out; subst eo26) | ((with_reducible refine gate_callee (f := 8) rfl ?_); refine goesL_ (some 71) rfl rfl Try.func8 (by kernel_rfl) rfl #[.slice Ao26 y374.length co26] rfl (by (try simp only [List.map_toArray, List.map_cons, List.map_nil]); first | done | rfl | (simp only [List.length_drop, List.length_take]; rfl)) ?_; (with_reducible refine (set_Of.calls kj6 _ _ y374 t377 _ ?side1 ?side2 A17.out).mono ?_); (case side1 => repeat (first | exact (Kd.R_reads' HO376.out).2.2 | (with_reducible refine Kd.C_alloc ?_ _) | (with_reducible refine Kd.C_drewN ?_ _) | (with_reducible refine Kd.C_drew ?_))); (case side2 => exact (Kd.R_reads' HO376.out).2.1); rintro e w27 ⟨v378, rfl, ho0, hb⟩; refine ⟨_, rfl, ?_⟩; have n0_ := Aside0.mk (Kd.R_elder' (S.r HO376.out) (Kd.R_base ho0) hb); have n1_ := Aside0.mk (Kd.R_lower (Kd.R_newB (Kd.R_newB (Kd.R_new' ho0 (Kd.R_lt (S.r HO376.out))) (g := gb372) (o := .cells #[.int .i32 a0, .int .i32 (wrap32 ((wrap32 (a0 + a1)) - 1))] 24 (0, 0)) (S.b BK372.out)) (g := gb373) (o := .cells #[.int .i32 (wrap32 ((wrap32 (a0 + a1)) + a2)), .int .i32 (wrap32 ((wrap32 ((wrap32 ((wrap32 (a0 + a1)) + a2)) + a3)) - 1))] 24 (0, 0)) (S.b BK373.out)) (below_size (by repeat (first | (with_reducible first | exact HB.out | apply below_alloc | apply pw_below_drewN | apply below_drew1 | refine below_set ?_ GE372.out | refine below_set ?_ GE373.out) | exact HB.out)))); have n2_ := Aside0.mk (blk_below (g := gb372) (o := .cells #[.int .i32 a0, .int .i32 (wrap32 ((wrap32 (a0 + a1)) - 1))] 24 (0, 0)) (S.b BK372.out) hb); have n3_ := Aside0.mk (blk_below (g := gb373) (o := .cells #[.int .i32 (wrap32 ((wrap32 (a0 + a1)) + a2)), .int .i32 (wrap32 ((wrap32 ((wrap32 ((wrap32 (a0 + a1)) + a2)) + a3)) - 1))] 24 (0, 0)) (S.b BK373.out) hb); have n4_ := Aside0.mk (below_step (by repeat (first | (with_reducible first | exact HB.out | apply below_alloc | apply pw_below_drewN | apply below_drew1 | refine below_set ?_ GE372.out | refine below_set ?_ GE373.out) | exact HB.out)) hb); clear HO376; clear BK372; clear BK373; clear HB; have HO376 := n0_; have HO379 := n1_; have BK372 := n2_; have BK373 := n3_; have HB := n4_; clear n0_ n1_ n2_ n3_ n4_; (try clear hb); (try clear hb2); (try clear hk); (try clear hi); (try clear ho0); have hcz28_0 : w27.cell? ⟨gb372, 0, none⟩ = some (.int .i32 a0) := (blk_cell BK372.out 0).trans rfl; have hcz28_1 : w27.cell? ⟨gb372, 1, none⟩ = some (.int .i32 (wrap32 ((wrap32 (a0 + a1)) - 1))) := (blk_cell BK372.out 1).trans rfl; have hfz28_0 := blk_frozen BK372.out 0; have hfz28_1 := blk_frozen BK372.out 1; have hst28_ : ∀ a b : Value, ((w27.setCell ⟨gb372, 0, none⟩ a).setCell ⟨gb372, 1, none⟩ b).cell? ⟨gb372, 1, none⟩ = some b := fun a b => World.cell?_setCell_same _ _ _ ((World.cell?_setCell_other _ _ _ _ (by intro e; injection e with _ e; cases e)).trans hcz28_1); have hcz29_0 : w27.cell? ⟨gb373, 0, none⟩ = some (.int .i32 (wrap32 ((wrap32 (a0 + a1)) + a2))) := (blk_cell BK373.out 0).trans rfl; have hcz29_1 : w27.cell? ⟨gb373, 1, none⟩ = some (.int .i32 (wrap32 ((wrap32 ((wrap32 ((wrap32 (a0 + a1)) + a2)) + a3)) - 1))) := (blk_cell BK373.out 1).trans rfl; have hfz29_0 := blk_frozen BK373.out 0; have hfz29_1 := blk_frozen BK373.out 1; have hst29_ : ∀ a b : Value, ((w27.setCell ⟨gb373, 0, none⟩ a).setCell ⟨gb373, 1, none⟩ b).cell? ⟨gb373, 1, none⟩ = some b := fun a b => World.cell?_setCell_same _ _ _ ((World.cell?_setCell_other _ _ _ _ (by intro e; injection e with _ e; cases e)).trans hcz29_1)) | ((with_reducible refine gate_dst (N := 74) rfl ?_); refine Kd.R_lit k24 _ 24 ?hg (N := 74) ?hd (xs := ([(⟨a0, wrap32 ((wrap32 (a0 + a1)) - 1)⟩ : S24), (⟨wrap32 ((wrap32 (a0 + a1)) + a2), wrap32 ((wrap32 ((wrap32 ((wrap32 (a0 + a1)) + a2)) + a3)) - 1)⟩ : S24)] : List (S24))) (inner := [.int .i32 a0, .int .i32 (wrap32 ((wrap32 (a0 + a1)) - 1)), .int .i32 (wrap32 ((wrap32 (a0 + a1)) + a2)), .int .i32 (wrap32 ((wrap32 ((wrap32 ((wrap32 (a0 + a1)) + a2)) + a3)) - 1))]) (ok := fun _ => True) (okp := fun _ => True) ?hr ?hp (fun _ hk => hk) trivial (Below.refl _ _) (Nat.le_refl _) (by simp) ?_; (case hd => rfl); (case hg => rfl); (case hr => first | (go_simp; done) | (go_simp; rfl)); (case hp => exact (Reps.c2 (show Kd.M k24 _ _ _ (⟨a0, wrap32 ((wrap32 (a0 + a1)) - 1)⟩ : S24) [.int .i32 a0, .int .i32 (wrap32 ((wrap32 (a0 + a1)) - 1))] from (k24_mkM _ _ _ (⟨a0, wrap32 ((wrap32 (a0 + a1)) - 1)⟩ : S24) )) (Reps.c2 (show Kd.M k24 _ _ _ (⟨wrap32 ((wrap32 (a0 + a1)) + a2), wrap32 ((wrap32 ((wrap32 ((wrap32 (a0 + a1)) + a2)) + a3)) - 1)⟩ : S24) [.int .i32 (wrap32 ((wrap32 (a0 + a1)) + a2)), .int .i32 (wrap32 ((wrap32 ((wrap32 ((wrap32 (a0 + a1)) + a2)) + a3)) - 1))] from (k24_mkM _ _ _ (⟨wrap32 ((wrap32 (a0 + a1)) + a2), wrap32 ((wrap32 ((wrap32 ((wrap32 (a0 + a1)) + a2)) + a3)) - 1)⟩ : S24) )) (Reps.none _ _)))); intro v381 w30 ho31 hb hg_ hnew_; clear hg_ hnew_; (first | rw [← Ny380.out] at ho31 | (simp only [Int.reduceToNat] at ho31; rw [← Ny380.out] at ho31)); have n0_ := Aside0.mk (Kd.R_elder' (S.r HO376.out) (Kd.R_base ho31) hb); have n1_ := Aside0.mk (Kd.R_elder' (S.r HO379.out) (Kd.R_base ho31) hb); have n2_ := Aside0.mk (Kd.R_lower (Kd.R_newB (Kd.R_newB (Kd.R_new' (Kd.R_new' ho31 (Kd.R_lt (S.r HO376.out))) (Kd.R_lt (S.r HO379.out))) (g := gb372) (o := .cells #[.int .i32 a0, .int .i32 (wrap32 ((wrap32 (a0 + a1)) - 1))] 24 (0, 0)) (S.b BK372.out)) (g := gb373) (o := .cells #[.int .i32 (wrap32 ((wrap32 (a0 + a1)) + a2)), .int .i32 (wrap32 ((wrap32 ((wrap32 ((wrap32 (a0 + a1)) + a2)) + a3)) - 1))] 24 (0, 0)) (S.b BK373.out)) (below_size (by repeat (first | (with_reducible first | exact HB.out | apply below_alloc | apply pw_below_drewN | apply below_drew1 | refine below_set ?_ GE372.out | refine below_set ?_ GE373.out) | exact HB.out)))); have n3_ := Aside0.mk (blk_below (g := gb372) (o := .cells #[.int .i32 a0, .int .i32 (wrap32 ((wrap32 (a0 + a1)) - 1))] 24 (0, 0)) (S.b BK372.out) hb); have n4_ := Aside0.mk (blk_below (g := gb373) (o := .cells #[.int .i32 (wrap32 ((wrap32 (a0 + a1)) + a2)), .int .i32 (wrap32 ((wrap32 ((wrap32 ((wrap32 (a0 + a1)) + a2)) + a3)) - 1))] 24 (0, 0)) (S.b BK373.out) hb); have n5_ := Aside0.mk (below_step (by repeat (first | (with_reducible first | exact HB.out | apply below_alloc | apply pw_below_drewN | apply below_drew1 | refine below_set ?_ GE372.out | refine below_set ?_ GE373.out) | exact HB.out)) hb); clear HO376; clear HO379; clear BK372; clear BK373; clear HB; have HO376 := n0_; have HO379 := n1_; have HO382 := n2_; have BK372 := n3_; have BK373 := n4_; have HB := n5_; clear n0_ n1_ n2_ n3_ n4_ n5_; clear hb ho31; obtain ⟨Ao32, co32, eo32⟩ := Kd.R_slice HO382.out; subst eo32))
     go_loopg [12, 76] kj6 (fun kq v12 v76 w' => ∃ (x12_2 : Int) (x76_2 : Int), v12 = .int .i64 x12_2 ∧ v76 = .int .i64 x76_2 ∧ Aside0 (rubriclaw7_SetEdges.l0 kq a0 a2 t377 x12_2 y380 (y380.length : Int) x76_2 (wrap32 ((wrap32 (a0 + a1)) + a2)) (wrap32 ((wrap32 ((wrap32 ((wrap32 (a0 + a1)) + a2)) + a3)) - 1)) = some r) ∧ Aside0 (kq ≤ kj6) ∧ Aside0 (Kd.R k24 24 w' w.heap.size (fun k_ => some k_ ≠ ((.slice Ao32 y380.length co32) : Value).ownBlock ∧ k_ ≠ gb372 ∧ k_ ≠ gb373) v378 t377) ∧ Aside0 (Kd.R k24 24 w' w.heap.size (fun k_ => some k_ ≠ (v378 : Value).ownBlock ∧ k_ ≠ gb372 ∧ k_ ≠ gb373) (.slice Ao32 y380.length co32) y380) ∧ Aside0 (w'.heap[gb372]? = some (.cells #[.int .i32 a0, .int .i32 (wrap32 ((wrap32 (a0 + a1)) - 1))] 24 (0, 0))) ∧ Aside0 (w'.heap[gb373]? = some (.cells #[.int .i32 (wrap32 ((wrap32 (a0 + a1)) + a2)), .int .i32 (wrap32 ((wrap32 ((wrap32 ((wrap32 (a0 + a1)) + a2)) + a3)) - 1))] 24 (0, 0))) ∧ Aside0 (Below w.heap.size w w'))
     case atStart => exact ⟨(0), (0), (by first | rfl | (simp; done) | (simp [*]; done)), (by first | rfl | (simp; done) | (simp [*]; done)), H', ⟨Nat.le_refl _⟩, ⟨by (with_reducible repeat (first | apply Kd.R_alloc | apply Kd.R_drewN | apply Kd.R_drew)); exact Kd.R_mono HO379.out (fun _ hk => ⟨hk.2, ⟨hk.1.1.2, hk.1.2⟩⟩)⟩, ⟨by (with_reducible repeat (first | apply Kd.R_alloc | apply Kd.R_drewN | apply Kd.R_drew)); exact Kd.R_mono HO382.out (fun _ hk => ⟨hk.1.1.2, ⟨hk.1.2, hk.2⟩⟩)⟩, ⟨S.b BK372.out⟩, ⟨S.b BK373.out⟩, ⟨by repeat (first | (with_reducible first | exact HB.out | apply below_alloc | apply pw_below_drewN | apply below_drew1 | refine below_set ?_ GE372.out | refine below_set ?_ GE373.out) | exact HB.out)⟩⟩
     case round =>
      clear H'
      try clear c1
      try clear c2
      try clear p2
      try clear c3
      try clear p3
      try clear c6
      try clear c7
      try clear c8
      try clear c9
      try clear c9b0
      try clear c10
      try clear c10b0
      try clear c11
      try clear c11b0
      try clear c12
      try clear c12b0
      try clear c13
      try clear c13b0
      try clear c14
      try clear c14b0
      try clear c15
      try clear c15b0
      try clear c16
      try clear c21
      try clear p32
      try clear hcz19_0
      try clear hcz19_1
      try clear hcz22_0
      try clear hcz22_1
      try clear hcz23_0
      try clear hcz23_1
      try clear hcz28_0
      try clear hcz28_1
      try clear hcz29_0
      try clear hcz29_1
      try clear hfz19_0
      try clear hfz19_1
      try clear hfz22_0
      try clear hfz22_1
      try clear hfz23_0
      try clear hfz23_1
      try clear hfz28_0
      try clear hfz28_1
      try clear hfz29_0
      try clear hfz29_1
      try clear p2
      obtain ⟨x12_2, x76_2, rfl, rfl, HA, HK2, HO_11, HO_74, BK372, BK373, HB⟩ := hrel
      cases gk with
      | zero => exact absurd HA.out (by simp [rubriclaw7_SetEdges.l0])
      | succ k2 =>
       have H := HA.out
       clear HA
       simp only [rubriclaw7_SetEdges.l0] at H
       by_cases c33 : x76_2 < (y380.length : Int)
       ·rw [if_pos c33] at H
        have c33b0 : decide (x76_2 < (y380.length : Int)) = true := decide_eq_true c33
        clear c33
        by_cases c34 : 0 ≤ x76_2
        ·rw [if_pos c34] at H
         have c34b0 : decide (0 ≤ x76_2) = true := decide_eq_true c34
         clear c34
         by_cases c35 : x76_2 < (y380.length : Int)
         ·rw [if_pos c35] at H
          have c35b0 : decide (x76_2 < (y380.length : Int)) = true := decide_eq_true c35
          clear c35
          by_cases c36 : ((rd_T24 y380 x76_2).f1) > 1114111
          ·rw [if_pos c36] at H
           have c36b0 : decide (1114111 < ((rd_T24 y380 x76_2).f1)) = true := decide_eq_true c36
           clear c36
           by_cases c37 : ((rd_T24 y380 x76_2).f0) ≤ 1114111
           ·rw [if_pos c37] at H
            have c37b0 : decide (((rd_T24 y380 x76_2).f0) ≤ 1114111) = true := decide_eq_true c37
            clear c37
            have H' := Aside0.mk H
            clear H
            have p383 : 0 ≤ (x76_2 : Int) := of_decide_eq_true (by first | (with_reducible assumption) | assumption)
            have q383 : x76_2 < (y380.length : Int) := of_decide_eq_true (by first | (with_reducible assumption) | assumption)
            obtain ⟨ad383, e383, hx383_0, hx383_1⟩ := at_T24 (Kd.R_reads' HO_74.out).2.2 x76_2 p383 q383
            cases e383
            replace p383 := eq_true p383
            replace q383 := eq_true q383
            go_wp2_with (first | ((with_reducible refine gate_dst (N := 14) rfl ?_); refine box_event ?hg (N := 14) ?hd (cs := #[.int .i32 0, .int .i32 0]) (t := 24) ?hr ?_; (case hd => rfl); (case hg => rfl); (case hr => first | (go_simp; done) | (go_simp; rfl)); intro gb384 hg w38 hbox hb; have n0_ := Aside0.mk (Kd.R_below (Kd.R_elderB (S.r HO_11.out) gb384 (Nat.le_of_eq hg.symm)) hb); have n1_ := Aside0.mk (Kd.R_below (Kd.R_elderB (S.r HO_74.out) gb384 (Nat.le_of_eq hg.symm)) hb); have n2_ := Aside0.mk (blk_below (g := gb372) (o := .cells #[.int .i32 a0, .int .i32 (wrap32 ((wrap32 (a0 + a1)) - 1))] 24 (0, 0)) (S.b BK372.out) hb); have n3_ := Aside0.mk (blk_below (g := gb373) (o := .cells #[.int .i32 (wrap32 ((wrap32 (a0 + a1)) + a2)), .int .i32 (wrap32 ((wrap32 ((wrap32 ((wrap32 (a0 + a1)) + a2)) + a3)) - 1))] 24 (0, 0)) (S.b BK373.out) hb); have n4_ := Aside0.mk (below_step (by repeat (first | (with_reducible first | exact HB.out | apply below_alloc | apply pw_below_drewN | apply below_drew1 | refine below_set ?_ GE372.out | refine below_set ?_ GE373.out) | exact HB.out)) hb); have n5_ := Aside0.mk (hbox); have n6_ := Aside0.mk ((by rw [hg]; exact (below_size (by repeat (first | (with_reducible first | exact HB.out | apply below_alloc | apply pw_below_drewN | apply below_drew1 | refine below_set ?_ GE372.out | refine below_set ?_ GE373.out) | exact HB.out))) : w.heap.size ≤ gb384)); have n7_ := Aside0.mk ((by rw [hg]; exact (below_size (by repeat (first | (with_reducible first | exact HB.out | apply below_alloc | apply pw_below_drewN | apply below_drew1 | refine below_set ?_ GE372.out | refine below_set ?_ GE373.out) | exact HB.out))) : w.heap.size ≤ gb384)); have n8_ := Aside0.mk ((by rw [hg]; exact Nat.ne_of_lt (blk_lt (g := gb372) (o := .cells #[.int .i32 a0, .int .i32 (wrap32 ((wrap32 (a0 + a1)) - 1))] 24 (0, 0)) (S.b BK372.out)) : gb372 ≠ gb384)); have n9_ := Aside0.mk ((by rw [hg]; exact Nat.ne_of_gt (blk_lt (g := gb372) (o := .cells #[.int .i32 a0, .int .i32 (wrap32 ((wrap32 (a0 + a1)) - 1))] 24 (0, 0)) (S.b BK372.out)) : gb384 ≠ gb372)); have n10_ := Aside0.mk ((by rw [hg]; exact Nat.ne_of_lt (blk_lt (g := gb373) (o := .cells #[.int .i32 (wrap32 ((wrap32 (a0 + a1)) + a2)), .int .i32 (wrap32 ((wrap32 ((wrap32 ((wrap32 (a0 + a1)) + a2)) + a3)) - 1))] 24 (0, 0)) (S.b BK373.out)) : gb373 ≠ gb384)); have n11_ := Aside0.mk ((by rw [hg]; exact Nat.ne_of_gt (blk_lt (g := gb373) (o := .cells #[.int .i32 (wrap32 ((wrap32 (a0 + a1)) + a2)), .int .i32 (wrap32 ((wrap32 ((wrap32 ((wrap32 (a0 + a1)) + a2)) + a3)) - 1))] 24 (0, 0)) (S.b BK373.out)) : gb384 ≠ gb373)); clear HO_11; clear HO_74; clear BK372; clear BK373; clear HB; have HO_11 := n0_; have HO_74 := n1_; have BK372 := n2_; have BK373 := n3_; have HB := n4_; have BK384 := n5_; have GW384 := n6_; have GE384 := n7_; have NB372_384 := n8_; have NB384_372 := n9_; have NB373_384 := n10_; have NB384_373 := n11_; clear n0_ n1_ n2_ n3_ n4_ n5_ n6_ n7_ n8_ n9_ n10_ n11_; clear hb hbox hg; have hnb39 := NB384_372.out; have hnc39 := NB372_384.out; have hnb40 := NB384_373.out; have hnc40 := NB373_384.out; have hcz41_0 : w38.cell? ⟨gb384, 0, none⟩ = some (.int .i32 0) := (blk_cell BK384.out 0).trans rfl; have hcz41_1 : w38.cell? ⟨gb384, 1, none⟩ = some (.int .i32 0) := (blk_cell BK384.out 1).trans rfl; have hfz41_0 := blk_frozen BK384.out 0; have hfz41_1 := blk_frozen BK384.out 1; have hst41_ : ∀ a b : Value, ((w38.setCell ⟨gb384, 0, none⟩ a).setCell ⟨gb384, 1, none⟩ b).cell? ⟨gb384, 1, none⟩ = some b := fun a b => World.cell?_setCell_same _ _ _ ((World.cell?_setCell_other _ _ _ _ (by intro e; injection e with _ e; cases e)).trans hcz41_1)))
            go_roundg k2
            case measure => have := HJ6.out; have := HK2.out; omega
            case rel => exact ⟨(wrap64 ((wrap64 (x12_2 + (wrap64 (wrap32 (1114111 - ((rd_T24 y380 x76_2).f0)))))) + 1)), (wrap64 (x76_2 + 1)), (by first | rfl | (simp; done) | (simp [*]; done)), (by first | rfl | (simp; done) | (simp [*]; done)), H', ⟨by have := HJ6.out; have := HK2.out; omega⟩, ⟨by (with_reducible repeat (first | apply Kd.R_alloc | apply Kd.R_drewN | apply Kd.R_drew)); exact Kd.R_mono (Kd.R_far (p := ⟨gb384, 1, none⟩) (Kd.R_far (p := ⟨gb384, 1, none⟩) (Kd.R_far (p := ⟨gb384, 0, none⟩) (Kd.R_mono HO_11.out (fun k_ hk => (⟨hk, hk.2⟩ : _ ∧ k_ ≠ gb384))) (fun _ hk => hk.2) (.int .i32 ((rd_T24 y380 x76_2).f0))) (fun _ hk => hk.2) (.int .i32 ((rd_T24 y380 x76_2).f1))) (fun _ hk => hk.2) (.int .i32 1114111)) (fun _ hk => ⟨hk.1.1.1, ⟨hk.1.1.2.1, hk.1.1.2.2⟩⟩)⟩, ⟨by (with_reducible repeat (first | apply Kd.R_alloc | apply Kd.R_drewN | apply Kd.R_drew)); exact Kd.R_mono (Kd.R_far (p := ⟨gb384, 1, none⟩) (Kd.R_far (p := ⟨gb384, 1, none⟩) (Kd.R_far (p := ⟨gb384, 0, none⟩) (Kd.R_mono HO_74.out (fun k_ hk => (⟨hk, hk.2⟩ : _ ∧ k_ ≠ gb384))) (fun _ hk => hk.2) (.int .i32 ((rd_T24 y380 x76_2).f0))) (fun _ hk => hk.2) (.int .i32 ((rd_T24 y380 x76_2).f1))) (fun _ hk => hk.2) (.int .i32 1114111)) (fun _ hk => ⟨hk.1.1.1, ⟨hk.1.1.2.1, hk.1.1.2.2⟩⟩)⟩, ⟨by (with_reducible repeat (first | refine blk_drewN ?_ _ | refine blk_drew ?_ | refine blk_alloc ?_ _)); refine blk_far ?_ NB372_384.out _; (with_reducible repeat (first | refine blk_drewN ?_ _ | refine blk_drew ?_ | refine blk_alloc ?_ _)); refine blk_far ?_ NB372_384.out _; (with_reducible repeat (first | refine blk_drewN ?_ _ | refine blk_drew ?_ | refine blk_alloc ?_ _)); refine blk_far ?_ NB372_384.out _; (with_reducible repeat (first | refine blk_drewN ?_ _ | refine blk_drew ?_ | refine blk_alloc ?_ _)); exact BK372.out⟩, ⟨by (with_reducible repeat (first | refine blk_drewN ?_ _ | refine blk_drew ?_ | refine blk_alloc ?_ _)); refine blk_far ?_ NB373_384.out _; (with_reducible repeat (first | refine blk_drewN ?_ _ | refine blk_drew ?_ | refine blk_alloc ?_ _)); refine blk_far ?_ NB373_384.out _; (with_reducible repeat (first | refine blk_drewN ?_ _ | refine blk_drew ?_ | refine blk_alloc ?_ _)); refine blk_far ?_ NB373_384.out _; (with_reducible repeat (first | refine blk_drewN ?_ _ | refine blk_drew ?_ | refine blk_alloc ?_ _)); exact BK373.out⟩, ⟨by repeat (first | (with_reducible first | exact HB.out | apply below_alloc | apply pw_below_drewN | apply below_drew1 | refine below_set ?_ GE372.out | refine below_set ?_ GE373.out | refine below_set ?_ GE384.out) | exact HB.out)⟩⟩
           ·rw [if_neg c37] at H
            have c37b0 : decide (((rd_T24 y380 x76_2).f0) ≤ 1114111) = false := decide_eq_false c37
            clear c37
            have H' := Aside0.mk H
            clear H
            have p383 : 0 ≤ (x76_2 : Int) := of_decide_eq_true (by first | (with_reducible assumption) | assumption)
            have q383 : x76_2 < (y380.length : Int) := of_decide_eq_true (by first | (with_reducible assumption) | assumption)
            obtain ⟨ad383, e383, hx383_0, hx383_1⟩ := at_T24 (Kd.R_reads' HO_74.out).2.2 x76_2 p383 q383
            cases e383
            replace p383 := eq_true p383
            replace q383 := eq_true q383
            go_wp2_with (first | ((with_reducible refine gate_dst (N := 14) rfl ?_); refine box_event ?hg (N := 14) ?hd (cs := #[.int .i32 0, .int .i32 0]) (t := 24) ?hr ?_; (case hd => rfl); (case hg => rfl); (case hr => first | (go_simp; done) | (go_simp; rfl)); intro gb384 hg w42 hbox hb; have n0_ := Aside0.mk (Kd.R_below (Kd.R_elderB (S.r HO_11.out) gb384 (Nat.le_of_eq hg.symm)) hb); have n1_ := Aside0.mk (Kd.R_below (Kd.R_elderB (S.r HO_74.out) gb384 (Nat.le_of_eq hg.symm)) hb); have n2_ := Aside0.mk (blk_below (g := gb372) (o := .cells #[.int .i32 a0, .int .i32 (wrap32 ((wrap32 (a0 + a1)) - 1))] 24 (0, 0)) (S.b BK372.out) hb); have n3_ := Aside0.mk (blk_below (g := gb373) (o := .cells #[.int .i32 (wrap32 ((wrap32 (a0 + a1)) + a2)), .int .i32 (wrap32 ((wrap32 ((wrap32 ((wrap32 (a0 + a1)) + a2)) + a3)) - 1))] 24 (0, 0)) (S.b BK373.out) hb); have n4_ := Aside0.mk (below_step (by repeat (first | (with_reducible first | exact HB.out | apply below_alloc | apply pw_below_drewN | apply below_drew1 | refine below_set ?_ GE372.out | refine below_set ?_ GE373.out) | exact HB.out)) hb); have n5_ := Aside0.mk (hbox); have n6_ := Aside0.mk ((by rw [hg]; exact (below_size (by repeat (first | (with_reducible first | exact HB.out | apply below_alloc | apply pw_below_drewN | apply below_drew1 | refine below_set ?_ GE372.out | refine below_set ?_ GE373.out) | exact HB.out))) : w.heap.size ≤ gb384)); have n7_ := Aside0.mk ((by rw [hg]; exact (below_size (by repeat (first | (with_reducible first | exact HB.out | apply below_alloc | apply pw_below_drewN | apply below_drew1 | refine below_set ?_ GE372.out | refine below_set ?_ GE373.out) | exact HB.out))) : w.heap.size ≤ gb384)); have n8_ := Aside0.mk ((by rw [hg]; exact Nat.ne_of_lt (blk_lt (g := gb372) (o := .cells #[.int .i32 a0, .int .i32 (wrap32 ((wrap32 (a0 + a1)) - 1))] 24 (0, 0)) (S.b BK372.out)) : gb372 ≠ gb384)); have n9_ := Aside0.mk ((by rw [hg]; exact Nat.ne_of_gt (blk_lt (g := gb372) (o := .cells #[.int .i32 a0, .int .i32 (wrap32 ((wrap32 (a0 + a1)) - 1))] 24 (0, 0)) (S.b BK372.out)) : gb384 ≠ gb372)); have n10_ := Aside0.mk ((by rw [hg]; exact Nat.ne_of_lt (blk_lt (g := gb373) (o := .cells #[.int .i32 (wrap32 ((wrap32 (a0 + a1)) + a2)), .int .i32 (wrap32 ((wrap32 ((wrap32 ((wrap32 (a0 + a1)) + a2)) + a3)) - 1))] 24 (0, 0)) (S.b BK373.out)) : gb373 ≠ gb384)); have n11_ := Aside0.mk ((by rw [hg]; exact Nat.ne_of_gt (blk_lt (g := gb373) (o := .cells #[.int .i32 (wrap32 ((wrap32 (a0 + a1)) + a2)), .int .i32 (wrap32 ((wrap32 ((wrap32 ((wrap32 (a0 + a1)) + a2)) + a3)) - 1))] 24 (0, 0)) (S.b BK373.out)) : gb384 ≠ gb373)); clear HO_11; clear HO_74; clear BK372; clear BK373; clear HB; have HO_11 := n0_; have HO_74 := n1_; have BK372 := n2_; have BK373 := n3_; have HB := n4_; have BK384 := n5_; have GW384 := n6_; have GE384 := n7_; have NB372_384 := n8_; have NB384_372 := n9_; have NB373_384 := n10_; have NB384_373 := n11_; clear n0_ n1_ n2_ n3_ n4_ n5_ n6_ n7_ n8_ n9_ n10_ n11_; clear hb hbox hg; have hnb43 := NB384_372.out; have hnc43 := NB372_384.out; have hnb44 := NB384_373.out; have hnc44 := NB373_384.out; have hcz45_0 : w42.cell? ⟨gb384, 0, none⟩ = some (.int .i32 0) := (blk_cell BK384.out 0).trans rfl; have hcz45_1 : w42.cell? ⟨gb384, 1, none⟩ = some (.int .i32 0) := (blk_cell BK384.out 1).trans rfl; have hfz45_0 := blk_frozen BK384.out 0; have hfz45_1 := blk_frozen BK384.out 1; have hst45_ : ∀ a b : Value, ((w42.setCell ⟨gb384, 0, none⟩ a).setCell ⟨gb384, 1, none⟩ b).cell? ⟨gb384, 1, none⟩ = some b := fun a b => World.cell?_setCell_same _ _ _ ((World.cell?_setCell_other _ _ _ _ (by intro e; injection e with _ e; cases e)).trans hcz45_1)))
            go_roundg k2
            case measure => have := HJ6.out; have := HK2.out; omega
            case rel => exact ⟨(x12_2), (wrap64 (x76_2 + 1)), (by first | rfl | (simp; done) | (simp [*]; done)), (by first | rfl | (simp; done) | (simp [*]; done)), H', ⟨by have := HJ6.out; have := HK2.out; omega⟩, ⟨by (with_reducible repeat (first | apply Kd.R_alloc | apply Kd.R_drewN | apply Kd.R_drew)); exact Kd.R_mono (Kd.R_far (p := ⟨gb384, 1, none⟩) (Kd.R_far (p := ⟨gb384, 1, none⟩) (Kd.R_far (p := ⟨gb384, 0, none⟩) (Kd.R_mono HO_11.out (fun k_ hk => (⟨hk, hk.2⟩ : _ ∧ k_ ≠ gb384))) (fun _ hk => hk.2) (.int .i32 ((rd_T24 y380 x76_2).f0))) (fun _ hk => hk.2) (.int .i32 ((rd_T24 y380 x76_2).f1))) (fun _ hk => hk.2) (.int .i32 1114111)) (fun _ hk => ⟨hk.1.1.1, ⟨hk.1.1.2.1, hk.1.1.2.2⟩⟩)⟩, ⟨by (with_reducible repeat (first | apply Kd.R_alloc | apply Kd.R_drewN | apply Kd.R_drew)); exact Kd.R_mono (Kd.R_far (p := ⟨gb384, 1, none⟩) (Kd.R_far (p := ⟨gb384, 1, none⟩) (Kd.R_far (p := ⟨gb384, 0, none⟩) (Kd.R_mono HO_74.out (fun k_ hk => (⟨hk, hk.2⟩ : _ ∧ k_ ≠ gb384))) (fun _ hk => hk.2) (.int .i32 ((rd_T24 y380 x76_2).f0))) (fun _ hk => hk.2) (.int .i32 ((rd_T24 y380 x76_2).f1))) (fun _ hk => hk.2) (.int .i32 1114111)) (fun _ hk => ⟨hk.1.1.1, ⟨hk.1.1.2.1, hk.1.1.2.2⟩⟩)⟩, ⟨by (with_reducible repeat (first | refine blk_drewN ?_ _ | refine blk_drew ?_ | refine blk_alloc ?_ _)); refine blk_far ?_ NB372_384.out _; (with_reducible repeat (first | refine blk_drewN ?_ _ | refine blk_drew ?_ | refine blk_alloc ?_ _)); refine blk_far ?_ NB372_384.out _; (with_reducible repeat (first | refine blk_drewN ?_ _ | refine blk_drew ?_ | refine blk_alloc ?_ _)); refine blk_far ?_ NB372_384.out _; (with_reducible repeat (first | refine blk_drewN ?_ _ | refine blk_drew ?_ | refine blk_alloc ?_ _)); exact BK372.out⟩, ⟨by (with_reducible repeat (first | refine blk_drewN ?_ _ | refine blk_drew ?_ | refine blk_alloc ?_ _)); refine blk_far ?_ NB373_384.out _; (with_reducible repeat (first | refine blk_drewN ?_ _ | refine blk_drew ?_ | refine blk_alloc ?_ _)); refine blk_far ?_ NB373_384.out _; (with_reducible repeat (first | refine blk_drewN ?_ _ | refine blk_drew ?_ | refine blk_alloc ?_ _)); refine blk_far ?_ NB373_384.out _; (with_reducible repeat (first | refine blk_drewN ?_ _ | refine blk_drew ?_ | refine blk_alloc ?_ _)); exact BK373.out⟩, ⟨by repeat (first | (with_reducible first | exact HB.out | apply below_alloc | apply pw_below_drewN | apply below_drew1 | refine below_set ?_ GE372.out | refine below_set ?_ GE373.out | refine below_set ?_ GE384.out) | exact HB.out)⟩⟩
          ·rw [if_neg c36] at H
           have c36b0 : decide (1114111 < ((rd_T24 y380 x76_2).f1)) = false := decide_eq_false c36
           clear c36
           by_cases c46 : ((rd_T24 y380 x76_2).f0) ≤ ((rd_T24 y380 x76_2).f1)
           ·rw [if_pos c46] at H
            have c46b0 : decide (((rd_T24 y380 x76_2).f0) ≤ ((rd_T24 y380 x76_2).f1)) = true := decide_eq_true c46
            clear c46
            have H' := Aside0.mk H
            clear H
            have p383 : 0 ≤ (x76_2 : Int) := of_decide_eq_true (by first | (with_reducible assumption) | assumption)
            have q383 : x76_2 < (y380.length : Int) := of_decide_eq_true (by first | (with_reducible assumption) | assumption)
            obtain ⟨ad383, e383, hx383_0, hx383_1⟩ := at_T24 (Kd.R_reads' HO_74.out).2.2 x76_2 p383 q383
            cases e383
            replace p383 := eq_true p383
            replace q383 := eq_true q383
            go_wp2_with (first | ((with_reducible refine gate_dst (N := 14) rfl ?_); refine box_event ?hg (N := 14) ?hd (cs := #[.int .i32 0, .int .i32 0]) (t := 24) ?hr ?_; (case hd => rfl); (case hg => rfl); (case hr => first | (go_simp; done) | (go_simp; rfl)); intro gb384 hg w47 hbox hb; have n0_ := Aside0.mk (Kd.R_below (Kd.R_elderB (S.r HO_11.out) gb384 (Nat.le_of_eq hg.symm)) hb); have n1_ := Aside0.mk (Kd.R_below (Kd.R_elderB (S.r HO_74.out) gb384 (Nat.le_of_eq hg.symm)) hb); have n2_ := Aside0.mk (blk_below (g := gb372) (o := .cells #[.int .i32 a0, .int .i32 (wrap32 ((wrap32 (a0 + a1)) - 1))] 24 (0, 0)) (S.b BK372.out) hb); have n3_ := Aside0.mk (blk_below (g := gb373) (o := .cells #[.int .i32 (wrap32 ((wrap32 (a0 + a1)) + a2)), .int .i32 (wrap32 ((wrap32 ((wrap32 ((wrap32 (a0 + a1)) + a2)) + a3)) - 1))] 24 (0, 0)) (S.b BK373.out) hb); have n4_ := Aside0.mk (below_step (by repeat (first | (with_reducible first | exact HB.out | apply below_alloc | apply pw_below_drewN | apply below_drew1 | refine below_set ?_ GE372.out | refine below_set ?_ GE373.out) | exact HB.out)) hb); have n5_ := Aside0.mk (hbox); have n6_ := Aside0.mk ((by rw [hg]; exact (below_size (by repeat (first | (with_reducible first | exact HB.out | apply below_alloc | apply pw_below_drewN | apply below_drew1 | refine below_set ?_ GE372.out | refine below_set ?_ GE373.out) | exact HB.out))) : w.heap.size ≤ gb384)); have n7_ := Aside0.mk ((by rw [hg]; exact (below_size (by repeat (first | (with_reducible first | exact HB.out | apply below_alloc | apply pw_below_drewN | apply below_drew1 | refine below_set ?_ GE372.out | refine below_set ?_ GE373.out) | exact HB.out))) : w.heap.size ≤ gb384)); have n8_ := Aside0.mk ((by rw [hg]; exact Nat.ne_of_lt (blk_lt (g := gb372) (o := .cells #[.int .i32 a0, .int .i32 (wrap32 ((wrap32 (a0 + a1)) - 1))] 24 (0, 0)) (S.b BK372.out)) : gb372 ≠ gb384)); have n9_ := Aside0.mk ((by rw [hg]; exact Nat.ne_of_gt (blk_lt (g := gb372) (o := .cells #[.int .i32 a0, .int .i32 (wrap32 ((wrap32 (a0 + a1)) - 1))] 24 (0, 0)) (S.b BK372.out)) : gb384 ≠ gb372)); have n10_ := Aside0.mk ((by rw [hg]; exact Nat.ne_of_lt (blk_lt (g := gb373) (o := .cells #[.int .i32 (wrap32 ((wrap32 (a0 + a1)) + a2)), .int .i32 (wrap32 ((wrap32 ((wrap32 ((wrap32 (a0 + a1)) + a2)) + a3)) - 1))] 24 (0, 0)) (S.b BK373.out)) : gb373 ≠ gb384)); have n11_ := Aside0.mk ((by rw [hg]; exact Nat.ne_of_gt (blk_lt (g := gb373) (o := .cells #[.int .i32 (wrap32 ((wrap32 (a0 + a1)) + a2)), .int .i32 (wrap32 ((wrap32 ((wrap32 ((wrap32 (a0 + a1)) + a2)) + a3)) - 1))] 24 (0, 0)) (S.b BK373.out)) : gb384 ≠ gb373)); clear HO_11; clear HO_74; clear BK372; clear BK373; clear HB; have HO_11 := n0_; have HO_74 := n1_; have BK372 := n2_; have BK373 := n3_; have HB := n4_; have BK384 := n5_; have GW384 := n6_; have GE384 := n7_; have NB372_384 := n8_; have NB384_372 := n9_; have NB373_384 := n10_; have NB384_373 := n11_; clear n0_ n1_ n2_ n3_ n4_ n5_ n6_ n7_ n8_ n9_ n10_ n11_; clear hb hbox hg; have hnb48 := NB384_372.out; have hnc48 := NB372_384.out; have hnb49 := NB384_373.out; have hnc49 := NB373_384.out; have hcz50_0 : w47.cell? ⟨gb384, 0, none⟩ = some (.int .i32 0) := (blk_cell BK384.out 0).trans rfl; have hcz50_1 : w47.cell? ⟨gb384, 1, none⟩ = some (.int .i32 0) := (blk_cell BK384.out 1).trans rfl; have hfz50_0 := blk_frozen BK384.out 0; have hfz50_1 := blk_frozen BK384.out 1; have hst50_ : ∀ a b : Value, ((w47.setCell ⟨gb384, 0, none⟩ a).setCell ⟨gb384, 1, none⟩ b).cell? ⟨gb384, 1, none⟩ = some b := fun a b => World.cell?_setCell_same _ _ _ ((World.cell?_setCell_other _ _ _ _ (by intro e; injection e with _ e; cases e)).trans hcz50_1)))
            go_roundg k2
            case measure => have := HJ6.out; have := HK2.out; omega
            case rel => exact ⟨(wrap64 ((wrap64 (x12_2 + (wrap64 (wrap32 (((rd_T24 y380 x76_2).f1) - ((rd_T24 y380 x76_2).f0)))))) + 1)), (wrap64 (x76_2 + 1)), (by first | rfl | (simp; done) | (simp [*]; done)), (by first | rfl | (simp; done) | (simp [*]; done)), H', ⟨by have := HJ6.out; have := HK2.out; omega⟩, ⟨by (with_reducible repeat (first | apply Kd.R_alloc | apply Kd.R_drewN | apply Kd.R_drew)); exact Kd.R_mono (Kd.R_far (p := ⟨gb384, 1, none⟩) (Kd.R_far (p := ⟨gb384, 0, none⟩) (Kd.R_mono HO_11.out (fun k_ hk => (⟨hk, hk.2⟩ : _ ∧ k_ ≠ gb384))) (fun _ hk => hk.2) (.int .i32 ((rd_T24 y380 x76_2).f0))) (fun _ hk => hk.2) (.int .i32 ((rd_T24 y380 x76_2).f1))) (fun _ hk => ⟨hk.1.1.1, ⟨hk.1.1.2.1, hk.1.1.2.2⟩⟩)⟩, ⟨by (with_reducible repeat (first | apply Kd.R_alloc | apply Kd.R_drewN | apply Kd.R_drew)); exact Kd.R_mono (Kd.R_far (p := ⟨gb384, 1, none⟩) (Kd.R_far (p := ⟨gb384, 0, none⟩) (Kd.R_mono HO_74.out (fun k_ hk => (⟨hk, hk.2⟩ : _ ∧ k_ ≠ gb384))) (fun _ hk => hk.2) (.int .i32 ((rd_T24 y380 x76_2).f0))) (fun _ hk => hk.2) (.int .i32 ((rd_T24 y380 x76_2).f1))) (fun _ hk => ⟨hk.1.1.1, ⟨hk.1.1.2.1, hk.1.1.2.2⟩⟩)⟩, ⟨by (with_reducible repeat (first | refine blk_drewN ?_ _ | refine blk_drew ?_ | refine blk_alloc ?_ _)); refine blk_far ?_ NB372_384.out _; (with_reducible repeat (first | refine blk_drewN ?_ _ | refine blk_drew ?_ | refine blk_alloc ?_ _)); refine blk_far ?_ NB372_384.out _; (with_reducible repeat (first | refine blk_drewN ?_ _ | refine blk_drew ?_ | refine blk_alloc ?_ _)); exact BK372.out⟩, ⟨by (with_reducible repeat (first | refine blk_drewN ?_ _ | refine blk_drew ?_ | refine blk_alloc ?_ _)); refine blk_far ?_ NB373_384.out _; (with_reducible repeat (first | refine blk_drewN ?_ _ | refine blk_drew ?_ | refine blk_alloc ?_ _)); refine blk_far ?_ NB373_384.out _; (with_reducible repeat (first | refine blk_drewN ?_ _ | refine blk_drew ?_ | refine blk_alloc ?_ _)); exact BK373.out⟩, ⟨by repeat (first | (with_reducible first | exact HB.out | apply below_alloc | apply pw_below_drewN | apply below_drew1 | refine below_set ?_ GE372.out | refine below_set ?_ GE373.out | refine below_set ?_ GE384.out) | exact HB.out)⟩⟩
           ·rw [if_neg c46] at H
            have c46b0 : decide (((rd_T24 y380 x76_2).f0) ≤ ((rd_T24 y380 x76_2).f1)) = false := decide_eq_false c46
            clear c46
            have H' := Aside0.mk H
            clear H
            have p383 : 0 ≤ (x76_2 : Int) := of_decide_eq_true (by first | (with_reducible assumption) | assumption)
            have q383 : x76_2 < (y380.length : Int) := of_decide_eq_true (by first | (with_reducible assumption) | assumption)
            obtain ⟨ad383, e383, hx383_0, hx383_1⟩ := at_T24 (Kd.R_reads' HO_74.out).2.2 x76_2 p383 q383
            cases e383
            replace p383 := eq_true p383
            replace q383 := eq_true q383
            go_wp2_with (first | ((with_reducible refine gate_dst (N := 14) rfl ?_); refine box_event ?hg (N := 14) ?hd (cs := #[.int .i32 0, .int .i32 0]) (t := 24) ?hr ?_; (case hd => rfl); (case hg => rfl); (case hr => first | (go_simp; done) | (go_simp; rfl)); intro gb384 hg w51 hbox hb; have n0_ := Aside0.mk (Kd.R_below (Kd.R_elderB (S.r HO_11.out) gb384 (Nat.le_of_eq hg.symm)) hb); have n1_ := Aside0.mk (Kd.R_below (Kd.R_elderB (S.r HO_74.out) gb384 (Nat.le_of_eq hg.symm)) hb); have n2_ := Aside0.mk (blk_below (g := gb372) (o := .cells #[.int .i32 a0, .int .i32 (wrap32 ((wrap32 (a0 + a1)) - 1))] 24 (0, 0)) (S.b BK372.out) hb); have n3_ := Aside0.mk (blk_below (g := gb373) (o := .cells #[.int .i32 (wrap32 ((wrap32 (a0 + a1)) + a2)), .int .i32 (wrap32 ((wrap32 ((wrap32 ((wrap32 (a0 + a1)) + a2)) + a3)) - 1))] 24 (0, 0)) (S.b BK373.out) hb); have n4_ := Aside0.mk (below_step (by repeat (first | (with_reducible first | exact HB.out | apply below_alloc | apply pw_below_drewN | apply below_drew1 | refine below_set ?_ GE372.out | refine below_set ?_ GE373.out) | exact HB.out)) hb); have n5_ := Aside0.mk (hbox); have n6_ := Aside0.mk ((by rw [hg]; exact (below_size (by repeat (first | (with_reducible first | exact HB.out | apply below_alloc | apply pw_below_drewN | apply below_drew1 | refine below_set ?_ GE372.out | refine below_set ?_ GE373.out) | exact HB.out))) : w.heap.size ≤ gb384)); have n7_ := Aside0.mk ((by rw [hg]; exact (below_size (by repeat (first | (with_reducible first | exact HB.out | apply below_alloc | apply pw_below_drewN | apply below_drew1 | refine below_set ?_ GE372.out | refine below_set ?_ GE373.out) | exact HB.out))) : w.heap.size ≤ gb384)); have n8_ := Aside0.mk ((by rw [hg]; exact Nat.ne_of_lt (blk_lt (g := gb372) (o := .cells #[.int .i32 a0, .int .i32 (wrap32 ((wrap32 (a0 + a1)) - 1))] 24 (0, 0)) (S.b BK372.out)) : gb372 ≠ gb384)); have n9_ := Aside0.mk ((by rw [hg]; exact Nat.ne_of_gt (blk_lt (g := gb372) (o := .cells #[.int .i32 a0, .int .i32 (wrap32 ((wrap32 (a0 + a1)) - 1))] 24 (0, 0)) (S.b BK372.out)) : gb384 ≠ gb372)); have n10_ := Aside0.mk ((by rw [hg]; exact Nat.ne_of_lt (blk_lt (g := gb373) (o := .cells #[.int .i32 (wrap32 ((wrap32 (a0 + a1)) + a2)), .int .i32 (wrap32 ((wrap32 ((wrap32 ((wrap32 (a0 + a1)) + a2)) + a3)) - 1))] 24 (0, 0)) (S.b BK373.out)) : gb373 ≠ gb384)); have n11_ := Aside0.mk ((by rw [hg]; exact Nat.ne_of_gt (blk_lt (g := gb373) (o := .cells #[.int .i32 (wrap32 ((wrap32 (a0 + a1)) + a2)), .int .i32 (wrap32 ((wrap32 ((wrap32 ((wrap32 (a0 + a1)) + a2)) + a3)) - 1))] 24 (0, 0)) (S.b BK373.out)) : gb384 ≠ gb373)); clear HO_11; clear HO_74; clear BK372; clear BK373; clear HB; have HO_11 := n0_; have HO_74 := n1_; have BK372 := n2_; have BK373 := n3_; have HB := n4_; have BK384 := n5_; have GW384 := n6_; have GE384 := n7_; have NB372_384 := n8_; have NB384_372 := n9_; have NB373_384 := n10_; have NB384_373 := n11_; clear n0_ n1_ n2_ n3_ n4_ n5_ n6_ n7_ n8_ n9_ n10_ n11_; clear hb hbox hg; have hnb52 := NB384_372.out; have hnc52 := NB372_384.out; have hnb53 := NB384_373.out; have hnc53 := NB373_384.out; have hcz54_0 : w51.cell? ⟨gb384, 0, none⟩ = some (.int .i32 0) := (blk_cell BK384.out 0).trans rfl; have hcz54_1 : w51.cell? ⟨gb384, 1, none⟩ = some (.int .i32 0) := (blk_cell BK384.out 1).trans rfl; have hfz54_0 := blk_frozen BK384.out 0; have hfz54_1 := blk_frozen BK384.out 1; have hst54_ : ∀ a b : Value, ((w51.setCell ⟨gb384, 0, none⟩ a).setCell ⟨gb384, 1, none⟩ b).cell? ⟨gb384, 1, none⟩ = some b := fun a b => World.cell?_setCell_same _ _ _ ((World.cell?_setCell_other _ _ _ _ (by intro e; injection e with _ e; cases e)).trans hcz54_1)))
            go_roundg k2
            case measure => have := HJ6.out; have := HK2.out; omega
            case rel => exact ⟨(x12_2), (wrap64 (x76_2 + 1)), (by first | rfl | (simp; done) | (simp [*]; done)), (by first | rfl | (simp; done) | (simp [*]; done)), H', ⟨by have := HJ6.out; have := HK2.out; omega⟩, ⟨by (with_reducible repeat (first | apply Kd.R_alloc | apply Kd.R_drewN | apply Kd.R_drew)); exact Kd.R_mono (Kd.R_far (p := ⟨gb384, 1, none⟩) (Kd.R_far (p := ⟨gb384, 0, none⟩) (Kd.R_mono HO_11.out (fun k_ hk => (⟨hk, hk.2⟩ : _ ∧ k_ ≠ gb384))) (fun _ hk => hk.2) (.int .i32 ((rd_T24 y380 x76_2).f0))) (fun _ hk => hk.2) (.int .i32 ((rd_T24 y380 x76_2).f1))) (fun _ hk => ⟨hk.1.1.1, ⟨hk.1.1.2.1, hk.1.1.2.2⟩⟩)⟩, ⟨by (with_reducible repeat (first | apply Kd.R_alloc | apply Kd.R_drewN | apply Kd.R_drew)); exact Kd.R_mono (Kd.R_far (p := ⟨gb384, 1, none⟩) (Kd.R_far (p := ⟨gb384, 0, none⟩) (Kd.R_mono HO_74.out (fun k_ hk => (⟨hk, hk.2⟩ : _ ∧ k_ ≠ gb384))) (fun _ hk => hk.2) (.int .i32 ((rd_T24 y380 x76_2).f0))) (fun _ hk => hk.2) (.int .i32 ((rd_T24 y380 x76_2).f1))) (fun _ hk => ⟨hk.1.1.1, ⟨hk.1.1.2.1, hk.1.1.2.2⟩⟩)⟩, ⟨by (with_reducible repeat (first | refine blk_drewN ?_ _ | refine blk_drew ?_ | refine blk_alloc ?_ _)); refine blk_far ?_ NB372_384.out _; (with_reducible repeat (first | refine blk_drewN ?_ _ | refine blk_drew ?_ | refine blk_alloc ?_ _)); refine blk_far ?_ NB372_384.out _; (with_reducible repeat (first | refine blk_drewN ?_ _ | refine blk_drew ?_ | refine blk_alloc ?_ _)); exact BK372.out⟩, ⟨by (with_reducible repeat (first | refine blk_drewN ?_ _ | refine blk_drew ?_ | refine blk_alloc ?_ _)); refine blk_far ?_ NB373_384.out _; (with_reducible repeat (first | refine blk_drewN ?_ _ | refine blk_drew ?_ | refine blk_alloc ?_ _)); refine blk_far ?_ NB373_384.out _; (with_reducible repeat (first | refine blk_drewN ?_ _ | refine blk_drew ?_ | refine blk_alloc ?_ _)); exact BK373.out⟩, ⟨by repeat (first | (with_reducible first | exact HB.out | apply below_alloc | apply pw_below_drewN | apply below_drew1 | refine below_set ?_ GE372.out | refine below_set ?_ GE373.out | refine below_set ?_ GE384.out) | exact HB.out)⟩⟩
         ·rw [if_neg c35] at H
          exact absurd H (by simp)
        ·rw [if_neg c34] at H
         exact absurd H (by simp)
       ·rw [if_neg c33] at H
        have c33b0 : decide (x76_2 < (y380.length : Int)) = false := decide_eq_false c33
        clear c33
        have HC55 := Aside0.mk H
        clear H
        go_upto_region 18 with (fail)
        go_cut [105] (fun v105 wc => ∃ (kq : Nat) (x105_54 : Bool), v105 = .bool x105_54 ∧ Aside0 (rubriclaw7_SetEdges.j2 kq a0 t377 x12_2 2 x105_54 = some r) ∧ Aside0 (kq ≤ k2) ∧ Aside0 (Kd.R k24 24 wc w.heap.size (fun k_ => k_ ≠ gb372 ∧ k_ ≠ gb373) v378 t377) ∧ Aside0 (wc.heap[gb372]? = some (.cells #[.int .i32 a0, .int .i32 (wrap32 ((wrap32 (a0 + a1)) - 1))] 24 (0, 0))) ∧ Aside0 (wc.heap[gb373]? = some (.cells #[.int .i32 (wrap32 ((wrap32 (a0 + a1)) + a2)), .int .i32 (wrap32 ((wrap32 ((wrap32 ((wrap32 (a0 + a1)) + a2)) + a3)) - 1))] 24 (0, 0))) ∧ Aside0 (Below w.heap.size w wc))
        case first =>
         have H := HC55.out
         clear HC55
         by_cases c56 : a2 = 0
         ·rw [if_pos c56] at H
          have c56b0 : (a2 == 0) = true := beq_iff_eq.mpr c56
          have c56b1 : (a2 != 0) = false := bne_eq_false_iff_eq.mpr c56
          clear c56
          (first | rw [c56b0] | (simp only [i64_w, i32_w]; rw [c56b0]) | skip)
          have H' := Aside0.mk H
          clear H
          go_wp2
          go_meet
          case rel => exact ⟨_, (true), (by first | rfl | (simp; done) | (simp [*]; done)), H', ⟨by have := HJ6.out; have := HK2.out; first | omega | exact Nat.le_refl _⟩, ⟨by (with_reducible repeat (first | apply Kd.R_alloc | apply Kd.R_drewN | apply Kd.R_drew)); exact Kd.R_mono HO_11.out (fun _ hk => ⟨hk.2.1, hk.2.2⟩)⟩, ⟨S.b BK372.out⟩, ⟨S.b BK373.out⟩, ⟨by repeat (first | (with_reducible first | exact HB.out | apply below_alloc | apply pw_below_drewN | apply below_drew1 | refine below_set ?_ GE372.out | refine below_set ?_ GE373.out) | exact HB.out)⟩⟩
         ·rw [if_neg c56] at H
          have c56b0 : (a2 == 0) = false := beq_eq_false_iff_ne.mpr c56
          have c56b1 : (a2 != 0) = true := bne_iff_ne.mpr c56
          (first | rw [c56b0] | (simp only [i64_w, i32_w]; rw [c56b0]) | skip)
          have H' := Aside0.mk H
          clear H
          have hnb57 := NB373_372.out
          have hnc57 := NB372_373.out
          have hcz58_0 : wr.cell? ⟨gb373, 0, none⟩ = some (.int .i32 (wrap32 ((wrap32 (a0 + a1)) + a2))) := (blk_cell BK373.out 0).trans rfl
          have hcz58_1 : wr.cell? ⟨gb373, 1, none⟩ = some (.int .i32 (wrap32 ((wrap32 ((wrap32 ((wrap32 (a0 + a1)) + a2)) + a3)) - 1))) := (blk_cell BK373.out 1).trans rfl
          have hfz58_0 := blk_frozen BK373.out 0
          have hfz58_1 := blk_frozen BK373.out 1
          go_wp2
          go_meet
          case rel => exact ⟨_, (decide ((wrap32 ((wrap32 (a0 + a1)) + a2)) > 1114111)), (by first | rfl | (simp; done) | (simp [*]; done)), H', ⟨by have := HJ6.out; have := HK2.out; first | omega | exact Nat.le_refl _⟩, ⟨by (with_reducible repeat (first | apply Kd.R_alloc | apply Kd.R_drewN | apply Kd.R_drew)); exact Kd.R_mono HO_11.out (fun _ hk => ⟨hk.2.1, hk.2.2⟩)⟩, ⟨S.b BK372.out⟩, ⟨S.b BK373.out⟩, ⟨by repeat (first | (with_reducible first | exact HB.out | apply below_alloc | apply pw_below_drewN | apply below_drew1 | refine below_set ?_ GE372.out | refine below_set ?_ GE373.out) | exact HB.out)⟩⟩
        case rest =>
         clear HC55
         try clear c1
         try clear c2
         try clear p2
         try clear c3
         try clear p3
         try clear q3
         try clear hx3
         try clear c4
         try clear c5
         try clear c6
         try clear p6
         try clear c7
         try clear c8
         try clear c9
         try clear c9b0
         try clear c10
         try clear c10b0
         try clear c11
         try clear c11b0
         try clear c12
         try clear c12b0
         try clear c13
         try clear c13b0
         try clear c14
         try clear c14b0
         try clear c15
         try clear c15b0
         try clear c16
         try clear c21
         try clear p32
         try clear c33
         try clear c33b0
         try clear c34
         try clear c34b0
         try clear c35
         try clear c35b0
         try clear c36
         try clear c36b0
         try clear c37
         try clear c37b0
         try clear p38
         try clear q38
         try clear hx38
         try clear c39
         try clear c40
         try clear c43
         try clear c44
         try clear c46
         try clear c46b0
         try clear c48
         try clear c49
         try clear c52
         try clear c53
         try clear c56
         try clear c56b0
         try clear c56b1
         try clear c57
         try clear hcz19_0
         try clear hcz19_1
         try clear hcz22_0
         try clear hcz22_1
         try clear hcz23_0
         try clear hcz23_1
         try clear hcz28_0
         try clear hcz28_1
         try clear hcz29_0
         try clear hcz29_1
         try clear hcz41_0
         try clear hcz41_1
         try clear hcz45_0
         try clear hcz45_1
         try clear hcz50_0
         try clear hcz50_1
         try clear hcz54_0
         try clear hcz54_1
         try clear hcz58_0
         try clear hcz58_1
         try clear hfz19_0
         try clear hfz19_1
         try clear hfz22_0
         try clear hfz22_1
         try clear hfz23_0
         try clear hfz23_1
         try clear hfz28_0
         try clear hfz28_1
         try clear hfz29_0
         try clear hfz29_1
         try clear hfz41_0
         try clear hfz41_1
         try clear hfz45_0
         try clear hfz45_1
         try clear hfz50_0
         try clear hfz50_1
         try clear hfz54_0
         try clear hfz54_1
         try clear hfz58_0
         try clear hfz58_1
         try clear hx383_0
         try clear hx383_1
         try clear p2
         try clear p3
         try clear p32
         try clear p383
         try clear q383
         obtain ⟨kq, x105_54, rfl, HA, HJ54, HO_11, BK372, BK373, HB⟩ := hcut
         cases kq with
         | zero => exact absurd HA.out (by simp [rubriclaw7_SetEdges.j2])
         | succ kj54 =>
          have H := HA.out
          clear HA
          simp only [rubriclaw7_SetEdges.j2] at H
          have HC59 := Aside0.mk H
          clear H
          go_upto_if 105 with (fail)
          go_cut [15] (fun v15 wc => ∃ (kq : Nat) (x15_58 : Int), v15 = .int .i64 x15_58 ∧ Aside0 (rubriclaw7_SetEdges.j3 kq a0 t377 x12_2 x15_58 = some r) ∧ Aside0 (kq ≤ kj54) ∧ Aside0 (Kd.R k24 24 wc w.heap.size (fun k_ => k_ ≠ gb372 ∧ k_ ≠ gb373) v378 t377) ∧ Aside0 (wc.heap[gb372]? = some (.cells #[.int .i32 a0, .int .i32 (wrap32 ((wrap32 (a0 + a1)) - 1))] 24 (0, 0))) ∧ Aside0 (wc.heap[gb373]? = some (.cells #[.int .i32 (wrap32 ((wrap32 (a0 + a1)) + a2)), .int .i32 (wrap32 ((wrap32 ((wrap32 ((wrap32 (a0 + a1)) + a2)) + a3)) - 1))] 24 (0, 0))) ∧ Aside0 (Below w.heap.size w wc))
          case first =>
           have H := HC59.out
           clear HC59
           by_cases c60 : x105_54 = true
           ·subst c60
            have H1 : (rubriclaw7_SetEdges.j3 kj54 a0 t377 x12_2 1) = some r := by rw [if_pos rfl] at H; exact H
            clear H
            have H := H1
            clear H1
            have H' := Aside0.mk H
            clear H
            go_wp2
            go_meet
            case rel => exact ⟨_, (1), (by first | rfl | (simp; done) | (simp [*]; done)), H', ⟨by have := HJ6.out; have := HK2.out; have := HJ54.out; first | omega | exact Nat.le_refl _⟩, ⟨S.r HO_11.out⟩, ⟨S.b BK372.out⟩, ⟨S.b BK373.out⟩, ⟨by repeat (first | (with_reducible first | exact HB.out | apply below_alloc | apply pw_below_drewN | apply below_drew1 | refine below_set ?_ GE372.out | refine below_set ?_ GE373.out) | exact HB.out)⟩⟩
           ·replace c60 := Bool.eq_false_iff.mpr c60
            subst c60
            have H1 : (rubriclaw7_SetEdges.j3 kj54 a0 t377 x12_2 2) = some r := by rw [if_neg (show ¬ (false = true) by decide)] at H; exact H
            clear H
            have H := H1
            clear H1
            have H' := Aside0.mk H
            clear H
            go_wp2
            go_meet
            case rel => exact ⟨_, (2), (by first | rfl | (simp; done) | (simp [*]; done)), H', ⟨by have := HJ6.out; have := HK2.out; have := HJ54.out; first | omega | exact Nat.le_refl _⟩, ⟨S.r HO_11.out⟩, ⟨S.b BK372.out⟩, ⟨S.b BK373.out⟩, ⟨by repeat (first | (with_reducible first | exact HB.out | apply below_alloc | apply pw_below_drewN | apply below_drew1 | refine below_set ?_ GE372.out | refine below_set ?_ GE373.out) | exact HB.out)⟩⟩
          case rest =>
           clear HC59
           try clear c1
           try clear c2
           try clear p2
           try clear c3
           try clear p3
           try clear q3
           try clear hx3
           try clear c4
           try clear c5
           try clear c6
           try clear p6
           try clear c7
           try clear c8
           try clear c9
           try clear c9b0
           try clear c10
           try clear c10b0
           try clear c11
           try clear c11b0
           try clear c12
           try clear c12b0
           try clear c13
           try clear c13b0
           try clear c14
           try clear c14b0
           try clear c15
           try clear c15b0
           try clear c16
           try clear c21
           try clear p32
           try clear c33
           try clear c33b0
           try clear c34
           try clear c34b0
           try clear c35
           try clear c35b0
           try clear c36
           try clear c36b0
           try clear c37
           try clear c37b0
           try clear p38
           try clear q38
           try clear hx38
           try clear c39
           try clear c40
           try clear c43
           try clear c44
           try clear c46
           try clear c46b0
           try clear c48
           try clear c49
           try clear c52
           try clear c53
           try clear c56
           try clear c56b0
           try clear c56b1
           try clear c57
           try clear c60
           try clear hcz19_0
           try clear hcz19_1
           try clear hcz22_0
           try clear hcz22_1
           try clear hcz23_0
           try clear hcz23_1
           try clear hcz28_0
           try clear hcz28_1
           try clear hcz29_0
           try clear hcz29_1
           try clear hcz41_0
           try clear hcz41_1
           try clear hcz45_0
           try clear hcz45_1
           try clear hcz50_0
           try clear hcz50_1
           try clear hcz54_0
           try clear hcz54_1
           try clear hcz58_0
           try clear hcz58_1
           try clear hfz19_0
           try clear hfz19_1
           try clear hfz22_0
           try clear hfz22_1
           try clear hfz23_0
           try clear hfz23_1
           try clear hfz28_0
           try clear hfz28_1
           try clear hfz29_0
           try clear hfz29_1
           try clear hfz41_0
           try clear hfz41_1
           try clear hfz45_0
           try clear hfz45_1
           try clear hfz50_0
           try clear hfz50_1
           try clear hfz54_0
           try clear hfz54_1
           try clear hfz58_0
           try clear hfz58_1
           try clear hx383_0
           try clear hx383_1
           try clear p2
           try clear p3
           try clear p32
           try clear p38
           try clear p383
           try clear p6
           try clear q3
           try clear q38
           try clear q383
           obtain ⟨kq, x15_58, rfl, HA, HJ58, HO_11, BK372, BK373, HB⟩ := hcut
           cases kq with
           | zero => exact absurd HA.out (by simp [rubriclaw7_SetEdges.j3])
           | succ kj58 =>
            have H := HA.out
            clear HA
            simp only [rubriclaw7_SetEdges.j3] at H
            by_cases c61 : (t377.length : Int) = x15_58
            ·rw [if_pos c61] at H
             have c61b0 : ((t377.length : Int) == x15_58) = true := beq_iff_eq.mpr c61
             have c61b1 : ((t377.length : Int) != x15_58) = false := bne_eq_false_iff_eq.mpr c61
             clear c61
             replace H := Option.bind_eq_some_iff.mp H
             obtain ⟨t385, A620, H⟩ := H
             replace H : (if t385 = x12_2 then ((set_Set_Right.f kj58 t377).bind fun t386 => (if t386 = true then ((G.set_Has.f t377 a0).bind fun t387 => (if t387 = true then ((G.set_Has.f t377 (wrap32 (a0 - 1))).bind fun t388 => (some (!t388))) else (some false))) else (some false))) else (some false)) = some r := H
             have A62 := Aside0.mk A620
             clear A620
             by_cases c63 : t385 = x12_2
             ·rw [if_pos c63] at H
              have c63b0 : (t385 == x12_2) = true := beq_iff_eq.mpr c63
              have c63b1 : (t385 != x12_2) = false := bne_eq_false_iff_eq.mpr c63
              clear c63
              replace H := Option.bind_eq_some_iff.mp H
              obtain ⟨t386, A640, H⟩ := H
              replace H : (if t386 = true then ((G.set_Has.f t377 a0).bind fun t387 => (if t387 = true then ((G.set_Has.f t377 (wrap32 (a0 - 1))).bind fun t388 => (some (!t388))) else (some false))) else (some false)) = some r := H
              have A64 := Aside0.mk A640
              clear A640
              by_cases c65 : t386 = true
              ·subst c65
               have H1 : ((G.set_Has.f t377 a0).bind fun t387 => (if t387 = true then ((G.set_Has.f t377 (wrap32 (a0 - 1))).bind fun t388 => (some (!t388))) else (some false))) = some r := by rw [if_pos rfl] at H; exact H
               clear H
               have H := H1
               clear H1
               replace H := Option.bind_eq_some_iff.mp H
               obtain ⟨t387, A660, H⟩ := H
               replace H : (if t387 = true then ((G.set_Has.f t377 (wrap32 (a0 - 1))).bind fun t388 => (some (!t388))) else (some false)) = some r := H
               have A66 := Aside0.mk A660
               clear A660
               by_cases c67 : t387 = true
               ·subst c67
                have H1 : ((G.set_Has.f t377 (wrap32 (a0 - 1))).bind fun t388 => (some (!t388))) = some r := by rw [if_pos rfl] at H; exact H
                clear H
                have H := H1
                clear H1
                replace H := Option.bind_eq_some_iff.mp H
                obtain ⟨t388, A680, H⟩ := H
                replace H : (some (!t388)) = some r := H
                have A68 := Aside0.mk A680
                clear A680
                obtain rfl := Option.some.inj H
                obtain ⟨Ao69, co69, eo69⟩ := Kd.R_slice HO_11.out
                subst eo69
                go_wp2_with (first | (go_at_call 9; (with_reducible refine (set_Set_Size.calls kj58 _ _ t377 t385 _ ?side1 ?side2 A62.out).mono ?_); (case side1 => repeat (first | exact (Kd.R_reads' HO_11.out).2.2 | (with_reducible refine Kd.C_alloc ?_ _) | (with_reducible refine Kd.C_drewN ?_ _) | (with_reducible refine Kd.C_drew ?_))); (case side2 => exact (Kd.R_reads' HO_11.out).2.1); rintro e w70 ⟨rfl, hb⟩; have n0_ := Aside0.mk (Kd.R_below (S.r HO_11.out) hb); have n1_ := Aside0.mk (blk_below (g := gb372) (o := .cells #[.int .i32 a0, .int .i32 (wrap32 ((wrap32 (a0 + a1)) - 1))] 24 (0, 0)) (S.b BK372.out) hb); have n2_ := Aside0.mk (blk_below (g := gb373) (o := .cells #[.int .i32 (wrap32 ((wrap32 (a0 + a1)) + a2)), .int .i32 (wrap32 ((wrap32 ((wrap32 ((wrap32 (a0 + a1)) + a2)) + a3)) - 1))] 24 (0, 0)) (S.b BK373.out) hb); have n3_ := Aside0.mk (below_step (by repeat (first | (with_reducible first | exact HB.out | apply below_alloc | apply pw_below_drewN | apply below_drew1 | refine below_set ?_ GE372.out | refine below_set ?_ GE373.out) | exact HB.out)) hb); clear HO_11; clear BK372; clear BK373; clear HB; have HO_11 := n0_; have BK372 := n1_; have BK373 := n2_; have HB := n3_; clear n0_ n1_ n2_ n3_; (try clear hb); (try clear hb2); (try clear hk); (try clear hi)) | (go_at_call 10; (with_reducible refine (set_Set_Right.calls kj58 _ _ t377 true _ ?side1 ?side2 A64.out).mono ?_); (case side1 => repeat (first | exact (Kd.R_reads' HO_11.out).2.2 | (with_reducible refine Kd.C_alloc ?_ _) | (with_reducible refine Kd.C_drewN ?_ _) | (with_reducible refine Kd.C_drew ?_))); (case side2 => exact (Kd.R_reads' HO_11.out).2.1); rintro e w71 ⟨rfl, hb⟩; have n0_ := Aside0.mk (Kd.R_below (S.r HO_11.out) hb); have n1_ := Aside0.mk (blk_below (g := gb372) (o := .cells #[.int .i32 a0, .int .i32 (wrap32 ((wrap32 (a0 + a1)) - 1))] 24 (0, 0)) (S.b BK372.out) hb); have n2_ := Aside0.mk (blk_below (g := gb373) (o := .cells #[.int .i32 (wrap32 ((wrap32 (a0 + a1)) + a2)), .int .i32 (wrap32 ((wrap32 ((wrap32 ((wrap32 (a0 + a1)) + a2)) + a3)) - 1))] 24 (0, 0)) (S.b BK373.out) hb); have n3_ := Aside0.mk (below_step (by repeat (first | (with_reducible first | exact HB.out | apply below_alloc | apply pw_below_drewN | apply below_drew1 | refine below_set ?_ GE372.out | refine below_set ?_ GE373.out) | exact HB.out)) hb); clear HO_11; clear BK372; clear BK373; clear HB; have HO_11 := n0_; have BK372 := n1_; have BK373 := n2_; have HB := n3_; clear n0_ n1_ n2_ n3_; (try clear hb); (try clear hb2); (try clear hk); (try clear hi)) | (go_at_call 11; (with_reducible refine (G.set_Has.calls _ _ t377 a0 true _ ?side1 ?side2 A66.out).mono ?_); (case side1 => repeat (first | exact (Kd.R_reads' HO_11.out).2.2 | (with_reducible refine Kd.C_alloc ?_ _) | (with_reducible refine Kd.C_drewN ?_ _) | (with_reducible refine Kd.C_drew ?_))); (case side2 => exact (Kd.R_reads' HO_11.out).2.1); rintro e w72 ⟨rfl, hb⟩; have n0_ := Aside0.mk (Kd.R_below (S.r HO_11.out) hb); have n1_ := Aside0.mk (blk_below (g := gb372) (o := .cells #[.int .i32 a0, .int .i32 (wrap32 ((wrap32 (a0 + a1)) - 1))] 24 (0, 0)) (S.b BK372.out) hb); have n2_ := Aside0.mk (blk_below (g := gb373) (o := .cells #[.int .i32 (wrap32 ((wrap32 (a0 + a1)) + a2)), .int .i32 (wrap32 ((wrap32 ((wrap32 ((wrap32 (a0 + a1)) + a2)) + a3)) - 1))] 24 (0, 0)) (S.b BK373.out) hb); have n3_ := Aside0.mk (below_step (by repeat (first | (with_reducible first | exact HB.out | apply below_alloc | apply pw_below_drewN | apply below_drew1 | refine below_set ?_ GE372.out | refine below_set ?_ GE373.out) | exact HB.out)) hb); clear HO_11; clear BK372; clear BK373; clear HB; have HO_11 := n0_; have BK372 := n1_; have BK373 := n2_; have HB := n3_; clear n0_ n1_ n2_ n3_; (try clear hb); (try clear hb2); (try clear hk); (try clear hi)) | (go_at_call 11; (with_reducible refine (G.set_Has.calls _ _ t377 (wrap32 (a0 - 1)) t388 _ ?side1 ?side2 A68.out).mono ?_); (case side1 => repeat (first | exact (Kd.R_reads' HO_11.out).2.2 | (with_reducible refine Kd.C_alloc ?_ _) | (with_reducible refine Kd.C_drewN ?_ _) | (with_reducible refine Kd.C_drew ?_))); (case side2 => exact (Kd.R_reads' HO_11.out).2.1); rintro e w73 ⟨rfl, hb⟩; have n0_ := Aside0.mk (Kd.R_below (S.r HO_11.out) hb); have n1_ := Aside0.mk (blk_below (g := gb372) (o := .cells #[.int .i32 a0, .int .i32 (wrap32 ((wrap32 (a0 + a1)) - 1))] 24 (0, 0)) (S.b BK372.out) hb); have n2_ := Aside0.mk (blk_below (g := gb373) (o := .cells #[.int .i32 (wrap32 ((wrap32 (a0 + a1)) + a2)), .int .i32 (wrap32 ((wrap32 ((wrap32 ((wrap32 (a0 + a1)) + a2)) + a3)) - 1))] 24 (0, 0)) (S.b BK373.out) hb); have n3_ := Aside0.mk (below_step (by repeat (first | (with_reducible first | exact HB.out | apply below_alloc | apply pw_below_drewN | apply below_drew1 | refine below_set ?_ GE372.out | refine below_set ?_ GE373.out) | exact HB.out)) hb); clear HO_11; clear BK372; clear BK373; clear HB; have HO_11 := n0_; have BK372 := n1_; have BK373 := n2_; have HB := n3_; clear n0_ n1_ n2_ n3_; (try clear hb); (try clear hb2); (try clear hk); (try clear hi)))
                go_ret
                exact ⟨by first | rfl | (simp [errW_none, errW_some] <;> rfl) | (simp [*, errW_none, errW_some] <;> rfl), by repeat (first | (with_reducible first | exact HB.out | apply below_alloc | apply pw_below_drewN | apply below_drew1 | refine below_set ?_ GE372.out | refine below_set ?_ GE373.out) | exact HB.out)⟩
               ·replace c67 := Bool.eq_false_iff.mpr c67
                subst c67
                have H1 : (some false) = some r := by rw [if_neg (show ¬ (false = true) by decide)] at H; exact H
                clear H
                have H := H1
                clear H1
                exact absurd ((Option.some.inj H).trans HRT.out) (by decide)
              ·replace c65 := Bool.eq_false_iff.mpr c65
               subst c65
               have H1 : (some false) = some r := by rw [if_neg (show ¬ (false = true) by decide)] at H; exact H
               clear H
               have H := H1
               clear H1
               exact absurd ((Option.some.inj H).trans HRT.out) (by decide)
             ·rw [if_neg c63] at H
              have c63b0 : (t385 == x12_2) = false := beq_eq_false_iff_ne.mpr c63
              have c63b1 : (t385 != x12_2) = true := bne_iff_ne.mpr c63
              exact absurd ((Option.some.inj H).trans HRT.out) (by decide)
            ·rw [if_neg c61] at H
             have c61b0 : ((t377.length : Int) == x15_58) = false := beq_eq_false_iff_ne.mpr c61
             have c61b1 : ((t377.length : Int) != x15_58) = true := bne_iff_ne.mpr c61
             exact absurd ((Option.some.inj H).trans HRT.out) (by decide)
 ·replace c6 := Bool.eq_false_iff.mpr c6
  subst c6
  have H1 : (some false) = some r := by rw [if_neg (show ¬ (false = true) by decide)] at H; exact H
  clear H
  have H := H1
  clear H1
  exact absurd ((Option.some.inj H).trans HRT.out) (by decide)

/-- THE ONE PURE STATEMENT of rubriclaw7_SetEdges: yours. -/
def rubriclaw7_SetEdges.Pure : Prop := ∀ (a0 : Int) (a1 : Int) (a2 : Int) (a3 : Int), (Lit.int .i32 a0).wf = true → (Lit.int .i32 a1).wf = true → (Lit.int .i32 a2).wf = true → (Lit.int .i32 a3).wf = true → ∃ k, rubriclaw7_SetEdges.f k a0 a1 a2 a3 = some true
theorem rubriclaw7_SetEdges.walk (P : rubriclaw7_SetEdges.Pure) (a0 : Int) (a1 : Int) (a2 : Int) (a3 : Int) (w : World) (w0 : (Lit.int .i32 a0).wf = true) (w1 : (Lit.int .i32 a1).wf = true) (w2 : (Lit.int .i32 a2).wf = true) (w3 : (Lit.int .i32 a3).wf = true) :
  Calls Try.prog 3 #[.int .i32 a0, .int .i32 a1, .int .i32 a2, .int .i32 a3] w fun e w' => e = .returned (.bool true) ∧ Below w.heap.size w w' := by
 obtain ⟨k, h⟩ := P a0 a1 a2 a3 w0 w1 w2 w3
 refine (rubriclaw7_SetEdges.calls k a0 a1 a2 a3 true w h rfl).mono ?_
 rintro e w' ⟨rfl, hd⟩
 exact ⟨rfl, hd⟩

end Go.Proofs.Ytjhmpippcndloaa.Pr
