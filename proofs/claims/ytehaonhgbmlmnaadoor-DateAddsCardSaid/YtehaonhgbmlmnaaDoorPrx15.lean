-- printed by wip/gprint.py (ours) out of the translation, by the kit's print program with given contracts
import Derived.Test.YtehaonhgbmlmnaaDoorPrx0
import Derived.Test.YtehaonhgbmlmnaaDoorPrx1
import Derived.Test.YtehaonhgbmlmnaaDoorPrx3
import Derived.Test.YtehaonhgbmlmnaaDoorPrx5
import Derived.Test.YtehaonhgbmlmnaaDoorPrx9
namespace Go.Proofs.YtehaonhgbmlmnaaDoor.Pr
open Go.RowKit Go.Proofs.YtehaonhgbmlmnaaDoorW.PrintWords Go.Proofs.YtehaonhgbmlmnaaDoorW.PrintLast Go.Proofs.YtehaonhgbmlmnaaDoorW.PrintMore
attribute [local go_sem] max2_int min2_int max_two min_two max_three min_three max_four min_four   -- for this text's walks alone
set_option linter.unusedVariables false
set_option linter.unusedSimpArgs false

attribute [local go_sem high] eqA24
/-! ### rubriclaw6_DateAdds: function 5 -/
def rubriclaw6_DateAdds.j0 : Nat → Int → Int → Int → Int → Int → Int → Bool → Option (Bool)
 | 0, _, _, _, _, _, _, _ => none
 | k + 1, x0, x1, x2, x3, x4, x5, x69 => if x69 = true then (some true) else ((date_Add.f k 1 x0 x1 x2 x3 0 false 0 0 (wrap64 (86400 * x4)) 0).bind fun bt416 => ((date_Add.f k bt416.1 bt416.2.1 bt416.2.2.1 bt416.2.2.2.1 bt416.2.2.2.2.1 bt416.2.2.2.2.2.1 bt416.2.2.2.2.2.2.1 bt416.2.2.2.2.2.2.2 0 (wrap64 (-(wrap64 (86400 * x4)))) 0).bind fun bt425 => ((date_Add.f k 1 x0 x1 x2 x3 0 false 0 x5 0 0).bind fun bt434 => ((date_Add.f k bt434.1 bt434.2.1 bt434.2.2.1 bt434.2.2.2.1 bt434.2.2.2.2.1 bt434.2.2.2.2.2.1 bt434.2.2.2.2.2.2.1 bt434.2.2.2.2.2.2.2 (wrap64 (-x5)) 0 0).bind fun bt443 => (if (bt425.1 == 1 && (bt425.2.1 == x0 && (bt425.2.2.1 == x1 && (bt425.2.2.2.1 == x2 && (bt425.2.2.2.2.1 == x3 && (bt425.2.2.2.2.2.1 == 0 && (!bt425.2.2.2.2.2.2.1 && (bt425.2.2.2.2.2.2.2 == 0)))))))) = true then (if (bt443.1 == 1 && (bt443.2.1 == x0 && (bt443.2.2.1 == x1 && (bt443.2.2.2.1 == x2 && (bt443.2.2.2.2.1 == x3 && (bt443.2.2.2.2.2.1 == 0 && (!bt443.2.2.2.2.2.2.1 && (bt443.2.2.2.2.2.2.2 == 0)))))))) = true then (if bt416.2.2.2.2.1 = x3 then ((date_Days.f k bt416.2.1 bt416.2.2.1 bt416.2.2.2.1).bind fun t452 => ((date_Days.f k x0 x1 x2).bind fun t453 => (if t452 = (wrap64 (t453 + x4)) then (if bt434.2.2.2.1 = x2 then (if bt434.2.2.2.2.1 = x3 then ((date_Days.f k bt434.2.1 bt434.2.2.1 bt434.2.2.2.1).bind fun t454 => ((date_Days.f k x0 (wrap64 (x1 + x5)) x2).bind fun t455 => (some (t454 == t455)))) else (some false)) else (some false)) else (some false)))) else (some false)) else (some false)) else (some false))))))
def rubriclaw6_DateAdds.f (k : Nat) (a0 : Int) (a1 : Int) (a2 : Int) (a3 : Int) (a4 : Int) (a5 : Int) : Option (Bool) := (rubriclaw6_known.f k).bind fun t414 => (if t414 = true then (if a0 < (-9000) then (rubriclaw6_DateAdds.j0 k a0 a1 a2 a3 a4 a5 true) else (if a0 > 9000 then (rubriclaw6_DateAdds.j0 k a0 a1 a2 a3 a4 a5 true) else (if a0 = 0 then (rubriclaw6_DateAdds.j0 k a0 a1 a2 a3 a4 a5 true) else (if a1 < 1 then (rubriclaw6_DateAdds.j0 k a0 a1 a2 a3 a4 a5 true) else (if a1 > 12 then (rubriclaw6_DateAdds.j0 k a0 a1 a2 a3 a4 a5 true) else (if a2 < 1 then (rubriclaw6_DateAdds.j0 k a0 a1 a2 a3 a4 a5 true) else (if a2 > 28 then (rubriclaw6_DateAdds.j0 k a0 a1 a2 a3 a4 a5 true) else (if a3 < 0 then (rubriclaw6_DateAdds.j0 k a0 a1 a2 a3 a4 a5 true) else (if a3 > 86399 then (rubriclaw6_DateAdds.j0 k a0 a1 a2 a3 a4 a5 true) else (if a4 < (-1048576) then (rubriclaw6_DateAdds.j0 k a0 a1 a2 a3 a4 a5 true) else (if a4 > 1048576 then (rubriclaw6_DateAdds.j0 k a0 a1 a2 a3 a4 a5 true) else (if a5 < (-16384) then (rubriclaw6_DateAdds.j0 k a0 a1 a2 a3 a4 a5 true) else (rubriclaw6_DateAdds.j0 k a0 a1 a2 a3 a4 a5 (decide (a5 > 16384))))))))))))))) else (some false))
theorem rubriclaw6_DateAdds.mono_l : ∀ k, (∀ y0 y1 y2 y3 y4 y5 y6, LeO (rubriclaw6_DateAdds.j0 k y0 y1 y2 y3 y4 y5 y6) (rubriclaw6_DateAdds.j0 (k + 1) y0 y1 y2 y3 y4 y5 y6))
 | 0 => fun _ _ _ _ _ _ _ r h => by simp [rubriclaw6_DateAdds.j0] at h
 | k + 1 => by
  have ih0 := rubriclaw6_DateAdds.mono_l k
  ·intro y0 y1 y2 y3 y4 y5 y6
   unfold rubriclaw6_DateAdds.j0
   repeat' first
   | (with_reducible exact ih0 _ _ _ _ _ _ _)
   | (with_reducible exact date_Add.mono _ _ _ _ _ _ _ _ _ _ _ _)
   | (with_reducible exact date_Days.mono _ _ _ _)
   | (with_reducible exact rubriclaw6_known.mono _)
   | (with_reducible exact LeO.refl _)
   | (with_reducible exact LeO.none _)
   | (with_reducible refine LeO.ite ?_ ?_)
   | (with_reducible refine LeO.bind ?_ (fun _ => ?_))
   | exact ih0 _ _ _ _ _ _ _
   | exact date_Add.mono _ _ _ _ _ _ _ _ _ _ _ _
   | exact date_Days.mono _ _ _ _
   | exact rubriclaw6_known.mono _
   | exact LeO.none _
   | refine LeO.ite ?_ ?_
   | refine LeO.bind ?_ (fun _ => ?_)
theorem rubriclaw6_DateAdds.mono : ∀ a0 a1 a2 a3 a4 a5 k, LeO (rubriclaw6_DateAdds.f k a0 a1 a2 a3 a4 a5) (rubriclaw6_DateAdds.f (k + 1) a0 a1 a2 a3 a4 a5) := by
 intro a0 a1 a2 a3 a4 a5 k
 have ih0 := rubriclaw6_DateAdds.mono_l k
 unfold rubriclaw6_DateAdds.f
 repeat' first
   | (with_reducible exact ih0 _ _ _ _ _ _ _)
   | (with_reducible exact date_Add.mono _ _ _ _ _ _ _ _ _ _ _ _)
   | (with_reducible exact date_Days.mono _ _ _ _)
   | (with_reducible exact rubriclaw6_known.mono _)
   | (with_reducible exact LeO.refl _)
   | (with_reducible exact LeO.none _)
   | (with_reducible refine LeO.ite ?_ ?_)
   | (with_reducible refine LeO.bind ?_ (fun _ => ?_))
   | exact ih0 _ _ _ _ _ _ _
   | exact date_Add.mono _ _ _ _ _ _ _ _ _ _ _ _
   | exact date_Days.mono _ _ _ _
   | exact rubriclaw6_known.mono _
   | exact LeO.none _
   | refine LeO.ite ?_ ?_
   | refine LeO.bind ?_ (fun _ => ?_)
set_option maxHeartbeats 8000000 in
set_option maxRecDepth 100000 in
theorem rubriclaw6_DateAdds.calls (k : Nat) (a0 : Int) (a1 : Int) (a2 : Int) (a3 : Int) (a4 : Int) (a5 : Int) (r : Bool) (w : World) (h : rubriclaw6_DateAdds.f k a0 a1 a2 a3 a4 a5 = some r) (hrt : r = true) :
  Calls Tryd.prog 5 #[.int .i64 a0, .int .i64 a1, .int .i64 a2, .int .i64 a3, .int .i64 a4, .int .i64 a5] w fun e w' => e = .returned (.bool r) ∧ Below w.heap.size w w' := by
 have hu24 := Tryd.underlying24
 have hu34 := Tryd.underlying34
 have HB := Aside0.mk (Below.refl w.heap.size w)
 have HRT := Aside0.mk hrt
 clear hrt
 have H : ((rubriclaw6_known.f k).bind fun t414 => (if t414 = true then (if a0 < (-9000) then (rubriclaw6_DateAdds.j0 k a0 a1 a2 a3 a4 a5 true) else (if a0 > 9000 then (rubriclaw6_DateAdds.j0 k a0 a1 a2 a3 a4 a5 true) else (if a0 = 0 then (rubriclaw6_DateAdds.j0 k a0 a1 a2 a3 a4 a5 true) else (if a1 < 1 then (rubriclaw6_DateAdds.j0 k a0 a1 a2 a3 a4 a5 true) else (if a1 > 12 then (rubriclaw6_DateAdds.j0 k a0 a1 a2 a3 a4 a5 true) else (if a2 < 1 then (rubriclaw6_DateAdds.j0 k a0 a1 a2 a3 a4 a5 true) else (if a2 > 28 then (rubriclaw6_DateAdds.j0 k a0 a1 a2 a3 a4 a5 true) else (if a3 < 0 then (rubriclaw6_DateAdds.j0 k a0 a1 a2 a3 a4 a5 true) else (if a3 > 86399 then (rubriclaw6_DateAdds.j0 k a0 a1 a2 a3 a4 a5 true) else (if a4 < (-1048576) then (rubriclaw6_DateAdds.j0 k a0 a1 a2 a3 a4 a5 true) else (if a4 > 1048576 then (rubriclaw6_DateAdds.j0 k a0 a1 a2 a3 a4 a5 true) else (if a5 < (-16384) then (rubriclaw6_DateAdds.j0 k a0 a1 a2 a3 a4 a5 true) else (rubriclaw6_DateAdds.j0 k a0 a1 a2 a3 a4 a5 (decide (a5 > 16384))))))))))))))) else (some false))) = some r := h
 clear h
 replace H := Option.bind_eq_some_iff.mp H
 obtain ⟨t414, A70, H⟩ := H
 try dsimp only at H
 have A7 := Aside0.mk A70
 clear A70
 by_cases c8 : t414 = true
 ·subst c8
  rw [if_pos rfl] at H
  try dsimp only at H
  have HC9 := Aside0.mk H
  clear H
  go_enter Tryd.func5, Tryd.ntmps5
  go_upto_region 3 with (first | ((with_reducible refine gate_callee (f := 7) rfl ?_); refine goesL_ (some 18) rfl rfl Tryd.func7 (by kernel_rfl) rfl #[] rfl (by (try simp only [List.map_toArray, List.map_cons, List.map_nil]); first | done | rfl | (simp only [List.length_drop, List.length_take]; rfl)) ?_; (with_reducible refine (rubriclaw6_known.calls k  true _ A7.out rfl).mono ?_); rintro e w10 ⟨rfl, hb⟩; refine ⟨_, rfl, ?_⟩; have n0_ := Aside0.mk (below_step (by repeat (first | (with_reducible first | exact HB.out | apply below_alloc | apply pw_below_drewN | apply below_drew1) | exact HB.out)) hb); clear HB; have HB := n0_; clear n0_; (try clear hb); (try clear hb2); (try clear hk); (try clear hi)))
  (try simp only [Act.put, List.setIfInBounds_toArray, List.set_cons_zero, List.set_cons_succ])
  go_cut [69] (fun v69 wc => ∃ (kq : Nat) (x69_8 : Bool), v69 = .bool x69_8 ∧ Aside0 (rubriclaw6_DateAdds.j0 kq a0 a1 a2 a3 a4 a5 x69_8 = some r) ∧ Aside0 (kq ≤ k) ∧ Aside0 (Below w.heap.size w wc))
  case first =>
   have H := HC9.out
   clear HC9
   by_cases c11 : a0 < (-9000)
   ·rw [if_pos c11] at H
    have c11b0 : decide (a0 < (-9000)) = true := decide_eq_true c11
    clear c11
    (first | rw [c11b0] | (simp only [i64_w, i32_w]; rw [c11b0]) | skip)
    have H' := Aside0.mk H
    clear H
    go_wp2
    go_meet
    case rel => exact ⟨_, (true), (by first | rfl | (simp; done) | (simp [*]; done)), H', ⟨by first | omega | exact Nat.le_refl _⟩, ⟨by repeat (first | (with_reducible first | exact HB.out | apply below_alloc | apply pw_below_drewN | apply below_drew1) | exact HB.out)⟩⟩
   ·rw [if_neg c11] at H
    have c11b0 : decide (a0 < (-9000)) = false := decide_eq_false c11
    clear c11
    (first | rw [c11b0] | (simp only [i64_w, i32_w]; rw [c11b0]) | skip)
    by_cases c12 : a0 > 9000
    ·rw [if_pos c12] at H
     have c12b0 : decide (9000 < a0) = true := decide_eq_true c12
     clear c12
     have H' := Aside0.mk H
     clear H
     go_wp2
     go_meet
     case rel => exact ⟨_, (true), (by first | rfl | (simp; done) | (simp [*]; done)), H', ⟨by first | omega | exact Nat.le_refl _⟩, ⟨by repeat (first | (with_reducible first | exact HB.out | apply below_alloc | apply pw_below_drewN | apply below_drew1) | exact HB.out)⟩⟩
    ·rw [if_neg c12] at H
     have c12b0 : decide (9000 < a0) = false := decide_eq_false c12
     clear c12
     by_cases c13 : a0 = 0
     ·rw [if_pos c13] at H
      have c13b0 : (a0 == 0) = true := beq_iff_eq.mpr c13
      have c13b1 : (a0 != 0) = false := bne_eq_false_iff_eq.mpr c13
      clear c13
      have H' := Aside0.mk H
      clear H
      go_wp2
      go_meet
      case rel => exact ⟨_, (true), (by first | rfl | (simp; done) | (simp [*]; done)), H', ⟨by first | omega | exact Nat.le_refl _⟩, ⟨by repeat (first | (with_reducible first | exact HB.out | apply below_alloc | apply pw_below_drewN | apply below_drew1) | exact HB.out)⟩⟩
     ·rw [if_neg c13] at H
      have c13b0 : (a0 == 0) = false := beq_eq_false_iff_ne.mpr c13
      have c13b1 : (a0 != 0) = true := bne_iff_ne.mpr c13
      by_cases c14 : a1 < 1
      ·rw [if_pos c14] at H
       have c14b0 : decide (a1 < 1) = true := decide_eq_true c14
       clear c14
       have H' := Aside0.mk H
       clear H
       go_wp2
       go_meet
       case rel => exact ⟨_, (true), (by first | rfl | (simp; done) | (simp [*]; done)), H', ⟨by first | omega | exact Nat.le_refl _⟩, ⟨by repeat (first | (with_reducible first | exact HB.out | apply below_alloc | apply pw_below_drewN | apply below_drew1) | exact HB.out)⟩⟩
      ·rw [if_neg c14] at H
       have c14b0 : decide (a1 < 1) = false := decide_eq_false c14
       clear c14
       by_cases c15 : a1 > 12
       ·rw [if_pos c15] at H
        have c15b0 : decide (12 < a1) = true := decide_eq_true c15
        clear c15
        have H' := Aside0.mk H
        clear H
        go_wp2
        go_meet
        case rel => exact ⟨_, (true), (by first | rfl | (simp; done) | (simp [*]; done)), H', ⟨by first | omega | exact Nat.le_refl _⟩, ⟨by repeat (first | (with_reducible first | exact HB.out | apply below_alloc | apply pw_below_drewN | apply below_drew1) | exact HB.out)⟩⟩
       ·rw [if_neg c15] at H
        have c15b0 : decide (12 < a1) = false := decide_eq_false c15
        clear c15
        by_cases c16 : a2 < 1
        ·rw [if_pos c16] at H
         have c16b0 : decide (a2 < 1) = true := decide_eq_true c16
         clear c16
         have H' := Aside0.mk H
         clear H
         go_wp2
         go_meet
         case rel => exact ⟨_, (true), (by first | rfl | (simp; done) | (simp [*]; done)), H', ⟨by first | omega | exact Nat.le_refl _⟩, ⟨by repeat (first | (with_reducible first | exact HB.out | apply below_alloc | apply pw_below_drewN | apply below_drew1) | exact HB.out)⟩⟩
        ·rw [if_neg c16] at H
         have c16b0 : decide (a2 < 1) = false := decide_eq_false c16
         clear c16
         by_cases c17 : a2 > 28
         ·rw [if_pos c17] at H
          have c17b0 : decide (28 < a2) = true := decide_eq_true c17
          clear c17
          have H' := Aside0.mk H
          clear H
          go_wp2
          go_meet
          case rel => exact ⟨_, (true), (by first | rfl | (simp; done) | (simp [*]; done)), H', ⟨by first | omega | exact Nat.le_refl _⟩, ⟨by repeat (first | (with_reducible first | exact HB.out | apply below_alloc | apply pw_below_drewN | apply below_drew1) | exact HB.out)⟩⟩
         ·rw [if_neg c17] at H
          have c17b0 : decide (28 < a2) = false := decide_eq_false c17
          clear c17
          by_cases c18 : a3 < 0
          ·rw [if_pos c18] at H
           have c18b0 : decide (a3 < 0) = true := decide_eq_true c18
           clear c18
           have H' := Aside0.mk H
           clear H
           go_wp2
           go_meet
           case rel => exact ⟨_, (true), (by first | rfl | (simp; done) | (simp [*]; done)), H', ⟨by first | omega | exact Nat.le_refl _⟩, ⟨by repeat (first | (with_reducible first | exact HB.out | apply below_alloc | apply pw_below_drewN | apply below_drew1) | exact HB.out)⟩⟩
          ·rw [if_neg c18] at H
           have c18b0 : decide (a3 < 0) = false := decide_eq_false c18
           clear c18
           by_cases c19 : a3 > 86399
           ·rw [if_pos c19] at H
            have c19b0 : decide (86399 < a3) = true := decide_eq_true c19
            clear c19
            have H' := Aside0.mk H
            clear H
            go_wp2
            go_meet
            case rel => exact ⟨_, (true), (by first | rfl | (simp; done) | (simp [*]; done)), H', ⟨by first | omega | exact Nat.le_refl _⟩, ⟨by repeat (first | (with_reducible first | exact HB.out | apply below_alloc | apply pw_below_drewN | apply below_drew1) | exact HB.out)⟩⟩
           ·rw [if_neg c19] at H
            have c19b0 : decide (86399 < a3) = false := decide_eq_false c19
            clear c19
            by_cases c20 : a4 < (-1048576)
            ·rw [if_pos c20] at H
             have c20b0 : decide (a4 < (-1048576)) = true := decide_eq_true c20
             clear c20
             have H' := Aside0.mk H
             clear H
             go_wp2
             go_meet
             case rel => exact ⟨_, (true), (by first | rfl | (simp; done) | (simp [*]; done)), H', ⟨by first | omega | exact Nat.le_refl _⟩, ⟨by repeat (first | (with_reducible first | exact HB.out | apply below_alloc | apply pw_below_drewN | apply below_drew1) | exact HB.out)⟩⟩
            ·rw [if_neg c20] at H
             have c20b0 : decide (a4 < (-1048576)) = false := decide_eq_false c20
             clear c20
             by_cases c21 : a4 > 1048576
             ·rw [if_pos c21] at H
              have c21b0 : decide (1048576 < a4) = true := decide_eq_true c21
              clear c21
              have H' := Aside0.mk H
              clear H
              go_wp2
              go_meet
              case rel => exact ⟨_, (true), (by first | rfl | (simp; done) | (simp [*]; done)), H', ⟨by first | omega | exact Nat.le_refl _⟩, ⟨by repeat (first | (with_reducible first | exact HB.out | apply below_alloc | apply pw_below_drewN | apply below_drew1) | exact HB.out)⟩⟩
             ·rw [if_neg c21] at H
              have c21b0 : decide (1048576 < a4) = false := decide_eq_false c21
              clear c21
              by_cases c22 : a5 < (-16384)
              ·rw [if_pos c22] at H
               have c22b0 : decide (a5 < (-16384)) = true := decide_eq_true c22
               clear c22
               have H' := Aside0.mk H
               clear H
               go_wp2
               go_meet
               case rel => exact ⟨_, (true), (by first | rfl | (simp; done) | (simp [*]; done)), H', ⟨by first | omega | exact Nat.le_refl _⟩, ⟨by repeat (first | (with_reducible first | exact HB.out | apply below_alloc | apply pw_below_drewN | apply below_drew1) | exact HB.out)⟩⟩
              ·rw [if_neg c22] at H
               have c22b0 : decide (a5 < (-16384)) = false := decide_eq_false c22
               clear c22
               have H' := Aside0.mk H
               clear H
               go_wp2
               go_meet
               case rel => exact ⟨_, (decide (a5 > 16384)), (by first | rfl | (simp; done) | (simp [*]; done)), H', ⟨by first | omega | exact Nat.le_refl _⟩, ⟨by repeat (first | (with_reducible first | exact HB.out | apply below_alloc | apply pw_below_drewN | apply below_drew1) | exact HB.out)⟩⟩
  case rest =>
   clear HC9
   (try clear c1); (try clear c2); (try clear p2); (try clear c5); (try clear c7); (try clear c8); (try clear c11); (try clear c11b0); (try clear c12); (try clear c12b0); (try clear c13); (try clear c13b0); (try clear c13b1); (try clear c14); (try clear c14b0); (try clear c15); (try clear c15b0); (try clear c16); (try clear c16b0); (try clear c17); (try clear c17b0); (try clear c18); (try clear c18b0); (try clear c19); (try clear c19b0); (try clear c20); (try clear c20b0); (try clear c21); (try clear c21b0); (try clear c22); (try clear c22b0)
   obtain ⟨kq, x69_8, rfl, HA, HJ8, HB⟩ := hcut
   cases kq with
   | zero => exact absurd HA.out (by simp [rubriclaw6_DateAdds.j0])
   | succ kj8 =>
    have H := HA.out
    clear HA
    simp only [rubriclaw6_DateAdds.j0] at H
    by_cases c23 : x69_8 = true
    ·subst c23
     rw [if_pos rfl] at H
     try dsimp only at H
     obtain rfl := Option.some.inj H
     go_wp2
     go_ret
     exact ⟨by first | rfl | (simp [errW_none, errW_some] <;> rfl) | (simp [*, errW_none, errW_some] <;> rfl), by repeat (first | (with_reducible first | exact HB.out | apply below_alloc | apply pw_below_drewN | apply below_drew1) | exact HB.out)⟩
    ·replace c23 := Bool.eq_false_iff.mpr c23
     subst c23
     rw [if_neg (show ¬ (false = true) by decide)] at H
     try dsimp only at H
     replace H := Option.bind_eq_some_iff.mp H
     obtain ⟨⟨t416, t417, t418, t419, t420, t421, t422, t423⟩, A240, H⟩ := H
     try dsimp only at H
     have A24 := Aside0.mk A240
     clear A240
     replace H := Option.bind_eq_some_iff.mp H
     obtain ⟨⟨t425, t426, t427, t428, t429, t430, t431, t432⟩, A250, H⟩ := H
     try dsimp only at H
     have A25 := Aside0.mk A250
     clear A250
     replace H := Option.bind_eq_some_iff.mp H
     obtain ⟨⟨t434, t435, t436, t437, t438, t439, t440, t441⟩, A260, H⟩ := H
     try dsimp only at H
     have A26 := Aside0.mk A260
     clear A260
     replace H := Option.bind_eq_some_iff.mp H
     obtain ⟨⟨t443, t444, t445, t446, t447, t448, t449, t450⟩, A270, H⟩ := H
     try dsimp only at H
     have A27 := Aside0.mk A270
     clear A270
     by_cases c28 : (t425 == 1 && (t426 == a0 && (t427 == a1 && (t428 == a2 && (t429 == a3 && (t430 == 0 && (!t431 && (t432 == 0)))))))) = true
     ·rw [if_pos c28] at H
      have c28b0 : (t425 == 1 && (t426 == a0 && (t427 == a1 && (t428 == a2 && (t429 == a3 && (t430 == 0 && (!t431 && (t432 == 0)))))))) = true := c28
      (try (have c28b1 : decide (t425 = 1 && (t426 == a0 && (t427 == a1 && (t428 == a2 && (t429 == a3 && (t430 == 0 && (!t431 && (t432 == 0)))))))) = true := by simpa using c28))
      (try (have c28b2 : (t425 == 1 && (t426 == a0 && (t427 == a1 && (t428 == a2 && (t429 == a3 && (t430 == 0 && (!t431 && (t432 == 0)))))))) = true := by simpa using c28))
      clear c28
      by_cases c29 : (t443 == 1 && (t444 == a0 && (t445 == a1 && (t446 == a2 && (t447 == a3 && (t448 == 0 && (!t449 && (t450 == 0)))))))) = true
      ·rw [if_pos c29] at H
       have c29b0 : (t443 == 1 && (t444 == a0 && (t445 == a1 && (t446 == a2 && (t447 == a3 && (t448 == 0 && (!t449 && (t450 == 0)))))))) = true := c29
       (try (have c29b1 : decide (t443 = 1 && (t444 == a0 && (t445 == a1 && (t446 == a2 && (t447 == a3 && (t448 == 0 && (!t449 && (t450 == 0)))))))) = true := by simpa using c29))
       (try (have c29b2 : (t443 == 1 && (t444 == a0 && (t445 == a1 && (t446 == a2 && (t447 == a3 && (t448 == 0 && (!t449 && (t450 == 0)))))))) = true := by simpa using c29))
       clear c29
       by_cases c30 : t420 = a3
       ·rw [if_pos c30] at H
        have c30b0 : (t420 == a3) = true := beq_iff_eq.mpr c30
        have c30b1 : (t420 != a3) = false := bne_eq_false_iff_eq.mpr c30
        clear c30
        replace H := Option.bind_eq_some_iff.mp H
        obtain ⟨t452, A310, H⟩ := H
        try dsimp only at H
        have A31 := Aside0.mk A310
        clear A310
        replace H := Option.bind_eq_some_iff.mp H
        obtain ⟨t453, A320, H⟩ := H
        try dsimp only at H
        have A32 := Aside0.mk A320
        clear A320
        by_cases c33 : t452 = (wrap64 (t453 + a4))
        ·rw [if_pos c33] at H
         have c33b0 : (t452 == (wrap64 (t453 + a4))) = true := beq_iff_eq.mpr c33
         have c33b1 : (t452 != (wrap64 (t453 + a4))) = false := bne_eq_false_iff_eq.mpr c33
         clear c33
         by_cases c34 : t437 = a2
         ·rw [if_pos c34] at H
          have c34b0 : (t437 == a2) = true := beq_iff_eq.mpr c34
          have c34b1 : (t437 != a2) = false := bne_eq_false_iff_eq.mpr c34
          clear c34
          by_cases c35 : t438 = a3
          ·rw [if_pos c35] at H
           have c35b0 : (t438 == a3) = true := beq_iff_eq.mpr c35
           have c35b1 : (t438 != a3) = false := bne_eq_false_iff_eq.mpr c35
           clear c35
           replace H := Option.bind_eq_some_iff.mp H
           obtain ⟨t454, A360, H⟩ := H
           try dsimp only at H
           have A36 := Aside0.mk A360
           clear A360
           replace H := Option.bind_eq_some_iff.mp H
           obtain ⟨t455, A370, H⟩ := H
           try dsimp only at H
           have A37 := Aside0.mk A370
           clear A370
           obtain rfl := Option.some.inj H
           go_wp2_with (first | ((with_reducible refine gate_dst (N := 13) rfl ?_); refine box_event ?hg (N := 13) ?hd (cs := #[.int .i64 0, .int .i64 0, .int .i64 0, .int .i64 0, .int .i64 0, .int .i64 0, .bool false, .int .i64 0]) (t := 24) ?hr ?_; (case hd => rfl); (case hg => rfl); (case hr => first | (go_simp; done) | (go_simp; rfl)); intro gb415 hg w38 hbox hb; have n0_ := Aside0.mk (below_step (by repeat (first | (with_reducible first | exact HB.out | apply below_alloc | apply pw_below_drewN | apply below_drew1) | exact HB.out)) hb); have n1_ := Aside0.mk (hbox); have n2_ := Aside0.mk ((by rw [hg]; exact (below_size (by repeat (first | (with_reducible first | exact HB.out | apply below_alloc | apply pw_below_drewN | apply below_drew1) | exact HB.out))) : w.heap.size ≤ gb415)); have n3_ := Aside0.mk ((by rw [hg]; exact (below_size (by repeat (first | (with_reducible first | exact HB.out | apply below_alloc | apply pw_below_drewN | apply below_drew1) | exact HB.out))) : w.heap.size ≤ gb415)); clear HB; have HB := n0_; have BK415 := n1_; have GW415 := n2_; have GE415 := n3_; clear n0_ n1_ n2_ n3_; clear hb hbox hg; have hcz39_0 : w38.cell? ⟨gb415, 0, none⟩ = some (.int .i64 0) := (blk_cell BK415.out 0).trans rfl; have hcz39_1 : w38.cell? ⟨gb415, 1, none⟩ = some (.int .i64 0) := (blk_cell BK415.out 1).trans rfl; have hcz39_2 : w38.cell? ⟨gb415, 2, none⟩ = some (.int .i64 0) := (blk_cell BK415.out 2).trans rfl; have hcz39_3 : w38.cell? ⟨gb415, 3, none⟩ = some (.int .i64 0) := (blk_cell BK415.out 3).trans rfl; have hcz39_4 : w38.cell? ⟨gb415, 4, none⟩ = some (.int .i64 0) := (blk_cell BK415.out 4).trans rfl; have hcz39_5 : w38.cell? ⟨gb415, 5, none⟩ = some (.int .i64 0) := (blk_cell BK415.out 5).trans rfl; have hcz39_6 : w38.cell? ⟨gb415, 6, none⟩ = some (.bool false) := (blk_cell BK415.out 6).trans rfl; have hcz39_7 : w38.cell? ⟨gb415, 7, none⟩ = some (.int .i64 0) := (blk_cell BK415.out 7).trans rfl; have hfz39_0 := blk_frozen BK415.out 0; have hfz39_1 := blk_frozen BK415.out 1; have hfz39_2 := blk_frozen BK415.out 2; have hfz39_3 := blk_frozen BK415.out 3; have hfz39_4 := blk_frozen BK415.out 4; have hfz39_5 := blk_frozen BK415.out 5; have hfz39_6 := blk_frozen BK415.out 6; have hfz39_7 := blk_frozen BK415.out 7) | ((with_reducible refine gate_callee (f := 11) rfl ?_); refine goesL_ (some 79) rfl rfl Tryd.func11 (by kernel_rfl) rfl #[.agg #[.int .i64 1, .int .i64 a0, .int .i64 a1, .int .i64 a2, .int .i64 a3, .int .i64 0, .bool false, .int .i64 0], .agg #[.int .i64 0, .int .i64 (wrap64 (86400 * a4)), .int .i64 0]] rfl (by (try simp only [List.map_toArray, List.map_cons, List.map_nil]); first | done | rfl | (simp only [List.length_drop, List.length_take]; rfl)) ?_; (with_reducible refine (date_Add.calls kj8 1 a0 a1 a2 a3 0 false 0 0 (wrap64 (86400 * a4)) 0 t416 t417 t418 t419 t420 t421 t422 t423 _ A24.out).mono ?_); rintro e w40 ⟨rfl, hb⟩; refine ⟨_, rfl, ?_⟩; have n0_ := Aside0.mk (blk_below (g := gb415) (o := .cells #[.int .i64 1, .int .i64 a0, .int .i64 a1, .int .i64 a2, .int .i64 a3, .int .i64 0, .bool false, .int .i64 0] 24 (0, 0)) (by (with_reducible repeat (first | refine blk_drewN ?_ _ | refine blk_drew ?_ | refine blk_alloc ?_ _)); refine blk_put (cs := #[.int .i64 1, .int .i64 a0, .int .i64 a1, .int .i64 a2, .int .i64 a3, .int .i64 0, .bool false, .int .i64 0]) ?_ 7 _ rfl; (with_reducible repeat (first | refine blk_drewN ?_ _ | refine blk_drew ?_ | refine blk_alloc ?_ _)); refine blk_put (cs := #[.int .i64 1, .int .i64 a0, .int .i64 a1, .int .i64 a2, .int .i64 a3, .int .i64 0, .bool false, .int .i64 0]) ?_ 6 _ rfl; (with_reducible repeat (first | refine blk_drewN ?_ _ | refine blk_drew ?_ | refine blk_alloc ?_ _)); refine blk_put (cs := #[.int .i64 1, .int .i64 a0, .int .i64 a1, .int .i64 a2, .int .i64 a3, .int .i64 0, .bool false, .int .i64 0]) ?_ 5 _ rfl; (with_reducible repeat (first | refine blk_drewN ?_ _ | refine blk_drew ?_ | refine blk_alloc ?_ _)); refine blk_put (cs := #[.int .i64 1, .int .i64 a0, .int .i64 a1, .int .i64 a2, .int .i64 0, .int .i64 0, .bool false, .int .i64 0]) ?_ 4 _ rfl; (with_reducible repeat (first | refine blk_drewN ?_ _ | refine blk_drew ?_ | refine blk_alloc ?_ _)); refine blk_put (cs := #[.int .i64 1, .int .i64 a0, .int .i64 a1, .int .i64 0, .int .i64 0, .int .i64 0, .bool false, .int .i64 0]) ?_ 3 _ rfl; (with_reducible repeat (first | refine blk_drewN ?_ _ | refine blk_drew ?_ | refine blk_alloc ?_ _)); refine blk_put (cs := #[.int .i64 1, .int .i64 a0, .int .i64 0, .int .i64 0, .int .i64 0, .int .i64 0, .bool false, .int .i64 0]) ?_ 2 _ rfl; (with_reducible repeat (first | refine blk_drewN ?_ _ | refine blk_drew ?_ | refine blk_alloc ?_ _)); refine blk_put (cs := #[.int .i64 1, .int .i64 0, .int .i64 0, .int .i64 0, .int .i64 0, .int .i64 0, .bool false, .int .i64 0]) ?_ 1 _ rfl; (with_reducible repeat (first | refine blk_drewN ?_ _ | refine blk_drew ?_ | refine blk_alloc ?_ _)); refine blk_put (cs := #[.int .i64 0, .int .i64 0, .int .i64 0, .int .i64 0, .int .i64 0, .int .i64 0, .bool false, .int .i64 0]) ?_ 0 _ rfl; (with_reducible repeat (first | refine blk_drewN ?_ _ | refine blk_drew ?_ | refine blk_alloc ?_ _)); exact BK415.out) hb); have n1_ := Aside0.mk (below_step (by repeat (first | (with_reducible first | exact HB.out | apply below_alloc | apply pw_below_drewN | apply below_drew1 | refine below_set ?_ GE415.out) | exact HB.out)) hb); clear BK415; clear HB; have BK415 := n0_; have HB := n1_; clear n0_ n1_; (try clear hb); (try clear hb2); (try clear hk); (try clear hi)) | ((with_reducible refine gate_dst (N := 14) rfl ?_); refine box_event ?hg (N := 14) ?hd (cs := #[.int .i64 0, .int .i64 0, .int .i64 0, .int .i64 0, .int .i64 0, .int .i64 0, .bool false, .int .i64 0]) (t := 24) ?hr ?_; (case hd => rfl); (case hg => rfl); (case hr => first | (go_simp; done) | (go_simp; rfl)); intro gb424 hg w41 hbox hb; have n0_ := Aside0.mk (blk_below (S.b BK415.out) hb); have n1_ := Aside0.mk (below_step (by repeat (first | (with_reducible first | exact HB.out | apply below_alloc | apply pw_below_drewN | apply below_drew1 | refine below_set ?_ GE415.out) | exact HB.out)) hb); have n2_ := Aside0.mk (hbox); have n3_ := Aside0.mk ((by rw [hg]; exact (below_size (by repeat (first | (with_reducible first | exact HB.out | apply below_alloc | apply pw_below_drewN | apply below_drew1 | refine below_set ?_ GE415.out) | exact HB.out))) : w.heap.size ≤ gb424)); have n4_ := Aside0.mk ((by rw [hg]; exact (below_size (by repeat (first | (with_reducible first | exact HB.out | apply below_alloc | apply pw_below_drewN | apply below_drew1 | refine below_set ?_ GE415.out) | exact HB.out))) : w.heap.size ≤ gb424)); have n5_ := Aside0.mk ((by rw [hg]; exact Nat.ne_of_lt (blk_lt (S.b BK415.out)) : gb415 ≠ gb424)); have n6_ := Aside0.mk ((by rw [hg]; exact Nat.ne_of_gt (blk_lt (S.b BK415.out)) : gb424 ≠ gb415)); clear BK415; clear HB; have BK415 := n0_; have HB := n1_; have BK424 := n2_; have GW424 := n3_; have GE424 := n4_; have NB415_424 := n5_; have NB424_415 := n6_; clear n0_ n1_ n2_ n3_ n4_ n5_ n6_; clear hb hbox hg; have hnb42 := NB424_415.out; have hnc42 := NB415_424.out; have hcz43_0 : w41.cell? ⟨gb424, 0, none⟩ = some (.int .i64 0) := (blk_cell BK424.out 0).trans rfl; have hcz43_1 : w41.cell? ⟨gb424, 1, none⟩ = some (.int .i64 0) := (blk_cell BK424.out 1).trans rfl; have hcz43_2 : w41.cell? ⟨gb424, 2, none⟩ = some (.int .i64 0) := (blk_cell BK424.out 2).trans rfl; have hcz43_3 : w41.cell? ⟨gb424, 3, none⟩ = some (.int .i64 0) := (blk_cell BK424.out 3).trans rfl; have hcz43_4 : w41.cell? ⟨gb424, 4, none⟩ = some (.int .i64 0) := (blk_cell BK424.out 4).trans rfl; have hcz43_5 : w41.cell? ⟨gb424, 5, none⟩ = some (.int .i64 0) := (blk_cell BK424.out 5).trans rfl; have hcz43_6 : w41.cell? ⟨gb424, 6, none⟩ = some (.bool false) := (blk_cell BK424.out 6).trans rfl; have hcz43_7 : w41.cell? ⟨gb424, 7, none⟩ = some (.int .i64 0) := (blk_cell BK424.out 7).trans rfl; have hfz43_0 := blk_frozen BK424.out 0; have hfz43_1 := blk_frozen BK424.out 1; have hfz43_2 := blk_frozen BK424.out 2; have hfz43_3 := blk_frozen BK424.out 3; have hfz43_4 := blk_frozen BK424.out 4; have hfz43_5 := blk_frozen BK424.out 5; have hfz43_6 := blk_frozen BK424.out 6; have hfz43_7 := blk_frozen BK424.out 7) | ((with_reducible refine gate_callee (f := 11) rfl ?_); refine goesL_ (some 85) rfl rfl Tryd.func11 (by kernel_rfl) rfl #[.agg #[.int .i64 t416, .int .i64 t417, .int .i64 t418, .int .i64 t419, .int .i64 t420, .int .i64 t421, .bool t422, .int .i64 t423], .agg #[.int .i64 0, .int .i64 (wrap64 (-(wrap64 (86400 * a4)))), .int .i64 0]] rfl (by (try simp only [List.map_toArray, List.map_cons, List.map_nil]); first | done | rfl | (simp only [List.length_drop, List.length_take]; rfl)) ?_; (with_reducible refine (date_Add.calls kj8 t416 t417 t418 t419 t420 t421 t422 t423 0 (wrap64 (-(wrap64 (86400 * a4)))) 0 t425 t426 t427 t428 t429 t430 t431 t432 _ A25.out).mono ?_); rintro e w44 ⟨rfl, hb⟩; refine ⟨_, rfl, ?_⟩; have n0_ := Aside0.mk (blk_below (g := gb415) (o := .cells #[.int .i64 1, .int .i64 a0, .int .i64 a1, .int .i64 a2, .int .i64 a3, .int .i64 0, .bool false, .int .i64 0] 24 (0, 0)) (by (with_reducible repeat (first | refine blk_drewN ?_ _ | refine blk_drew ?_ | refine blk_alloc ?_ _)); refine blk_far ?_ NB415_424.out _; (with_reducible repeat (first | refine blk_drewN ?_ _ | refine blk_drew ?_ | refine blk_alloc ?_ _)); refine blk_far ?_ NB415_424.out _; (with_reducible repeat (first | refine blk_drewN ?_ _ | refine blk_drew ?_ | refine blk_alloc ?_ _)); refine blk_far ?_ NB415_424.out _; (with_reducible repeat (first | refine blk_drewN ?_ _ | refine blk_drew ?_ | refine blk_alloc ?_ _)); refine blk_far ?_ NB415_424.out _; (with_reducible repeat (first | refine blk_drewN ?_ _ | refine blk_drew ?_ | refine blk_alloc ?_ _)); refine blk_far ?_ NB415_424.out _; (with_reducible repeat (first | refine blk_drewN ?_ _ | refine blk_drew ?_ | refine blk_alloc ?_ _)); refine blk_far ?_ NB415_424.out _; (with_reducible repeat (first | refine blk_drewN ?_ _ | refine blk_drew ?_ | refine blk_alloc ?_ _)); refine blk_far ?_ NB415_424.out _; (with_reducible repeat (first | refine blk_drewN ?_ _ | refine blk_drew ?_ | refine blk_alloc ?_ _)); refine blk_far ?_ NB415_424.out _; (with_reducible repeat (first | refine blk_drewN ?_ _ | refine blk_drew ?_ | refine blk_alloc ?_ _)); exact BK415.out) hb); have n1_ := Aside0.mk (blk_below (g := gb424) (o := .cells #[.int .i64 t416, .int .i64 t417, .int .i64 t418, .int .i64 t419, .int .i64 t420, .int .i64 t421, .bool t422, .int .i64 t423] 24 (0, 0)) (by (with_reducible repeat (first | refine blk_drewN ?_ _ | refine blk_drew ?_ | refine blk_alloc ?_ _)); refine blk_put (cs := #[.int .i64 t416, .int .i64 t417, .int .i64 t418, .int .i64 t419, .int .i64 t420, .int .i64 t421, .bool t422, .int .i64 0]) ?_ 7 _ rfl; (with_reducible repeat (first | refine blk_drewN ?_ _ | refine blk_drew ?_ | refine blk_alloc ?_ _)); refine blk_put (cs := #[.int .i64 t416, .int .i64 t417, .int .i64 t418, .int .i64 t419, .int .i64 t420, .int .i64 t421, .bool false, .int .i64 0]) ?_ 6 _ rfl; (with_reducible repeat (first | refine blk_drewN ?_ _ | refine blk_drew ?_ | refine blk_alloc ?_ _)); refine blk_put (cs := #[.int .i64 t416, .int .i64 t417, .int .i64 t418, .int .i64 t419, .int .i64 t420, .int .i64 0, .bool false, .int .i64 0]) ?_ 5 _ rfl; (with_reducible repeat (first | refine blk_drewN ?_ _ | refine blk_drew ?_ | refine blk_alloc ?_ _)); refine blk_put (cs := #[.int .i64 t416, .int .i64 t417, .int .i64 t418, .int .i64 t419, .int .i64 0, .int .i64 0, .bool false, .int .i64 0]) ?_ 4 _ rfl; (with_reducible repeat (first | refine blk_drewN ?_ _ | refine blk_drew ?_ | refine blk_alloc ?_ _)); refine blk_put (cs := #[.int .i64 t416, .int .i64 t417, .int .i64 t418, .int .i64 0, .int .i64 0, .int .i64 0, .bool false, .int .i64 0]) ?_ 3 _ rfl; (with_reducible repeat (first | refine blk_drewN ?_ _ | refine blk_drew ?_ | refine blk_alloc ?_ _)); refine blk_put (cs := #[.int .i64 t416, .int .i64 t417, .int .i64 0, .int .i64 0, .int .i64 0, .int .i64 0, .bool false, .int .i64 0]) ?_ 2 _ rfl; (with_reducible repeat (first | refine blk_drewN ?_ _ | refine blk_drew ?_ | refine blk_alloc ?_ _)); refine blk_put (cs := #[.int .i64 t416, .int .i64 0, .int .i64 0, .int .i64 0, .int .i64 0, .int .i64 0, .bool false, .int .i64 0]) ?_ 1 _ rfl; (with_reducible repeat (first | refine blk_drewN ?_ _ | refine blk_drew ?_ | refine blk_alloc ?_ _)); refine blk_put (cs := #[.int .i64 0, .int .i64 0, .int .i64 0, .int .i64 0, .int .i64 0, .int .i64 0, .bool false, .int .i64 0]) ?_ 0 _ rfl; (with_reducible repeat (first | refine blk_drewN ?_ _ | refine blk_drew ?_ | refine blk_alloc ?_ _)); exact BK424.out) hb); have n2_ := Aside0.mk (below_step (by repeat (first | (with_reducible first | exact HB.out | apply below_alloc | apply pw_below_drewN | apply below_drew1 | refine below_set ?_ GE415.out | refine below_set ?_ GE424.out) | exact HB.out)) hb); clear BK415; clear BK424; clear HB; have BK415 := n0_; have BK424 := n1_; have HB := n2_; clear n0_ n1_ n2_; (try clear hb); (try clear hb2); (try clear hk); (try clear hi)) | ((with_reducible refine gate_dst (N := 15) rfl ?_); refine box_event ?hg (N := 15) ?hd (cs := #[.int .i64 0, .int .i64 0, .int .i64 0, .int .i64 0, .int .i64 0, .int .i64 0, .bool false, .int .i64 0]) (t := 24) ?hr ?_; (case hd => rfl); (case hg => rfl); (case hr => first | (go_simp; done) | (go_simp; rfl)); intro gb433 hg w45 hbox hb; have n0_ := Aside0.mk (blk_below (S.b BK415.out) hb); have n1_ := Aside0.mk (blk_below (S.b BK424.out) hb); have n2_ := Aside0.mk (below_step (by repeat (first | (with_reducible first | exact HB.out | apply below_alloc | apply pw_below_drewN | apply below_drew1 | refine below_set ?_ GE415.out | refine below_set ?_ GE424.out) | exact HB.out)) hb); have n3_ := Aside0.mk (hbox); have n4_ := Aside0.mk ((by rw [hg]; exact (below_size (by repeat (first | (with_reducible first | exact HB.out | apply below_alloc | apply pw_below_drewN | apply below_drew1 | refine below_set ?_ GE415.out | refine below_set ?_ GE424.out) | exact HB.out))) : w.heap.size ≤ gb433)); have n5_ := Aside0.mk ((by rw [hg]; exact (below_size (by repeat (first | (with_reducible first | exact HB.out | apply below_alloc | apply pw_below_drewN | apply below_drew1 | refine below_set ?_ GE415.out | refine below_set ?_ GE424.out) | exact HB.out))) : w.heap.size ≤ gb433)); have n6_ := Aside0.mk ((by rw [hg]; exact Nat.ne_of_lt (blk_lt (S.b BK415.out)) : gb415 ≠ gb433)); have n7_ := Aside0.mk ((by rw [hg]; exact Nat.ne_of_gt (blk_lt (S.b BK415.out)) : gb433 ≠ gb415)); have n8_ := Aside0.mk ((by rw [hg]; exact Nat.ne_of_lt (blk_lt (S.b BK424.out)) : gb424 ≠ gb433)); have n9_ := Aside0.mk ((by rw [hg]; exact Nat.ne_of_gt (blk_lt (S.b BK424.out)) : gb433 ≠ gb424)); clear BK415; clear BK424; clear HB; have BK415 := n0_; have BK424 := n1_; have HB := n2_; have BK433 := n3_; have GW433 := n4_; have GE433 := n5_; have NB415_433 := n6_; have NB433_415 := n7_; have NB424_433 := n8_; have NB433_424 := n9_; clear n0_ n1_ n2_ n3_ n4_ n5_ n6_ n7_ n8_ n9_; clear hb hbox hg; have hnb46 := NB433_415.out; have hnc46 := NB415_433.out; have hnb47 := NB433_424.out; have hnc47 := NB424_433.out; have hcz48_0 : w45.cell? ⟨gb433, 0, none⟩ = some (.int .i64 0) := (blk_cell BK433.out 0).trans rfl; have hcz48_1 : w45.cell? ⟨gb433, 1, none⟩ = some (.int .i64 0) := (blk_cell BK433.out 1).trans rfl; have hcz48_2 : w45.cell? ⟨gb433, 2, none⟩ = some (.int .i64 0) := (blk_cell BK433.out 2).trans rfl; have hcz48_3 : w45.cell? ⟨gb433, 3, none⟩ = some (.int .i64 0) := (blk_cell BK433.out 3).trans rfl; have hcz48_4 : w45.cell? ⟨gb433, 4, none⟩ = some (.int .i64 0) := (blk_cell BK433.out 4).trans rfl; have hcz48_5 : w45.cell? ⟨gb433, 5, none⟩ = some (.int .i64 0) := (blk_cell BK433.out 5).trans rfl; have hcz48_6 : w45.cell? ⟨gb433, 6, none⟩ = some (.bool false) := (blk_cell BK433.out 6).trans rfl; have hcz48_7 : w45.cell? ⟨gb433, 7, none⟩ = some (.int .i64 0) := (blk_cell BK433.out 7).trans rfl; have hfz48_0 := blk_frozen BK433.out 0; have hfz48_1 := blk_frozen BK433.out 1; have hfz48_2 := blk_frozen BK433.out 2; have hfz48_3 := blk_frozen BK433.out 3; have hfz48_4 := blk_frozen BK433.out 4; have hfz48_5 := blk_frozen BK433.out 5; have hfz48_6 := blk_frozen BK433.out 6; have hfz48_7 := blk_frozen BK433.out 7; have hcz49_0 : w45.cell? ⟨gb415, 0, none⟩ = some (.int .i64 1) := (blk_cell BK415.out 0).trans rfl; have hcz49_1 : w45.cell? ⟨gb415, 1, none⟩ = some (.int .i64 a0) := (blk_cell BK415.out 1).trans rfl; have hcz49_2 : w45.cell? ⟨gb415, 2, none⟩ = some (.int .i64 a1) := (blk_cell BK415.out 2).trans rfl; have hcz49_3 : w45.cell? ⟨gb415, 3, none⟩ = some (.int .i64 a2) := (blk_cell BK415.out 3).trans rfl; have hcz49_4 : w45.cell? ⟨gb415, 4, none⟩ = some (.int .i64 a3) := (blk_cell BK415.out 4).trans rfl; have hcz49_5 : w45.cell? ⟨gb415, 5, none⟩ = some (.int .i64 0) := (blk_cell BK415.out 5).trans rfl; have hcz49_6 : w45.cell? ⟨gb415, 6, none⟩ = some (.bool false) := (blk_cell BK415.out 6).trans rfl; have hcz49_7 : w45.cell? ⟨gb415, 7, none⟩ = some (.int .i64 0) := (blk_cell BK415.out 7).trans rfl; have hfz49_0 := blk_frozen BK415.out 0; have hfz49_1 := blk_frozen BK415.out 1; have hfz49_2 := blk_frozen BK415.out 2; have hfz49_3 := blk_frozen BK415.out 3; have hfz49_4 := blk_frozen BK415.out 4; have hfz49_5 := blk_frozen BK415.out 5; have hfz49_6 := blk_frozen BK415.out 6; have hfz49_7 := blk_frozen BK415.out 7) | ((with_reducible refine gate_callee (f := 11) rfl ?_); refine goesL_ (some 89) rfl rfl Tryd.func11 (by kernel_rfl) rfl #[.agg #[.int .i64 1, .int .i64 a0, .int .i64 a1, .int .i64 a2, .int .i64 a3, .int .i64 0, .bool false, .int .i64 0], .agg #[.int .i64 a5, .int .i64 0, .int .i64 0]] rfl (by (try simp only [List.map_toArray, List.map_cons, List.map_nil]); first | done | rfl | (simp only [List.length_drop, List.length_take]; rfl)) ?_; (with_reducible refine (date_Add.calls kj8 1 a0 a1 a2 a3 0 false 0 a5 0 0 t434 t435 t436 t437 t438 t439 t440 t441 _ A26.out).mono ?_); rintro e w50 ⟨rfl, hb⟩; refine ⟨_, rfl, ?_⟩; have n0_ := Aside0.mk (blk_below (g := gb415) (o := .cells #[.int .i64 1, .int .i64 a0, .int .i64 a1, .int .i64 a2, .int .i64 a3, .int .i64 0, .bool false, .int .i64 0] 24 (0, 0)) (by (with_reducible repeat (first | refine blk_drewN ?_ _ | refine blk_drew ?_ | refine blk_alloc ?_ _)); refine blk_far ?_ NB415_433.out _; (with_reducible repeat (first | refine blk_drewN ?_ _ | refine blk_drew ?_ | refine blk_alloc ?_ _)); refine blk_far ?_ NB415_433.out _; (with_reducible repeat (first | refine blk_drewN ?_ _ | refine blk_drew ?_ | refine blk_alloc ?_ _)); refine blk_far ?_ NB415_433.out _; (with_reducible repeat (first | refine blk_drewN ?_ _ | refine blk_drew ?_ | refine blk_alloc ?_ _)); refine blk_far ?_ NB415_433.out _; (with_reducible repeat (first | refine blk_drewN ?_ _ | refine blk_drew ?_ | refine blk_alloc ?_ _)); refine blk_far ?_ NB415_433.out _; (with_reducible repeat (first | refine blk_drewN ?_ _ | refine blk_drew ?_ | refine blk_alloc ?_ _)); refine blk_far ?_ NB415_433.out _; (with_reducible repeat (first | refine blk_drewN ?_ _ | refine blk_drew ?_ | refine blk_alloc ?_ _)); refine blk_far ?_ NB415_433.out _; (with_reducible repeat (first | refine blk_drewN ?_ _ | refine blk_drew ?_ | refine blk_alloc ?_ _)); refine blk_far ?_ NB415_433.out _; (with_reducible repeat (first | refine blk_drewN ?_ _ | refine blk_drew ?_ | refine blk_alloc ?_ _)); exact BK415.out) hb); have n1_ := Aside0.mk (blk_below (g := gb424) (o := .cells #[.int .i64 t416, .int .i64 t417, .int .i64 t418, .int .i64 t419, .int .i64 t420, .int .i64 t421, .bool t422, .int .i64 t423] 24 (0, 0)) (by (with_reducible repeat (first | refine blk_drewN ?_ _ | refine blk_drew ?_ | refine blk_alloc ?_ _)); refine blk_far ?_ NB424_433.out _; (with_reducible repeat (first | refine blk_drewN ?_ _ | refine blk_drew ?_ | refine blk_alloc ?_ _)); refine blk_far ?_ NB424_433.out _; (with_reducible repeat (first | refine blk_drewN ?_ _ | refine blk_drew ?_ | refine blk_alloc ?_ _)); refine blk_far ?_ NB424_433.out _; (with_reducible repeat (first | refine blk_drewN ?_ _ | refine blk_drew ?_ | refine blk_alloc ?_ _)); refine blk_far ?_ NB424_433.out _; (with_reducible repeat (first | refine blk_drewN ?_ _ | refine blk_drew ?_ | refine blk_alloc ?_ _)); refine blk_far ?_ NB424_433.out _; (with_reducible repeat (first | refine blk_drewN ?_ _ | refine blk_drew ?_ | refine blk_alloc ?_ _)); refine blk_far ?_ NB424_433.out _; (with_reducible repeat (first | refine blk_drewN ?_ _ | refine blk_drew ?_ | refine blk_alloc ?_ _)); refine blk_far ?_ NB424_433.out _; (with_reducible repeat (first | refine blk_drewN ?_ _ | refine blk_drew ?_ | refine blk_alloc ?_ _)); refine blk_far ?_ NB424_433.out _; (with_reducible repeat (first | refine blk_drewN ?_ _ | refine blk_drew ?_ | refine blk_alloc ?_ _)); exact BK424.out) hb); have n2_ := Aside0.mk (blk_below (g := gb433) (o := .cells #[.int .i64 t425, .int .i64 t426, .int .i64 t427, .int .i64 t428, .int .i64 t429, .int .i64 t430, .bool t431, .int .i64 t432] 24 (0, 0)) (by (with_reducible repeat (first | refine blk_drewN ?_ _ | refine blk_drew ?_ | refine blk_alloc ?_ _)); refine blk_put (cs := #[.int .i64 t425, .int .i64 t426, .int .i64 t427, .int .i64 t428, .int .i64 t429, .int .i64 t430, .bool t431, .int .i64 0]) ?_ 7 _ rfl; (with_reducible repeat (first | refine blk_drewN ?_ _ | refine blk_drew ?_ | refine blk_alloc ?_ _)); refine blk_put (cs := #[.int .i64 t425, .int .i64 t426, .int .i64 t427, .int .i64 t428, .int .i64 t429, .int .i64 t430, .bool false, .int .i64 0]) ?_ 6 _ rfl; (with_reducible repeat (first | refine blk_drewN ?_ _ | refine blk_drew ?_ | refine blk_alloc ?_ _)); refine blk_put (cs := #[.int .i64 t425, .int .i64 t426, .int .i64 t427, .int .i64 t428, .int .i64 t429, .int .i64 0, .bool false, .int .i64 0]) ?_ 5 _ rfl; (with_reducible repeat (first | refine blk_drewN ?_ _ | refine blk_drew ?_ | refine blk_alloc ?_ _)); refine blk_put (cs := #[.int .i64 t425, .int .i64 t426, .int .i64 t427, .int .i64 t428, .int .i64 0, .int .i64 0, .bool false, .int .i64 0]) ?_ 4 _ rfl; (with_reducible repeat (first | refine blk_drewN ?_ _ | refine blk_drew ?_ | refine blk_alloc ?_ _)); refine blk_put (cs := #[.int .i64 t425, .int .i64 t426, .int .i64 t427, .int .i64 0, .int .i64 0, .int .i64 0, .bool false, .int .i64 0]) ?_ 3 _ rfl; (with_reducible repeat (first | refine blk_drewN ?_ _ | refine blk_drew ?_ | refine blk_alloc ?_ _)); refine blk_put (cs := #[.int .i64 t425, .int .i64 t426, .int .i64 0, .int .i64 0, .int .i64 0, .int .i64 0, .bool false, .int .i64 0]) ?_ 2 _ rfl; (with_reducible repeat (first | refine blk_drewN ?_ _ | refine blk_drew ?_ | refine blk_alloc ?_ _)); refine blk_put (cs := #[.int .i64 t425, .int .i64 0, .int .i64 0, .int .i64 0, .int .i64 0, .int .i64 0, .bool false, .int .i64 0]) ?_ 1 _ rfl; (with_reducible repeat (first | refine blk_drewN ?_ _ | refine blk_drew ?_ | refine blk_alloc ?_ _)); refine blk_put (cs := #[.int .i64 0, .int .i64 0, .int .i64 0, .int .i64 0, .int .i64 0, .int .i64 0, .bool false, .int .i64 0]) ?_ 0 _ rfl; (with_reducible repeat (first | refine blk_drewN ?_ _ | refine blk_drew ?_ | refine blk_alloc ?_ _)); exact BK433.out) hb); have n3_ := Aside0.mk (below_step (by repeat (first | (with_reducible first | exact HB.out | apply below_alloc | apply pw_below_drewN | apply below_drew1 | refine below_set ?_ GE415.out | refine below_set ?_ GE424.out | refine below_set ?_ GE433.out) | exact HB.out)) hb); clear BK415; clear BK424; clear BK433; clear HB; have BK415 := n0_; have BK424 := n1_; have BK433 := n2_; have HB := n3_; clear n0_ n1_ n2_ n3_; (try clear hb); (try clear hb2); (try clear hk); (try clear hi)) | ((with_reducible refine gate_dst (N := 16) rfl ?_); refine box_event ?hg (N := 16) ?hd (cs := #[.int .i64 0, .int .i64 0, .int .i64 0, .int .i64 0, .int .i64 0, .int .i64 0, .bool false, .int .i64 0]) (t := 24) ?hr ?_; (case hd => rfl); (case hg => rfl); (case hr => first | (go_simp; done) | (go_simp; rfl)); intro gb442 hg w51 hbox hb; have n0_ := Aside0.mk (blk_below (S.b BK415.out) hb); have n1_ := Aside0.mk (blk_below (S.b BK424.out) hb); have n2_ := Aside0.mk (blk_below (S.b BK433.out) hb); have n3_ := Aside0.mk (below_step (by repeat (first | (with_reducible first | exact HB.out | apply below_alloc | apply pw_below_drewN | apply below_drew1 | refine below_set ?_ GE415.out | refine below_set ?_ GE424.out | refine below_set ?_ GE433.out) | exact HB.out)) hb); have n4_ := Aside0.mk (hbox); have n5_ := Aside0.mk ((by rw [hg]; exact (below_size (by repeat (first | (with_reducible first | exact HB.out | apply below_alloc | apply pw_below_drewN | apply below_drew1 | refine below_set ?_ GE415.out | refine below_set ?_ GE424.out | refine below_set ?_ GE433.out) | exact HB.out))) : w.heap.size ≤ gb442)); have n6_ := Aside0.mk ((by rw [hg]; exact (below_size (by repeat (first | (with_reducible first | exact HB.out | apply below_alloc | apply pw_below_drewN | apply below_drew1 | refine below_set ?_ GE415.out | refine below_set ?_ GE424.out | refine below_set ?_ GE433.out) | exact HB.out))) : w.heap.size ≤ gb442)); have n7_ := Aside0.mk ((by rw [hg]; exact Nat.ne_of_lt (blk_lt (S.b BK415.out)) : gb415 ≠ gb442)); have n8_ := Aside0.mk ((by rw [hg]; exact Nat.ne_of_gt (blk_lt (S.b BK415.out)) : gb442 ≠ gb415)); have n9_ := Aside0.mk ((by rw [hg]; exact Nat.ne_of_lt (blk_lt (S.b BK424.out)) : gb424 ≠ gb442)); have n10_ := Aside0.mk ((by rw [hg]; exact Nat.ne_of_gt (blk_lt (S.b BK424.out)) : gb442 ≠ gb424)); have n11_ := Aside0.mk ((by rw [hg]; exact Nat.ne_of_lt (blk_lt (S.b BK433.out)) : gb433 ≠ gb442)); have n12_ := Aside0.mk ((by rw [hg]; exact Nat.ne_of_gt (blk_lt (S.b BK433.out)) : gb442 ≠ gb433)); clear BK415; clear BK424; clear BK433; clear HB; have BK415 := n0_; have BK424 := n1_; have BK433 := n2_; have HB := n3_; have BK442 := n4_; have GW442 := n5_; have GE442 := n6_; have NB415_442 := n7_; have NB442_415 := n8_; have NB424_442 := n9_; have NB442_424 := n10_; have NB433_442 := n11_; have NB442_433 := n12_; clear n0_ n1_ n2_ n3_ n4_ n5_ n6_ n7_ n8_ n9_ n10_ n11_ n12_; clear hb hbox hg; have hnb52 := NB442_415.out; have hnc52 := NB415_442.out; have hnb53 := NB442_424.out; have hnc53 := NB424_442.out; have hnb54 := NB442_433.out; have hnc54 := NB433_442.out; have hcz55_0 : w51.cell? ⟨gb442, 0, none⟩ = some (.int .i64 0) := (blk_cell BK442.out 0).trans rfl; have hcz55_1 : w51.cell? ⟨gb442, 1, none⟩ = some (.int .i64 0) := (blk_cell BK442.out 1).trans rfl; have hcz55_2 : w51.cell? ⟨gb442, 2, none⟩ = some (.int .i64 0) := (blk_cell BK442.out 2).trans rfl; have hcz55_3 : w51.cell? ⟨gb442, 3, none⟩ = some (.int .i64 0) := (blk_cell BK442.out 3).trans rfl; have hcz55_4 : w51.cell? ⟨gb442, 4, none⟩ = some (.int .i64 0) := (blk_cell BK442.out 4).trans rfl; have hcz55_5 : w51.cell? ⟨gb442, 5, none⟩ = some (.int .i64 0) := (blk_cell BK442.out 5).trans rfl; have hcz55_6 : w51.cell? ⟨gb442, 6, none⟩ = some (.bool false) := (blk_cell BK442.out 6).trans rfl; have hcz55_7 : w51.cell? ⟨gb442, 7, none⟩ = some (.int .i64 0) := (blk_cell BK442.out 7).trans rfl; have hfz55_0 := blk_frozen BK442.out 0; have hfz55_1 := blk_frozen BK442.out 1; have hfz55_2 := blk_frozen BK442.out 2; have hfz55_3 := blk_frozen BK442.out 3; have hfz55_4 := blk_frozen BK442.out 4; have hfz55_5 := blk_frozen BK442.out 5; have hfz55_6 := blk_frozen BK442.out 6; have hfz55_7 := blk_frozen BK442.out 7) | ((with_reducible refine gate_callee (f := 11) rfl ?_); refine goesL_ (some 94) rfl rfl Tryd.func11 (by kernel_rfl) rfl #[.agg #[.int .i64 t434, .int .i64 t435, .int .i64 t436, .int .i64 t437, .int .i64 t438, .int .i64 t439, .bool t440, .int .i64 t441], .agg #[.int .i64 (wrap64 (-a5)), .int .i64 0, .int .i64 0]] rfl (by (try simp only [List.map_toArray, List.map_cons, List.map_nil]); first | done | rfl | (simp only [List.length_drop, List.length_take]; rfl)) ?_; (with_reducible refine (date_Add.calls kj8 t434 t435 t436 t437 t438 t439 t440 t441 (wrap64 (-a5)) 0 0 t443 t444 t445 t446 t447 t448 t449 t450 _ A27.out).mono ?_); rintro e w56 ⟨rfl, hb⟩; refine ⟨_, rfl, ?_⟩; have n0_ := Aside0.mk (blk_below (g := gb415) (o := .cells #[.int .i64 1, .int .i64 a0, .int .i64 a1, .int .i64 a2, .int .i64 a3, .int .i64 0, .bool false, .int .i64 0] 24 (0, 0)) (by (with_reducible repeat (first | refine blk_drewN ?_ _ | refine blk_drew ?_ | refine blk_alloc ?_ _)); refine blk_far ?_ NB415_442.out _; (with_reducible repeat (first | refine blk_drewN ?_ _ | refine blk_drew ?_ | refine blk_alloc ?_ _)); refine blk_far ?_ NB415_442.out _; (with_reducible repeat (first | refine blk_drewN ?_ _ | refine blk_drew ?_ | refine blk_alloc ?_ _)); refine blk_far ?_ NB415_442.out _; (with_reducible repeat (first | refine blk_drewN ?_ _ | refine blk_drew ?_ | refine blk_alloc ?_ _)); refine blk_far ?_ NB415_442.out _; (with_reducible repeat (first | refine blk_drewN ?_ _ | refine blk_drew ?_ | refine blk_alloc ?_ _)); refine blk_far ?_ NB415_442.out _; (with_reducible repeat (first | refine blk_drewN ?_ _ | refine blk_drew ?_ | refine blk_alloc ?_ _)); refine blk_far ?_ NB415_442.out _; (with_reducible repeat (first | refine blk_drewN ?_ _ | refine blk_drew ?_ | refine blk_alloc ?_ _)); refine blk_far ?_ NB415_442.out _; (with_reducible repeat (first | refine blk_drewN ?_ _ | refine blk_drew ?_ | refine blk_alloc ?_ _)); refine blk_far ?_ NB415_442.out _; (with_reducible repeat (first | refine blk_drewN ?_ _ | refine blk_drew ?_ | refine blk_alloc ?_ _)); exact BK415.out) hb); have n1_ := Aside0.mk (blk_below (g := gb424) (o := .cells #[.int .i64 t416, .int .i64 t417, .int .i64 t418, .int .i64 t419, .int .i64 t420, .int .i64 t421, .bool t422, .int .i64 t423] 24 (0, 0)) (by (with_reducible repeat (first | refine blk_drewN ?_ _ | refine blk_drew ?_ | refine blk_alloc ?_ _)); refine blk_far ?_ NB424_442.out _; (with_reducible repeat (first | refine blk_drewN ?_ _ | refine blk_drew ?_ | refine blk_alloc ?_ _)); refine blk_far ?_ NB424_442.out _; (with_reducible repeat (first | refine blk_drewN ?_ _ | refine blk_drew ?_ | refine blk_alloc ?_ _)); refine blk_far ?_ NB424_442.out _; (with_reducible repeat (first | refine blk_drewN ?_ _ | refine blk_drew ?_ | refine blk_alloc ?_ _)); refine blk_far ?_ NB424_442.out _; (with_reducible repeat (first | refine blk_drewN ?_ _ | refine blk_drew ?_ | refine blk_alloc ?_ _)); refine blk_far ?_ NB424_442.out _; (with_reducible repeat (first | refine blk_drewN ?_ _ | refine blk_drew ?_ | refine blk_alloc ?_ _)); refine blk_far ?_ NB424_442.out _; (with_reducible repeat (first | refine blk_drewN ?_ _ | refine blk_drew ?_ | refine blk_alloc ?_ _)); refine blk_far ?_ NB424_442.out _; (with_reducible repeat (first | refine blk_drewN ?_ _ | refine blk_drew ?_ | refine blk_alloc ?_ _)); refine blk_far ?_ NB424_442.out _; (with_reducible repeat (first | refine blk_drewN ?_ _ | refine blk_drew ?_ | refine blk_alloc ?_ _)); exact BK424.out) hb); have n2_ := Aside0.mk (blk_below (g := gb433) (o := .cells #[.int .i64 t425, .int .i64 t426, .int .i64 t427, .int .i64 t428, .int .i64 t429, .int .i64 t430, .bool t431, .int .i64 t432] 24 (0, 0)) (by (with_reducible repeat (first | refine blk_drewN ?_ _ | refine blk_drew ?_ | refine blk_alloc ?_ _)); refine blk_far ?_ NB433_442.out _; (with_reducible repeat (first | refine blk_drewN ?_ _ | refine blk_drew ?_ | refine blk_alloc ?_ _)); refine blk_far ?_ NB433_442.out _; (with_reducible repeat (first | refine blk_drewN ?_ _ | refine blk_drew ?_ | refine blk_alloc ?_ _)); refine blk_far ?_ NB433_442.out _; (with_reducible repeat (first | refine blk_drewN ?_ _ | refine blk_drew ?_ | refine blk_alloc ?_ _)); refine blk_far ?_ NB433_442.out _; (with_reducible repeat (first | refine blk_drewN ?_ _ | refine blk_drew ?_ | refine blk_alloc ?_ _)); refine blk_far ?_ NB433_442.out _; (with_reducible repeat (first | refine blk_drewN ?_ _ | refine blk_drew ?_ | refine blk_alloc ?_ _)); refine blk_far ?_ NB433_442.out _; (with_reducible repeat (first | refine blk_drewN ?_ _ | refine blk_drew ?_ | refine blk_alloc ?_ _)); refine blk_far ?_ NB433_442.out _; (with_reducible repeat (first | refine blk_drewN ?_ _ | refine blk_drew ?_ | refine blk_alloc ?_ _)); refine blk_far ?_ NB433_442.out _; (with_reducible repeat (first | refine blk_drewN ?_ _ | refine blk_drew ?_ | refine blk_alloc ?_ _)); exact BK433.out) hb); have n3_ := Aside0.mk (blk_below (g := gb442) (o := .cells #[.int .i64 t434, .int .i64 t435, .int .i64 t436, .int .i64 t437, .int .i64 t438, .int .i64 t439, .bool t440, .int .i64 t441] 24 (0, 0)) (by (with_reducible repeat (first | refine blk_drewN ?_ _ | refine blk_drew ?_ | refine blk_alloc ?_ _)); refine blk_put (cs := #[.int .i64 t434, .int .i64 t435, .int .i64 t436, .int .i64 t437, .int .i64 t438, .int .i64 t439, .bool t440, .int .i64 0]) ?_ 7 _ rfl; (with_reducible repeat (first | refine blk_drewN ?_ _ | refine blk_drew ?_ | refine blk_alloc ?_ _)); refine blk_put (cs := #[.int .i64 t434, .int .i64 t435, .int .i64 t436, .int .i64 t437, .int .i64 t438, .int .i64 t439, .bool false, .int .i64 0]) ?_ 6 _ rfl; (with_reducible repeat (first | refine blk_drewN ?_ _ | refine blk_drew ?_ | refine blk_alloc ?_ _)); refine blk_put (cs := #[.int .i64 t434, .int .i64 t435, .int .i64 t436, .int .i64 t437, .int .i64 t438, .int .i64 0, .bool false, .int .i64 0]) ?_ 5 _ rfl; (with_reducible repeat (first | refine blk_drewN ?_ _ | refine blk_drew ?_ | refine blk_alloc ?_ _)); refine blk_put (cs := #[.int .i64 t434, .int .i64 t435, .int .i64 t436, .int .i64 t437, .int .i64 0, .int .i64 0, .bool false, .int .i64 0]) ?_ 4 _ rfl; (with_reducible repeat (first | refine blk_drewN ?_ _ | refine blk_drew ?_ | refine blk_alloc ?_ _)); refine blk_put (cs := #[.int .i64 t434, .int .i64 t435, .int .i64 t436, .int .i64 0, .int .i64 0, .int .i64 0, .bool false, .int .i64 0]) ?_ 3 _ rfl; (with_reducible repeat (first | refine blk_drewN ?_ _ | refine blk_drew ?_ | refine blk_alloc ?_ _)); refine blk_put (cs := #[.int .i64 t434, .int .i64 t435, .int .i64 0, .int .i64 0, .int .i64 0, .int .i64 0, .bool false, .int .i64 0]) ?_ 2 _ rfl; (with_reducible repeat (first | refine blk_drewN ?_ _ | refine blk_drew ?_ | refine blk_alloc ?_ _)); refine blk_put (cs := #[.int .i64 t434, .int .i64 0, .int .i64 0, .int .i64 0, .int .i64 0, .int .i64 0, .bool false, .int .i64 0]) ?_ 1 _ rfl; (with_reducible repeat (first | refine blk_drewN ?_ _ | refine blk_drew ?_ | refine blk_alloc ?_ _)); refine blk_put (cs := #[.int .i64 0, .int .i64 0, .int .i64 0, .int .i64 0, .int .i64 0, .int .i64 0, .bool false, .int .i64 0]) ?_ 0 _ rfl; (with_reducible repeat (first | refine blk_drewN ?_ _ | refine blk_drew ?_ | refine blk_alloc ?_ _)); exact BK442.out) hb); have n4_ := Aside0.mk (below_step (by repeat (first | (with_reducible first | exact HB.out | apply below_alloc | apply pw_below_drewN | apply below_drew1 | refine below_set ?_ GE415.out | refine below_set ?_ GE424.out | refine below_set ?_ GE433.out | refine below_set ?_ GE442.out) | exact HB.out)) hb); clear BK415; clear BK424; clear BK433; clear BK442; clear HB; have BK415 := n0_; have BK424 := n1_; have BK433 := n2_; have BK442 := n3_; have HB := n4_; clear n0_ n1_ n2_ n3_ n4_; (try clear hb); (try clear hb2); (try clear hk); (try clear hi)) | ((with_reducible refine gate_dst (N := 17) rfl ?_); refine box_event ?hg (N := 17) ?hd (cs := #[.int .i64 0, .int .i64 0, .int .i64 0, .int .i64 0, .int .i64 0, .int .i64 0, .bool false, .int .i64 0]) (t := 24) ?hr ?_; (case hd => rfl); (case hg => rfl); (case hr => first | (go_simp; done) | (go_simp; rfl)); intro gb451 hg w57 hbox hb; have n0_ := Aside0.mk (blk_below (S.b BK415.out) hb); have n1_ := Aside0.mk (blk_below (S.b BK424.out) hb); have n2_ := Aside0.mk (blk_below (S.b BK433.out) hb); have n3_ := Aside0.mk (blk_below (S.b BK442.out) hb); have n4_ := Aside0.mk (below_step (by repeat (first | (with_reducible first | exact HB.out | apply below_alloc | apply pw_below_drewN | apply below_drew1 | refine below_set ?_ GE415.out | refine below_set ?_ GE424.out | refine below_set ?_ GE433.out | refine below_set ?_ GE442.out) | exact HB.out)) hb); have n5_ := Aside0.mk (hbox); have n6_ := Aside0.mk ((by rw [hg]; exact (below_size (by repeat (first | (with_reducible first | exact HB.out | apply below_alloc | apply pw_below_drewN | apply below_drew1 | refine below_set ?_ GE415.out | refine below_set ?_ GE424.out | refine below_set ?_ GE433.out | refine below_set ?_ GE442.out) | exact HB.out))) : w.heap.size ≤ gb451)); have n7_ := Aside0.mk ((by rw [hg]; exact (below_size (by repeat (first | (with_reducible first | exact HB.out | apply below_alloc | apply pw_below_drewN | apply below_drew1 | refine below_set ?_ GE415.out | refine below_set ?_ GE424.out | refine below_set ?_ GE433.out | refine below_set ?_ GE442.out) | exact HB.out))) : w.heap.size ≤ gb451)); have n8_ := Aside0.mk ((by rw [hg]; exact Nat.ne_of_lt (blk_lt (S.b BK415.out)) : gb415 ≠ gb451)); have n9_ := Aside0.mk ((by rw [hg]; exact Nat.ne_of_gt (blk_lt (S.b BK415.out)) : gb451 ≠ gb415)); have n10_ := Aside0.mk ((by rw [hg]; exact Nat.ne_of_lt (blk_lt (S.b BK424.out)) : gb424 ≠ gb451)); have n11_ := Aside0.mk ((by rw [hg]; exact Nat.ne_of_gt (blk_lt (S.b BK424.out)) : gb451 ≠ gb424)); have n12_ := Aside0.mk ((by rw [hg]; exact Nat.ne_of_lt (blk_lt (S.b BK433.out)) : gb433 ≠ gb451)); have n13_ := Aside0.mk ((by rw [hg]; exact Nat.ne_of_gt (blk_lt (S.b BK433.out)) : gb451 ≠ gb433)); have n14_ := Aside0.mk ((by rw [hg]; exact Nat.ne_of_lt (blk_lt (S.b BK442.out)) : gb442 ≠ gb451)); have n15_ := Aside0.mk ((by rw [hg]; exact Nat.ne_of_gt (blk_lt (S.b BK442.out)) : gb451 ≠ gb442)); clear BK415; clear BK424; clear BK433; clear BK442; clear HB; have BK415 := n0_; have BK424 := n1_; have BK433 := n2_; have BK442 := n3_; have HB := n4_; have BK451 := n5_; have GW451 := n6_; have GE451 := n7_; have NB415_451 := n8_; have NB451_415 := n9_; have NB424_451 := n10_; have NB451_424 := n11_; have NB433_451 := n12_; have NB451_433 := n13_; have NB442_451 := n14_; have NB451_442 := n15_; clear n0_ n1_ n2_ n3_ n4_ n5_ n6_ n7_ n8_ n9_ n10_ n11_ n12_ n13_ n14_ n15_; clear hb hbox hg; have hnb58 := NB451_415.out; have hnc58 := NB415_451.out; have hnb59 := NB451_424.out; have hnc59 := NB424_451.out; have hnb60 := NB451_433.out; have hnc60 := NB433_451.out; have hnb61 := NB451_442.out; have hnc61 := NB442_451.out; have hcz62_0 : w57.cell? ⟨gb451, 0, none⟩ = some (.int .i64 0) := (blk_cell BK451.out 0).trans rfl; have hcz62_1 : w57.cell? ⟨gb451, 1, none⟩ = some (.int .i64 0) := (blk_cell BK451.out 1).trans rfl; have hcz62_2 : w57.cell? ⟨gb451, 2, none⟩ = some (.int .i64 0) := (blk_cell BK451.out 2).trans rfl; have hcz62_3 : w57.cell? ⟨gb451, 3, none⟩ = some (.int .i64 0) := (blk_cell BK451.out 3).trans rfl; have hcz62_4 : w57.cell? ⟨gb451, 4, none⟩ = some (.int .i64 0) := (blk_cell BK451.out 4).trans rfl; have hcz62_5 : w57.cell? ⟨gb451, 5, none⟩ = some (.int .i64 0) := (blk_cell BK451.out 5).trans rfl; have hcz62_6 : w57.cell? ⟨gb451, 6, none⟩ = some (.bool false) := (blk_cell BK451.out 6).trans rfl; have hcz62_7 : w57.cell? ⟨gb451, 7, none⟩ = some (.int .i64 0) := (blk_cell BK451.out 7).trans rfl; have hfz62_0 := blk_frozen BK451.out 0; have hfz62_1 := blk_frozen BK451.out 1; have hfz62_2 := blk_frozen BK451.out 2; have hfz62_3 := blk_frozen BK451.out 3; have hfz62_4 := blk_frozen BK451.out 4; have hfz62_5 := blk_frozen BK451.out 5; have hfz62_6 := blk_frozen BK451.out 6; have hfz62_7 := blk_frozen BK451.out 7; have hcz63_0 : w57.cell? ⟨gb433, 0, none⟩ = some (.int .i64 t425) := (blk_cell BK433.out 0).trans rfl; have hcz63_1 : w57.cell? ⟨gb433, 1, none⟩ = some (.int .i64 t426) := (blk_cell BK433.out 1).trans rfl; have hcz63_2 : w57.cell? ⟨gb433, 2, none⟩ = some (.int .i64 t427) := (blk_cell BK433.out 2).trans rfl; have hcz63_3 : w57.cell? ⟨gb433, 3, none⟩ = some (.int .i64 t428) := (blk_cell BK433.out 3).trans rfl; have hcz63_4 : w57.cell? ⟨gb433, 4, none⟩ = some (.int .i64 t429) := (blk_cell BK433.out 4).trans rfl; have hcz63_5 : w57.cell? ⟨gb433, 5, none⟩ = some (.int .i64 t430) := (blk_cell BK433.out 5).trans rfl; have hcz63_6 : w57.cell? ⟨gb433, 6, none⟩ = some (.bool t431) := (blk_cell BK433.out 6).trans rfl; have hcz63_7 : w57.cell? ⟨gb433, 7, none⟩ = some (.int .i64 t432) := (blk_cell BK433.out 7).trans rfl; have hfz63_0 := blk_frozen BK433.out 0; have hfz63_1 := blk_frozen BK433.out 1; have hfz63_2 := blk_frozen BK433.out 2; have hfz63_3 := blk_frozen BK433.out 3; have hfz63_4 := blk_frozen BK433.out 4; have hfz63_5 := blk_frozen BK433.out 5; have hfz63_6 := blk_frozen BK433.out 6; have hfz63_7 := blk_frozen BK433.out 7; have hcz64_0 : w57.cell? ⟨gb415, 0, none⟩ = some (.int .i64 1) := (blk_cell BK415.out 0).trans rfl; have hcz64_1 : w57.cell? ⟨gb415, 1, none⟩ = some (.int .i64 a0) := (blk_cell BK415.out 1).trans rfl; have hcz64_2 : w57.cell? ⟨gb415, 2, none⟩ = some (.int .i64 a1) := (blk_cell BK415.out 2).trans rfl; have hcz64_3 : w57.cell? ⟨gb415, 3, none⟩ = some (.int .i64 a2) := (blk_cell BK415.out 3).trans rfl; have hcz64_4 : w57.cell? ⟨gb415, 4, none⟩ = some (.int .i64 a3) := (blk_cell BK415.out 4).trans rfl; have hcz64_5 : w57.cell? ⟨gb415, 5, none⟩ = some (.int .i64 0) := (blk_cell BK415.out 5).trans rfl; have hcz64_6 : w57.cell? ⟨gb415, 6, none⟩ = some (.bool false) := (blk_cell BK415.out 6).trans rfl; have hcz64_7 : w57.cell? ⟨gb415, 7, none⟩ = some (.int .i64 0) := (blk_cell BK415.out 7).trans rfl; have hfz64_0 := blk_frozen BK415.out 0; have hfz64_1 := blk_frozen BK415.out 1; have hfz64_2 := blk_frozen BK415.out 2; have hfz64_3 := blk_frozen BK415.out 3; have hfz64_4 := blk_frozen BK415.out 4; have hfz64_5 := blk_frozen BK415.out 5; have hfz64_6 := blk_frozen BK415.out 6; have hfz64_7 := blk_frozen BK415.out 7; have hcz65_0 : w57.cell? ⟨gb424, 0, none⟩ = some (.int .i64 t416) := (blk_cell BK424.out 0).trans rfl; have hcz65_1 : w57.cell? ⟨gb424, 1, none⟩ = some (.int .i64 t417) := (blk_cell BK424.out 1).trans rfl; have hcz65_2 : w57.cell? ⟨gb424, 2, none⟩ = some (.int .i64 t418) := (blk_cell BK424.out 2).trans rfl; have hcz65_3 : w57.cell? ⟨gb424, 3, none⟩ = some (.int .i64 t419) := (blk_cell BK424.out 3).trans rfl; have hcz65_4 : w57.cell? ⟨gb424, 4, none⟩ = some (.int .i64 t420) := (blk_cell BK424.out 4).trans rfl; have hcz65_5 : w57.cell? ⟨gb424, 5, none⟩ = some (.int .i64 t421) := (blk_cell BK424.out 5).trans rfl; have hcz65_6 : w57.cell? ⟨gb424, 6, none⟩ = some (.bool t422) := (blk_cell BK424.out 6).trans rfl; have hcz65_7 : w57.cell? ⟨gb424, 7, none⟩ = some (.int .i64 t423) := (blk_cell BK424.out 7).trans rfl; have hfz65_0 := blk_frozen BK424.out 0; have hfz65_1 := blk_frozen BK424.out 1; have hfz65_2 := blk_frozen BK424.out 2; have hfz65_3 := blk_frozen BK424.out 3; have hfz65_4 := blk_frozen BK424.out 4; have hfz65_5 := blk_frozen BK424.out 5; have hfz65_6 := blk_frozen BK424.out 6; have hfz65_7 := blk_frozen BK424.out 7) | (go_at_call 13; (with_reducible refine (date_Days.calls kj8 t417 t418 t419 t452 _ A31.out).mono ?_); rintro e w' ⟨rfl, ⟨nd, rfl⟩⟩) | (go_at_call 13; (with_reducible refine (date_Days.calls kj8 a0 a1 a2 t453 _ A32.out).mono ?_); rintro e w' ⟨rfl, ⟨nd, rfl⟩⟩; have hcz66_0 : w57.cell? ⟨gb442, 0, none⟩ = some (.int .i64 t434) := (blk_cell BK442.out 0).trans rfl; have hcz66_1 : w57.cell? ⟨gb442, 1, none⟩ = some (.int .i64 t435) := (blk_cell BK442.out 1).trans rfl; have hcz66_2 : w57.cell? ⟨gb442, 2, none⟩ = some (.int .i64 t436) := (blk_cell BK442.out 2).trans rfl; have hcz66_3 : w57.cell? ⟨gb442, 3, none⟩ = some (.int .i64 t437) := (blk_cell BK442.out 3).trans rfl; have hcz66_4 : w57.cell? ⟨gb442, 4, none⟩ = some (.int .i64 t438) := (blk_cell BK442.out 4).trans rfl; have hcz66_5 : w57.cell? ⟨gb442, 5, none⟩ = some (.int .i64 t439) := (blk_cell BK442.out 5).trans rfl; have hcz66_6 : w57.cell? ⟨gb442, 6, none⟩ = some (.bool t440) := (blk_cell BK442.out 6).trans rfl; have hcz66_7 : w57.cell? ⟨gb442, 7, none⟩ = some (.int .i64 t441) := (blk_cell BK442.out 7).trans rfl; have hfz66_0 := blk_frozen BK442.out 0; have hfz66_1 := blk_frozen BK442.out 1; have hfz66_2 := blk_frozen BK442.out 2; have hfz66_3 := blk_frozen BK442.out 3; have hfz66_4 := blk_frozen BK442.out 4; have hfz66_5 := blk_frozen BK442.out 5; have hfz66_6 := blk_frozen BK442.out 6; have hfz66_7 := blk_frozen BK442.out 7) | (go_at_call 13; (with_reducible refine (date_Days.calls kj8 t435 t436 t437 t454 _ A36.out).mono ?_); rintro e w' ⟨rfl, ⟨nd, rfl⟩⟩) | (go_at_call 13; (with_reducible refine (date_Days.calls kj8 a0 (wrap64 (a1 + a5)) a2 t455 _ A37.out).mono ?_); rintro e w' ⟨rfl, ⟨nd, rfl⟩⟩))
           go_ret
           exact ⟨by first | rfl | (simp [errW_none, errW_some] <;> rfl) | (simp [*, errW_none, errW_some] <;> rfl), by repeat (first | (with_reducible first | exact HB.out | apply below_alloc | apply pw_below_drewN | apply below_drew1 | refine below_set ?_ GE415.out | refine below_set ?_ GE424.out | refine below_set ?_ GE433.out | refine below_set ?_ GE442.out | refine below_set ?_ GE451.out) | exact HB.out)⟩
          ·rw [if_neg c35] at H
           have c35b0 : (t438 == a3) = false := beq_eq_false_iff_ne.mpr c35
           have c35b1 : (t438 != a3) = true := bne_iff_ne.mpr c35
           exact absurd ((Option.some.inj H).trans HRT.out) (by decide)
         ·rw [if_neg c34] at H
          have c34b0 : (t437 == a2) = false := beq_eq_false_iff_ne.mpr c34
          have c34b1 : (t437 != a2) = true := bne_iff_ne.mpr c34
          exact absurd ((Option.some.inj H).trans HRT.out) (by decide)
        ·rw [if_neg c33] at H
         have c33b0 : (t452 == (wrap64 (t453 + a4))) = false := beq_eq_false_iff_ne.mpr c33
         have c33b1 : (t452 != (wrap64 (t453 + a4))) = true := bne_iff_ne.mpr c33
         exact absurd ((Option.some.inj H).trans HRT.out) (by decide)
       ·rw [if_neg c30] at H
        have c30b0 : (t420 == a3) = false := beq_eq_false_iff_ne.mpr c30
        have c30b1 : (t420 != a3) = true := bne_iff_ne.mpr c30
        exact absurd ((Option.some.inj H).trans HRT.out) (by decide)
      ·rw [if_neg c29] at H
       have c29b0 : (t443 == 1 && (t444 == a0 && (t445 == a1 && (t446 == a2 && (t447 == a3 && (t448 == 0 && (!t449 && (t450 == 0)))))))) = false := by simpa using c29
       (try (have c29b1 : decide (t443 = 1 && (t444 == a0 && (t445 == a1 && (t446 == a2 && (t447 == a3 && (t448 == 0 && (!t449 && (t450 == 0)))))))) = false := by simpa using c29))
       (try (have c29b2 : (t443 == 1 && (t444 == a0 && (t445 == a1 && (t446 == a2 && (t447 == a3 && (t448 == 0 && (!t449 && (t450 == 0)))))))) = false := by simpa using c29))
       (try (have c29b3 : ¬ (t443 = 1 && (t444 == a0 && (t445 == a1 && (t446 == a2 && (t447 == a3 && (t448 == 0 && (!t449 && (t450 == 0)))))))) := by simpa using c29))
       clear c29
       exact absurd ((Option.some.inj H).trans HRT.out) (by decide)
     ·rw [if_neg c28] at H
      have c28b0 : (t425 == 1 && (t426 == a0 && (t427 == a1 && (t428 == a2 && (t429 == a3 && (t430 == 0 && (!t431 && (t432 == 0)))))))) = false := by simpa using c28
      (try (have c28b1 : decide (t425 = 1 && (t426 == a0 && (t427 == a1 && (t428 == a2 && (t429 == a3 && (t430 == 0 && (!t431 && (t432 == 0)))))))) = false := by simpa using c28))
      (try (have c28b2 : (t425 == 1 && (t426 == a0 && (t427 == a1 && (t428 == a2 && (t429 == a3 && (t430 == 0 && (!t431 && (t432 == 0)))))))) = false := by simpa using c28))
      (try (have c28b3 : ¬ (t425 = 1 && (t426 == a0 && (t427 == a1 && (t428 == a2 && (t429 == a3 && (t430 == 0 && (!t431 && (t432 == 0)))))))) := by simpa using c28))
      clear c28
      exact absurd ((Option.some.inj H).trans HRT.out) (by decide)
 ·replace c8 := Bool.eq_false_iff.mpr c8
  subst c8
  rw [if_neg (show ¬ (false = true) by decide)] at H
  try dsimp only at H
  exact absurd ((Option.some.inj H).trans HRT.out) (by decide)

/-- THE ONE PURE STATEMENT of rubriclaw6_DateAdds: yours. -/
def rubriclaw6_DateAdds.Pure : Prop := ∀ (a0 : Int) (a1 : Int) (a2 : Int) (a3 : Int) (a4 : Int) (a5 : Int), (Lit.int .i64 a0).wf = true → (Lit.int .i64 a1).wf = true → (Lit.int .i64 a2).wf = true → (Lit.int .i64 a3).wf = true → (Lit.int .i64 a4).wf = true → (Lit.int .i64 a5).wf = true → ∃ k, rubriclaw6_DateAdds.f k a0 a1 a2 a3 a4 a5 = some true
theorem rubriclaw6_DateAdds.walk (P : rubriclaw6_DateAdds.Pure) (a0 : Int) (a1 : Int) (a2 : Int) (a3 : Int) (a4 : Int) (a5 : Int) (w : World) (w0 : (Lit.int .i64 a0).wf = true) (w1 : (Lit.int .i64 a1).wf = true) (w2 : (Lit.int .i64 a2).wf = true) (w3 : (Lit.int .i64 a3).wf = true) (w4 : (Lit.int .i64 a4).wf = true) (w5 : (Lit.int .i64 a5).wf = true) :
  Calls Tryd.prog 5 #[.int .i64 a0, .int .i64 a1, .int .i64 a2, .int .i64 a3, .int .i64 a4, .int .i64 a5] w fun e w' => e = .returned (.bool true) ∧ Below w.heap.size w w' := by
 obtain ⟨k, h⟩ := P a0 a1 a2 a3 a4 a5 w0 w1 w2 w3 w4 w5
 refine (rubriclaw6_DateAdds.calls k a0 a1 a2 a3 a4 a5 true w h rfl).mono ?_
 rintro e w' ⟨rfl, hd⟩
 exact ⟨rfl, hd⟩

end Go.Proofs.YtehaonhgbmlmnaaDoor.Pr
