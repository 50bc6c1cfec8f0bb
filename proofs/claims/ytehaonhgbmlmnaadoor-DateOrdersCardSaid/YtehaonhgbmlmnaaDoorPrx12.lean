-- printed by wip/gprint.py (ours) out of the translation, by the kit's print program with given contracts
import Derived.Test.YtehaonhgbmlmnaaDoorG3
import Derived.Test.YtehaonhgbmlmnaaDoorPrx0
import Derived.Test.YtehaonhgbmlmnaaDoorPrx4
import Derived.Test.YtehaonhgbmlmnaaDoorPrx9
import Derived.Test.YtehaonhgbmlmnaaDoorPrx11
namespace Go.Proofs.YtehaonhgbmlmnaaDoor.Pr
open Go.RowKit Go.Proofs.YtehaonhgbmlmnaaDoorW.PrintWords Go.Proofs.YtehaonhgbmlmnaaDoorW.PrintLast Go.Proofs.YtehaonhgbmlmnaaDoorW.PrintMore
attribute [local go_sem] max2_int min2_int max_two min_two max_three min_three max_four min_four   -- for this text's walks alone
set_option linter.unusedVariables false
set_option linter.unusedSimpArgs false

/-! ### rubriclaw6_DateOrders: function 3 -/
mutual
def rubriclaw6_DateOrders.j0 : Nat → Int → ByteArray → ByteArray → ByteArray → Bool → Option (Bool)
 | 0, _, _, _, _, _ => none
 | k + 1, x0, x1, x2, x3, x32 => if x32 = true then (some true) else ((G.date_Parse.f k x0 x1).bind fun bt330 => ((G.date_Parse.f k x0 x2).bind fun bt340 => ((G.date_Parse.f k x0 x3).bind fun bt350 => (if bt330.2.2.2.2.2.2.2.2 = 0 then (if bt340.2.2.2.2.2.2.2.2 = 0 then (rubriclaw6_DateOrders.j1 k (bt350.2.2.2.2.2.2.2.2 != 0) bt330.1 bt330.2.1 bt330.2.2.1 bt330.2.2.2.1 bt330.2.2.2.2.1 bt330.2.2.2.2.2.1 bt330.2.2.2.2.2.2.1 bt330.2.2.2.2.2.2.2.1 bt340.1 bt340.2.1 bt340.2.2.1 bt340.2.2.2.1 bt340.2.2.2.2.1 bt340.2.2.2.2.2.1 bt340.2.2.2.2.2.2.1 bt340.2.2.2.2.2.2.2.1 bt350.1 bt350.2.1 bt350.2.2.1 bt350.2.2.2.1 bt350.2.2.2.2.1 bt350.2.2.2.2.2.1 bt350.2.2.2.2.2.2.1 bt350.2.2.2.2.2.2.2.1) else (rubriclaw6_DateOrders.j1 k true bt330.1 bt330.2.1 bt330.2.2.1 bt330.2.2.2.1 bt330.2.2.2.2.1 bt330.2.2.2.2.2.1 bt330.2.2.2.2.2.2.1 bt330.2.2.2.2.2.2.2.1 bt340.1 bt340.2.1 bt340.2.2.1 bt340.2.2.2.1 bt340.2.2.2.2.1 bt340.2.2.2.2.2.1 bt340.2.2.2.2.2.2.1 bt340.2.2.2.2.2.2.2.1 bt350.1 bt350.2.1 bt350.2.2.1 bt350.2.2.2.1 bt350.2.2.2.2.1 bt350.2.2.2.2.2.1 bt350.2.2.2.2.2.2.1 bt350.2.2.2.2.2.2.2.1)) else (rubriclaw6_DateOrders.j1 k true bt330.1 bt330.2.1 bt330.2.2.1 bt330.2.2.2.1 bt330.2.2.2.2.1 bt330.2.2.2.2.2.1 bt330.2.2.2.2.2.2.1 bt330.2.2.2.2.2.2.2.1 bt340.1 bt340.2.1 bt340.2.2.1 bt340.2.2.2.1 bt340.2.2.2.2.1 bt340.2.2.2.2.2.1 bt340.2.2.2.2.2.2.1 bt340.2.2.2.2.2.2.2.1 bt350.1 bt350.2.1 bt350.2.2.1 bt350.2.2.2.1 bt350.2.2.2.2.1 bt350.2.2.2.2.2.1 bt350.2.2.2.2.2.2.1 bt350.2.2.2.2.2.2.2.1)))))
def rubriclaw6_DateOrders.j1 : Nat → Bool → Int → Int → Int → Int → Int → Int → Bool → Int → Int → Int → Int → Int → Int → Int → Bool → Int → Int → Int → Int → Int → Int → Int → Bool → Int → Option (Bool)
 | 0, _, _, _, _, _, _, _, _, _, _, _, _, _, _, _, _, _, _, _, _, _, _, _, _, _ => none
 | k + 1, x60, x340000, x340001, x340002, x340003, x340004, x340005, x340006, x340007, x350000, x350001, x350002, x350003, x350004, x350005, x350006, x350007, x360000, x360001, x360002, x360003, x360004, x360005, x360006, x360007 => if x60 = true then (some true) else ((date_Cmp.f k x340000 x340001 x340002 x340003 x340004 x340005 x340006 x340007 x350000 x350001 x350002 x350003 x350004 x350005 x350006 x350007).bind fun t360 => ((date_Cmp.f k x350000 x350001 x350002 x350003 x350004 x350005 x350006 x350007 x340000 x340001 x340002 x340003 x340004 x340005 x340006 x340007).bind fun t361 => ((date_Cmp.f k x350000 x350001 x350002 x350003 x350004 x350005 x350006 x350007 x360000 x360001 x360002 x360003 x360004 x360005 x360006 x360007).bind fun t362 => ((rubricref6_Cmp.f k x340000 x340001 x340002 x340003 x340004 x340005 x340006 x340007 x350000 x350001 x350002 x350003 x350004 x350005 x350006 x350007).bind fun t363 => (if t360 = t363 then ((rubricref6_Cmp.f k x350000 x350001 x350002 x350003 x350004 x350005 x350006 x350007 x360000 x360001 x360002 x360003 x360004 x360005 x360006 x360007).bind fun t364 => (if t362 = t364 then ((date_Cmp.f k x340000 x340001 x340002 x340003 x340004 x340005 x340006 x340007 x340000 x340001 x340002 x340003 x340004 x340005 x340006 x340007).bind fun t365 => (rubriclaw6_DateOrders.j2 k t360 t361 t362 (t365 != 0) x340000 x340001 x340002 x340003 x340004 x340005 x340006 x340007 x350000 x350001 x350002 x350003 x350004 x350005 x350006 x350007 x360000 x360001 x360002 x360003 x360004 x360005 x360006 x360007)) else (rubriclaw6_DateOrders.j2 k t360 t361 t362 true x340000 x340001 x340002 x340003 x340004 x340005 x340006 x340007 x350000 x350001 x350002 x350003 x350004 x350005 x350006 x350007 x360000 x360001 x360002 x360003 x360004 x360005 x360006 x360007))) else (rubriclaw6_DateOrders.j2 k t360 t361 t362 true x340000 x340001 x340002 x340003 x340004 x340005 x340006 x340007 x350000 x350001 x350002 x350003 x350004 x350005 x350006 x350007 x360000 x360001 x360002 x360003 x360004 x360005 x360006 x360007))))))
def rubriclaw6_DateOrders.j2 : Nat → Int → Int → Int → Bool → Int → Int → Int → Int → Int → Int → Bool → Int → Int → Int → Int → Int → Int → Int → Bool → Int → Int → Int → Int → Int → Int → Int → Bool → Int → Option (Bool)
 | 0, _, _, _, _, _, _, _, _, _, _, _, _, _, _, _, _, _, _, _, _, _, _, _, _, _, _, _, _ => none
 | k + 1, x15, x16, x17, x87, x340000, x340001, x340002, x340003, x340004, x340005, x340006, x340007, x350000, x350001, x350002, x350003, x350004, x350005, x350006, x350007, x360000, x360001, x360002, x360003, x360004, x360005, x360006, x360007 => if x87 = true then (some false) else (if x15 = 2 then (if x16 = 2 then (if x15 = (-1) then (if x17 = (-1) then (if (x340006 != x350006) = true then (some true) else (if (x350006 != x360006) = true then (some true) else ((date_Cmp.f k x340000 x340001 x340002 x340003 x340004 x340005 x340006 x340007 x360000 x360001 x360002 x360003 x360004 x360005 x360006 x360007).bind fun t366 => (some (t366 == (-1)))))) else (some true)) else (some true)) else (some false)) else (if x16 = (wrap64 (-x15)) then (if x15 = (-1) then (if x17 = (-1) then (if (x340006 != x350006) = true then (some true) else (if (x350006 != x360006) = true then (some true) else ((date_Cmp.f k x340000 x340001 x340002 x340003 x340004 x340005 x340006 x340007 x360000 x360001 x360002 x360003 x360004 x360005 x360006 x360007).bind fun t367 => (some (t367 == (-1)))))) else (some true)) else (some true)) else (some false)))
end
def rubriclaw6_DateOrders.f (k : Nat) (a0 : Int) (a1 : ByteArray) (a2 : ByteArray) (a3 : ByteArray) : Option (Bool) := (rubriclaw6_known.f k).bind fun t329 => (if t329 = true then (if (a1.size : Int) > 200 then (rubriclaw6_DateOrders.j0 k a0 a1 a2 a3 true) else (if (a2.size : Int) > 200 then (rubriclaw6_DateOrders.j0 k a0 a1 a2 a3 true) else (rubriclaw6_DateOrders.j0 k a0 a1 a2 a3 (decide ((a3.size : Int) > 200))))) else (some false))
theorem rubriclaw6_DateOrders.mono_l : ∀ k, (∀ y0 y1 y2 y3 y4, LeO (rubriclaw6_DateOrders.j0 k y0 y1 y2 y3 y4) (rubriclaw6_DateOrders.j0 (k + 1) y0 y1 y2 y3 y4)) ∧ (∀ y0 y1 y2 y3 y4 y5 y6 y7 y8 y9 y10 y11 y12 y13 y14 y15 y16 y17 y18 y19 y20 y21 y22 y23 y24, LeO (rubriclaw6_DateOrders.j1 k y0 y1 y2 y3 y4 y5 y6 y7 y8 y9 y10 y11 y12 y13 y14 y15 y16 y17 y18 y19 y20 y21 y22 y23 y24) (rubriclaw6_DateOrders.j1 (k + 1) y0 y1 y2 y3 y4 y5 y6 y7 y8 y9 y10 y11 y12 y13 y14 y15 y16 y17 y18 y19 y20 y21 y22 y23 y24)) ∧ (∀ y0 y1 y2 y3 y4 y5 y6 y7 y8 y9 y10 y11 y12 y13 y14 y15 y16 y17 y18 y19 y20 y21 y22 y23 y24 y25 y26 y27, LeO (rubriclaw6_DateOrders.j2 k y0 y1 y2 y3 y4 y5 y6 y7 y8 y9 y10 y11 y12 y13 y14 y15 y16 y17 y18 y19 y20 y21 y22 y23 y24 y25 y26 y27) (rubriclaw6_DateOrders.j2 (k + 1) y0 y1 y2 y3 y4 y5 y6 y7 y8 y9 y10 y11 y12 y13 y14 y15 y16 y17 y18 y19 y20 y21 y22 y23 y24 y25 y26 y27))
 | 0 => ⟨fun _ _ _ _ _ r h => by simp [rubriclaw6_DateOrders.j0] at h, fun _ _ _ _ _ _ _ _ _ _ _ _ _ _ _ _ _ _ _ _ _ _ _ _ _ r h => by simp [rubriclaw6_DateOrders.j1] at h, fun _ _ _ _ _ _ _ _ _ _ _ _ _ _ _ _ _ _ _ _ _ _ _ _ _ _ _ _ r h => by simp [rubriclaw6_DateOrders.j2] at h⟩
 | k + 1 => by
  obtain ⟨ih0, ih1, ih2⟩ := rubriclaw6_DateOrders.mono_l k
  refine ⟨?_, ?_, ?_⟩
  ·intro y0 y1 y2 y3 y4
   unfold rubriclaw6_DateOrders.j0
   repeat' first
   | (with_reducible exact ih0 _ _ _ _ _)
   | (with_reducible exact ih1 _ _ _ _ _ _ _ _ _ _ _ _ _ _ _ _ _ _ _ _ _ _ _ _ _)
   | (with_reducible exact ih2 _ _ _ _ _ _ _ _ _ _ _ _ _ _ _ _ _ _ _ _ _ _ _ _ _ _ _ _)
   | (with_reducible exact G.date_Parse.mono _ _ _)
   | (with_reducible exact date_Cmp.mono _ _ _ _ _ _ _ _ _ _ _ _ _ _ _ _ _)
   | (with_reducible exact rubriclaw6_known.mono _)
   | (with_reducible exact rubricref6_Cmp.mono _ _ _ _ _ _ _ _ _ _ _ _ _ _ _ _ _)
   | (with_reducible exact LeO.refl _)
   | (with_reducible exact LeO.none _)
   | (with_reducible refine LeO.ite ?_ ?_)
   | (with_reducible refine LeO.bind ?_ (fun _ => ?_))
   | exact ih0 _ _ _ _ _
   | exact ih1 _ _ _ _ _ _ _ _ _ _ _ _ _ _ _ _ _ _ _ _ _ _ _ _ _
   | exact ih2 _ _ _ _ _ _ _ _ _ _ _ _ _ _ _ _ _ _ _ _ _ _ _ _ _ _ _ _
   | exact G.date_Parse.mono _ _ _
   | exact date_Cmp.mono _ _ _ _ _ _ _ _ _ _ _ _ _ _ _ _ _
   | exact rubriclaw6_known.mono _
   | exact rubricref6_Cmp.mono _ _ _ _ _ _ _ _ _ _ _ _ _ _ _ _ _
   | exact LeO.none _
   | refine LeO.ite ?_ ?_
   | refine LeO.bind ?_ (fun _ => ?_)
  ·intro y0 y1 y2 y3 y4 y5 y6 y7 y8 y9 y10 y11 y12 y13 y14 y15 y16 y17 y18 y19 y20 y21 y22 y23 y24
   unfold rubriclaw6_DateOrders.j1
   repeat' first
   | (with_reducible exact ih0 _ _ _ _ _)
   | (with_reducible exact ih1 _ _ _ _ _ _ _ _ _ _ _ _ _ _ _ _ _ _ _ _ _ _ _ _ _)
   | (with_reducible exact ih2 _ _ _ _ _ _ _ _ _ _ _ _ _ _ _ _ _ _ _ _ _ _ _ _ _ _ _ _)
   | (with_reducible exact G.date_Parse.mono _ _ _)
   | (with_reducible exact date_Cmp.mono _ _ _ _ _ _ _ _ _ _ _ _ _ _ _ _ _)
   | (with_reducible exact rubriclaw6_known.mono _)
   | (with_reducible exact rubricref6_Cmp.mono _ _ _ _ _ _ _ _ _ _ _ _ _ _ _ _ _)
   | (with_reducible exact LeO.refl _)
   | (with_reducible exact LeO.none _)
   | (with_reducible refine LeO.ite ?_ ?_)
   | (with_reducible refine LeO.bind ?_ (fun _ => ?_))
   | exact ih0 _ _ _ _ _
   | exact ih1 _ _ _ _ _ _ _ _ _ _ _ _ _ _ _ _ _ _ _ _ _ _ _ _ _
   | exact ih2 _ _ _ _ _ _ _ _ _ _ _ _ _ _ _ _ _ _ _ _ _ _ _ _ _ _ _ _
   | exact G.date_Parse.mono _ _ _
   | exact date_Cmp.mono _ _ _ _ _ _ _ _ _ _ _ _ _ _ _ _ _
   | exact rubriclaw6_known.mono _
   | exact rubricref6_Cmp.mono _ _ _ _ _ _ _ _ _ _ _ _ _ _ _ _ _
   | exact LeO.none _
   | refine LeO.ite ?_ ?_
   | refine LeO.bind ?_ (fun _ => ?_)
  ·intro y0 y1 y2 y3 y4 y5 y6 y7 y8 y9 y10 y11 y12 y13 y14 y15 y16 y17 y18 y19 y20 y21 y22 y23 y24 y25 y26 y27
   unfold rubriclaw6_DateOrders.j2
   repeat' first
   | (with_reducible exact ih0 _ _ _ _ _)
   | (with_reducible exact ih1 _ _ _ _ _ _ _ _ _ _ _ _ _ _ _ _ _ _ _ _ _ _ _ _ _)
   | (with_reducible exact ih2 _ _ _ _ _ _ _ _ _ _ _ _ _ _ _ _ _ _ _ _ _ _ _ _ _ _ _ _)
   | (with_reducible exact G.date_Parse.mono _ _ _)
   | (with_reducible exact date_Cmp.mono _ _ _ _ _ _ _ _ _ _ _ _ _ _ _ _ _)
   | (with_reducible exact rubriclaw6_known.mono _)
   | (with_reducible exact rubricref6_Cmp.mono _ _ _ _ _ _ _ _ _ _ _ _ _ _ _ _ _)
   | (with_reducible exact LeO.refl _)
   | (with_reducible exact LeO.none _)
   | (with_reducible refine LeO.ite ?_ ?_)
   | (with_reducible refine LeO.bind ?_ (fun _ => ?_))
   | exact ih0 _ _ _ _ _
   | exact ih1 _ _ _ _ _ _ _ _ _ _ _ _ _ _ _ _ _ _ _ _ _ _ _ _ _
   | exact ih2 _ _ _ _ _ _ _ _ _ _ _ _ _ _ _ _ _ _ _ _ _ _ _ _ _ _ _ _
   | exact G.date_Parse.mono _ _ _
   | exact date_Cmp.mono _ _ _ _ _ _ _ _ _ _ _ _ _ _ _ _ _
   | exact rubriclaw6_known.mono _
   | exact rubricref6_Cmp.mono _ _ _ _ _ _ _ _ _ _ _ _ _ _ _ _ _
   | exact LeO.none _
   | refine LeO.ite ?_ ?_
   | refine LeO.bind ?_ (fun _ => ?_)
theorem rubriclaw6_DateOrders.mono : ∀ a0 a1 a2 a3 k, LeO (rubriclaw6_DateOrders.f k a0 a1 a2 a3) (rubriclaw6_DateOrders.f (k + 1) a0 a1 a2 a3) := by
 intro a0 a1 a2 a3 k
 obtain ⟨ih0, ih1, ih2⟩ := rubriclaw6_DateOrders.mono_l k
 unfold rubriclaw6_DateOrders.f
 repeat' first
   | (with_reducible exact ih0 _ _ _ _ _)
   | (with_reducible exact ih1 _ _ _ _ _ _ _ _ _ _ _ _ _ _ _ _ _ _ _ _ _ _ _ _ _)
   | (with_reducible exact ih2 _ _ _ _ _ _ _ _ _ _ _ _ _ _ _ _ _ _ _ _ _ _ _ _ _ _ _ _)
   | (with_reducible exact G.date_Parse.mono _ _ _)
   | (with_reducible exact date_Cmp.mono _ _ _ _ _ _ _ _ _ _ _ _ _ _ _ _ _)
   | (with_reducible exact rubriclaw6_known.mono _)
   | (with_reducible exact rubricref6_Cmp.mono _ _ _ _ _ _ _ _ _ _ _ _ _ _ _ _ _)
   | (with_reducible exact LeO.refl _)
   | (with_reducible exact LeO.none _)
   | (with_reducible refine LeO.ite ?_ ?_)
   | (with_reducible refine LeO.bind ?_ (fun _ => ?_))
   | exact ih0 _ _ _ _ _
   | exact ih1 _ _ _ _ _ _ _ _ _ _ _ _ _ _ _ _ _ _ _ _ _ _ _ _ _
   | exact ih2 _ _ _ _ _ _ _ _ _ _ _ _ _ _ _ _ _ _ _ _ _ _ _ _ _ _ _ _
   | exact G.date_Parse.mono _ _ _
   | exact date_Cmp.mono _ _ _ _ _ _ _ _ _ _ _ _ _ _ _ _ _
   | exact rubriclaw6_known.mono _
   | exact rubricref6_Cmp.mono _ _ _ _ _ _ _ _ _ _ _ _ _ _ _ _ _
   | exact LeO.none _
   | refine LeO.ite ?_ ?_
   | refine LeO.bind ?_ (fun _ => ?_)
set_option maxHeartbeats 8000000 in
set_option maxRecDepth 100000 in
theorem rubriclaw6_DateOrders.calls (k : Nat) (a0 : Int) (a1 : ByteArray) (a2 : ByteArray) (a3 : ByteArray) (r : Bool) (w : World) (h : rubriclaw6_DateOrders.f k a0 a1 a2 a3 = some r) (hrt : r = true) :
  Calls Tryd.prog 3 #[.int .i64 a0, .string a1, .string a2, .string a3] w fun e w' => e = .returned (.bool r) ∧ Below w.heap.size w w' := by
 have hu24 := Tryd.underlying24
 have HB := Aside0.mk (Below.refl w.heap.size w)
 have HRT := Aside0.mk hrt
 clear hrt
 have H : ((rubriclaw6_known.f k).bind fun t329 => (if t329 = true then (if (a1.size : Int) > 200 then (rubriclaw6_DateOrders.j0 k a0 a1 a2 a3 true) else (if (a2.size : Int) > 200 then (rubriclaw6_DateOrders.j0 k a0 a1 a2 a3 true) else (rubriclaw6_DateOrders.j0 k a0 a1 a2 a3 (decide ((a3.size : Int) > 200))))) else (some false))) = some r := h
 clear h
 replace H := Option.bind_eq_some_iff.mp H
 obtain ⟨t329, A50, H⟩ := H
 try dsimp only at H
 have A5 := Aside0.mk A50
 clear A50
 by_cases c6 : t329 = true
 ·subst c6
  rw [if_pos rfl] at H
  try dsimp only at H
  have HC7 := Aside0.mk H
  clear H
  go_enter Tryd.func3, Tryd.ntmps3
  go_upto_region 3 with (first | ((with_reducible refine gate_callee (f := 7) rfl ?_); refine goesL_ (some 18) rfl rfl Tryd.func7 (by kernel_rfl) rfl #[] rfl (by (try simp only [List.map_toArray, List.map_cons, List.map_nil]); first | done | rfl | (simp only [List.length_drop, List.length_take]; rfl)) ?_; (with_reducible refine (rubriclaw6_known.calls k  true _ A5.out rfl).mono ?_); rintro e w8 ⟨rfl, hb⟩; refine ⟨_, rfl, ?_⟩; have n0_ := Aside0.mk (below_step (by repeat (first | (with_reducible first | exact HB.out | apply below_alloc | apply pw_below_drewN | apply below_drew1) | exact HB.out)) hb); clear HB; have HB := n0_; clear n0_; (try clear hb); (try clear hb2); (try clear hk); (try clear hi)))
  (try simp only [Act.put, List.setIfInBounds_toArray, List.set_cons_zero, List.set_cons_succ])
  go_cut [32] (fun v32 wc => ∃ (kq : Nat) (x32_6 : Bool), v32 = .bool x32_6 ∧ Aside0 (rubriclaw6_DateOrders.j0 kq a0 a1 a2 a3 x32_6 = some r) ∧ Aside0 (kq ≤ k) ∧ Aside0 (Below w.heap.size w wc))
  case first =>
   have H := HC7.out
   clear HC7
   by_cases c9 : (a1.size : Int) > 200
   ·rw [if_pos c9] at H
    have c9b0 : decide (200 < (a1.size : Int)) = true := decide_eq_true c9
    have c9b1 : decide (200 < a1.size) = true := decide_eq_true (by omega)
    clear c9
    (first | rw [c9b0] | (simp only [i64_w, i32_w]; rw [c9b0]) | skip)
    have H' := Aside0.mk H
    clear H
    go_wp2
    go_meet
    case rel => exact ⟨_, (true), (by first | rfl | (simp; done) | (simp [*]; done)), H', ⟨by first | omega | exact Nat.le_refl _⟩, ⟨by repeat (first | (with_reducible first | exact HB.out | apply below_alloc | apply pw_below_drewN | apply below_drew1) | exact HB.out)⟩⟩
   ·rw [if_neg c9] at H
    have c9b0 : decide (200 < (a1.size : Int)) = false := decide_eq_false c9
    have c9b1 : decide (200 < a1.size) = false := decide_eq_false (by omega)
    clear c9
    (first | rw [c9b0] | (simp only [i64_w, i32_w]; rw [c9b0]) | skip)
    by_cases c10 : (a2.size : Int) > 200
    ·rw [if_pos c10] at H
     have c10b0 : decide (200 < (a2.size : Int)) = true := decide_eq_true c10
     have c10b1 : decide (200 < a2.size) = true := decide_eq_true (by omega)
     clear c10
     have H' := Aside0.mk H
     clear H
     go_wp2
     go_meet
     case rel => exact ⟨_, (true), (by first | rfl | (simp; done) | (simp [*]; done)), H', ⟨by first | omega | exact Nat.le_refl _⟩, ⟨by repeat (first | (with_reducible first | exact HB.out | apply below_alloc | apply pw_below_drewN | apply below_drew1) | exact HB.out)⟩⟩
    ·rw [if_neg c10] at H
     have c10b0 : decide (200 < (a2.size : Int)) = false := decide_eq_false c10
     have c10b1 : decide (200 < a2.size) = false := decide_eq_false (by omega)
     clear c10
     have H' := Aside0.mk H
     clear H
     go_wp2
     go_meet
     case rel => exact ⟨_, (decide ((a3.size : Int) > 200)), (by first | rfl | (simp; done) | (simp [*]; done)), H', ⟨by first | omega | exact Nat.le_refl _⟩, ⟨by repeat (first | (with_reducible first | exact HB.out | apply below_alloc | apply pw_below_drewN | apply below_drew1) | exact HB.out)⟩⟩
  case rest =>
   clear HC7
   (try clear c1); (try clear p2); (try clear c3); (try clear c6); (try clear c7); (try clear c9); (try clear c9b0); (try clear c9b1); (try clear c10); (try clear c10b0); (try clear c10b1)
   obtain ⟨kq, x32_6, rfl, HA, HJ6, HB⟩ := hcut
   cases kq with
   | zero => exact absurd HA.out (by simp [rubriclaw6_DateOrders.j0])
   | succ kj6 =>
    have H := HA.out
    clear HA
    simp only [rubriclaw6_DateOrders.j0] at H
    by_cases c11 : x32_6 = true
    ·subst c11
     rw [if_pos rfl] at H
     try dsimp only at H
     obtain rfl := Option.some.inj H
     go_wp2
     go_ret
     exact ⟨by first | rfl | (simp [errW_none, errW_some] <;> rfl) | (simp [*, errW_none, errW_some] <;> rfl), by repeat (first | (with_reducible first | exact HB.out | apply below_alloc | apply pw_below_drewN | apply below_drew1) | exact HB.out)⟩
    ·replace c11 := Bool.eq_false_iff.mpr c11
     subst c11
     rw [if_neg (show ¬ (false = true) by decide)] at H
     try dsimp only at H
     replace H := Option.bind_eq_some_iff.mp H
     obtain ⟨⟨t330, t331, t332, t333, t334, t335, t336, t337, t338⟩, A120, H⟩ := H
     try dsimp only at H
     have A12 := Aside0.mk A120
     clear A120
     replace H := Option.bind_eq_some_iff.mp H
     obtain ⟨⟨t340, t341, t342, t343, t344, t345, t346, t347, t348⟩, A130, H⟩ := H
     try dsimp only at H
     have A13 := Aside0.mk A130
     clear A130
     replace H := Option.bind_eq_some_iff.mp H
     obtain ⟨⟨t350, t351, t352, t353, t354, t355, t356, t357, t358⟩, A140, H⟩ := H
     try dsimp only at H
     have A14 := Aside0.mk A140
     clear A140
     have HC15 := Aside0.mk H
     clear H
     go_upto_region 8 with (first | ((with_reducible refine gate_callee (f := 8) rfl ?_); refine goesL_ (some 36) rfl rfl Tryd.func8 (by kernel_rfl) rfl #[.int .i64 a0, .string a1] rfl (by (try simp only [List.map_toArray, List.map_cons, List.map_nil]); first | done | rfl | (simp only [List.length_drop, List.length_take]; rfl)) ?_; (with_reducible refine (G.date_Parse.calls kj6 a0 a1 t330 t331 t332 t333 t334 t335 t336 t337 t338 _ A12.out).mono ?_); rintro e w16 ⟨rfl, hb⟩; refine ⟨_, rfl, ?_⟩; have n0_ := Aside0.mk (below_step (by repeat (first | (with_reducible first | exact HB.out | apply below_alloc | apply pw_below_drewN | apply below_drew1) | exact HB.out)) hb); clear HB; have HB := n0_; clear n0_; (try clear hb); (try clear hb2); (try clear hk); (try clear hi)) | ((with_reducible refine gate_dst (N := 9) rfl ?_); (try (refine gate_guard (by rfl) ?_; dsimp only)); refine box_event ?hg (N := 9) ?hd (cs := #[.int .i64 0, .int .i64 0, .int .i64 0, .int .i64 0, .int .i64 0, .int .i64 0, .bool false, .int .i64 0]) (t := 24) ?hr ?_; (case hd => rfl); (case hg => rfl); (case hr => first | (go_simp; done) | (go_simp; rfl)); intro gb339 hg w17 hbox hb; have n0_ := Aside0.mk (below_step (by repeat (first | (with_reducible first | exact HB.out | apply below_alloc | apply pw_below_drewN | apply below_drew1) | exact HB.out)) hb); have n1_ := Aside0.mk (hbox); have n2_ := Aside0.mk ((by rw [hg]; exact (below_size (by repeat (first | (with_reducible first | exact HB.out | apply below_alloc | apply pw_below_drewN | apply below_drew1) | exact HB.out))) : w.heap.size ≤ gb339)); have n3_ := Aside0.mk ((by rw [hg]; exact (below_size (by repeat (first | (with_reducible first | exact HB.out | apply below_alloc | apply pw_below_drewN | apply below_drew1) | exact HB.out))) : w.heap.size ≤ gb339)); clear HB; have HB := n0_; have BK339 := n1_; have GW339 := n2_; have GE339 := n3_; clear n0_ n1_ n2_ n3_; clear hb hbox hg; have hcz18_0 : w17.cell? ⟨gb339, 0, none⟩ = some (.int .i64 0) := (blk_cell BK339.out 0).trans rfl; have hcz18_1 : w17.cell? ⟨gb339, 1, none⟩ = some (.int .i64 0) := (blk_cell BK339.out 1).trans rfl; have hcz18_2 : w17.cell? ⟨gb339, 2, none⟩ = some (.int .i64 0) := (blk_cell BK339.out 2).trans rfl; have hcz18_3 : w17.cell? ⟨gb339, 3, none⟩ = some (.int .i64 0) := (blk_cell BK339.out 3).trans rfl; have hcz18_4 : w17.cell? ⟨gb339, 4, none⟩ = some (.int .i64 0) := (blk_cell BK339.out 4).trans rfl; have hcz18_5 : w17.cell? ⟨gb339, 5, none⟩ = some (.int .i64 0) := (blk_cell BK339.out 5).trans rfl; have hcz18_6 : w17.cell? ⟨gb339, 6, none⟩ = some (.bool false) := (blk_cell BK339.out 6).trans rfl; have hcz18_7 : w17.cell? ⟨gb339, 7, none⟩ = some (.int .i64 0) := (blk_cell BK339.out 7).trans rfl; have hfz18_0 := blk_frozen BK339.out 0; have hfz18_1 := blk_frozen BK339.out 1; have hfz18_2 := blk_frozen BK339.out 2; have hfz18_3 := blk_frozen BK339.out 3; have hfz18_4 := blk_frozen BK339.out 4; have hfz18_5 := blk_frozen BK339.out 5; have hfz18_6 := blk_frozen BK339.out 6; have hfz18_7 := blk_frozen BK339.out 7) | ((with_reducible refine gate_callee (f := 8) rfl ?_); refine goesL_ (some 42) rfl rfl Tryd.func8 (by kernel_rfl) rfl #[.int .i64 a0, .string a2] rfl (by (try simp only [List.map_toArray, List.map_cons, List.map_nil]); first | done | rfl | (simp only [List.length_drop, List.length_take]; rfl)) ?_; (with_reducible refine (G.date_Parse.calls kj6 a0 a2 t340 t341 t342 t343 t344 t345 t346 t347 t348 _ A13.out).mono ?_); rintro e w19 ⟨rfl, hb⟩; refine ⟨_, rfl, ?_⟩; have n0_ := Aside0.mk (blk_below (g := gb339) (o := .cells #[.int .i64 t330, .int .i64 t331, .int .i64 t332, .int .i64 t333, .int .i64 t334, .int .i64 t335, .bool t336, .int .i64 t337] 24 (0, 0)) (by (with_reducible repeat (first | refine blk_drewN ?_ _ | refine blk_drew ?_ | refine blk_alloc ?_ _)); refine blk_put (cs := #[.int .i64 t330, .int .i64 t331, .int .i64 t332, .int .i64 t333, .int .i64 t334, .int .i64 t335, .bool t336, .int .i64 0]) ?_ 7 _ rfl; (with_reducible repeat (first | refine blk_drewN ?_ _ | refine blk_drew ?_ | refine blk_alloc ?_ _)); refine blk_put (cs := #[.int .i64 t330, .int .i64 t331, .int .i64 t332, .int .i64 t333, .int .i64 t334, .int .i64 t335, .bool false, .int .i64 0]) ?_ 6 _ rfl; (with_reducible repeat (first | refine blk_drewN ?_ _ | refine blk_drew ?_ | refine blk_alloc ?_ _)); refine blk_put (cs := #[.int .i64 t330, .int .i64 t331, .int .i64 t332, .int .i64 t333, .int .i64 t334, .int .i64 0, .bool false, .int .i64 0]) ?_ 5 _ rfl; (with_reducible repeat (first | refine blk_drewN ?_ _ | refine blk_drew ?_ | refine blk_alloc ?_ _)); refine blk_put (cs := #[.int .i64 t330, .int .i64 t331, .int .i64 t332, .int .i64 t333, .int .i64 0, .int .i64 0, .bool false, .int .i64 0]) ?_ 4 _ rfl; (with_reducible repeat (first | refine blk_drewN ?_ _ | refine blk_drew ?_ | refine blk_alloc ?_ _)); refine blk_put (cs := #[.int .i64 t330, .int .i64 t331, .int .i64 t332, .int .i64 0, .int .i64 0, .int .i64 0, .bool false, .int .i64 0]) ?_ 3 _ rfl; (with_reducible repeat (first | refine blk_drewN ?_ _ | refine blk_drew ?_ | refine blk_alloc ?_ _)); refine blk_put (cs := #[.int .i64 t330, .int .i64 t331, .int .i64 0, .int .i64 0, .int .i64 0, .int .i64 0, .bool false, .int .i64 0]) ?_ 2 _ rfl; (with_reducible repeat (first | refine blk_drewN ?_ _ | refine blk_drew ?_ | refine blk_alloc ?_ _)); refine blk_put (cs := #[.int .i64 t330, .int .i64 0, .int .i64 0, .int .i64 0, .int .i64 0, .int .i64 0, .bool false, .int .i64 0]) ?_ 1 _ rfl; (with_reducible repeat (first | refine blk_drewN ?_ _ | refine blk_drew ?_ | refine blk_alloc ?_ _)); refine blk_put (cs := #[.int .i64 0, .int .i64 0, .int .i64 0, .int .i64 0, .int .i64 0, .int .i64 0, .bool false, .int .i64 0]) ?_ 0 _ rfl; (with_reducible repeat (first | refine blk_drewN ?_ _ | refine blk_drew ?_ | refine blk_alloc ?_ _)); exact BK339.out) hb); have n1_ := Aside0.mk (below_step (by repeat (first | (with_reducible first | exact HB.out | apply below_alloc | apply pw_below_drewN | apply below_drew1 | refine below_set ?_ GE339.out) | exact HB.out)) hb); clear BK339; clear HB; have BK339 := n0_; have HB := n1_; clear n0_ n1_; (try clear hb); (try clear hb2); (try clear hk); (try clear hi)) | ((with_reducible refine gate_dst (N := 11) rfl ?_); (try (refine gate_guard (by rfl) ?_; dsimp only)); refine box_event ?hg (N := 11) ?hd (cs := #[.int .i64 0, .int .i64 0, .int .i64 0, .int .i64 0, .int .i64 0, .int .i64 0, .bool false, .int .i64 0]) (t := 24) ?hr ?_; (case hd => rfl); (case hg => rfl); (case hr => first | (go_simp; done) | (go_simp; rfl)); intro gb349 hg w20 hbox hb; have n0_ := Aside0.mk (blk_below (S.b BK339.out) hb); have n1_ := Aside0.mk (below_step (by repeat (first | (with_reducible first | exact HB.out | apply below_alloc | apply pw_below_drewN | apply below_drew1 | refine below_set ?_ GE339.out) | exact HB.out)) hb); have n2_ := Aside0.mk (hbox); have n3_ := Aside0.mk ((by rw [hg]; exact (below_size (by repeat (first | (with_reducible first | exact HB.out | apply below_alloc | apply pw_below_drewN | apply below_drew1 | refine below_set ?_ GE339.out) | exact HB.out))) : w.heap.size ≤ gb349)); have n4_ := Aside0.mk ((by rw [hg]; exact (below_size (by repeat (first | (with_reducible first | exact HB.out | apply below_alloc | apply pw_below_drewN | apply below_drew1 | refine below_set ?_ GE339.out) | exact HB.out))) : w.heap.size ≤ gb349)); have n5_ := Aside0.mk ((by rw [hg]; exact Nat.ne_of_lt (blk_lt (S.b BK339.out)) : gb339 ≠ gb349)); have n6_ := Aside0.mk ((by rw [hg]; exact Nat.ne_of_gt (blk_lt (S.b BK339.out)) : gb349 ≠ gb339)); clear BK339; clear HB; have BK339 := n0_; have HB := n1_; have BK349 := n2_; have GW349 := n3_; have GE349 := n4_; have NB339_349 := n5_; have NB349_339 := n6_; clear n0_ n1_ n2_ n3_ n4_ n5_ n6_; clear hb hbox hg; have hnb21 := NB349_339.out; have hnc21 := NB339_349.out; have hcz22_0 : w20.cell? ⟨gb349, 0, none⟩ = some (.int .i64 0) := (blk_cell BK349.out 0).trans rfl; have hcz22_1 : w20.cell? ⟨gb349, 1, none⟩ = some (.int .i64 0) := (blk_cell BK349.out 1).trans rfl; have hcz22_2 : w20.cell? ⟨gb349, 2, none⟩ = some (.int .i64 0) := (blk_cell BK349.out 2).trans rfl; have hcz22_3 : w20.cell? ⟨gb349, 3, none⟩ = some (.int .i64 0) := (blk_cell BK349.out 3).trans rfl; have hcz22_4 : w20.cell? ⟨gb349, 4, none⟩ = some (.int .i64 0) := (blk_cell BK349.out 4).trans rfl; have hcz22_5 : w20.cell? ⟨gb349, 5, none⟩ = some (.int .i64 0) := (blk_cell BK349.out 5).trans rfl; have hcz22_6 : w20.cell? ⟨gb349, 6, none⟩ = some (.bool false) := (blk_cell BK349.out 6).trans rfl; have hcz22_7 : w20.cell? ⟨gb349, 7, none⟩ = some (.int .i64 0) := (blk_cell BK349.out 7).trans rfl; have hfz22_0 := blk_frozen BK349.out 0; have hfz22_1 := blk_frozen BK349.out 1; have hfz22_2 := blk_frozen BK349.out 2; have hfz22_3 := blk_frozen BK349.out 3; have hfz22_4 := blk_frozen BK349.out 4; have hfz22_5 := blk_frozen BK349.out 5; have hfz22_6 := blk_frozen BK349.out 6; have hfz22_7 := blk_frozen BK349.out 7) | ((with_reducible refine gate_callee (f := 8) rfl ?_); refine goesL_ (some 48) rfl rfl Tryd.func8 (by kernel_rfl) rfl #[.int .i64 a0, .string a3] rfl (by (try simp only [List.map_toArray, List.map_cons, List.map_nil]); first | done | rfl | (simp only [List.length_drop, List.length_take]; rfl)) ?_; (with_reducible refine (G.date_Parse.calls kj6 a0 a3 t350 t351 t352 t353 t354 t355 t356 t357 t358 _ A14.out).mono ?_); rintro e w23 ⟨rfl, hb⟩; refine ⟨_, rfl, ?_⟩; have n0_ := Aside0.mk (blk_below (g := gb339) (o := .cells #[.int .i64 t330, .int .i64 t331, .int .i64 t332, .int .i64 t333, .int .i64 t334, .int .i64 t335, .bool t336, .int .i64 t337] 24 (0, 0)) (by (with_reducible repeat (first | refine blk_drewN ?_ _ | refine blk_drew ?_ | refine blk_alloc ?_ _)); refine blk_far ?_ NB339_349.out _; (with_reducible repeat (first | refine blk_drewN ?_ _ | refine blk_drew ?_ | refine blk_alloc ?_ _)); refine blk_far ?_ NB339_349.out _; (with_reducible repeat (first | refine blk_drewN ?_ _ | refine blk_drew ?_ | refine blk_alloc ?_ _)); refine blk_far ?_ NB339_349.out _; (with_reducible repeat (first | refine blk_drewN ?_ _ | refine blk_drew ?_ | refine blk_alloc ?_ _)); refine blk_far ?_ NB339_349.out _; (with_reducible repeat (first | refine blk_drewN ?_ _ | refine blk_drew ?_ | refine blk_alloc ?_ _)); refine blk_far ?_ NB339_349.out _; (with_reducible repeat (first | refine blk_drewN ?_ _ | refine blk_drew ?_ | refine blk_alloc ?_ _)); refine blk_far ?_ NB339_349.out _; (with_reducible repeat (first | refine blk_drewN ?_ _ | refine blk_drew ?_ | refine blk_alloc ?_ _)); refine blk_far ?_ NB339_349.out _; (with_reducible repeat (first | refine blk_drewN ?_ _ | refine blk_drew ?_ | refine blk_alloc ?_ _)); refine blk_far ?_ NB339_349.out _; (with_reducible repeat (first | refine blk_drewN ?_ _ | refine blk_drew ?_ | refine blk_alloc ?_ _)); exact BK339.out) hb); have n1_ := Aside0.mk (blk_below (g := gb349) (o := .cells #[.int .i64 t340, .int .i64 t341, .int .i64 t342, .int .i64 t343, .int .i64 t344, .int .i64 t345, .bool t346, .int .i64 t347] 24 (0, 0)) (by (with_reducible repeat (first | refine blk_drewN ?_ _ | refine blk_drew ?_ | refine blk_alloc ?_ _)); refine blk_put (cs := #[.int .i64 t340, .int .i64 t341, .int .i64 t342, .int .i64 t343, .int .i64 t344, .int .i64 t345, .bool t346, .int .i64 0]) ?_ 7 _ rfl; (with_reducible repeat (first | refine blk_drewN ?_ _ | refine blk_drew ?_ | refine blk_alloc ?_ _)); refine blk_put (cs := #[.int .i64 t340, .int .i64 t341, .int .i64 t342, .int .i64 t343, .int .i64 t344, .int .i64 t345, .bool false, .int .i64 0]) ?_ 6 _ rfl; (with_reducible repeat (first | refine blk_drewN ?_ _ | refine blk_drew ?_ | refine blk_alloc ?_ _)); refine blk_put (cs := #[.int .i64 t340, .int .i64 t341, .int .i64 t342, .int .i64 t343, .int .i64 t344, .int .i64 0, .bool false, .int .i64 0]) ?_ 5 _ rfl; (with_reducible repeat (first | refine blk_drewN ?_ _ | refine blk_drew ?_ | refine blk_alloc ?_ _)); refine blk_put (cs := #[.int .i64 t340, .int .i64 t341, .int .i64 t342, .int .i64 t343, .int .i64 0, .int .i64 0, .bool false, .int .i64 0]) ?_ 4 _ rfl; (with_reducible repeat (first | refine blk_drewN ?_ _ | refine blk_drew ?_ | refine blk_alloc ?_ _)); refine blk_put (cs := #[.int .i64 t340, .int .i64 t341, .int .i64 t342, .int .i64 0, .int .i64 0, .int .i64 0, .bool false, .int .i64 0]) ?_ 3 _ rfl; (with_reducible repeat (first | refine blk_drewN ?_ _ | refine blk_drew ?_ | refine blk_alloc ?_ _)); refine blk_put (cs := #[.int .i64 t340, .int .i64 t341, .int .i64 0, .int .i64 0, .int .i64 0, .int .i64 0, .bool false, .int .i64 0]) ?_ 2 _ rfl; (with_reducible repeat (first | refine blk_drewN ?_ _ | refine blk_drew ?_ | refine blk_alloc ?_ _)); refine blk_put (cs := #[.int .i64 t340, .int .i64 0, .int .i64 0, .int .i64 0, .int .i64 0, .int .i64 0, .bool false, .int .i64 0]) ?_ 1 _ rfl; (with_reducible repeat (first | refine blk_drewN ?_ _ | refine blk_drew ?_ | refine blk_alloc ?_ _)); refine blk_put (cs := #[.int .i64 0, .int .i64 0, .int .i64 0, .int .i64 0, .int .i64 0, .int .i64 0, .bool false, .int .i64 0]) ?_ 0 _ rfl; (with_reducible repeat (first | refine blk_drewN ?_ _ | refine blk_drew ?_ | refine blk_alloc ?_ _)); exact BK349.out) hb); have n2_ := Aside0.mk (below_step (by repeat (first | (with_reducible first | exact HB.out | apply below_alloc | apply pw_below_drewN | apply below_drew1 | refine below_set ?_ GE339.out | refine below_set ?_ GE349.out) | exact HB.out)) hb); clear BK339; clear BK349; clear HB; have BK339 := n0_; have BK349 := n1_; have HB := n2_; clear n0_ n1_ n2_; (try clear hb); (try clear hb2); (try clear hk); (try clear hi)) | ((with_reducible refine gate_dst (N := 13) rfl ?_); (try (refine gate_guard (by rfl) ?_; dsimp only)); refine box_event ?hg (N := 13) ?hd (cs := #[.int .i64 0, .int .i64 0, .int .i64 0, .int .i64 0, .int .i64 0, .int .i64 0, .bool false, .int .i64 0]) (t := 24) ?hr ?_; (case hd => rfl); (case hg => rfl); (case hr => first | (go_simp; done) | (go_simp; rfl)); intro gb359 hg w24 hbox hb; have n0_ := Aside0.mk (blk_below (S.b BK339.out) hb); have n1_ := Aside0.mk (blk_below (S.b BK349.out) hb); have n2_ := Aside0.mk (below_step (by repeat (first | (with_reducible first | exact HB.out | apply below_alloc | apply pw_below_drewN | apply below_drew1 | refine below_set ?_ GE339.out | refine below_set ?_ GE349.out) | exact HB.out)) hb); have n3_ := Aside0.mk (hbox); have n4_ := Aside0.mk ((by rw [hg]; exact (below_size (by repeat (first | (with_reducible first | exact HB.out | apply below_alloc | apply pw_below_drewN | apply below_drew1 | refine below_set ?_ GE339.out | refine below_set ?_ GE349.out) | exact HB.out))) : w.heap.size ≤ gb359)); have n5_ := Aside0.mk ((by rw [hg]; exact (below_size (by repeat (first | (with_reducible first | exact HB.out | apply below_alloc | apply pw_below_drewN | apply below_drew1 | refine below_set ?_ GE339.out | refine below_set ?_ GE349.out) | exact HB.out))) : w.heap.size ≤ gb359)); have n6_ := Aside0.mk ((by rw [hg]; exact Nat.ne_of_lt (blk_lt (S.b BK339.out)) : gb339 ≠ gb359)); have n7_ := Aside0.mk ((by rw [hg]; exact Nat.ne_of_gt (blk_lt (S.b BK339.out)) : gb359 ≠ gb339)); have n8_ := Aside0.mk ((by rw [hg]; exact Nat.ne_of_lt (blk_lt (S.b BK349.out)) : gb349 ≠ gb359)); have n9_ := Aside0.mk ((by rw [hg]; exact Nat.ne_of_gt (blk_lt (S.b BK349.out)) : gb359 ≠ gb349)); clear BK339; clear BK349; clear HB; have BK339 := n0_; have BK349 := n1_; have HB := n2_; have BK359 := n3_; have GW359 := n4_; have GE359 := n5_; have NB339_359 := n6_; have NB359_339 := n7_; have NB349_359 := n8_; have NB359_349 := n9_; clear n0_ n1_ n2_ n3_ n4_ n5_ n6_ n7_ n8_ n9_; clear hb hbox hg; have hnb25 := NB359_339.out; have hnc25 := NB339_359.out; have hnb26 := NB359_349.out; have hnc26 := NB349_359.out; have hcz27_0 : w24.cell? ⟨gb359, 0, none⟩ = some (.int .i64 0) := (blk_cell BK359.out 0).trans rfl; have hcz27_1 : w24.cell? ⟨gb359, 1, none⟩ = some (.int .i64 0) := (blk_cell BK359.out 1).trans rfl; have hcz27_2 : w24.cell? ⟨gb359, 2, none⟩ = some (.int .i64 0) := (blk_cell BK359.out 2).trans rfl; have hcz27_3 : w24.cell? ⟨gb359, 3, none⟩ = some (.int .i64 0) := (blk_cell BK359.out 3).trans rfl; have hcz27_4 : w24.cell? ⟨gb359, 4, none⟩ = some (.int .i64 0) := (blk_cell BK359.out 4).trans rfl; have hcz27_5 : w24.cell? ⟨gb359, 5, none⟩ = some (.int .i64 0) := (blk_cell BK359.out 5).trans rfl; have hcz27_6 : w24.cell? ⟨gb359, 6, none⟩ = some (.bool false) := (blk_cell BK359.out 6).trans rfl; have hcz27_7 : w24.cell? ⟨gb359, 7, none⟩ = some (.int .i64 0) := (blk_cell BK359.out 7).trans rfl; have hfz27_0 := blk_frozen BK359.out 0; have hfz27_1 := blk_frozen BK359.out 1; have hfz27_2 := blk_frozen BK359.out 2; have hfz27_3 := blk_frozen BK359.out 3; have hfz27_4 := blk_frozen BK359.out 4; have hfz27_5 := blk_frozen BK359.out 5; have hfz27_6 := blk_frozen BK359.out 6; have hfz27_7 := blk_frozen BK359.out 7))
     (try simp only [Act.put, List.setIfInBounds_toArray, List.set_cons_zero, List.set_cons_succ])
     go_cut [60] (fun v60 wc => ∃ (kq : Nat) (x60_14 : Bool), v60 = .bool x60_14 ∧ Aside0 (rubriclaw6_DateOrders.j1 kq x60_14 t330 t331 t332 t333 t334 t335 t336 t337 t340 t341 t342 t343 t344 t345 t346 t347 t350 t351 t352 t353 t354 t355 t356 t357 = some r) ∧ Aside0 (kq ≤ kj6) ∧ Aside0 (wc.heap[gb339]? = some (.cells #[.int .i64 t330, .int .i64 t331, .int .i64 t332, .int .i64 t333, .int .i64 t334, .int .i64 t335, .bool t336, .int .i64 t337] 24 (0, 0))) ∧ Aside0 (wc.heap[gb349]? = some (.cells #[.int .i64 t340, .int .i64 t341, .int .i64 t342, .int .i64 t343, .int .i64 t344, .int .i64 t345, .bool t346, .int .i64 t347] 24 (0, 0))) ∧ Aside0 (wc.heap[gb359]? = some (.cells #[.int .i64 t350, .int .i64 t351, .int .i64 t352, .int .i64 t353, .int .i64 t354, .int .i64 t355, .bool t356, .int .i64 t357] 24 (0, 0))) ∧ Aside0 (Below w.heap.size w wc))
     case first =>
      have H := HC15.out
      clear HC15
      by_cases c28 : t338 = 0
      ·rw [if_pos c28] at H
       have c28b0 : (t338 == 0) = true := beq_iff_eq.mpr c28
       have c28b1 : (t338 != 0) = false := bne_eq_false_iff_eq.mpr c28
       clear c28
       (first | rw [c28b0] | (simp only [i64_w, i32_w]; rw [c28b0]) | skip)
       by_cases c29 : t348 = 0
       ·rw [if_pos c29] at H
        have c29b0 : (t348 == 0) = true := beq_iff_eq.mpr c29
        have c29b1 : (t348 != 0) = false := bne_eq_false_iff_eq.mpr c29
        clear c29
        have H' := Aside0.mk H
        clear H
        go_wp2
        go_meet
        case rel => exact ⟨_, ((t358 != 0)), (by first | rfl | (simp; done) | (simp [*]; done)), H', ⟨by have := HJ6.out; first | omega | exact Nat.le_refl _⟩, ⟨by (with_reducible repeat (first | refine blk_drewN ?_ _ | refine blk_drew ?_ | refine blk_alloc ?_ _)); refine blk_far ?_ NB339_359.out _; (with_reducible repeat (first | refine blk_drewN ?_ _ | refine blk_drew ?_ | refine blk_alloc ?_ _)); refine blk_far ?_ NB339_359.out _; (with_reducible repeat (first | refine blk_drewN ?_ _ | refine blk_drew ?_ | refine blk_alloc ?_ _)); refine blk_far ?_ NB339_359.out _; (with_reducible repeat (first | refine blk_drewN ?_ _ | refine blk_drew ?_ | refine blk_alloc ?_ _)); refine blk_far ?_ NB339_359.out _; (with_reducible repeat (first | refine blk_drewN ?_ _ | refine blk_drew ?_ | refine blk_alloc ?_ _)); refine blk_far ?_ NB339_359.out _; (with_reducible repeat (first | refine blk_drewN ?_ _ | refine blk_drew ?_ | refine blk_alloc ?_ _)); refine blk_far ?_ NB339_359.out _; (with_reducible repeat (first | refine blk_drewN ?_ _ | refine blk_drew ?_ | refine blk_alloc ?_ _)); refine blk_far ?_ NB339_359.out _; (with_reducible repeat (first | refine blk_drewN ?_ _ | refine blk_drew ?_ | refine blk_alloc ?_ _)); refine blk_far ?_ NB339_359.out _; (with_reducible repeat (first | refine blk_drewN ?_ _ | refine blk_drew ?_ | refine blk_alloc ?_ _)); exact BK339.out⟩, ⟨by (with_reducible repeat (first | refine blk_drewN ?_ _ | refine blk_drew ?_ | refine blk_alloc ?_ _)); refine blk_far ?_ NB349_359.out _; (with_reducible repeat (first | refine blk_drewN ?_ _ | refine blk_drew ?_ | refine blk_alloc ?_ _)); refine blk_far ?_ NB349_359.out _; (with_reducible repeat (first | refine blk_drewN ?_ _ | refine blk_drew ?_ | refine blk_alloc ?_ _)); refine blk_far ?_ NB349_359.out _; (with_reducible repeat (first | refine blk_drewN ?_ _ | refine blk_drew ?_ | refine blk_alloc ?_ _)); refine blk_far ?_ NB349_359.out _; (with_reducible repeat (first | refine blk_drewN ?_ _ | refine blk_drew ?_ | refine blk_alloc ?_ _)); refine blk_far ?_ NB349_359.out _; (with_reducible repeat (first | refine blk_drewN ?_ _ | refine blk_drew ?_ | refine blk_alloc ?_ _)); refine blk_far ?_ NB349_359.out _; (with_reducible repeat (first | refine blk_drewN ?_ _ | refine blk_drew ?_ | refine blk_alloc ?_ _)); refine blk_far ?_ NB349_359.out _; (with_reducible repeat (first | refine blk_drewN ?_ _ | refine blk_drew ?_ | refine blk_alloc ?_ _)); refine blk_far ?_ NB349_359.out _; (with_reducible repeat (first | refine blk_drewN ?_ _ | refine blk_drew ?_ | refine blk_alloc ?_ _)); exact BK349.out⟩, ⟨by (with_reducible repeat (first | refine blk_drewN ?_ _ | refine blk_drew ?_ | refine blk_alloc ?_ _)); refine blk_put (cs := #[.int .i64 t350, .int .i64 t351, .int .i64 t352, .int .i64 t353, .int .i64 t354, .int .i64 t355, .bool t356, .int .i64 0]) ?_ 7 _ rfl; (with_reducible repeat (first | refine blk_drewN ?_ _ | refine blk_drew ?_ | refine blk_alloc ?_ _)); refine blk_put (cs := #[.int .i64 t350, .int .i64 t351, .int .i64 t352, .int .i64 t353, .int .i64 t354, .int .i64 t355, .bool false, .int .i64 0]) ?_ 6 _ rfl; (with_reducible repeat (first | refine blk_drewN ?_ _ | refine blk_drew ?_ | refine blk_alloc ?_ _)); refine blk_put (cs := #[.int .i64 t350, .int .i64 t351, .int .i64 t352, .int .i64 t353, .int .i64 t354, .int .i64 0, .bool false, .int .i64 0]) ?_ 5 _ rfl; (with_reducible repeat (first | refine blk_drewN ?_ _ | refine blk_drew ?_ | refine blk_alloc ?_ _)); refine blk_put (cs := #[.int .i64 t350, .int .i64 t351, .int .i64 t352, .int .i64 t353, .int .i64 0, .int .i64 0, .bool false, .int .i64 0]) ?_ 4 _ rfl; (with_reducible repeat (first | refine blk_drewN ?_ _ | refine blk_drew ?_ | refine blk_alloc ?_ _)); refine blk_put (cs := #[.int .i64 t350, .int .i64 t351, .int .i64 t352, .int .i64 0, .int .i64 0, .int .i64 0, .bool false, .int .i64 0]) ?_ 3 _ rfl; (with_reducible repeat (first | refine blk_drewN ?_ _ | refine blk_drew ?_ | refine blk_alloc ?_ _)); refine blk_put (cs := #[.int .i64 t350, .int .i64 t351, .int .i64 0, .int .i64 0, .int .i64 0, .int .i64 0, .bool false, .int .i64 0]) ?_ 2 _ rfl; (with_reducible repeat (first | refine blk_drewN ?_ _ | refine blk_drew ?_ | refine blk_alloc ?_ _)); refine blk_put (cs := #[.int .i64 t350, .int .i64 0, .int .i64 0, .int .i64 0, .int .i64 0, .int .i64 0, .bool false, .int .i64 0]) ?_ 1 _ rfl; (with_reducible repeat (first | refine blk_drewN ?_ _ | refine blk_drew ?_ | refine blk_alloc ?_ _)); refine blk_put (cs := #[.int .i64 0, .int .i64 0, .int .i64 0, .int .i64 0, .int .i64 0, .int .i64 0, .bool false, .int .i64 0]) ?_ 0 _ rfl; (with_reducible repeat (first | refine blk_drewN ?_ _ | refine blk_drew ?_ | refine blk_alloc ?_ _)); exact BK359.out⟩, ⟨by repeat (first | (with_reducible first | exact HB.out | apply below_alloc | apply pw_below_drewN | apply below_drew1 | refine below_set ?_ GE339.out | refine below_set ?_ GE349.out | refine below_set ?_ GE359.out) | exact HB.out)⟩⟩
       ·rw [if_neg c29] at H
        have c29b0 : (t348 == 0) = false := beq_eq_false_iff_ne.mpr c29
        have c29b1 : (t348 != 0) = true := bne_iff_ne.mpr c29
        have H' := Aside0.mk H
        clear H
        go_wp2
        go_meet
        case rel => exact ⟨_, (true), (by first | rfl | (simp; done) | (simp [*]; done)), H', ⟨by have := HJ6.out; first | omega | exact Nat.le_refl _⟩, ⟨by (with_reducible repeat (first | refine blk_drewN ?_ _ | refine blk_drew ?_ | refine blk_alloc ?_ _)); refine blk_far ?_ NB339_359.out _; (with_reducible repeat (first | refine blk_drewN ?_ _ | refine blk_drew ?_ | refine blk_alloc ?_ _)); refine blk_far ?_ NB339_359.out _; (with_reducible repeat (first | refine blk_drewN ?_ _ | refine blk_drew ?_ | refine blk_alloc ?_ _)); refine blk_far ?_ NB339_359.out _; (with_reducible repeat (first | refine blk_drewN ?_ _ | refine blk_drew ?_ | refine blk_alloc ?_ _)); refine blk_far ?_ NB339_359.out _; (with_reducible repeat (first | refine blk_drewN ?_ _ | refine blk_drew ?_ | refine blk_alloc ?_ _)); refine blk_far ?_ NB339_359.out _; (with_reducible repeat (first | refine blk_drewN ?_ _ | refine blk_drew ?_ | refine blk_alloc ?_ _)); refine blk_far ?_ NB339_359.out _; (with_reducible repeat (first | refine blk_drewN ?_ _ | refine blk_drew ?_ | refine blk_alloc ?_ _)); refine blk_far ?_ NB339_359.out _; (with_reducible repeat (first | refine blk_drewN ?_ _ | refine blk_drew ?_ | refine blk_alloc ?_ _)); refine blk_far ?_ NB339_359.out _; (with_reducible repeat (first | refine blk_drewN ?_ _ | refine blk_drew ?_ | refine blk_alloc ?_ _)); exact BK339.out⟩, ⟨by (with_reducible repeat (first | refine blk_drewN ?_ _ | refine blk_drew ?_ | refine blk_alloc ?_ _)); refine blk_far ?_ NB349_359.out _; (with_reducible repeat (first | refine blk_drewN ?_ _ | refine blk_drew ?_ | refine blk_alloc ?_ _)); refine blk_far ?_ NB349_359.out _; (with_reducible repeat (first | refine blk_drewN ?_ _ | refine blk_drew ?_ | refine blk_alloc ?_ _)); refine blk_far ?_ NB349_359.out _; (with_reducible repeat (first | refine blk_drewN ?_ _ | refine blk_drew ?_ | refine blk_alloc ?_ _)); refine blk_far ?_ NB349_359.out _; (with_reducible repeat (first | refine blk_drewN ?_ _ | refine blk_drew ?_ | refine blk_alloc ?_ _)); refine blk_far ?_ NB349_359.out _; (with_reducible repeat (first | refine blk_drewN ?_ _ | refine blk_drew ?_ | refine blk_alloc ?_ _)); refine blk_far ?_ NB349_359.out _; (with_reducible repeat (first | refine blk_drewN ?_ _ | refine blk_drew ?_ | refine blk_alloc ?_ _)); refine blk_far ?_ NB349_359.out _; (with_reducible repeat (first | refine blk_drewN ?_ _ | refine blk_drew ?_ | refine blk_alloc ?_ _)); refine blk_far ?_ NB349_359.out _; (with_reducible repeat (first | refine blk_drewN ?_ _ | refine blk_drew ?_ | refine blk_alloc ?_ _)); exact BK349.out⟩, ⟨by (with_reducible repeat (first | refine blk_drewN ?_ _ | refine blk_drew ?_ | refine blk_alloc ?_ _)); refine blk_put (cs := #[.int .i64 t350, .int .i64 t351, .int .i64 t352, .int .i64 t353, .int .i64 t354, .int .i64 t355, .bool t356, .int .i64 0]) ?_ 7 _ rfl; (with_reducible repeat (first | refine blk_drewN ?_ _ | refine blk_drew ?_ | refine blk_alloc ?_ _)); refine blk_put (cs := #[.int .i64 t350, .int .i64 t351, .int .i64 t352, .int .i64 t353, .int .i64 t354, .int .i64 t355, .bool false, .int .i64 0]) ?_ 6 _ rfl; (with_reducible repeat (first | refine blk_drewN ?_ _ | refine blk_drew ?_ | refine blk_alloc ?_ _)); refine blk_put (cs := #[.int .i64 t350, .int .i64 t351, .int .i64 t352, .int .i64 t353, .int .i64 t354, .int .i64 0, .bool false, .int .i64 0]) ?_ 5 _ rfl; (with_reducible repeat (first | refine blk_drewN ?_ _ | refine blk_drew ?_ | refine blk_alloc ?_ _)); refine blk_put (cs := #[.int .i64 t350, .int .i64 t351, .int .i64 t352, .int .i64 t353, .int .i64 0, .int .i64 0, .bool false, .int .i64 0]) ?_ 4 _ rfl; (with_reducible repeat (first | refine blk_drewN ?_ _ | refine blk_drew ?_ | refine blk_alloc ?_ _)); refine blk_put (cs := #[.int .i64 t350, .int .i64 t351, .int .i64 t352, .int .i64 0, .int .i64 0, .int .i64 0, .bool false, .int .i64 0]) ?_ 3 _ rfl; (with_reducible repeat (first | refine blk_drewN ?_ _ | refine blk_drew ?_ | refine blk_alloc ?_ _)); refine blk_put (cs := #[.int .i64 t350, .int .i64 t351, .int .i64 0, .int .i64 0, .int .i64 0, .int .i64 0, .bool false, .int .i64 0]) ?_ 2 _ rfl; (with_reducible repeat (first | refine blk_drewN ?_ _ | refine blk_drew ?_ | refine blk_alloc ?_ _)); refine blk_put (cs := #[.int .i64 t350, .int .i64 0, .int .i64 0, .int .i64 0, .int .i64 0, .int .i64 0, .bool false, .int .i64 0]) ?_ 1 _ rfl; (with_reducible repeat (first | refine blk_drewN ?_ _ | refine blk_drew ?_ | refine blk_alloc ?_ _)); refine blk_put (cs := #[.int .i64 0, .int .i64 0, .int .i64 0, .int .i64 0, .int .i64 0, .int .i64 0, .bool false, .int .i64 0]) ?_ 0 _ rfl; (with_reducible repeat (first | refine blk_drewN ?_ _ | refine blk_drew ?_ | refine blk_alloc ?_ _)); exact BK359.out⟩, ⟨by repeat (first | (with_reducible first | exact HB.out | apply below_alloc | apply pw_below_drewN | apply below_drew1 | refine below_set ?_ GE339.out | refine below_set ?_ GE349.out | refine below_set ?_ GE359.out) | exact HB.out)⟩⟩
      ·rw [if_neg c28] at H
       have c28b0 : (t338 == 0) = false := beq_eq_false_iff_ne.mpr c28
       have c28b1 : (t338 != 0) = true := bne_iff_ne.mpr c28
       (first | rw [c28b0] | (simp only [i64_w, i32_w]; rw [c28b0]) | skip)
       have H' := Aside0.mk H
       clear H
       go_wp2
       go_meet
       case rel => exact ⟨_, (true), (by first | rfl | (simp; done) | (simp [*]; done)), H', ⟨by have := HJ6.out; first | omega | exact Nat.le_refl _⟩, ⟨by (with_reducible repeat (first | refine blk_drewN ?_ _ | refine blk_drew ?_ | refine blk_alloc ?_ _)); refine blk_far ?_ NB339_359.out _; (with_reducible repeat (first | refine blk_drewN ?_ _ | refine blk_drew ?_ | refine blk_alloc ?_ _)); refine blk_far ?_ NB339_359.out _; (with_reducible repeat (first | refine blk_drewN ?_ _ | refine blk_drew ?_ | refine blk_alloc ?_ _)); refine blk_far ?_ NB339_359.out _; (with_reducible repeat (first | refine blk_drewN ?_ _ | refine blk_drew ?_ | refine blk_alloc ?_ _)); refine blk_far ?_ NB339_359.out _; (with_reducible repeat (first | refine blk_drewN ?_ _ | refine blk_drew ?_ | refine blk_alloc ?_ _)); refine blk_far ?_ NB339_359.out _; (with_reducible repeat (first | refine blk_drewN ?_ _ | refine blk_drew ?_ | refine blk_alloc ?_ _)); refine blk_far ?_ NB339_359.out _; (with_reducible repeat (first | refine blk_drewN ?_ _ | refine blk_drew ?_ | refine blk_alloc ?_ _)); refine blk_far ?_ NB339_359.out _; (with_reducible repeat (first | refine blk_drewN ?_ _ | refine blk_drew ?_ | refine blk_alloc ?_ _)); refine blk_far ?_ NB339_359.out _; (with_reducible repeat (first | refine blk_drewN ?_ _ | refine blk_drew ?_ | refine blk_alloc ?_ _)); exact BK339.out⟩, ⟨by (with_reducible repeat (first | refine blk_drewN ?_ _ | refine blk_drew ?_ | refine blk_alloc ?_ _)); refine blk_far ?_ NB349_359.out _; (with_reducible repeat (first | refine blk_drewN ?_ _ | refine blk_drew ?_ | refine blk_alloc ?_ _)); refine blk_far ?_ NB349_359.out _; (with_reducible repeat (first | refine blk_drewN ?_ _ | refine blk_drew ?_ | refine blk_alloc ?_ _)); refine blk_far ?_ NB349_359.out _; (with_reducible repeat (first | refine blk_drewN ?_ _ | refine blk_drew ?_ | refine blk_alloc ?_ _)); refine blk_far ?_ NB349_359.out _; (with_reducible repeat (first | refine blk_drewN ?_ _ | refine blk_drew ?_ | refine blk_alloc ?_ _)); refine blk_far ?_ NB349_359.out _; (with_reducible repeat (first | refine blk_drewN ?_ _ | refine blk_drew ?_ | refine blk_alloc ?_ _)); refine blk_far ?_ NB349_359.out _; (with_reducible repeat (first | refine blk_drewN ?_ _ | refine blk_drew ?_ | refine blk_alloc ?_ _)); refine blk_far ?_ NB349_359.out _; (with_reducible repeat (first | refine blk_drewN ?_ _ | refine blk_drew ?_ | refine blk_alloc ?_ _)); refine blk_far ?_ NB349_359.out _; (with_reducible repeat (first | refine blk_drewN ?_ _ | refine blk_drew ?_ | refine blk_alloc ?_ _)); exact BK349.out⟩, ⟨by (with_reducible repeat (first | refine blk_drewN ?_ _ | refine blk_drew ?_ | refine blk_alloc ?_ _)); refine blk_put (cs := #[.int .i64 t350, .int .i64 t351, .int .i64 t352, .int .i64 t353, .int .i64 t354, .int .i64 t355, .bool t356, .int .i64 0]) ?_ 7 _ rfl; (with_reducible repeat (first | refine blk_drewN ?_ _ | refine blk_drew ?_ | refine blk_alloc ?_ _)); refine blk_put (cs := #[.int .i64 t350, .int .i64 t351, .int .i64 t352, .int .i64 t353, .int .i64 t354, .int .i64 t355, .bool false, .int .i64 0]) ?_ 6 _ rfl; (with_reducible repeat (first | refine blk_drewN ?_ _ | refine blk_drew ?_ | refine blk_alloc ?_ _)); refine blk_put (cs := #[.int .i64 t350, .int .i64 t351, .int .i64 t352, .int .i64 t353, .int .i64 t354, .int .i64 0, .bool false, .int .i64 0]) ?_ 5 _ rfl; (with_reducible repeat (first | refine blk_drewN ?_ _ | refine blk_drew ?_ | refine blk_alloc ?_ _)); refine blk_put (cs := #[.int .i64 t350, .int .i64 t351, .int .i64 t352, .int .i64 t353, .int .i64 0, .int .i64 0, .bool false, .int .i64 0]) ?_ 4 _ rfl; (with_reducible repeat (first | refine blk_drewN ?_ _ | refine blk_drew ?_ | refine blk_alloc ?_ _)); refine blk_put (cs := #[.int .i64 t350, .int .i64 t351, .int .i64 t352, .int .i64 0, .int .i64 0, .int .i64 0, .bool false, .int .i64 0]) ?_ 3 _ rfl; (with_reducible repeat (first | refine blk_drewN ?_ _ | refine blk_drew ?_ | refine blk_alloc ?_ _)); refine blk_put (cs := #[.int .i64 t350, .int .i64 t351, .int .i64 0, .int .i64 0, .int .i64 0, .int .i64 0, .bool false, .int .i64 0]) ?_ 2 _ rfl; (with_reducible repeat (first | refine blk_drewN ?_ _ | refine blk_drew ?_ | refine blk_alloc ?_ _)); refine blk_put (cs := #[.int .i64 t350, .int .i64 0, .int .i64 0, .int .i64 0, .int .i64 0, .int .i64 0, .bool false, .int .i64 0]) ?_ 1 _ rfl; (with_reducible repeat (first | refine blk_drewN ?_ _ | refine blk_drew ?_ | refine blk_alloc ?_ _)); refine blk_put (cs := #[.int .i64 0, .int .i64 0, .int .i64 0, .int .i64 0, .int .i64 0, .int .i64 0, .bool false, .int .i64 0]) ?_ 0 _ rfl; (with_reducible repeat (first | refine blk_drewN ?_ _ | refine blk_drew ?_ | refine blk_alloc ?_ _)); exact BK359.out⟩, ⟨by repeat (first | (with_reducible first | exact HB.out | apply below_alloc | apply pw_below_drewN | apply below_drew1 | refine below_set ?_ GE339.out | refine below_set ?_ GE349.out | refine below_set ?_ GE359.out) | exact HB.out)⟩⟩
     case rest =>
      clear HC15
      (try clear c1); (try clear c2); (try clear p2); (try clear c3); (try clear c6); (try clear c7); (try clear c8); (try clear c9); (try clear c9b0); (try clear c9b1); (try clear c10); (try clear c10b0); (try clear c10b1); (try clear c11); (try clear c21); (try clear c25); (try clear c26); (try clear c28); (try clear c28b0); (try clear c28b1); (try clear c29); (try clear c29b0); (try clear c29b1); (try clear hcz18_0); (try clear hcz18_1); (try clear hcz18_2); (try clear hcz18_3); (try clear hcz18_4); (try clear hcz18_5); (try clear hcz18_6); (try clear hcz18_7); (try clear hcz22_0); (try clear hcz22_1); (try clear hcz22_2); (try clear hcz22_3); (try clear hcz22_4); (try clear hcz22_5); (try clear hcz22_6); (try clear hcz22_7); (try clear hcz27_0); (try clear hcz27_1); (try clear hcz27_2); (try clear hcz27_3); (try clear hcz27_4); (try clear hcz27_5); (try clear hcz27_6); (try clear hcz27_7); (try clear hfz18_0); (try clear hfz18_1); (try clear hfz18_2); (try clear hfz18_3); (try clear hfz18_4); (try clear hfz18_5); (try clear hfz18_6); (try clear hfz18_7); (try clear hfz22_0); (try clear hfz22_1); (try clear hfz22_2); (try clear hfz22_3); (try clear hfz22_4); (try clear hfz22_5); (try clear hfz22_6); (try clear hfz22_7); (try clear hfz27_0); (try clear hfz27_1); (try clear hfz27_2); (try clear hfz27_3); (try clear hfz27_4); (try clear hfz27_5); (try clear hfz27_6); (try clear hfz27_7); (try clear p2)
      obtain ⟨kq, x60_14, rfl, HA, HJ14, BK339, BK349, BK359, HB⟩ := hcut
      cases kq with
      | zero => exact absurd HA.out (by simp [rubriclaw6_DateOrders.j1])
      | succ kj14 =>
       have H := HA.out
       clear HA
       simp only [rubriclaw6_DateOrders.j1] at H
       by_cases c30 : x60_14 = true
       ·subst c30
        rw [if_pos rfl] at H
        try dsimp only at H
        obtain rfl := Option.some.inj H
        go_wp2
        go_ret
        exact ⟨by first | rfl | (simp [errW_none, errW_some] <;> rfl) | (simp [*, errW_none, errW_some] <;> rfl), by repeat (first | (with_reducible first | exact HB.out | apply below_alloc | apply pw_below_drewN | apply below_drew1 | refine below_set ?_ GE339.out | refine below_set ?_ GE349.out | refine below_set ?_ GE359.out) | exact HB.out)⟩
       ·replace c30 := Bool.eq_false_iff.mpr c30
        subst c30
        rw [if_neg (show ¬ (false = true) by decide)] at H
        try dsimp only at H
        replace H := Option.bind_eq_some_iff.mp H
        obtain ⟨t360, A310, H⟩ := H
        try dsimp only at H
        have A31 := Aside0.mk A310
        clear A310
        replace H := Option.bind_eq_some_iff.mp H
        obtain ⟨t361, A320, H⟩ := H
        try dsimp only at H
        have A32 := Aside0.mk A320
        clear A320
        replace H := Option.bind_eq_some_iff.mp H
        obtain ⟨t362, A330, H⟩ := H
        try dsimp only at H
        have A33 := Aside0.mk A330
        clear A330
        have HC34 := Aside0.mk H
        clear H
        have hnb35 := NB339_349.out
        have hnc35 := NB349_339.out
        have hnb36 := NB339_359.out
        have hnc36 := NB359_339.out
        have hcz37_0 : wc.cell? ⟨gb339, 0, none⟩ = some (.int .i64 t330) := (blk_cell BK339.out 0).trans rfl
        have hcz37_1 : wc.cell? ⟨gb339, 1, none⟩ = some (.int .i64 t331) := (blk_cell BK339.out 1).trans rfl
        have hcz37_2 : wc.cell? ⟨gb339, 2, none⟩ = some (.int .i64 t332) := (blk_cell BK339.out 2).trans rfl
        have hcz37_3 : wc.cell? ⟨gb339, 3, none⟩ = some (.int .i64 t333) := (blk_cell BK339.out 3).trans rfl
        have hcz37_4 : wc.cell? ⟨gb339, 4, none⟩ = some (.int .i64 t334) := (blk_cell BK339.out 4).trans rfl
        have hcz37_5 : wc.cell? ⟨gb339, 5, none⟩ = some (.int .i64 t335) := (blk_cell BK339.out 5).trans rfl
        have hcz37_6 : wc.cell? ⟨gb339, 6, none⟩ = some (.bool t336) := (blk_cell BK339.out 6).trans rfl
        have hcz37_7 : wc.cell? ⟨gb339, 7, none⟩ = some (.int .i64 t337) := (blk_cell BK339.out 7).trans rfl
        have hfz37_0 := blk_frozen BK339.out 0
        have hfz37_1 := blk_frozen BK339.out 1
        have hfz37_2 := blk_frozen BK339.out 2
        have hfz37_3 := blk_frozen BK339.out 3
        have hfz37_4 := blk_frozen BK339.out 4
        have hfz37_5 := blk_frozen BK339.out 5
        have hfz37_6 := blk_frozen BK339.out 6
        have hfz37_7 := blk_frozen BK339.out 7
        have hnb38 := NB349_359.out
        have hnc38 := NB359_349.out
        have hcz39_0 : wc.cell? ⟨gb349, 0, none⟩ = some (.int .i64 t340) := (blk_cell BK349.out 0).trans rfl
        have hcz39_1 : wc.cell? ⟨gb349, 1, none⟩ = some (.int .i64 t341) := (blk_cell BK349.out 1).trans rfl
        have hcz39_2 : wc.cell? ⟨gb349, 2, none⟩ = some (.int .i64 t342) := (blk_cell BK349.out 2).trans rfl
        have hcz39_3 : wc.cell? ⟨gb349, 3, none⟩ = some (.int .i64 t343) := (blk_cell BK349.out 3).trans rfl
        have hcz39_4 : wc.cell? ⟨gb349, 4, none⟩ = some (.int .i64 t344) := (blk_cell BK349.out 4).trans rfl
        have hcz39_5 : wc.cell? ⟨gb349, 5, none⟩ = some (.int .i64 t345) := (blk_cell BK349.out 5).trans rfl
        have hcz39_6 : wc.cell? ⟨gb349, 6, none⟩ = some (.bool t346) := (blk_cell BK349.out 6).trans rfl
        have hcz39_7 : wc.cell? ⟨gb349, 7, none⟩ = some (.int .i64 t347) := (blk_cell BK349.out 7).trans rfl
        have hfz39_0 := blk_frozen BK349.out 0
        have hfz39_1 := blk_frozen BK349.out 1
        have hfz39_2 := blk_frozen BK349.out 2
        have hfz39_3 := blk_frozen BK349.out 3
        have hfz39_4 := blk_frozen BK349.out 4
        have hfz39_5 := blk_frozen BK349.out 5
        have hfz39_6 := blk_frozen BK349.out 6
        have hfz39_7 := blk_frozen BK349.out 7
        go_upto_region 13 with (first | ((with_reducible refine gate_callee (f := 9) rfl ?_); refine goesL_ (some 63) rfl rfl Tryd.func9 (by kernel_rfl) rfl #[.agg #[.int .i64 t330, .int .i64 t331, .int .i64 t332, .int .i64 t333, .int .i64 t334, .int .i64 t335, .bool t336, .int .i64 t337], .agg #[.int .i64 t340, .int .i64 t341, .int .i64 t342, .int .i64 t343, .int .i64 t344, .int .i64 t345, .bool t346, .int .i64 t347]] rfl (by (try simp only [List.map_toArray, List.map_cons, List.map_nil]); first | done | rfl | (simp only [List.length_drop, List.length_take]; rfl)) ?_; (with_reducible refine (date_Cmp.calls kj14 t330 t331 t332 t333 t334 t335 t336 t337 t340 t341 t342 t343 t344 t345 t346 t347 t360 _ A31.out).mono ?_); rintro e w40 ⟨rfl, hb⟩; refine ⟨_, rfl, ?_⟩; have n0_ := Aside0.mk (blk_below (S.b BK339.out) hb); have n1_ := Aside0.mk (blk_below (S.b BK349.out) hb); have n2_ := Aside0.mk (blk_below (S.b BK359.out) hb); have n3_ := Aside0.mk (below_step (by repeat (first | (with_reducible first | exact HB.out | apply below_alloc | apply pw_below_drewN | apply below_drew1 | refine below_set ?_ GE339.out | refine below_set ?_ GE349.out | refine below_set ?_ GE359.out) | exact HB.out)) hb); clear BK339; clear BK349; clear BK359; clear HB; have BK339 := n0_; have BK349 := n1_; have BK359 := n2_; have HB := n3_; clear n0_ n1_ n2_ n3_; (try clear hb); (try clear hb2); (try clear hk); (try clear hi); have hcz41_0 : w40.cell? ⟨gb349, 0, none⟩ = some (.int .i64 t340) := (blk_cell BK349.out 0).trans rfl; have hcz41_1 : w40.cell? ⟨gb349, 1, none⟩ = some (.int .i64 t341) := (blk_cell BK349.out 1).trans rfl; have hcz41_2 : w40.cell? ⟨gb349, 2, none⟩ = some (.int .i64 t342) := (blk_cell BK349.out 2).trans rfl; have hcz41_3 : w40.cell? ⟨gb349, 3, none⟩ = some (.int .i64 t343) := (blk_cell BK349.out 3).trans rfl; have hcz41_4 : w40.cell? ⟨gb349, 4, none⟩ = some (.int .i64 t344) := (blk_cell BK349.out 4).trans rfl; have hcz41_5 : w40.cell? ⟨gb349, 5, none⟩ = some (.int .i64 t345) := (blk_cell BK349.out 5).trans rfl; have hcz41_6 : w40.cell? ⟨gb349, 6, none⟩ = some (.bool t346) := (blk_cell BK349.out 6).trans rfl; have hcz41_7 : w40.cell? ⟨gb349, 7, none⟩ = some (.int .i64 t347) := (blk_cell BK349.out 7).trans rfl; have hfz41_0 := blk_frozen BK349.out 0; have hfz41_1 := blk_frozen BK349.out 1; have hfz41_2 := blk_frozen BK349.out 2; have hfz41_3 := blk_frozen BK349.out 3; have hfz41_4 := blk_frozen BK349.out 4; have hfz41_5 := blk_frozen BK349.out 5; have hfz41_6 := blk_frozen BK349.out 6; have hfz41_7 := blk_frozen BK349.out 7; have hcz42_0 : w40.cell? ⟨gb339, 0, none⟩ = some (.int .i64 t330) := (blk_cell BK339.out 0).trans rfl; have hcz42_1 : w40.cell? ⟨gb339, 1, none⟩ = some (.int .i64 t331) := (blk_cell BK339.out 1).trans rfl; have hcz42_2 : w40.cell? ⟨gb339, 2, none⟩ = some (.int .i64 t332) := (blk_cell BK339.out 2).trans rfl; have hcz42_3 : w40.cell? ⟨gb339, 3, none⟩ = some (.int .i64 t333) := (blk_cell BK339.out 3).trans rfl; have hcz42_4 : w40.cell? ⟨gb339, 4, none⟩ = some (.int .i64 t334) := (blk_cell BK339.out 4).trans rfl; have hcz42_5 : w40.cell? ⟨gb339, 5, none⟩ = some (.int .i64 t335) := (blk_cell BK339.out 5).trans rfl; have hcz42_6 : w40.cell? ⟨gb339, 6, none⟩ = some (.bool t336) := (blk_cell BK339.out 6).trans rfl; have hcz42_7 : w40.cell? ⟨gb339, 7, none⟩ = some (.int .i64 t337) := (blk_cell BK339.out 7).trans rfl; have hfz42_0 := blk_frozen BK339.out 0; have hfz42_1 := blk_frozen BK339.out 1; have hfz42_2 := blk_frozen BK339.out 2; have hfz42_3 := blk_frozen BK339.out 3; have hfz42_4 := blk_frozen BK339.out 4; have hfz42_5 := blk_frozen BK339.out 5; have hfz42_6 := blk_frozen BK339.out 6; have hfz42_7 := blk_frozen BK339.out 7) | ((with_reducible refine gate_callee (f := 9) rfl ?_); refine goesL_ (some 66) rfl rfl Tryd.func9 (by kernel_rfl) rfl #[.agg #[.int .i64 t340, .int .i64 t341, .int .i64 t342, .int .i64 t343, .int .i64 t344, .int .i64 t345, .bool t346, .int .i64 t347], .agg #[.int .i64 t330, .int .i64 t331, .int .i64 t332, .int .i64 t333, .int .i64 t334, .int .i64 t335, .bool t336, .int .i64 t337]] rfl (by (try simp only [List.map_toArray, List.map_cons, List.map_nil]); first | done | rfl | (simp only [List.length_drop, List.length_take]; rfl)) ?_; (with_reducible refine (date_Cmp.calls kj14 t340 t341 t342 t343 t344 t345 t346 t347 t330 t331 t332 t333 t334 t335 t336 t337 t361 _ A32.out).mono ?_); rintro e w43 ⟨rfl, hb⟩; refine ⟨_, rfl, ?_⟩; have n0_ := Aside0.mk (blk_below (S.b BK339.out) hb); have n1_ := Aside0.mk (blk_below (S.b BK349.out) hb); have n2_ := Aside0.mk (blk_below (S.b BK359.out) hb); have n3_ := Aside0.mk (below_step (by repeat (first | (with_reducible first | exact HB.out | apply below_alloc | apply pw_below_drewN | apply below_drew1 | refine below_set ?_ GE339.out | refine below_set ?_ GE349.out | refine below_set ?_ GE359.out) | exact HB.out)) hb); clear BK339; clear BK349; clear BK359; clear HB; have BK339 := n0_; have BK349 := n1_; have BK359 := n2_; have HB := n3_; clear n0_ n1_ n2_ n3_; (try clear hb); (try clear hb2); (try clear hk); (try clear hi); have hcz44_0 : w43.cell? ⟨gb349, 0, none⟩ = some (.int .i64 t340) := (blk_cell BK349.out 0).trans rfl; have hcz44_1 : w43.cell? ⟨gb349, 1, none⟩ = some (.int .i64 t341) := (blk_cell BK349.out 1).trans rfl; have hcz44_2 : w43.cell? ⟨gb349, 2, none⟩ = some (.int .i64 t342) := (blk_cell BK349.out 2).trans rfl; have hcz44_3 : w43.cell? ⟨gb349, 3, none⟩ = some (.int .i64 t343) := (blk_cell BK349.out 3).trans rfl; have hcz44_4 : w43.cell? ⟨gb349, 4, none⟩ = some (.int .i64 t344) := (blk_cell BK349.out 4).trans rfl; have hcz44_5 : w43.cell? ⟨gb349, 5, none⟩ = some (.int .i64 t345) := (blk_cell BK349.out 5).trans rfl; have hcz44_6 : w43.cell? ⟨gb349, 6, none⟩ = some (.bool t346) := (blk_cell BK349.out 6).trans rfl; have hcz44_7 : w43.cell? ⟨gb349, 7, none⟩ = some (.int .i64 t347) := (blk_cell BK349.out 7).trans rfl; have hfz44_0 := blk_frozen BK349.out 0; have hfz44_1 := blk_frozen BK349.out 1; have hfz44_2 := blk_frozen BK349.out 2; have hfz44_3 := blk_frozen BK349.out 3; have hfz44_4 := blk_frozen BK349.out 4; have hfz44_5 := blk_frozen BK349.out 5; have hfz44_6 := blk_frozen BK349.out 6; have hfz44_7 := blk_frozen BK349.out 7; have hcz45_0 : w43.cell? ⟨gb359, 0, none⟩ = some (.int .i64 t350) := (blk_cell BK359.out 0).trans rfl; have hcz45_1 : w43.cell? ⟨gb359, 1, none⟩ = some (.int .i64 t351) := (blk_cell BK359.out 1).trans rfl; have hcz45_2 : w43.cell? ⟨gb359, 2, none⟩ = some (.int .i64 t352) := (blk_cell BK359.out 2).trans rfl; have hcz45_3 : w43.cell? ⟨gb359, 3, none⟩ = some (.int .i64 t353) := (blk_cell BK359.out 3).trans rfl; have hcz45_4 : w43.cell? ⟨gb359, 4, none⟩ = some (.int .i64 t354) := (blk_cell BK359.out 4).trans rfl; have hcz45_5 : w43.cell? ⟨gb359, 5, none⟩ = some (.int .i64 t355) := (blk_cell BK359.out 5).trans rfl; have hcz45_6 : w43.cell? ⟨gb359, 6, none⟩ = some (.bool t356) := (blk_cell BK359.out 6).trans rfl; have hcz45_7 : w43.cell? ⟨gb359, 7, none⟩ = some (.int .i64 t357) := (blk_cell BK359.out 7).trans rfl; have hfz45_0 := blk_frozen BK359.out 0; have hfz45_1 := blk_frozen BK359.out 1; have hfz45_2 := blk_frozen BK359.out 2; have hfz45_3 := blk_frozen BK359.out 3; have hfz45_4 := blk_frozen BK359.out 4; have hfz45_5 := blk_frozen BK359.out 5; have hfz45_6 := blk_frozen BK359.out 6; have hfz45_7 := blk_frozen BK359.out 7) | ((with_reducible refine gate_callee (f := 9) rfl ?_); refine goesL_ (some 69) rfl rfl Tryd.func9 (by kernel_rfl) rfl #[.agg #[.int .i64 t340, .int .i64 t341, .int .i64 t342, .int .i64 t343, .int .i64 t344, .int .i64 t345, .bool t346, .int .i64 t347], .agg #[.int .i64 t350, .int .i64 t351, .int .i64 t352, .int .i64 t353, .int .i64 t354, .int .i64 t355, .bool t356, .int .i64 t357]] rfl (by (try simp only [List.map_toArray, List.map_cons, List.map_nil]); first | done | rfl | (simp only [List.length_drop, List.length_take]; rfl)) ?_; (with_reducible refine (date_Cmp.calls kj14 t340 t341 t342 t343 t344 t345 t346 t347 t350 t351 t352 t353 t354 t355 t356 t357 t362 _ A33.out).mono ?_); rintro e w46 ⟨rfl, hb⟩; refine ⟨_, rfl, ?_⟩; have n0_ := Aside0.mk (blk_below (S.b BK339.out) hb); have n1_ := Aside0.mk (blk_below (S.b BK349.out) hb); have n2_ := Aside0.mk (blk_below (S.b BK359.out) hb); have n3_ := Aside0.mk (below_step (by repeat (first | (with_reducible first | exact HB.out | apply below_alloc | apply pw_below_drewN | apply below_drew1 | refine below_set ?_ GE339.out | refine below_set ?_ GE349.out | refine below_set ?_ GE359.out) | exact HB.out)) hb); clear BK339; clear BK349; clear BK359; clear HB; have BK339 := n0_; have BK349 := n1_; have BK359 := n2_; have HB := n3_; clear n0_ n1_ n2_ n3_; (try clear hb); (try clear hb2); (try clear hk); (try clear hi)))
        (try simp only [Act.put, List.setIfInBounds_toArray, List.set_cons_zero, List.set_cons_succ])
        go_cut [87] (fun v87 wc => ∃ (kq : Nat) (x87_33 : Bool), v87 = .bool x87_33 ∧ Aside0 (rubriclaw6_DateOrders.j2 kq t360 t361 t362 x87_33 t330 t331 t332 t333 t334 t335 t336 t337 t340 t341 t342 t343 t344 t345 t346 t347 t350 t351 t352 t353 t354 t355 t356 t357 = some r) ∧ Aside0 (kq ≤ kj14) ∧ Aside0 (wc.heap[gb339]? = some (.cells #[.int .i64 t330, .int .i64 t331, .int .i64 t332, .int .i64 t333, .int .i64 t334, .int .i64 t335, .bool t336, .int .i64 t337] 24 (0, 0))) ∧ Aside0 (wc.heap[gb349]? = some (.cells #[.int .i64 t340, .int .i64 t341, .int .i64 t342, .int .i64 t343, .int .i64 t344, .int .i64 t345, .bool t346, .int .i64 t347] 24 (0, 0))) ∧ Aside0 (wc.heap[gb359]? = some (.cells #[.int .i64 t350, .int .i64 t351, .int .i64 t352, .int .i64 t353, .int .i64 t354, .int .i64 t355, .bool t356, .int .i64 t357] 24 (0, 0))) ∧ Aside0 (Below w.heap.size w wc))
        case first =>
         have H := HC34.out
         clear HC34
         replace H := Option.bind_eq_some_iff.mp H
         obtain ⟨t363, A470, H⟩ := H
         try dsimp only at H
         have A47 := Aside0.mk A470
         clear A470
         by_cases c48 : t360 = t363
         ·rw [if_pos c48] at H
          have c48b0 : (t360 == t363) = true := beq_iff_eq.mpr c48
          have c48b1 : (t360 != t363) = false := bne_eq_false_iff_eq.mpr c48
          clear c48
          (first | rw [c48b0] | (simp only [i64_w, i32_w]; rw [c48b0]) | skip)
          replace H := Option.bind_eq_some_iff.mp H
          obtain ⟨t364, A490, H⟩ := H
          try dsimp only at H
          have A49 := Aside0.mk A490
          clear A490
          by_cases c50 : t362 = t364
          ·rw [if_pos c50] at H
           have c50b0 : (t362 == t364) = true := beq_iff_eq.mpr c50
           have c50b1 : (t362 != t364) = false := bne_eq_false_iff_eq.mpr c50
           clear c50
           replace H := Option.bind_eq_some_iff.mp H
           obtain ⟨t365, A510, H⟩ := H
           try dsimp only at H
           have A51 := Aside0.mk A510
           clear A510
           have H' := Aside0.mk H
           clear H
           have hnb52 := NB339_349.out
           have hnc52 := NB349_339.out
           have hnb53 := NB339_359.out
           have hnc53 := NB359_339.out
           have hcz54_0 : w46.cell? ⟨gb339, 0, none⟩ = some (.int .i64 t330) := (blk_cell BK339.out 0).trans rfl
           have hcz54_1 : w46.cell? ⟨gb339, 1, none⟩ = some (.int .i64 t331) := (blk_cell BK339.out 1).trans rfl
           have hcz54_2 : w46.cell? ⟨gb339, 2, none⟩ = some (.int .i64 t332) := (blk_cell BK339.out 2).trans rfl
           have hcz54_3 : w46.cell? ⟨gb339, 3, none⟩ = some (.int .i64 t333) := (blk_cell BK339.out 3).trans rfl
           have hcz54_4 : w46.cell? ⟨gb339, 4, none⟩ = some (.int .i64 t334) := (blk_cell BK339.out 4).trans rfl
           have hcz54_5 : w46.cell? ⟨gb339, 5, none⟩ = some (.int .i64 t335) := (blk_cell BK339.out 5).trans rfl
           have hcz54_6 : w46.cell? ⟨gb339, 6, none⟩ = some (.bool t336) := (blk_cell BK339.out 6).trans rfl
           have hcz54_7 : w46.cell? ⟨gb339, 7, none⟩ = some (.int .i64 t337) := (blk_cell BK339.out 7).trans rfl
           have hfz54_0 := blk_frozen BK339.out 0
           have hfz54_1 := blk_frozen BK339.out 1
           have hfz54_2 := blk_frozen BK339.out 2
           have hfz54_3 := blk_frozen BK339.out 3
           have hfz54_4 := blk_frozen BK339.out 4
           have hfz54_5 := blk_frozen BK339.out 5
           have hfz54_6 := blk_frozen BK339.out 6
           have hfz54_7 := blk_frozen BK339.out 7
           have hnb55 := NB349_359.out
           have hnc55 := NB359_349.out
           have hcz56_0 : w46.cell? ⟨gb349, 0, none⟩ = some (.int .i64 t340) := (blk_cell BK349.out 0).trans rfl
           have hcz56_1 : w46.cell? ⟨gb349, 1, none⟩ = some (.int .i64 t341) := (blk_cell BK349.out 1).trans rfl
           have hcz56_2 : w46.cell? ⟨gb349, 2, none⟩ = some (.int .i64 t342) := (blk_cell BK349.out 2).trans rfl
           have hcz56_3 : w46.cell? ⟨gb349, 3, none⟩ = some (.int .i64 t343) := (blk_cell BK349.out 3).trans rfl
           have hcz56_4 : w46.cell? ⟨gb349, 4, none⟩ = some (.int .i64 t344) := (blk_cell BK349.out 4).trans rfl
           have hcz56_5 : w46.cell? ⟨gb349, 5, none⟩ = some (.int .i64 t345) := (blk_cell BK349.out 5).trans rfl
           have hcz56_6 : w46.cell? ⟨gb349, 6, none⟩ = some (.bool t346) := (blk_cell BK349.out 6).trans rfl
           have hcz56_7 : w46.cell? ⟨gb349, 7, none⟩ = some (.int .i64 t347) := (blk_cell BK349.out 7).trans rfl
           have hfz56_0 := blk_frozen BK349.out 0
           have hfz56_1 := blk_frozen BK349.out 1
           have hfz56_2 := blk_frozen BK349.out 2
           have hfz56_3 := blk_frozen BK349.out 3
           have hfz56_4 := blk_frozen BK349.out 4
           have hfz56_5 := blk_frozen BK349.out 5
           have hfz56_6 := blk_frozen BK349.out 6
           have hfz56_7 := blk_frozen BK349.out 7
           go_wp2_with (first | ((with_reducible refine gate_callee (f := 10) rfl ?_); refine goesL_ (some 73) rfl rfl Tryd.func10 (by kernel_rfl) rfl #[.agg #[.int .i64 t330, .int .i64 t331, .int .i64 t332, .int .i64 t333, .int .i64 t334, .int .i64 t335, .bool t336, .int .i64 t337], .agg #[.int .i64 t340, .int .i64 t341, .int .i64 t342, .int .i64 t343, .int .i64 t344, .int .i64 t345, .bool t346, .int .i64 t347]] rfl (by (try simp only [List.map_toArray, List.map_cons, List.map_nil]); first | done | rfl | (simp only [List.length_drop, List.length_take]; rfl)) ?_; (with_reducible refine (rubricref6_Cmp.calls kj14 t330 t331 t332 t333 t334 t335 t336 t337 t340 t341 t342 t343 t344 t345 t346 t347 t363 _ A47.out).mono ?_); rintro e w57 ⟨rfl, hb⟩; refine ⟨_, rfl, ?_⟩; have n0_ := Aside0.mk (blk_below (S.b BK339.out) hb); have n1_ := Aside0.mk (blk_below (S.b BK349.out) hb); have n2_ := Aside0.mk (blk_below (S.b BK359.out) hb); have n3_ := Aside0.mk (below_step (by repeat (first | (with_reducible first | exact HB.out | apply below_alloc | apply pw_below_drewN | apply below_drew1 | refine below_set ?_ GE339.out | refine below_set ?_ GE349.out | refine below_set ?_ GE359.out) | exact HB.out)) hb); clear BK339; clear BK349; clear BK359; clear HB; have BK339 := n0_; have BK349 := n1_; have BK359 := n2_; have HB := n3_; clear n0_ n1_ n2_ n3_; (try clear hb); (try clear hb2); (try clear hk); (try clear hi); have hcz58_0 : w57.cell? ⟨gb349, 0, none⟩ = some (.int .i64 t340) := (blk_cell BK349.out 0).trans rfl; have hcz58_1 : w57.cell? ⟨gb349, 1, none⟩ = some (.int .i64 t341) := (blk_cell BK349.out 1).trans rfl; have hcz58_2 : w57.cell? ⟨gb349, 2, none⟩ = some (.int .i64 t342) := (blk_cell BK349.out 2).trans rfl; have hcz58_3 : w57.cell? ⟨gb349, 3, none⟩ = some (.int .i64 t343) := (blk_cell BK349.out 3).trans rfl; have hcz58_4 : w57.cell? ⟨gb349, 4, none⟩ = some (.int .i64 t344) := (blk_cell BK349.out 4).trans rfl; have hcz58_5 : w57.cell? ⟨gb349, 5, none⟩ = some (.int .i64 t345) := (blk_cell BK349.out 5).trans rfl; have hcz58_6 : w57.cell? ⟨gb349, 6, none⟩ = some (.bool t346) := (blk_cell BK349.out 6).trans rfl; have hcz58_7 : w57.cell? ⟨gb349, 7, none⟩ = some (.int .i64 t347) := (blk_cell BK349.out 7).trans rfl; have hfz58_0 := blk_frozen BK349.out 0; have hfz58_1 := blk_frozen BK349.out 1; have hfz58_2 := blk_frozen BK349.out 2; have hfz58_3 := blk_frozen BK349.out 3; have hfz58_4 := blk_frozen BK349.out 4; have hfz58_5 := blk_frozen BK349.out 5; have hfz58_6 := blk_frozen BK349.out 6; have hfz58_7 := blk_frozen BK349.out 7; have hcz59_0 : w57.cell? ⟨gb359, 0, none⟩ = some (.int .i64 t350) := (blk_cell BK359.out 0).trans rfl; have hcz59_1 : w57.cell? ⟨gb359, 1, none⟩ = some (.int .i64 t351) := (blk_cell BK359.out 1).trans rfl; have hcz59_2 : w57.cell? ⟨gb359, 2, none⟩ = some (.int .i64 t352) := (blk_cell BK359.out 2).trans rfl; have hcz59_3 : w57.cell? ⟨gb359, 3, none⟩ = some (.int .i64 t353) := (blk_cell BK359.out 3).trans rfl; have hcz59_4 : w57.cell? ⟨gb359, 4, none⟩ = some (.int .i64 t354) := (blk_cell BK359.out 4).trans rfl; have hcz59_5 : w57.cell? ⟨gb359, 5, none⟩ = some (.int .i64 t355) := (blk_cell BK359.out 5).trans rfl; have hcz59_6 : w57.cell? ⟨gb359, 6, none⟩ = some (.bool t356) := (blk_cell BK359.out 6).trans rfl; have hcz59_7 : w57.cell? ⟨gb359, 7, none⟩ = some (.int .i64 t357) := (blk_cell BK359.out 7).trans rfl; have hfz59_0 := blk_frozen BK359.out 0; have hfz59_1 := blk_frozen BK359.out 1; have hfz59_2 := blk_frozen BK359.out 2; have hfz59_3 := blk_frozen BK359.out 3; have hfz59_4 := blk_frozen BK359.out 4; have hfz59_5 := blk_frozen BK359.out 5; have hfz59_6 := blk_frozen BK359.out 6; have hfz59_7 := blk_frozen BK359.out 7) | (go_at_call 10; (with_reducible refine (rubricref6_Cmp.calls kj14 t340 t341 t342 t343 t344 t345 t346 t347 t350 t351 t352 t353 t354 t355 t356 t357 t364 _ A49.out).mono ?_); rintro e w60 ⟨rfl, hb⟩; have n0_ := Aside0.mk (blk_below (S.b BK339.out) hb); have n1_ := Aside0.mk (blk_below (S.b BK349.out) hb); have n2_ := Aside0.mk (blk_below (S.b BK359.out) hb); have n3_ := Aside0.mk (below_step (by repeat (first | (with_reducible first | exact HB.out | apply below_alloc | apply pw_below_drewN | apply below_drew1 | refine below_set ?_ GE339.out | refine below_set ?_ GE349.out | refine below_set ?_ GE359.out) | exact HB.out)) hb); clear BK339; clear BK349; clear BK359; clear HB; have BK339 := n0_; have BK349 := n1_; have BK359 := n2_; have HB := n3_; clear n0_ n1_ n2_ n3_; (try clear hb); (try clear hb2); (try clear hk); (try clear hi); have hcz61_0 : w60.cell? ⟨gb339, 0, none⟩ = some (.int .i64 t330) := (blk_cell BK339.out 0).trans rfl; have hcz61_1 : w60.cell? ⟨gb339, 1, none⟩ = some (.int .i64 t331) := (blk_cell BK339.out 1).trans rfl; have hcz61_2 : w60.cell? ⟨gb339, 2, none⟩ = some (.int .i64 t332) := (blk_cell BK339.out 2).trans rfl; have hcz61_3 : w60.cell? ⟨gb339, 3, none⟩ = some (.int .i64 t333) := (blk_cell BK339.out 3).trans rfl; have hcz61_4 : w60.cell? ⟨gb339, 4, none⟩ = some (.int .i64 t334) := (blk_cell BK339.out 4).trans rfl; have hcz61_5 : w60.cell? ⟨gb339, 5, none⟩ = some (.int .i64 t335) := (blk_cell BK339.out 5).trans rfl; have hcz61_6 : w60.cell? ⟨gb339, 6, none⟩ = some (.bool t336) := (blk_cell BK339.out 6).trans rfl; have hcz61_7 : w60.cell? ⟨gb339, 7, none⟩ = some (.int .i64 t337) := (blk_cell BK339.out 7).trans rfl; have hfz61_0 := blk_frozen BK339.out 0; have hfz61_1 := blk_frozen BK339.out 1; have hfz61_2 := blk_frozen BK339.out 2; have hfz61_3 := blk_frozen BK339.out 3; have hfz61_4 := blk_frozen BK339.out 4; have hfz61_5 := blk_frozen BK339.out 5; have hfz61_6 := blk_frozen BK339.out 6; have hfz61_7 := blk_frozen BK339.out 7) | (go_at_call 9; (with_reducible refine (date_Cmp.calls kj14 t330 t331 t332 t333 t334 t335 t336 t337 t330 t331 t332 t333 t334 t335 t336 t337 t365 _ A51.out).mono ?_); rintro e w62 ⟨rfl, hb⟩; have n0_ := Aside0.mk (blk_below (S.b BK339.out) hb); have n1_ := Aside0.mk (blk_below (S.b BK349.out) hb); have n2_ := Aside0.mk (blk_below (S.b BK359.out) hb); have n3_ := Aside0.mk (below_step (by repeat (first | (with_reducible first | exact HB.out | apply below_alloc | apply pw_below_drewN | apply below_drew1 | refine below_set ?_ GE339.out | refine below_set ?_ GE349.out | refine below_set ?_ GE359.out) | exact HB.out)) hb); clear BK339; clear BK349; clear BK359; clear HB; have BK339 := n0_; have BK349 := n1_; have BK359 := n2_; have HB := n3_; clear n0_ n1_ n2_ n3_; (try clear hb); (try clear hb2); (try clear hk); (try clear hi)))
           go_meet
           case rel => exact ⟨_, ((t365 != 0)), (by first | rfl | (simp; done) | (simp [*]; done)), H', ⟨by have := HJ6.out; have := HJ14.out; first | omega | exact Nat.le_refl _⟩, ⟨S.b BK339.out⟩, ⟨S.b BK349.out⟩, ⟨S.b BK359.out⟩, ⟨by repeat (first | (with_reducible first | exact HB.out | apply below_alloc | apply pw_below_drewN | apply below_drew1 | refine below_set ?_ GE339.out | refine below_set ?_ GE349.out | refine below_set ?_ GE359.out) | exact HB.out)⟩⟩
          ·rw [if_neg c50] at H
           have c50b0 : (t362 == t364) = false := beq_eq_false_iff_ne.mpr c50
           have c50b1 : (t362 != t364) = true := bne_iff_ne.mpr c50
           have H' := Aside0.mk H
           clear H
           have hnb63 := NB339_349.out
           have hnc63 := NB349_339.out
           have hnb64 := NB339_359.out
           have hnc64 := NB359_339.out
           have hcz65_0 : w46.cell? ⟨gb339, 0, none⟩ = some (.int .i64 t330) := (blk_cell BK339.out 0).trans rfl
           have hcz65_1 : w46.cell? ⟨gb339, 1, none⟩ = some (.int .i64 t331) := (blk_cell BK339.out 1).trans rfl
           have hcz65_2 : w46.cell? ⟨gb339, 2, none⟩ = some (.int .i64 t332) := (blk_cell BK339.out 2).trans rfl
           have hcz65_3 : w46.cell? ⟨gb339, 3, none⟩ = some (.int .i64 t333) := (blk_cell BK339.out 3).trans rfl
           have hcz65_4 : w46.cell? ⟨gb339, 4, none⟩ = some (.int .i64 t334) := (blk_cell BK339.out 4).trans rfl
           have hcz65_5 : w46.cell? ⟨gb339, 5, none⟩ = some (.int .i64 t335) := (blk_cell BK339.out 5).trans rfl
           have hcz65_6 : w46.cell? ⟨gb339, 6, none⟩ = some (.bool t336) := (blk_cell BK339.out 6).trans rfl
           have hcz65_7 : w46.cell? ⟨gb339, 7, none⟩ = some (.int .i64 t337) := (blk_cell BK339.out 7).trans rfl
           have hfz65_0 := blk_frozen BK339.out 0
           have hfz65_1 := blk_frozen BK339.out 1
           have hfz65_2 := blk_frozen BK339.out 2
           have hfz65_3 := blk_frozen BK339.out 3
           have hfz65_4 := blk_frozen BK339.out 4
           have hfz65_5 := blk_frozen BK339.out 5
           have hfz65_6 := blk_frozen BK339.out 6
           have hfz65_7 := blk_frozen BK339.out 7
           have hnb66 := NB349_359.out
           have hnc66 := NB359_349.out
           have hcz67_0 : w46.cell? ⟨gb349, 0, none⟩ = some (.int .i64 t340) := (blk_cell BK349.out 0).trans rfl
           have hcz67_1 : w46.cell? ⟨gb349, 1, none⟩ = some (.int .i64 t341) := (blk_cell BK349.out 1).trans rfl
           have hcz67_2 : w46.cell? ⟨gb349, 2, none⟩ = some (.int .i64 t342) := (blk_cell BK349.out 2).trans rfl
           have hcz67_3 : w46.cell? ⟨gb349, 3, none⟩ = some (.int .i64 t343) := (blk_cell BK349.out 3).trans rfl
           have hcz67_4 : w46.cell? ⟨gb349, 4, none⟩ = some (.int .i64 t344) := (blk_cell BK349.out 4).trans rfl
           have hcz67_5 : w46.cell? ⟨gb349, 5, none⟩ = some (.int .i64 t345) := (blk_cell BK349.out 5).trans rfl
           have hcz67_6 : w46.cell? ⟨gb349, 6, none⟩ = some (.bool t346) := (blk_cell BK349.out 6).trans rfl
           have hcz67_7 : w46.cell? ⟨gb349, 7, none⟩ = some (.int .i64 t347) := (blk_cell BK349.out 7).trans rfl
           have hfz67_0 := blk_frozen BK349.out 0
           have hfz67_1 := blk_frozen BK349.out 1
           have hfz67_2 := blk_frozen BK349.out 2
           have hfz67_3 := blk_frozen BK349.out 3
           have hfz67_4 := blk_frozen BK349.out 4
           have hfz67_5 := blk_frozen BK349.out 5
           have hfz67_6 := blk_frozen BK349.out 6
           have hfz67_7 := blk_frozen BK349.out 7
           go_wp2_with (first | ((with_reducible refine gate_callee (f := 10) rfl ?_); refine goesL_ (some 73) rfl rfl Tryd.func10 (by kernel_rfl) rfl #[.agg #[.int .i64 t330, .int .i64 t331, .int .i64 t332, .int .i64 t333, .int .i64 t334, .int .i64 t335, .bool t336, .int .i64 t337], .agg #[.int .i64 t340, .int .i64 t341, .int .i64 t342, .int .i64 t343, .int .i64 t344, .int .i64 t345, .bool t346, .int .i64 t347]] rfl (by (try simp only [List.map_toArray, List.map_cons, List.map_nil]); first | done | rfl | (simp only [List.length_drop, List.length_take]; rfl)) ?_; (with_reducible refine (rubricref6_Cmp.calls kj14 t330 t331 t332 t333 t334 t335 t336 t337 t340 t341 t342 t343 t344 t345 t346 t347 t363 _ A47.out).mono ?_); rintro e w68 ⟨rfl, hb⟩; refine ⟨_, rfl, ?_⟩; have n0_ := Aside0.mk (blk_below (S.b BK339.out) hb); have n1_ := Aside0.mk (blk_below (S.b BK349.out) hb); have n2_ := Aside0.mk (blk_below (S.b BK359.out) hb); have n3_ := Aside0.mk (below_step (by repeat (first | (with_reducible first | exact HB.out | apply below_alloc | apply pw_below_drewN | apply below_drew1 | refine below_set ?_ GE339.out | refine below_set ?_ GE349.out | refine below_set ?_ GE359.out) | exact HB.out)) hb); clear BK339; clear BK349; clear BK359; clear HB; have BK339 := n0_; have BK349 := n1_; have BK359 := n2_; have HB := n3_; clear n0_ n1_ n2_ n3_; (try clear hb); (try clear hb2); (try clear hk); (try clear hi); have hcz69_0 : w68.cell? ⟨gb349, 0, none⟩ = some (.int .i64 t340) := (blk_cell BK349.out 0).trans rfl; have hcz69_1 : w68.cell? ⟨gb349, 1, none⟩ = some (.int .i64 t341) := (blk_cell BK349.out 1).trans rfl; have hcz69_2 : w68.cell? ⟨gb349, 2, none⟩ = some (.int .i64 t342) := (blk_cell BK349.out 2).trans rfl; have hcz69_3 : w68.cell? ⟨gb349, 3, none⟩ = some (.int .i64 t343) := (blk_cell BK349.out 3).trans rfl; have hcz69_4 : w68.cell? ⟨gb349, 4, none⟩ = some (.int .i64 t344) := (blk_cell BK349.out 4).trans rfl; have hcz69_5 : w68.cell? ⟨gb349, 5, none⟩ = some (.int .i64 t345) := (blk_cell BK349.out 5).trans rfl; have hcz69_6 : w68.cell? ⟨gb349, 6, none⟩ = some (.bool t346) := (blk_cell BK349.out 6).trans rfl; have hcz69_7 : w68.cell? ⟨gb349, 7, none⟩ = some (.int .i64 t347) := (blk_cell BK349.out 7).trans rfl; have hfz69_0 := blk_frozen BK349.out 0; have hfz69_1 := blk_frozen BK349.out 1; have hfz69_2 := blk_frozen BK349.out 2; have hfz69_3 := blk_frozen BK349.out 3; have hfz69_4 := blk_frozen BK349.out 4; have hfz69_5 := blk_frozen BK349.out 5; have hfz69_6 := blk_frozen BK349.out 6; have hfz69_7 := blk_frozen BK349.out 7; have hcz70_0 : w68.cell? ⟨gb359, 0, none⟩ = some (.int .i64 t350) := (blk_cell BK359.out 0).trans rfl; have hcz70_1 : w68.cell? ⟨gb359, 1, none⟩ = some (.int .i64 t351) := (blk_cell BK359.out 1).trans rfl; have hcz70_2 : w68.cell? ⟨gb359, 2, none⟩ = some (.int .i64 t352) := (blk_cell BK359.out 2).trans rfl; have hcz70_3 : w68.cell? ⟨gb359, 3, none⟩ = some (.int .i64 t353) := (blk_cell BK359.out 3).trans rfl; have hcz70_4 : w68.cell? ⟨gb359, 4, none⟩ = some (.int .i64 t354) := (blk_cell BK359.out 4).trans rfl; have hcz70_5 : w68.cell? ⟨gb359, 5, none⟩ = some (.int .i64 t355) := (blk_cell BK359.out 5).trans rfl; have hcz70_6 : w68.cell? ⟨gb359, 6, none⟩ = some (.bool t356) := (blk_cell BK359.out 6).trans rfl; have hcz70_7 : w68.cell? ⟨gb359, 7, none⟩ = some (.int .i64 t357) := (blk_cell BK359.out 7).trans rfl; have hfz70_0 := blk_frozen BK359.out 0; have hfz70_1 := blk_frozen BK359.out 1; have hfz70_2 := blk_frozen BK359.out 2; have hfz70_3 := blk_frozen BK359.out 3; have hfz70_4 := blk_frozen BK359.out 4; have hfz70_5 := blk_frozen BK359.out 5; have hfz70_6 := blk_frozen BK359.out 6; have hfz70_7 := blk_frozen BK359.out 7) | (go_at_call 10; (with_reducible refine (rubricref6_Cmp.calls kj14 t340 t341 t342 t343 t344 t345 t346 t347 t350 t351 t352 t353 t354 t355 t356 t357 t364 _ A49.out).mono ?_); rintro e w71 ⟨rfl, hb⟩; have n0_ := Aside0.mk (blk_below (S.b BK339.out) hb); have n1_ := Aside0.mk (blk_below (S.b BK349.out) hb); have n2_ := Aside0.mk (blk_below (S.b BK359.out) hb); have n3_ := Aside0.mk (below_step (by repeat (first | (with_reducible first | exact HB.out | apply below_alloc | apply pw_below_drewN | apply below_drew1 | refine below_set ?_ GE339.out | refine below_set ?_ GE349.out | refine below_set ?_ GE359.out) | exact HB.out)) hb); clear BK339; clear BK349; clear BK359; clear HB; have BK339 := n0_; have BK349 := n1_; have BK359 := n2_; have HB := n3_; clear n0_ n1_ n2_ n3_; (try clear hb); (try clear hb2); (try clear hk); (try clear hi)))
           go_meet
           case rel => exact ⟨_, (true), (by first | rfl | (simp; done) | (simp [*]; done)), H', ⟨by have := HJ6.out; have := HJ14.out; first | omega | exact Nat.le_refl _⟩, ⟨S.b BK339.out⟩, ⟨S.b BK349.out⟩, ⟨S.b BK359.out⟩, ⟨by repeat (first | (with_reducible first | exact HB.out | apply below_alloc | apply pw_below_drewN | apply below_drew1 | refine below_set ?_ GE339.out | refine below_set ?_ GE349.out | refine below_set ?_ GE359.out) | exact HB.out)⟩⟩
         ·rw [if_neg c48] at H
          have c48b0 : (t360 == t363) = false := beq_eq_false_iff_ne.mpr c48
          have c48b1 : (t360 != t363) = true := bne_iff_ne.mpr c48
          (first | rw [c48b0] | (simp only [i64_w, i32_w]; rw [c48b0]) | skip)
          have H' := Aside0.mk H
          clear H
          have hnb72 := NB339_349.out
          have hnc72 := NB349_339.out
          have hnb73 := NB339_359.out
          have hnc73 := NB359_339.out
          have hcz74_0 : w46.cell? ⟨gb339, 0, none⟩ = some (.int .i64 t330) := (blk_cell BK339.out 0).trans rfl
          have hcz74_1 : w46.cell? ⟨gb339, 1, none⟩ = some (.int .i64 t331) := (blk_cell BK339.out 1).trans rfl
          have hcz74_2 : w46.cell? ⟨gb339, 2, none⟩ = some (.int .i64 t332) := (blk_cell BK339.out 2).trans rfl
          have hcz74_3 : w46.cell? ⟨gb339, 3, none⟩ = some (.int .i64 t333) := (blk_cell BK339.out 3).trans rfl
          have hcz74_4 : w46.cell? ⟨gb339, 4, none⟩ = some (.int .i64 t334) := (blk_cell BK339.out 4).trans rfl
          have hcz74_5 : w46.cell? ⟨gb339, 5, none⟩ = some (.int .i64 t335) := (blk_cell BK339.out 5).trans rfl
          have hcz74_6 : w46.cell? ⟨gb339, 6, none⟩ = some (.bool t336) := (blk_cell BK339.out 6).trans rfl
          have hcz74_7 : w46.cell? ⟨gb339, 7, none⟩ = some (.int .i64 t337) := (blk_cell BK339.out 7).trans rfl
          have hfz74_0 := blk_frozen BK339.out 0
          have hfz74_1 := blk_frozen BK339.out 1
          have hfz74_2 := blk_frozen BK339.out 2
          have hfz74_3 := blk_frozen BK339.out 3
          have hfz74_4 := blk_frozen BK339.out 4
          have hfz74_5 := blk_frozen BK339.out 5
          have hfz74_6 := blk_frozen BK339.out 6
          have hfz74_7 := blk_frozen BK339.out 7
          have hnb75 := NB349_359.out
          have hnc75 := NB359_349.out
          have hcz76_0 : w46.cell? ⟨gb349, 0, none⟩ = some (.int .i64 t340) := (blk_cell BK349.out 0).trans rfl
          have hcz76_1 : w46.cell? ⟨gb349, 1, none⟩ = some (.int .i64 t341) := (blk_cell BK349.out 1).trans rfl
          have hcz76_2 : w46.cell? ⟨gb349, 2, none⟩ = some (.int .i64 t342) := (blk_cell BK349.out 2).trans rfl
          have hcz76_3 : w46.cell? ⟨gb349, 3, none⟩ = some (.int .i64 t343) := (blk_cell BK349.out 3).trans rfl
          have hcz76_4 : w46.cell? ⟨gb349, 4, none⟩ = some (.int .i64 t344) := (blk_cell BK349.out 4).trans rfl
          have hcz76_5 : w46.cell? ⟨gb349, 5, none⟩ = some (.int .i64 t345) := (blk_cell BK349.out 5).trans rfl
          have hcz76_6 : w46.cell? ⟨gb349, 6, none⟩ = some (.bool t346) := (blk_cell BK349.out 6).trans rfl
          have hcz76_7 : w46.cell? ⟨gb349, 7, none⟩ = some (.int .i64 t347) := (blk_cell BK349.out 7).trans rfl
          have hfz76_0 := blk_frozen BK349.out 0
          have hfz76_1 := blk_frozen BK349.out 1
          have hfz76_2 := blk_frozen BK349.out 2
          have hfz76_3 := blk_frozen BK349.out 3
          have hfz76_4 := blk_frozen BK349.out 4
          have hfz76_5 := blk_frozen BK349.out 5
          have hfz76_6 := blk_frozen BK349.out 6
          have hfz76_7 := blk_frozen BK349.out 7
          go_wp2_with (first | ((with_reducible refine gate_callee (f := 10) rfl ?_); refine goesL_ (some 73) rfl rfl Tryd.func10 (by kernel_rfl) rfl #[.agg #[.int .i64 t330, .int .i64 t331, .int .i64 t332, .int .i64 t333, .int .i64 t334, .int .i64 t335, .bool t336, .int .i64 t337], .agg #[.int .i64 t340, .int .i64 t341, .int .i64 t342, .int .i64 t343, .int .i64 t344, .int .i64 t345, .bool t346, .int .i64 t347]] rfl (by (try simp only [List.map_toArray, List.map_cons, List.map_nil]); first | done | rfl | (simp only [List.length_drop, List.length_take]; rfl)) ?_; (with_reducible refine (rubricref6_Cmp.calls kj14 t330 t331 t332 t333 t334 t335 t336 t337 t340 t341 t342 t343 t344 t345 t346 t347 t363 _ A47.out).mono ?_); rintro e w77 ⟨rfl, hb⟩; refine ⟨_, rfl, ?_⟩; have n0_ := Aside0.mk (blk_below (S.b BK339.out) hb); have n1_ := Aside0.mk (blk_below (S.b BK349.out) hb); have n2_ := Aside0.mk (blk_below (S.b BK359.out) hb); have n3_ := Aside0.mk (below_step (by repeat (first | (with_reducible first | exact HB.out | apply below_alloc | apply pw_below_drewN | apply below_drew1 | refine below_set ?_ GE339.out | refine below_set ?_ GE349.out | refine below_set ?_ GE359.out) | exact HB.out)) hb); clear BK339; clear BK349; clear BK359; clear HB; have BK339 := n0_; have BK349 := n1_; have BK359 := n2_; have HB := n3_; clear n0_ n1_ n2_ n3_; (try clear hb); (try clear hb2); (try clear hk); (try clear hi)))
          go_meet
          case rel => exact ⟨_, (true), (by first | rfl | (simp; done) | (simp [*]; done)), H', ⟨by have := HJ6.out; have := HJ14.out; first | omega | exact Nat.le_refl _⟩, ⟨S.b BK339.out⟩, ⟨S.b BK349.out⟩, ⟨S.b BK359.out⟩, ⟨by repeat (first | (with_reducible first | exact HB.out | apply below_alloc | apply pw_below_drewN | apply below_drew1 | refine below_set ?_ GE339.out | refine below_set ?_ GE349.out | refine below_set ?_ GE359.out) | exact HB.out)⟩⟩
        case rest =>
         clear HC34
         (try clear c1); (try clear c2); (try clear p2); (try clear c3); (try clear c4); (try clear c5); (try clear c6); (try clear c7); (try clear c8); (try clear c9); (try clear c9b0); (try clear c9b1); (try clear c10); (try clear c10b0); (try clear c10b1); (try clear c11); (try clear c21); (try clear c25); (try clear c26); (try clear c28); (try clear c28b0); (try clear c28b1); (try clear c29); (try clear c29b0); (try clear c29b1); (try clear c30); (try clear c35); (try clear c36); (try clear c38); (try clear c48); (try clear c48b0); (try clear c48b1); (try clear c50); (try clear c50b0); (try clear c50b1); (try clear c52); (try clear c53); (try clear c55); (try clear c63); (try clear c64); (try clear c66); (try clear c72); (try clear c73); (try clear c75); (try clear hcz18_0); (try clear hcz18_1); (try clear hcz18_2); (try clear hcz18_3); (try clear hcz18_4); (try clear hcz18_5); (try clear hcz18_6); (try clear hcz18_7); (try clear hcz22_0); (try clear hcz22_1); (try clear hcz22_2); (try clear hcz22_3); (try clear hcz22_4); (try clear hcz22_5); (try clear hcz22_6); (try clear hcz22_7); (try clear hcz27_0); (try clear hcz27_1); (try clear hcz27_2); (try clear hcz27_3); (try clear hcz27_4); (try clear hcz27_5); (try clear hcz27_6); (try clear hcz27_7); (try clear hcz37_0); (try clear hcz37_1); (try clear hcz37_2); (try clear hcz37_3); (try clear hcz37_4); (try clear hcz37_5); (try clear hcz37_6); (try clear hcz37_7); (try clear hcz39_0); (try clear hcz39_1); (try clear hcz39_2); (try clear hcz39_3); (try clear hcz39_4); (try clear hcz39_5); (try clear hcz39_6); (try clear hcz39_7); (try clear hcz41_0); (try clear hcz41_1); (try clear hcz41_2); (try clear hcz41_3); (try clear hcz41_4); (try clear hcz41_5); (try clear hcz41_6); (try clear hcz41_7); (try clear hcz42_0); (try clear hcz42_1); (try clear hcz42_2); (try clear hcz42_3); (try clear hcz42_4); (try clear hcz42_5); (try clear hcz42_6); (try clear hcz42_7); (try clear hcz44_0); (try clear hcz44_1); (try clear hcz44_2); (try clear hcz44_3); (try clear hcz44_4); (try clear hcz44_5); (try clear hcz44_6); (try clear hcz44_7); (try clear hcz45_0); (try clear hcz45_1); (try clear hcz45_2); (try clear hcz45_3); (try clear hcz45_4); (try clear hcz45_5); (try clear hcz45_6); (try clear hcz45_7); (try clear hcz54_0); (try clear hcz54_1); (try clear hcz54_2); (try clear hcz54_3); (try clear hcz54_4); (try clear hcz54_5); (try clear hcz54_6); (try clear hcz54_7); (try clear hcz56_0); (try clear hcz56_1); (try clear hcz56_2); (try clear hcz56_3); (try clear hcz56_4); (try clear hcz56_5); (try clear hcz56_6); (try clear hcz56_7); (try clear hcz58_0); (try clear hcz58_1); (try clear hcz58_2); (try clear hcz58_3); (try clear hcz58_4); (try clear hcz58_5); (try clear hcz58_6); (try clear hcz58_7); (try clear hcz59_0); (try clear hcz59_1); (try clear hcz59_2); (try clear hcz59_3); (try clear hcz59_4); (try clear hcz59_5); (try clear hcz59_6); (try clear hcz59_7); (try clear hcz61_0); (try clear hcz61_1); (try clear hcz61_2); (try clear hcz61_3); (try clear hcz61_4); (try clear hcz61_5); (try clear hcz61_6); (try clear hcz61_7); (try clear hcz65_0); (try clear hcz65_1); (try clear hcz65_2); (try clear hcz65_3); (try clear hcz65_4); (try clear hcz65_5); (try clear hcz65_6); (try clear hcz65_7); (try clear hcz67_0); (try clear hcz67_1); (try clear hcz67_2); (try clear hcz67_3); (try clear hcz67_4); (try clear hcz67_5); (try clear hcz67_6); (try clear hcz67_7); (try clear hcz69_0); (try clear hcz69_1); (try clear hcz69_2); (try clear hcz69_3); (try clear hcz69_4); (try clear hcz69_5); (try clear hcz69_6); (try clear hcz69_7); (try clear hcz70_0); (try clear hcz70_1); (try clear hcz70_2); (try clear hcz70_3); (try clear hcz70_4); (try clear hcz70_5); (try clear hcz70_6); (try clear hcz70_7); (try clear hcz74_0); (try clear hcz74_1); (try clear hcz74_2); (try clear hcz74_3); (try clear hcz74_4); (try clear hcz74_5); (try clear hcz74_6); (try clear hcz74_7); (try clear hcz76_0); (try clear hcz76_1); (try clear hcz76_2); (try clear hcz76_3); (try clear hcz76_4); (try clear hcz76_5); (try clear hcz76_6); (try clear hcz76_7); (try clear hfz18_0); (try clear hfz18_1); (try clear hfz18_2); (try clear hfz18_3); (try clear hfz18_4); (try clear hfz18_5); (try clear hfz18_6); (try clear hfz18_7); (try clear hfz22_0); (try clear hfz22_1); (try clear hfz22_2); (try clear hfz22_3); (try clear hfz22_4); (try clear hfz22_5); (try clear hfz22_6); (try clear hfz22_7); (try clear hfz27_0); (try clear hfz27_1); (try clear hfz27_2); (try clear hfz27_3); (try clear hfz27_4); (try clear hfz27_5); (try clear hfz27_6); (try clear hfz27_7); (try clear hfz37_0); (try clear hfz37_1); (try clear hfz37_2); (try clear hfz37_3); (try clear hfz37_4); (try clear hfz37_5); (try clear hfz37_6); (try clear hfz37_7); (try clear hfz39_0); (try clear hfz39_1); (try clear hfz39_2); (try clear hfz39_3); (try clear hfz39_4); (try clear hfz39_5); (try clear hfz39_6); (try clear hfz39_7); (try clear hfz41_0); (try clear hfz41_1); (try clear hfz41_2); (try clear hfz41_3); (try clear hfz41_4); (try clear hfz41_5); (try clear hfz41_6); (try clear hfz41_7); (try clear hfz42_0); (try clear hfz42_1); (try clear hfz42_2); (try clear hfz42_3); (try clear hfz42_4); (try clear hfz42_5); (try clear hfz42_6); (try clear hfz42_7); (try clear hfz44_0); (try clear hfz44_1); (try clear hfz44_2); (try clear hfz44_3); (try clear hfz44_4); (try clear hfz44_5); (try clear hfz44_6); (try clear hfz44_7); (try clear hfz45_0); (try clear hfz45_1); (try clear hfz45_2); (try clear hfz45_3); (try clear hfz45_4); (try clear hfz45_5); (try clear hfz45_6); (try clear hfz45_7); (try clear hfz54_0); (try clear hfz54_1); (try clear hfz54_2); (try clear hfz54_3); (try clear hfz54_4); (try clear hfz54_5); (try clear hfz54_6); (try clear hfz54_7); (try clear hfz56_0); (try clear hfz56_1); (try clear hfz56_2); (try clear hfz56_3); (try clear hfz56_4); (try clear hfz56_5); (try clear hfz56_6); (try clear hfz56_7); (try clear hfz58_0); (try clear hfz58_1); (try clear hfz58_2); (try clear hfz58_3); (try clear hfz58_4); (try clear hfz58_5); (try clear hfz58_6); (try clear hfz58_7); (try clear hfz59_0); (try clear hfz59_1); (try clear hfz59_2); (try clear hfz59_3); (try clear hfz59_4); (try clear hfz59_5); (try clear hfz59_6); (try clear hfz59_7); (try clear hfz61_0); (try clear hfz61_1); (try clear hfz61_2); (try clear hfz61_3); (try clear hfz61_4); (try clear hfz61_5); (try clear hfz61_6); (try clear hfz61_7); (try clear hfz65_0); (try clear hfz65_1); (try clear hfz65_2); (try clear hfz65_3); (try clear hfz65_4); (try clear hfz65_5); (try clear hfz65_6); (try clear hfz65_7); (try clear hfz67_0); (try clear hfz67_1); (try clear hfz67_2); (try clear hfz67_3); (try clear hfz67_4); (try clear hfz67_5); (try clear hfz67_6); (try clear hfz67_7); (try clear hfz69_0); (try clear hfz69_1); (try clear hfz69_2); (try clear hfz69_3); (try clear hfz69_4); (try clear hfz69_5); (try clear hfz69_6); (try clear hfz69_7); (try clear hfz70_0); (try clear hfz70_1); (try clear hfz70_2); (try clear hfz70_3); (try clear hfz70_4); (try clear hfz70_5); (try clear hfz70_6); (try clear hfz70_7); (try clear hfz74_0); (try clear hfz74_1); (try clear hfz74_2); (try clear hfz74_3); (try clear hfz74_4); (try clear hfz74_5); (try clear hfz74_6); (try clear hfz74_7); (try clear hfz76_0); (try clear hfz76_1); (try clear hfz76_2); (try clear hfz76_3); (try clear hfz76_4); (try clear hfz76_5); (try clear hfz76_6); (try clear hfz76_7); (try clear p2)
         obtain ⟨kq, x87_33, rfl, HA, HJ33, BK339, BK349, BK359, HB⟩ := hcut
         cases kq with
         | zero => exact absurd HA.out (by simp [rubriclaw6_DateOrders.j2])
         | succ kj33 =>
          have H := HA.out
          clear HA
          simp only [rubriclaw6_DateOrders.j2] at H
          by_cases c78 : x87_33 = true
          ·subst c78
           rw [if_pos rfl] at H
           try dsimp only at H
           exact absurd ((Option.some.inj H).trans HRT.out) (by decide)
          ·replace c78 := Bool.eq_false_iff.mpr c78
           subst c78
           rw [if_neg (show ¬ (false = true) by decide)] at H
           try dsimp only at H
           by_cases c79 : t360 = 2
           ·rw [if_pos c79] at H
            have c79b0 : (t360 == 2) = true := beq_iff_eq.mpr c79
            have c79b1 : (t360 != 2) = false := bne_eq_false_iff_eq.mpr c79
            clear c79
            by_cases c80 : t361 = 2
            ·rw [if_pos c80] at H
             have c80b0 : (t361 == 2) = true := beq_iff_eq.mpr c80
             have c80b1 : (t361 != 2) = false := bne_eq_false_iff_eq.mpr c80
             clear c80
             by_cases c81 : t360 = (-1)
             ·rw [if_pos c81] at H
              have c81b0 : (t360 == (-1)) = true := beq_iff_eq.mpr c81
              have c81b1 : (t360 != (-1)) = false := bne_eq_false_iff_eq.mpr c81
              clear c81
              by_cases c82 : t362 = (-1)
              ·rw [if_pos c82] at H
               have c82b0 : (t362 == (-1)) = true := beq_iff_eq.mpr c82
               have c82b1 : (t362 != (-1)) = false := bne_eq_false_iff_eq.mpr c82
               clear c82
               by_cases c83 : (t336 != t346) = true
               ·rw [if_pos c83] at H
                have c83b0 : (t336 != t346) = true := c83
                (try (have c83b1 : decide (t336 = t346) = false := by simpa using c83))
                (try (have c83b2 : (t336 == t346) = false := by simpa using c83))
                (try (have c83b3 : ¬ (t336 = t346) := by simpa using c83))
                clear c83
                obtain rfl := Option.some.inj H
                have hnb84 := NB339_349.out
                have hnc84 := NB349_339.out
                have hnb85 := NB339_359.out
                have hnc85 := NB359_339.out
                have hcz86_0 : wc.cell? ⟨gb339, 0, none⟩ = some (.int .i64 t330) := (blk_cell BK339.out 0).trans rfl
                have hcz86_1 : wc.cell? ⟨gb339, 1, none⟩ = some (.int .i64 t331) := (blk_cell BK339.out 1).trans rfl
                have hcz86_2 : wc.cell? ⟨gb339, 2, none⟩ = some (.int .i64 t332) := (blk_cell BK339.out 2).trans rfl
                have hcz86_3 : wc.cell? ⟨gb339, 3, none⟩ = some (.int .i64 t333) := (blk_cell BK339.out 3).trans rfl
                have hcz86_4 : wc.cell? ⟨gb339, 4, none⟩ = some (.int .i64 t334) := (blk_cell BK339.out 4).trans rfl
                have hcz86_5 : wc.cell? ⟨gb339, 5, none⟩ = some (.int .i64 t335) := (blk_cell BK339.out 5).trans rfl
                have hcz86_6 : wc.cell? ⟨gb339, 6, none⟩ = some (.bool t336) := (blk_cell BK339.out 6).trans rfl
                have hcz86_7 : wc.cell? ⟨gb339, 7, none⟩ = some (.int .i64 t337) := (blk_cell BK339.out 7).trans rfl
                have hfz86_0 := blk_frozen BK339.out 0
                have hfz86_1 := blk_frozen BK339.out 1
                have hfz86_2 := blk_frozen BK339.out 2
                have hfz86_3 := blk_frozen BK339.out 3
                have hfz86_4 := blk_frozen BK339.out 4
                have hfz86_5 := blk_frozen BK339.out 5
                have hfz86_6 := blk_frozen BK339.out 6
                have hfz86_7 := blk_frozen BK339.out 7
                have hnb87 := NB349_359.out
                have hnc87 := NB359_349.out
                have hcz88_0 : wc.cell? ⟨gb349, 0, none⟩ = some (.int .i64 t340) := (blk_cell BK349.out 0).trans rfl
                have hcz88_1 : wc.cell? ⟨gb349, 1, none⟩ = some (.int .i64 t341) := (blk_cell BK349.out 1).trans rfl
                have hcz88_2 : wc.cell? ⟨gb349, 2, none⟩ = some (.int .i64 t342) := (blk_cell BK349.out 2).trans rfl
                have hcz88_3 : wc.cell? ⟨gb349, 3, none⟩ = some (.int .i64 t343) := (blk_cell BK349.out 3).trans rfl
                have hcz88_4 : wc.cell? ⟨gb349, 4, none⟩ = some (.int .i64 t344) := (blk_cell BK349.out 4).trans rfl
                have hcz88_5 : wc.cell? ⟨gb349, 5, none⟩ = some (.int .i64 t345) := (blk_cell BK349.out 5).trans rfl
                have hcz88_6 : wc.cell? ⟨gb349, 6, none⟩ = some (.bool t346) := (blk_cell BK349.out 6).trans rfl
                have hcz88_7 : wc.cell? ⟨gb349, 7, none⟩ = some (.int .i64 t347) := (blk_cell BK349.out 7).trans rfl
                have hfz88_0 := blk_frozen BK349.out 0
                have hfz88_1 := blk_frozen BK349.out 1
                have hfz88_2 := blk_frozen BK349.out 2
                have hfz88_3 := blk_frozen BK349.out 3
                have hfz88_4 := blk_frozen BK349.out 4
                have hfz88_5 := blk_frozen BK349.out 5
                have hfz88_6 := blk_frozen BK349.out 6
                have hfz88_7 := blk_frozen BK349.out 7
                go_wp2
                go_ret
                exact ⟨by first | rfl | (simp [errW_none, errW_some] <;> rfl) | (simp [*, errW_none, errW_some] <;> rfl), by repeat (first | (with_reducible first | exact HB.out | apply below_alloc | apply pw_below_drewN | apply below_drew1 | refine below_set ?_ GE339.out | refine below_set ?_ GE349.out | refine below_set ?_ GE359.out) | exact HB.out)⟩
               ·rw [if_neg c83] at H
                have c83b0 : (t336 != t346) = false := by simpa using c83
                (try (have c83b1 : decide (t336 = t346) = true := by simpa using c83))
                (try (have c83b2 : (t336 == t346) = true := by simpa using c83))
                clear c83
                by_cases c89 : (t346 != t356) = true
                ·rw [if_pos c89] at H
                 have c89b0 : (t346 != t356) = true := c89
                 (try (have c89b1 : decide (t346 = t356) = false := by simpa using c89))
                 (try (have c89b2 : (t346 == t356) = false := by simpa using c89))
                 (try (have c89b3 : ¬ (t346 = t356) := by simpa using c89))
                 clear c89
                 obtain rfl := Option.some.inj H
                 have hnb90 := NB339_349.out
                 have hnc90 := NB349_339.out
                 have hnb91 := NB339_359.out
                 have hnc91 := NB359_339.out
                 have hcz92_0 : wc.cell? ⟨gb339, 0, none⟩ = some (.int .i64 t330) := (blk_cell BK339.out 0).trans rfl
                 have hcz92_1 : wc.cell? ⟨gb339, 1, none⟩ = some (.int .i64 t331) := (blk_cell BK339.out 1).trans rfl
                 have hcz92_2 : wc.cell? ⟨gb339, 2, none⟩ = some (.int .i64 t332) := (blk_cell BK339.out 2).trans rfl
                 have hcz92_3 : wc.cell? ⟨gb339, 3, none⟩ = some (.int .i64 t333) := (blk_cell BK339.out 3).trans rfl
                 have hcz92_4 : wc.cell? ⟨gb339, 4, none⟩ = some (.int .i64 t334) := (blk_cell BK339.out 4).trans rfl
                 have hcz92_5 : wc.cell? ⟨gb339, 5, none⟩ = some (.int .i64 t335) := (blk_cell BK339.out 5).trans rfl
                 have hcz92_6 : wc.cell? ⟨gb339, 6, none⟩ = some (.bool t336) := (blk_cell BK339.out 6).trans rfl
                 have hcz92_7 : wc.cell? ⟨gb339, 7, none⟩ = some (.int .i64 t337) := (blk_cell BK339.out 7).trans rfl
                 have hfz92_0 := blk_frozen BK339.out 0
                 have hfz92_1 := blk_frozen BK339.out 1
                 have hfz92_2 := blk_frozen BK339.out 2
                 have hfz92_3 := blk_frozen BK339.out 3
                 have hfz92_4 := blk_frozen BK339.out 4
                 have hfz92_5 := blk_frozen BK339.out 5
                 have hfz92_6 := blk_frozen BK339.out 6
                 have hfz92_7 := blk_frozen BK339.out 7
                 have hnb93 := NB349_359.out
                 have hnc93 := NB359_349.out
                 have hcz94_0 : wc.cell? ⟨gb349, 0, none⟩ = some (.int .i64 t340) := (blk_cell BK349.out 0).trans rfl
                 have hcz94_1 : wc.cell? ⟨gb349, 1, none⟩ = some (.int .i64 t341) := (blk_cell BK349.out 1).trans rfl
                 have hcz94_2 : wc.cell? ⟨gb349, 2, none⟩ = some (.int .i64 t342) := (blk_cell BK349.out 2).trans rfl
                 have hcz94_3 : wc.cell? ⟨gb349, 3, none⟩ = some (.int .i64 t343) := (blk_cell BK349.out 3).trans rfl
                 have hcz94_4 : wc.cell? ⟨gb349, 4, none⟩ = some (.int .i64 t344) := (blk_cell BK349.out 4).trans rfl
                 have hcz94_5 : wc.cell? ⟨gb349, 5, none⟩ = some (.int .i64 t345) := (blk_cell BK349.out 5).trans rfl
                 have hcz94_6 : wc.cell? ⟨gb349, 6, none⟩ = some (.bool t346) := (blk_cell BK349.out 6).trans rfl
                 have hcz94_7 : wc.cell? ⟨gb349, 7, none⟩ = some (.int .i64 t347) := (blk_cell BK349.out 7).trans rfl
                 have hfz94_0 := blk_frozen BK349.out 0
                 have hfz94_1 := blk_frozen BK349.out 1
                 have hfz94_2 := blk_frozen BK349.out 2
                 have hfz94_3 := blk_frozen BK349.out 3
                 have hfz94_4 := blk_frozen BK349.out 4
                 have hfz94_5 := blk_frozen BK349.out 5
                 have hfz94_6 := blk_frozen BK349.out 6
                 have hfz94_7 := blk_frozen BK349.out 7
                 have hcz95_0 : wc.cell? ⟨gb359, 0, none⟩ = some (.int .i64 t350) := (blk_cell BK359.out 0).trans rfl
                 have hcz95_1 : wc.cell? ⟨gb359, 1, none⟩ = some (.int .i64 t351) := (blk_cell BK359.out 1).trans rfl
                 have hcz95_2 : wc.cell? ⟨gb359, 2, none⟩ = some (.int .i64 t352) := (blk_cell BK359.out 2).trans rfl
                 have hcz95_3 : wc.cell? ⟨gb359, 3, none⟩ = some (.int .i64 t353) := (blk_cell BK359.out 3).trans rfl
                 have hcz95_4 : wc.cell? ⟨gb359, 4, none⟩ = some (.int .i64 t354) := (blk_cell BK359.out 4).trans rfl
                 have hcz95_5 : wc.cell? ⟨gb359, 5, none⟩ = some (.int .i64 t355) := (blk_cell BK359.out 5).trans rfl
                 have hcz95_6 : wc.cell? ⟨gb359, 6, none⟩ = some (.bool t356) := (blk_cell BK359.out 6).trans rfl
                 have hcz95_7 : wc.cell? ⟨gb359, 7, none⟩ = some (.int .i64 t357) := (blk_cell BK359.out 7).trans rfl
                 have hfz95_0 := blk_frozen BK359.out 0
                 have hfz95_1 := blk_frozen BK359.out 1
                 have hfz95_2 := blk_frozen BK359.out 2
                 have hfz95_3 := blk_frozen BK359.out 3
                 have hfz95_4 := blk_frozen BK359.out 4
                 have hfz95_5 := blk_frozen BK359.out 5
                 have hfz95_6 := blk_frozen BK359.out 6
                 have hfz95_7 := blk_frozen BK359.out 7
                 go_wp2
                 go_ret
                 exact ⟨by first | rfl | (simp [errW_none, errW_some] <;> rfl) | (simp [*, errW_none, errW_some] <;> rfl), by repeat (first | (with_reducible first | exact HB.out | apply below_alloc | apply pw_below_drewN | apply below_drew1 | refine below_set ?_ GE339.out | refine below_set ?_ GE349.out | refine below_set ?_ GE359.out) | exact HB.out)⟩
                ·rw [if_neg c89] at H
                 have c89b0 : (t346 != t356) = false := by simpa using c89
                 (try (have c89b1 : decide (t346 = t356) = true := by simpa using c89))
                 (try (have c89b2 : (t346 == t356) = true := by simpa using c89))
                 clear c89
                 replace H := Option.bind_eq_some_iff.mp H
                 obtain ⟨t366, A960, H⟩ := H
                 try dsimp only at H
                 have A96 := Aside0.mk A960
                 clear A960
                 obtain rfl := Option.some.inj H
                 have hnb97 := NB339_349.out
                 have hnc97 := NB349_339.out
                 have hnb98 := NB339_359.out
                 have hnc98 := NB359_339.out
                 have hcz99_0 : wc.cell? ⟨gb339, 0, none⟩ = some (.int .i64 t330) := (blk_cell BK339.out 0).trans rfl
                 have hcz99_1 : wc.cell? ⟨gb339, 1, none⟩ = some (.int .i64 t331) := (blk_cell BK339.out 1).trans rfl
                 have hcz99_2 : wc.cell? ⟨gb339, 2, none⟩ = some (.int .i64 t332) := (blk_cell BK339.out 2).trans rfl
                 have hcz99_3 : wc.cell? ⟨gb339, 3, none⟩ = some (.int .i64 t333) := (blk_cell BK339.out 3).trans rfl
                 have hcz99_4 : wc.cell? ⟨gb339, 4, none⟩ = some (.int .i64 t334) := (blk_cell BK339.out 4).trans rfl
                 have hcz99_5 : wc.cell? ⟨gb339, 5, none⟩ = some (.int .i64 t335) := (blk_cell BK339.out 5).trans rfl
                 have hcz99_6 : wc.cell? ⟨gb339, 6, none⟩ = some (.bool t336) := (blk_cell BK339.out 6).trans rfl
                 have hcz99_7 : wc.cell? ⟨gb339, 7, none⟩ = some (.int .i64 t337) := (blk_cell BK339.out 7).trans rfl
                 have hfz99_0 := blk_frozen BK339.out 0
                 have hfz99_1 := blk_frozen BK339.out 1
                 have hfz99_2 := blk_frozen BK339.out 2
                 have hfz99_3 := blk_frozen BK339.out 3
                 have hfz99_4 := blk_frozen BK339.out 4
                 have hfz99_5 := blk_frozen BK339.out 5
                 have hfz99_6 := blk_frozen BK339.out 6
                 have hfz99_7 := blk_frozen BK339.out 7
                 have hnb100 := NB349_359.out
                 have hnc100 := NB359_349.out
                 have hcz101_0 : wc.cell? ⟨gb349, 0, none⟩ = some (.int .i64 t340) := (blk_cell BK349.out 0).trans rfl
                 have hcz101_1 : wc.cell? ⟨gb349, 1, none⟩ = some (.int .i64 t341) := (blk_cell BK349.out 1).trans rfl
                 have hcz101_2 : wc.cell? ⟨gb349, 2, none⟩ = some (.int .i64 t342) := (blk_cell BK349.out 2).trans rfl
                 have hcz101_3 : wc.cell? ⟨gb349, 3, none⟩ = some (.int .i64 t343) := (blk_cell BK349.out 3).trans rfl
                 have hcz101_4 : wc.cell? ⟨gb349, 4, none⟩ = some (.int .i64 t344) := (blk_cell BK349.out 4).trans rfl
                 have hcz101_5 : wc.cell? ⟨gb349, 5, none⟩ = some (.int .i64 t345) := (blk_cell BK349.out 5).trans rfl
                 have hcz101_6 : wc.cell? ⟨gb349, 6, none⟩ = some (.bool t346) := (blk_cell BK349.out 6).trans rfl
                 have hcz101_7 : wc.cell? ⟨gb349, 7, none⟩ = some (.int .i64 t347) := (blk_cell BK349.out 7).trans rfl
                 have hfz101_0 := blk_frozen BK349.out 0
                 have hfz101_1 := blk_frozen BK349.out 1
                 have hfz101_2 := blk_frozen BK349.out 2
                 have hfz101_3 := blk_frozen BK349.out 3
                 have hfz101_4 := blk_frozen BK349.out 4
                 have hfz101_5 := blk_frozen BK349.out 5
                 have hfz101_6 := blk_frozen BK349.out 6
                 have hfz101_7 := blk_frozen BK349.out 7
                 have hcz102_0 : wc.cell? ⟨gb359, 0, none⟩ = some (.int .i64 t350) := (blk_cell BK359.out 0).trans rfl
                 have hcz102_1 : wc.cell? ⟨gb359, 1, none⟩ = some (.int .i64 t351) := (blk_cell BK359.out 1).trans rfl
                 have hcz102_2 : wc.cell? ⟨gb359, 2, none⟩ = some (.int .i64 t352) := (blk_cell BK359.out 2).trans rfl
                 have hcz102_3 : wc.cell? ⟨gb359, 3, none⟩ = some (.int .i64 t353) := (blk_cell BK359.out 3).trans rfl
                 have hcz102_4 : wc.cell? ⟨gb359, 4, none⟩ = some (.int .i64 t354) := (blk_cell BK359.out 4).trans rfl
                 have hcz102_5 : wc.cell? ⟨gb359, 5, none⟩ = some (.int .i64 t355) := (blk_cell BK359.out 5).trans rfl
                 have hcz102_6 : wc.cell? ⟨gb359, 6, none⟩ = some (.bool t356) := (blk_cell BK359.out 6).trans rfl
                 have hcz102_7 : wc.cell? ⟨gb359, 7, none⟩ = some (.int .i64 t357) := (blk_cell BK359.out 7).trans rfl
                 have hfz102_0 := blk_frozen BK359.out 0
                 have hfz102_1 := blk_frozen BK359.out 1
                 have hfz102_2 := blk_frozen BK359.out 2
                 have hfz102_3 := blk_frozen BK359.out 3
                 have hfz102_4 := blk_frozen BK359.out 4
                 have hfz102_5 := blk_frozen BK359.out 5
                 have hfz102_6 := blk_frozen BK359.out 6
                 have hfz102_7 := blk_frozen BK359.out 7
                 go_wp2_with (first | (go_at_call 9; (with_reducible refine (date_Cmp.calls kj33 t330 t331 t332 t333 t334 t335 t336 t337 t350 t351 t352 t353 t354 t355 t356 t357 t366 _ A96.out).mono ?_); rintro e w103 ⟨rfl, hb⟩; have n0_ := Aside0.mk (blk_below (S.b BK339.out) hb); have n1_ := Aside0.mk (blk_below (S.b BK349.out) hb); have n2_ := Aside0.mk (blk_below (S.b BK359.out) hb); have n3_ := Aside0.mk (below_step (by repeat (first | (with_reducible first | exact HB.out | apply below_alloc | apply pw_below_drewN | apply below_drew1 | refine below_set ?_ GE339.out | refine below_set ?_ GE349.out | refine below_set ?_ GE359.out) | exact HB.out)) hb); clear BK339; clear BK349; clear BK359; clear HB; have BK339 := n0_; have BK349 := n1_; have BK359 := n2_; have HB := n3_; clear n0_ n1_ n2_ n3_; (try clear hb); (try clear hb2); (try clear hk); (try clear hi)))
                 go_ret
                 exact ⟨by first | rfl | (simp [errW_none, errW_some] <;> rfl) | (simp [*, errW_none, errW_some] <;> rfl), by repeat (first | (with_reducible first | exact HB.out | apply below_alloc | apply pw_below_drewN | apply below_drew1 | refine below_set ?_ GE339.out | refine below_set ?_ GE349.out | refine below_set ?_ GE359.out) | exact HB.out)⟩
              ·rw [if_neg c82] at H
               have c82b0 : (t362 == (-1)) = false := beq_eq_false_iff_ne.mpr c82
               have c82b1 : (t362 != (-1)) = true := bne_iff_ne.mpr c82
               obtain rfl := Option.some.inj H
               go_wp2
               go_ret
               exact ⟨by first | rfl | (simp [errW_none, errW_some] <;> rfl) | (simp [*, errW_none, errW_some] <;> rfl), by repeat (first | (with_reducible first | exact HB.out | apply below_alloc | apply pw_below_drewN | apply below_drew1 | refine below_set ?_ GE339.out | refine below_set ?_ GE349.out | refine below_set ?_ GE359.out) | exact HB.out)⟩
             ·rw [if_neg c81] at H
              have c81b0 : (t360 == (-1)) = false := beq_eq_false_iff_ne.mpr c81
              have c81b1 : (t360 != (-1)) = true := bne_iff_ne.mpr c81
              obtain rfl := Option.some.inj H
              go_wp2
              go_ret
              exact ⟨by first | rfl | (simp [errW_none, errW_some] <;> rfl) | (simp [*, errW_none, errW_some] <;> rfl), by repeat (first | (with_reducible first | exact HB.out | apply below_alloc | apply pw_below_drewN | apply below_drew1 | refine below_set ?_ GE339.out | refine below_set ?_ GE349.out | refine below_set ?_ GE359.out) | exact HB.out)⟩
            ·rw [if_neg c80] at H
             have c80b0 : (t361 == 2) = false := beq_eq_false_iff_ne.mpr c80
             have c80b1 : (t361 != 2) = true := bne_iff_ne.mpr c80
             exact absurd ((Option.some.inj H).trans HRT.out) (by decide)
           ·rw [if_neg c79] at H
            have c79b0 : (t360 == 2) = false := beq_eq_false_iff_ne.mpr c79
            have c79b1 : (t360 != 2) = true := bne_iff_ne.mpr c79
            by_cases c104 : t361 = (wrap64 (-t360))
            ·rw [if_pos c104] at H
             have c104b0 : (t361 == (wrap64 (-t360))) = true := beq_iff_eq.mpr c104
             have c104b1 : (t361 != (wrap64 (-t360))) = false := bne_eq_false_iff_eq.mpr c104
             clear c104
             by_cases c105 : t360 = (-1)
             ·rw [if_pos c105] at H
              have c105b0 : (t360 == (-1)) = true := beq_iff_eq.mpr c105
              have c105b1 : (t360 != (-1)) = false := bne_eq_false_iff_eq.mpr c105
              clear c105
              by_cases c106 : t362 = (-1)
              ·rw [if_pos c106] at H
               have c106b0 : (t362 == (-1)) = true := beq_iff_eq.mpr c106
               have c106b1 : (t362 != (-1)) = false := bne_eq_false_iff_eq.mpr c106
               clear c106
               by_cases c107 : (t336 != t346) = true
               ·rw [if_pos c107] at H
                have c107b0 : (t336 != t346) = true := c107
                (try (have c107b1 : decide (t336 = t346) = false := by simpa using c107))
                (try (have c107b2 : (t336 == t346) = false := by simpa using c107))
                (try (have c107b3 : ¬ (t336 = t346) := by simpa using c107))
                clear c107
                obtain rfl := Option.some.inj H
                have hnb108 := NB339_349.out
                have hnc108 := NB349_339.out
                have hnb109 := NB339_359.out
                have hnc109 := NB359_339.out
                have hcz110_0 : wc.cell? ⟨gb339, 0, none⟩ = some (.int .i64 t330) := (blk_cell BK339.out 0).trans rfl
                have hcz110_1 : wc.cell? ⟨gb339, 1, none⟩ = some (.int .i64 t331) := (blk_cell BK339.out 1).trans rfl
                have hcz110_2 : wc.cell? ⟨gb339, 2, none⟩ = some (.int .i64 t332) := (blk_cell BK339.out 2).trans rfl
                have hcz110_3 : wc.cell? ⟨gb339, 3, none⟩ = some (.int .i64 t333) := (blk_cell BK339.out 3).trans rfl
                have hcz110_4 : wc.cell? ⟨gb339, 4, none⟩ = some (.int .i64 t334) := (blk_cell BK339.out 4).trans rfl
                have hcz110_5 : wc.cell? ⟨gb339, 5, none⟩ = some (.int .i64 t335) := (blk_cell BK339.out 5).trans rfl
                have hcz110_6 : wc.cell? ⟨gb339, 6, none⟩ = some (.bool t336) := (blk_cell BK339.out 6).trans rfl
                have hcz110_7 : wc.cell? ⟨gb339, 7, none⟩ = some (.int .i64 t337) := (blk_cell BK339.out 7).trans rfl
                have hfz110_0 := blk_frozen BK339.out 0
                have hfz110_1 := blk_frozen BK339.out 1
                have hfz110_2 := blk_frozen BK339.out 2
                have hfz110_3 := blk_frozen BK339.out 3
                have hfz110_4 := blk_frozen BK339.out 4
                have hfz110_5 := blk_frozen BK339.out 5
                have hfz110_6 := blk_frozen BK339.out 6
                have hfz110_7 := blk_frozen BK339.out 7
                have hnb111 := NB349_359.out
                have hnc111 := NB359_349.out
                have hcz112_0 : wc.cell? ⟨gb349, 0, none⟩ = some (.int .i64 t340) := (blk_cell BK349.out 0).trans rfl
                have hcz112_1 : wc.cell? ⟨gb349, 1, none⟩ = some (.int .i64 t341) := (blk_cell BK349.out 1).trans rfl
                have hcz112_2 : wc.cell? ⟨gb349, 2, none⟩ = some (.int .i64 t342) := (blk_cell BK349.out 2).trans rfl
                have hcz112_3 : wc.cell? ⟨gb349, 3, none⟩ = some (.int .i64 t343) := (blk_cell BK349.out 3).trans rfl
                have hcz112_4 : wc.cell? ⟨gb349, 4, none⟩ = some (.int .i64 t344) := (blk_cell BK349.out 4).trans rfl
                have hcz112_5 : wc.cell? ⟨gb349, 5, none⟩ = some (.int .i64 t345) := (blk_cell BK349.out 5).trans rfl
                have hcz112_6 : wc.cell? ⟨gb349, 6, none⟩ = some (.bool t346) := (blk_cell BK349.out 6).trans rfl
                have hcz112_7 : wc.cell? ⟨gb349, 7, none⟩ = some (.int .i64 t347) := (blk_cell BK349.out 7).trans rfl
                have hfz112_0 := blk_frozen BK349.out 0
                have hfz112_1 := blk_frozen BK349.out 1
                have hfz112_2 := blk_frozen BK349.out 2
                have hfz112_3 := blk_frozen BK349.out 3
                have hfz112_4 := blk_frozen BK349.out 4
                have hfz112_5 := blk_frozen BK349.out 5
                have hfz112_6 := blk_frozen BK349.out 6
                have hfz112_7 := blk_frozen BK349.out 7
                go_wp2
                go_ret
                exact ⟨by first | rfl | (simp [errW_none, errW_some] <;> rfl) | (simp [*, errW_none, errW_some] <;> rfl), by repeat (first | (with_reducible first | exact HB.out | apply below_alloc | apply pw_below_drewN | apply below_drew1 | refine below_set ?_ GE339.out | refine below_set ?_ GE349.out | refine below_set ?_ GE359.out) | exact HB.out)⟩
               ·rw [if_neg c107] at H
                have c107b0 : (t336 != t346) = false := by simpa using c107
                (try (have c107b1 : decide (t336 = t346) = true := by simpa using c107))
                (try (have c107b2 : (t336 == t346) = true := by simpa using c107))
                clear c107
                by_cases c113 : (t346 != t356) = true
                ·rw [if_pos c113] at H
                 have c113b0 : (t346 != t356) = true := c113
                 (try (have c113b1 : decide (t346 = t356) = false := by simpa using c113))
                 (try (have c113b2 : (t346 == t356) = false := by simpa using c113))
                 (try (have c113b3 : ¬ (t346 = t356) := by simpa using c113))
                 clear c113
                 obtain rfl := Option.some.inj H
                 have hnb114 := NB339_349.out
                 have hnc114 := NB349_339.out
                 have hnb115 := NB339_359.out
                 have hnc115 := NB359_339.out
                 have hcz116_0 : wc.cell? ⟨gb339, 0, none⟩ = some (.int .i64 t330) := (blk_cell BK339.out 0).trans rfl
                 have hcz116_1 : wc.cell? ⟨gb339, 1, none⟩ = some (.int .i64 t331) := (blk_cell BK339.out 1).trans rfl
                 have hcz116_2 : wc.cell? ⟨gb339, 2, none⟩ = some (.int .i64 t332) := (blk_cell BK339.out 2).trans rfl
                 have hcz116_3 : wc.cell? ⟨gb339, 3, none⟩ = some (.int .i64 t333) := (blk_cell BK339.out 3).trans rfl
                 have hcz116_4 : wc.cell? ⟨gb339, 4, none⟩ = some (.int .i64 t334) := (blk_cell BK339.out 4).trans rfl
                 have hcz116_5 : wc.cell? ⟨gb339, 5, none⟩ = some (.int .i64 t335) := (blk_cell BK339.out 5).trans rfl
                 have hcz116_6 : wc.cell? ⟨gb339, 6, none⟩ = some (.bool t336) := (blk_cell BK339.out 6).trans rfl
                 have hcz116_7 : wc.cell? ⟨gb339, 7, none⟩ = some (.int .i64 t337) := (blk_cell BK339.out 7).trans rfl
                 have hfz116_0 := blk_frozen BK339.out 0
                 have hfz116_1 := blk_frozen BK339.out 1
                 have hfz116_2 := blk_frozen BK339.out 2
                 have hfz116_3 := blk_frozen BK339.out 3
                 have hfz116_4 := blk_frozen BK339.out 4
                 have hfz116_5 := blk_frozen BK339.out 5
                 have hfz116_6 := blk_frozen BK339.out 6
                 have hfz116_7 := blk_frozen BK339.out 7
                 have hnb117 := NB349_359.out
                 have hnc117 := NB359_349.out
                 have hcz118_0 : wc.cell? ⟨gb349, 0, none⟩ = some (.int .i64 t340) := (blk_cell BK349.out 0).trans rfl
                 have hcz118_1 : wc.cell? ⟨gb349, 1, none⟩ = some (.int .i64 t341) := (blk_cell BK349.out 1).trans rfl
                 have hcz118_2 : wc.cell? ⟨gb349, 2, none⟩ = some (.int .i64 t342) := (blk_cell BK349.out 2).trans rfl
                 have hcz118_3 : wc.cell? ⟨gb349, 3, none⟩ = some (.int .i64 t343) := (blk_cell BK349.out 3).trans rfl
                 have hcz118_4 : wc.cell? ⟨gb349, 4, none⟩ = some (.int .i64 t344) := (blk_cell BK349.out 4).trans rfl
                 have hcz118_5 : wc.cell? ⟨gb349, 5, none⟩ = some (.int .i64 t345) := (blk_cell BK349.out 5).trans rfl
                 have hcz118_6 : wc.cell? ⟨gb349, 6, none⟩ = some (.bool t346) := (blk_cell BK349.out 6).trans rfl
                 have hcz118_7 : wc.cell? ⟨gb349, 7, none⟩ = some (.int .i64 t347) := (blk_cell BK349.out 7).trans rfl
                 have hfz118_0 := blk_frozen BK349.out 0
                 have hfz118_1 := blk_frozen BK349.out 1
                 have hfz118_2 := blk_frozen BK349.out 2
                 have hfz118_3 := blk_frozen BK349.out 3
                 have hfz118_4 := blk_frozen BK349.out 4
                 have hfz118_5 := blk_frozen BK349.out 5
                 have hfz118_6 := blk_frozen BK349.out 6
                 have hfz118_7 := blk_frozen BK349.out 7
                 have hcz119_0 : wc.cell? ⟨gb359, 0, none⟩ = some (.int .i64 t350) := (blk_cell BK359.out 0).trans rfl
                 have hcz119_1 : wc.cell? ⟨gb359, 1, none⟩ = some (.int .i64 t351) := (blk_cell BK359.out 1).trans rfl
                 have hcz119_2 : wc.cell? ⟨gb359, 2, none⟩ = some (.int .i64 t352) := (blk_cell BK359.out 2).trans rfl
                 have hcz119_3 : wc.cell? ⟨gb359, 3, none⟩ = some (.int .i64 t353) := (blk_cell BK359.out 3).trans rfl
                 have hcz119_4 : wc.cell? ⟨gb359, 4, none⟩ = some (.int .i64 t354) := (blk_cell BK359.out 4).trans rfl
                 have hcz119_5 : wc.cell? ⟨gb359, 5, none⟩ = some (.int .i64 t355) := (blk_cell BK359.out 5).trans rfl
                 have hcz119_6 : wc.cell? ⟨gb359, 6, none⟩ = some (.bool t356) := (blk_cell BK359.out 6).trans rfl
                 have hcz119_7 : wc.cell? ⟨gb359, 7, none⟩ = some (.int .i64 t357) := (blk_cell BK359.out 7).trans rfl
                 have hfz119_0 := blk_frozen BK359.out 0
                 have hfz119_1 := blk_frozen BK359.out 1
                 have hfz119_2 := blk_frozen BK359.out 2
                 have hfz119_3 := blk_frozen BK359.out 3
                 have hfz119_4 := blk_frozen BK359.out 4
                 have hfz119_5 := blk_frozen BK359.out 5
                 have hfz119_6 := blk_frozen BK359.out 6
                 have hfz119_7 := blk_frozen BK359.out 7
                 go_wp2
                 go_ret
                 exact ⟨by first | rfl | (simp [errW_none, errW_some] <;> rfl) | (simp [*, errW_none, errW_some] <;> rfl), by repeat (first | (with_reducible first | exact HB.out | apply below_alloc | apply pw_below_drewN | apply below_drew1 | refine below_set ?_ GE339.out | refine below_set ?_ GE349.out | refine below_set ?_ GE359.out) | exact HB.out)⟩
                ·rw [if_neg c113] at H
                 have c113b0 : (t346 != t356) = false := by simpa using c113
                 (try (have c113b1 : decide (t346 = t356) = true := by simpa using c113))
                 (try (have c113b2 : (t346 == t356) = true := by simpa using c113))
                 clear c113
                 replace H := Option.bind_eq_some_iff.mp H
                 obtain ⟨t367, A1200, H⟩ := H
                 try dsimp only at H
                 have A120 := Aside0.mk A1200
                 clear A1200
                 obtain rfl := Option.some.inj H
                 have hnb121 := NB339_349.out
                 have hnc121 := NB349_339.out
                 have hnb122 := NB339_359.out
                 have hnc122 := NB359_339.out
                 have hcz123_0 : wc.cell? ⟨gb339, 0, none⟩ = some (.int .i64 t330) := (blk_cell BK339.out 0).trans rfl
                 have hcz123_1 : wc.cell? ⟨gb339, 1, none⟩ = some (.int .i64 t331) := (blk_cell BK339.out 1).trans rfl
                 have hcz123_2 : wc.cell? ⟨gb339, 2, none⟩ = some (.int .i64 t332) := (blk_cell BK339.out 2).trans rfl
                 have hcz123_3 : wc.cell? ⟨gb339, 3, none⟩ = some (.int .i64 t333) := (blk_cell BK339.out 3).trans rfl
                 have hcz123_4 : wc.cell? ⟨gb339, 4, none⟩ = some (.int .i64 t334) := (blk_cell BK339.out 4).trans rfl
                 have hcz123_5 : wc.cell? ⟨gb339, 5, none⟩ = some (.int .i64 t335) := (blk_cell BK339.out 5).trans rfl
                 have hcz123_6 : wc.cell? ⟨gb339, 6, none⟩ = some (.bool t336) := (blk_cell BK339.out 6).trans rfl
                 have hcz123_7 : wc.cell? ⟨gb339, 7, none⟩ = some (.int .i64 t337) := (blk_cell BK339.out 7).trans rfl
                 have hfz123_0 := blk_frozen BK339.out 0
                 have hfz123_1 := blk_frozen BK339.out 1
                 have hfz123_2 := blk_frozen BK339.out 2
                 have hfz123_3 := blk_frozen BK339.out 3
                 have hfz123_4 := blk_frozen BK339.out 4
                 have hfz123_5 := blk_frozen BK339.out 5
                 have hfz123_6 := blk_frozen BK339.out 6
                 have hfz123_7 := blk_frozen BK339.out 7
                 have hnb124 := NB349_359.out
                 have hnc124 := NB359_349.out
                 have hcz125_0 : wc.cell? ⟨gb349, 0, none⟩ = some (.int .i64 t340) := (blk_cell BK349.out 0).trans rfl
                 have hcz125_1 : wc.cell? ⟨gb349, 1, none⟩ = some (.int .i64 t341) := (blk_cell BK349.out 1).trans rfl
                 have hcz125_2 : wc.cell? ⟨gb349, 2, none⟩ = some (.int .i64 t342) := (blk_cell BK349.out 2).trans rfl
                 have hcz125_3 : wc.cell? ⟨gb349, 3, none⟩ = some (.int .i64 t343) := (blk_cell BK349.out 3).trans rfl
                 have hcz125_4 : wc.cell? ⟨gb349, 4, none⟩ = some (.int .i64 t344) := (blk_cell BK349.out 4).trans rfl
                 have hcz125_5 : wc.cell? ⟨gb349, 5, none⟩ = some (.int .i64 t345) := (blk_cell BK349.out 5).trans rfl
                 have hcz125_6 : wc.cell? ⟨gb349, 6, none⟩ = some (.bool t346) := (blk_cell BK349.out 6).trans rfl
                 have hcz125_7 : wc.cell? ⟨gb349, 7, none⟩ = some (.int .i64 t347) := (blk_cell BK349.out 7).trans rfl
                 have hfz125_0 := blk_frozen BK349.out 0
                 have hfz125_1 := blk_frozen BK349.out 1
                 have hfz125_2 := blk_frozen BK349.out 2
                 have hfz125_3 := blk_frozen BK349.out 3
                 have hfz125_4 := blk_frozen BK349.out 4
                 have hfz125_5 := blk_frozen BK349.out 5
                 have hfz125_6 := blk_frozen BK349.out 6
                 have hfz125_7 := blk_frozen BK349.out 7
                 have hcz126_0 : wc.cell? ⟨gb359, 0, none⟩ = some (.int .i64 t350) := (blk_cell BK359.out 0).trans rfl
                 have hcz126_1 : wc.cell? ⟨gb359, 1, none⟩ = some (.int .i64 t351) := (blk_cell BK359.out 1).trans rfl
                 have hcz126_2 : wc.cell? ⟨gb359, 2, none⟩ = some (.int .i64 t352) := (blk_cell BK359.out 2).trans rfl
                 have hcz126_3 : wc.cell? ⟨gb359, 3, none⟩ = some (.int .i64 t353) := (blk_cell BK359.out 3).trans rfl
                 have hcz126_4 : wc.cell? ⟨gb359, 4, none⟩ = some (.int .i64 t354) := (blk_cell BK359.out 4).trans rfl
                 have hcz126_5 : wc.cell? ⟨gb359, 5, none⟩ = some (.int .i64 t355) := (blk_cell BK359.out 5).trans rfl
                 have hcz126_6 : wc.cell? ⟨gb359, 6, none⟩ = some (.bool t356) := (blk_cell BK359.out 6).trans rfl
                 have hcz126_7 : wc.cell? ⟨gb359, 7, none⟩ = some (.int .i64 t357) := (blk_cell BK359.out 7).trans rfl
                 have hfz126_0 := blk_frozen BK359.out 0
                 have hfz126_1 := blk_frozen BK359.out 1
                 have hfz126_2 := blk_frozen BK359.out 2
                 have hfz126_3 := blk_frozen BK359.out 3
                 have hfz126_4 := blk_frozen BK359.out 4
                 have hfz126_5 := blk_frozen BK359.out 5
                 have hfz126_6 := blk_frozen BK359.out 6
                 have hfz126_7 := blk_frozen BK359.out 7
                 go_wp2_with (first | (go_at_call 9; (with_reducible refine (date_Cmp.calls kj33 t330 t331 t332 t333 t334 t335 t336 t337 t350 t351 t352 t353 t354 t355 t356 t357 t367 _ A120.out).mono ?_); rintro e w127 ⟨rfl, hb⟩; have n0_ := Aside0.mk (blk_below (S.b BK339.out) hb); have n1_ := Aside0.mk (blk_below (S.b BK349.out) hb); have n2_ := Aside0.mk (blk_below (S.b BK359.out) hb); have n3_ := Aside0.mk (below_step (by repeat (first | (with_reducible first | exact HB.out | apply below_alloc | apply pw_below_drewN | apply below_drew1 | refine below_set ?_ GE339.out | refine below_set ?_ GE349.out | refine below_set ?_ GE359.out) | exact HB.out)) hb); clear BK339; clear BK349; clear BK359; clear HB; have BK339 := n0_; have BK349 := n1_; have BK359 := n2_; have HB := n3_; clear n0_ n1_ n2_ n3_; (try clear hb); (try clear hb2); (try clear hk); (try clear hi)))
                 go_ret
                 exact ⟨by first | rfl | (simp [errW_none, errW_some] <;> rfl) | (simp [*, errW_none, errW_some] <;> rfl), by repeat (first | (with_reducible first | exact HB.out | apply below_alloc | apply pw_below_drewN | apply below_drew1 | refine below_set ?_ GE339.out | refine below_set ?_ GE349.out | refine below_set ?_ GE359.out) | exact HB.out)⟩
              ·rw [if_neg c106] at H
               have c106b0 : (t362 == (-1)) = false := beq_eq_false_iff_ne.mpr c106
               have c106b1 : (t362 != (-1)) = true := bne_iff_ne.mpr c106
               obtain rfl := Option.some.inj H
               go_wp2
               go_ret
               exact ⟨by first | rfl | (simp [errW_none, errW_some] <;> rfl) | (simp [*, errW_none, errW_some] <;> rfl), by repeat (first | (with_reducible first | exact HB.out | apply below_alloc | apply pw_below_drewN | apply below_drew1 | refine below_set ?_ GE339.out | refine below_set ?_ GE349.out | refine below_set ?_ GE359.out) | exact HB.out)⟩
             ·rw [if_neg c105] at H
              have c105b0 : (t360 == (-1)) = false := beq_eq_false_iff_ne.mpr c105
              have c105b1 : (t360 != (-1)) = true := bne_iff_ne.mpr c105
              obtain rfl := Option.some.inj H
              go_wp2
              go_ret
              exact ⟨by first | rfl | (simp [errW_none, errW_some] <;> rfl) | (simp [*, errW_none, errW_some] <;> rfl), by repeat (first | (with_reducible first | exact HB.out | apply below_alloc | apply pw_below_drewN | apply below_drew1 | refine below_set ?_ GE339.out | refine below_set ?_ GE349.out | refine below_set ?_ GE359.out) | exact HB.out)⟩
            ·rw [if_neg c104] at H
             have c104b0 : (t361 == (wrap64 (-t360))) = false := beq_eq_false_iff_ne.mpr c104
             have c104b1 : (t361 != (wrap64 (-t360))) = true := bne_iff_ne.mpr c104
             exact absurd ((Option.some.inj H).trans HRT.out) (by decide)
 ·replace c6 := Bool.eq_false_iff.mpr c6
  subst c6
  rw [if_neg (show ¬ (false = true) by decide)] at H
  try dsimp only at H
  exact absurd ((Option.some.inj H).trans HRT.out) (by decide)

/-- THE ONE PURE STATEMENT of rubriclaw6_DateOrders: yours. -/
def rubriclaw6_DateOrders.Pure : Prop := ∀ (a0 : Int) (a1 : ByteArray) (a2 : ByteArray) (a3 : ByteArray), (Lit.int .i64 a0).wf = true → a1.size ≤ 140737488351232 → a2.size ≤ 140737488351232 → a3.size ≤ 140737488351232 → ∃ k, rubriclaw6_DateOrders.f k a0 a1 a2 a3 = some true
theorem rubriclaw6_DateOrders.walk (P : rubriclaw6_DateOrders.Pure) (a0 : Int) (a1 : ByteArray) (a2 : ByteArray) (a3 : ByteArray) (w : World) (w0 : (Lit.int .i64 a0).wf = true) (w1 : a1.size ≤ 140737488351232) (w2 : a2.size ≤ 140737488351232) (w3 : a3.size ≤ 140737488351232) :
  Calls Tryd.prog 3 #[.int .i64 a0, .string a1, .string a2, .string a3] w fun e w' => e = .returned (.bool true) ∧ Below w.heap.size w w' := by
 obtain ⟨k, h⟩ := P a0 a1 a2 a3 w0 w1 w2 w3
 refine (rubriclaw6_DateOrders.calls k a0 a1 a2 a3 true w h rfl).mono ?_
 rintro e w' ⟨rfl, hd⟩
 exact ⟨rfl, hd⟩

end Go.Proofs.YtehaonhgbmlmnaaDoor.Pr
