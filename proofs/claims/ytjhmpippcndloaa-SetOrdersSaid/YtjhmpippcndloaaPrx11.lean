-- printed by wip/gprint.py (ours) out of the translation, by the kit's print program with given contracts
import Derived.Test.YtjhmpippcndloaaPrx0
import Derived.Test.YtjhmpippcndloaaPrx4
import Derived.Test.YtjhmpippcndloaaPrx5
import Derived.Test.YtjhmpippcndloaaPrx6
import Derived.Test.YtjhmpippcndloaaPrx7
namespace Go.Proofs.Ytjhmpippcndloaa.Pr
open Go.RowKit Go.Proofs.YtjhmpippcndloaaW.PrintWords Go.Proofs.YtjhmpippcndloaaW.PrintLast Go.Proofs.YtjhmpippcndloaaW.PrintMore
attribute [local go_sem] max2_int min2_int max_two min_two max_three min_three max_four min_four   -- for this text's walks alone
set_option linter.unusedVariables false
set_option linter.unusedSimpArgs false

/-! ### rubriclaw7_SetOrders: function 4 -/
mutual
def rubriclaw7_SetOrders.j0 : Nat → List (S24) → Int → Bool → Option (Bool)
 | 0, _, _, _ => none
 | k + 1, x0, x1, x24 => if x24 = true then (some true) else ((set_Of.f k x0).bind fun t390 => (rubriclaw7_SetOrders.l0 k x0 x1 t390 ([] : List (S24)) (wrap64 ((x0.length : Int) - 1))))
def rubriclaw7_SetOrders.l0 : Nat → List (S24) → Int → List (S24) → List (S24) → Int → Option (Bool)
 | 0, _, _, _, _, _ => none
 | k + 1, x0, x1, x5, x6, x7 => if x7 ≥ 0 then (if 0 ≤ x7 then (if x7 < (x0.length : Int) then (if x6.length < 17592186044416 then (rubriclaw7_SetOrders.l0 k x0 x1 x5 (x6 ++ [(⟨(rd_T24 x0 x7).f0, (rd_T24 x0 x7).f1⟩ : S24)]) (wrap64 (x7 - 1))) else (none)) else (none)) else (none)) else ((set_Of.f k ([] : List (S24))).bind fun t397 => (rubriclaw7_SetOrders.l1 k x0 x1 x5 x6 t397 0))
def rubriclaw7_SetOrders.l1 : Nat → List (S24) → Int → List (S24) → List (S24) → List (S24) → Int → Option (Bool)
 | 0, _, _, _, _, _, _ => none
 | k + 1, x0, x1, x5, x6, x8, x9 => if x9 < (x0.length : Int) then (if 0 ≤ x9 then ((set_Of.f k (([(⟨(rd_T24 x0 x9).f0, (rd_T24 x0 x9).f1⟩ : S24)] : List (S24)))).bind fun t404 => ((set_Union.f k x8 t404).bind fun t407 => (rubriclaw7_SetOrders.l1 k x0 x1 x5 x6 t407 (wrap64 (x9 + 1))))) else (none)) else ((set_Of.f k x6).bind fun t410 => ((set_Same.f k x5 t410).bind fun t413 => (if t413 = true then ((set_Same.f k x5 x8).bind fun t414 => (if t414 = true then (if 0 ≤ x1 then (if x1 ≤ (x0.length : Int) then ((set_Of.f k (x0.take (x1 : Int).toNat)).bind fun t419 => ((set_Of.f k (x0.drop (x1 : Int).toNat)).bind fun t426 => ((set_Union.f k t419 t426).bind fun t429 => ((set_Same.f k x5 t429).bind fun t432 => (if t432 = true then ((set_Of.f k x5).bind fun t433 => ((set_Same.f k t433 x5).bind fun t436 => (some t436))) else (some false)))))) else (none)) else (none)) else (some false))) else (some false))))
end
def rubriclaw7_SetOrders.f (k : Nat) (l0 : List (S24)) (a1 : Int) : Option (Bool) := (rubriclaw7_known.f k).bind fun t389 => (if t389 = true then (if (l0.length : Int) > 100 then (rubriclaw7_SetOrders.j0 k l0 a1 true) else (if a1 < 0 then (rubriclaw7_SetOrders.j0 k l0 a1 true) else (rubriclaw7_SetOrders.j0 k l0 a1 (decide (a1 > (l0.length : Int)))))) else (some false))
theorem rubriclaw7_SetOrders.mono_l : ∀ k, (∀ y0 y1 y2, LeO (rubriclaw7_SetOrders.j0 k y0 y1 y2) (rubriclaw7_SetOrders.j0 (k + 1) y0 y1 y2)) ∧ (∀ y0 y1 y2 y3 y4, LeO (rubriclaw7_SetOrders.l0 k y0 y1 y2 y3 y4) (rubriclaw7_SetOrders.l0 (k + 1) y0 y1 y2 y3 y4)) ∧ (∀ y0 y1 y2 y3 y4 y5, LeO (rubriclaw7_SetOrders.l1 k y0 y1 y2 y3 y4 y5) (rubriclaw7_SetOrders.l1 (k + 1) y0 y1 y2 y3 y4 y5))
 | 0 => ⟨fun _ _ _ r h => by simp [rubriclaw7_SetOrders.j0] at h, fun _ _ _ _ _ r h => by simp [rubriclaw7_SetOrders.l0] at h, fun _ _ _ _ _ _ r h => by simp [rubriclaw7_SetOrders.l1] at h⟩
 | k + 1 => by
  obtain ⟨ih0, ih1, ih2⟩ := rubriclaw7_SetOrders.mono_l k
  refine ⟨?_, ?_, ?_⟩
  ·intro y0 y1 y2
   unfold rubriclaw7_SetOrders.j0
   repeat' first
   | (with_reducible exact ih0 _ _ _)
   | (with_reducible exact ih1 _ _ _ _ _)
   | (with_reducible exact ih2 _ _ _ _ _ _)
   | (with_reducible exact rubriclaw7_known.mono _)
   | (with_reducible exact set_Of.mono _ _)
   | (with_reducible exact set_Same.mono _ _ _)
   | (with_reducible exact set_Union.mono _ _ _)
   | (with_reducible exact LeO.refl _)
   | (with_reducible exact LeO.none _)
   | (with_reducible refine LeO.ite ?_ ?_)
   | (with_reducible refine LeO.bind ?_ (fun _ => ?_))
   | exact ih0 _ _ _
   | exact ih1 _ _ _ _ _
   | exact ih2 _ _ _ _ _ _
   | exact rubriclaw7_known.mono _
   | exact set_Of.mono _ _
   | exact set_Same.mono _ _ _
   | exact set_Union.mono _ _ _
   | exact LeO.none _
   | refine LeO.ite ?_ ?_
   | refine LeO.bind ?_ (fun _ => ?_)
  ·intro y0 y1 y2 y3 y4
   unfold rubriclaw7_SetOrders.l0
   repeat' first
   | (with_reducible exact ih0 _ _ _)
   | (with_reducible exact ih1 _ _ _ _ _)
   | (with_reducible exact ih2 _ _ _ _ _ _)
   | (with_reducible exact rubriclaw7_known.mono _)
   | (with_reducible exact set_Of.mono _ _)
   | (with_reducible exact set_Same.mono _ _ _)
   | (with_reducible exact set_Union.mono _ _ _)
   | (with_reducible exact LeO.refl _)
   | (with_reducible exact LeO.none _)
   | (with_reducible refine LeO.ite ?_ ?_)
   | (with_reducible refine LeO.bind ?_ (fun _ => ?_))
   | exact ih0 _ _ _
   | exact ih1 _ _ _ _ _
   | exact ih2 _ _ _ _ _ _
   | exact rubriclaw7_known.mono _
   | exact set_Of.mono _ _
   | exact set_Same.mono _ _ _
   | exact set_Union.mono _ _ _
   | exact LeO.none _
   | refine LeO.ite ?_ ?_
   | refine LeO.bind ?_ (fun _ => ?_)
  ·intro y0 y1 y2 y3 y4 y5
   unfold rubriclaw7_SetOrders.l1
   repeat' first
   | (with_reducible exact ih0 _ _ _)
   | (with_reducible exact ih1 _ _ _ _ _)
   | (with_reducible exact ih2 _ _ _ _ _ _)
   | (with_reducible exact rubriclaw7_known.mono _)
   | (with_reducible exact set_Of.mono _ _)
   | (with_reducible exact set_Same.mono _ _ _)
   | (with_reducible exact set_Union.mono _ _ _)
   | (with_reducible exact LeO.refl _)
   | (with_reducible exact LeO.none _)
   | (with_reducible refine LeO.ite ?_ ?_)
   | (with_reducible refine LeO.bind ?_ (fun _ => ?_))
   | exact ih0 _ _ _
   | exact ih1 _ _ _ _ _
   | exact ih2 _ _ _ _ _ _
   | exact rubriclaw7_known.mono _
   | exact set_Of.mono _ _
   | exact set_Same.mono _ _ _
   | exact set_Union.mono _ _ _
   | exact LeO.none _
   | refine LeO.ite ?_ ?_
   | refine LeO.bind ?_ (fun _ => ?_)
theorem rubriclaw7_SetOrders.mono : ∀ a0 a1 k, LeO (rubriclaw7_SetOrders.f k a0 a1) (rubriclaw7_SetOrders.f (k + 1) a0 a1) := by
 intro a0 a1 k
 obtain ⟨ih0, ih1, ih2⟩ := rubriclaw7_SetOrders.mono_l k
 unfold rubriclaw7_SetOrders.f
 repeat' first
   | (with_reducible exact ih0 _ _ _)
   | (with_reducible exact ih1 _ _ _ _ _)
   | (with_reducible exact ih2 _ _ _ _ _ _)
   | (with_reducible exact rubriclaw7_known.mono _)
   | (with_reducible exact set_Of.mono _ _)
   | (with_reducible exact set_Same.mono _ _ _)
   | (with_reducible exact set_Union.mono _ _ _)
   | (with_reducible exact LeO.refl _)
   | (with_reducible exact LeO.none _)
   | (with_reducible refine LeO.ite ?_ ?_)
   | (with_reducible refine LeO.bind ?_ (fun _ => ?_))
   | exact ih0 _ _ _
   | exact ih1 _ _ _ _ _
   | exact ih2 _ _ _ _ _ _
   | exact rubriclaw7_known.mono _
   | exact set_Of.mono _ _
   | exact set_Same.mono _ _ _
   | exact set_Union.mono _ _ _
   | exact LeO.none _
   | refine LeO.ite ?_ ?_
   | refine LeO.bind ?_ (fun _ => ?_)
def rubriclaw7_SetOrders.T16 : Bool × List (List Nat × List Nat) := (true, [([], []), ([], []), ([1], [1]), ([0, 2, 2], [0, 2]), ([3, 3], [3]), ([4], [4]), ([4], [4]), ([5, 6, 4, 4], [4, 5, 6]), ([4, 7], [4, 7]), ([8, 7], [8]), ([9], [9]), ([9], [9]), ([9], [9]), ([11, 12, 9], [9, 11, 12]), ([13, 9, 9], [9, 13]), ([9], [9]), ([9], [9]), ([15, 16, 9], [9, 15, 16]), ([17, 14, 9], [9, 17]), ([14, 18, 18, 9], [9, 14, 18]), ([10, 19, 19, 9], [9, 10, 19]), ([9, 20], [9, 20]), ([21, 20], [21]), ([22], [22]), ([23, 22, 22], [22, 23]), ([22], [22]), ([24, 25, 24, 22], [22, 24, 25]), ([22, 26], [22, 26]), ([27, 26, 0, 1, 2, 3, 4, 5, 6, 7, 8, 9, 10, 11, 12, 13, 14, 15, 16, 17, 18, 19, 20, 21, 22, 23, 24, 25, 26, 27], [27])])
def rubriclaw7_SetOrders.B16 : List Nat := [0, 0, 2, 7, 15, 31, 31, 127, 255, 511, 1023, 1023, 1023, 7167, 15359, 1023, 1023, 99327, 261119, 523263, 1048575, 2097151, 4194303, 8388607, 16777215, 8388607, 67108863, 134217727, 268435455]
theorem rubriclaw7_SetOrders.tab16 : rtab .any (opsOf Try.f4 16) = rubriclaw7_SetOrders.T16 := by kernel_rfl
theorem rubriclaw7_SetOrders.bits16 : waitsOk rubriclaw7_SetOrders.T16.2 rubriclaw7_SetOrders.B16 = true := by kernel_rfl
set_option maxHeartbeats 8000000 in
set_option maxRecDepth 100000 in
theorem rubriclaw7_SetOrders.calls (k : Nat) (A0 : Option Addr) (c0 : Nat) (l0 : List (S24)) (a1 : Int) (r : Bool) (w : World) (hr0 : Kd.C k24 w A0 l0.length l0) (hc0 : l0.length ≤ c0) (h : rubriclaw7_SetOrders.f k l0 a1 = some r) (hrt : r = true) :
  Calls Try.prog 4 #[.slice A0 l0.length c0, .int .i64 a1] w fun e w' => e = .returned (.bool r) ∧ Below w.heap.size w w' := by
 have hu24 := Try.underlying24
 have HR0 := Aside0.mk hr0
 have HC0 := Aside0.mk hc0
 clear hr0 hc0
 have HB := Aside0.mk (Below.refl w.heap.size w)
 have HRT := Aside0.mk hrt
 clear hrt
 have H : ((rubriclaw7_known.f k).bind fun t389 => (if t389 = true then (if (l0.length : Int) > 100 then (rubriclaw7_SetOrders.j0 k l0 a1 true) else (if a1 < 0 then (rubriclaw7_SetOrders.j0 k l0 a1 true) else (rubriclaw7_SetOrders.j0 k l0 a1 (decide (a1 > (l0.length : Int)))))) else (some false))) = some r := h
 clear h
 replace H := Option.bind_eq_some_iff.mp H
 obtain ⟨t389, A30, H⟩ := H
 replace H : (if t389 = true then (if (l0.length : Int) > 100 then (rubriclaw7_SetOrders.j0 k l0 a1 true) else (if a1 < 0 then (rubriclaw7_SetOrders.j0 k l0 a1 true) else (rubriclaw7_SetOrders.j0 k l0 a1 (decide (a1 > (l0.length : Int)))))) else (some false)) = some r := H
 have A3 := Aside0.mk A30
 clear A30
 by_cases c4 : t389 = true
 ·subst c4
  have H1 : (if (l0.length : Int) > 100 then (rubriclaw7_SetOrders.j0 k l0 a1 true) else (if a1 < 0 then (rubriclaw7_SetOrders.j0 k l0 a1 true) else (rubriclaw7_SetOrders.j0 k l0 a1 (decide (a1 > (l0.length : Int)))))) = some r := by rw [if_pos rfl] at H; exact H
  clear H
  have H := H1
  clear H1
  have HC5 := Aside0.mk H
  clear H
  go_enter Try.func4, Try.ntmps4
  go_upto_region 3 with (first | ((with_reducible refine gate_callee (f := 7) rfl ?_); refine goesL_ (some 10) rfl rfl Try.func7 (by kernel_rfl) rfl #[] rfl (by (try simp only [List.map_toArray, List.map_cons, List.map_nil]); first | done | rfl | (rw [KY54.out, KA54.out, KC54.out]; rfl) | (simp only [List.length_drop, List.length_take]; rfl)) ?_; (with_reducible refine (rubriclaw7_known.calls k  true _ A3.out rfl).mono ?_); rintro e w6 ⟨rfl, hb⟩; refine ⟨_, rfl, ?_⟩; have n0_ := Aside0.mk (below_step (by repeat (first | (with_reducible first | exact HB.out | apply below_alloc | apply pw_below_drewN | apply below_drew1) | exact HB.out)) hb); clear HB; have HB := n0_; clear n0_; (try clear hb); (try clear hb2); (try clear hk); (try clear hi)))
  (try simp only [Act.put, List.setIfInBounds_toArray, List.set_cons_zero, List.set_cons_succ])
  go_cut [24] (fun v24 wc => ∃ (kq : Nat) (x24_4 : Bool), v24 = .bool x24_4 ∧ Aside0 (rubriclaw7_SetOrders.j0 kq l0 a1 x24_4 = some r) ∧ Aside0 (kq ≤ k) ∧ Aside0 (Below w.heap.size w wc))
  case first =>
   have H := HC5.out
   clear HC5
   by_cases c7 : (l0.length : Int) > 100
   ·rw [if_pos c7] at H
    have c7b0 : decide (100 < (l0.length : Int)) = true := decide_eq_true c7
    have c7b1 : decide (100 < l0.length) = true := decide_eq_true (by omega)
    clear c7
    (first | rw [c7b0] | (simp only [i64_w, i32_w]; rw [c7b0]) | skip)
    have H' := Aside0.mk H
    clear H
    go_wp2
    go_meet
    case rel => exact ⟨_, (true), (by first | rfl | (simp; done) | (simp [*]; done)), H', ⟨by first | omega | exact Nat.le_refl _⟩, ⟨by repeat (first | (with_reducible first | exact HB.out | apply below_alloc | apply pw_below_drewN | apply below_drew1) | exact HB.out)⟩⟩
   ·rw [if_neg c7] at H
    have c7b0 : decide (100 < (l0.length : Int)) = false := decide_eq_false c7
    have c7b1 : decide (100 < l0.length) = false := decide_eq_false (by omega)
    clear c7
    (first | rw [c7b0] | (simp only [i64_w, i32_w]; rw [c7b0]) | skip)
    by_cases c8 : a1 < 0
    ·rw [if_pos c8] at H
     have c8b0 : decide (a1 < 0) = true := decide_eq_true c8
     clear c8
     have H' := Aside0.mk H
     clear H
     go_wp2
     go_meet
     case rel => exact ⟨_, (true), (by first | rfl | (simp; done) | (simp [*]; done)), H', ⟨by first | omega | exact Nat.le_refl _⟩, ⟨by repeat (first | (with_reducible first | exact HB.out | apply below_alloc | apply pw_below_drewN | apply below_drew1) | exact HB.out)⟩⟩
    ·rw [if_neg c8] at H
     have c8b0 : decide (a1 < 0) = false := decide_eq_false c8
     clear c8
     have H' := Aside0.mk H
     clear H
     go_wp2
     go_meet
     case rel => exact ⟨_, (decide (a1 > (l0.length : Int))), (by first | rfl | (simp; done) | (simp [*]; done)), H', ⟨by first | omega | exact Nat.le_refl _⟩, ⟨by repeat (first | (with_reducible first | exact HB.out | apply below_alloc | apply pw_below_drewN | apply below_drew1) | exact HB.out)⟩⟩
  case rest =>
   clear HC5
   try clear p2
   try clear c4
   try clear c7
   try clear c7b0
   try clear c7b1
   try clear c8
   try clear c8b0
   obtain ⟨kq, x24_4, rfl, HA, HJ4, HB⟩ := hcut
   cases kq with
   | zero => exact absurd HA.out (by simp [rubriclaw7_SetOrders.j0])
   | succ kj4 =>
    have H := HA.out
    clear HA
    simp only [rubriclaw7_SetOrders.j0] at H
    by_cases c9 : x24_4 = true
    ·subst c9
     have H1 : (some true) = some r := by rw [if_pos rfl] at H; exact H
     clear H
     have H := H1
     clear H1
     obtain rfl := Option.some.inj H
     go_wp2
     all_goals (go_ret; exact ⟨by first | rfl | (simp [errW_none, errW_some] <;> rfl) | (simp [*, errW_none, errW_some] <;> rfl), by repeat (first | (with_reducible first | exact HB.out | apply below_alloc | apply pw_below_drewN | apply below_drew1) | exact HB.out)⟩)
    ·replace c9 := Bool.eq_false_iff.mpr c9
     subst c9
     have H1 : ((set_Of.f kj4 l0).bind fun t390 => (rubriclaw7_SetOrders.l0 kj4 l0 a1 t390 ([] : List (S24)) (wrap64 ((l0.length : Int) - 1)))) = some r := by rw [if_neg (show ¬ (false = true) by decide)] at H; exact H
     clear H
     have H := H1
     clear H1
     replace H := Option.bind_eq_some_iff.mp H
     obtain ⟨t390, A100, H⟩ := H
     replace H : (rubriclaw7_SetOrders.l0 kj4 l0 a1 t390 ([] : List (S24)) (wrap64 ((l0.length : Int) - 1))) = some r := H
     have A10 := Aside0.mk A100
     clear A100
     have H' := Aside0.mk H
     clear H
     go_wp2_with (first | ((with_reducible refine gate_callee (f := 8) rfl ?_); refine goesL_ (some 26) rfl rfl Try.func8 (by kernel_rfl) rfl #[.slice A0 l0.length c0] rfl (by (try simp only [List.map_toArray, List.map_cons, List.map_nil]); first | done | rfl | (rw [KY54.out, KA54.out, KC54.out]; rfl) | (simp only [List.length_drop, List.length_take]; rfl)) ?_; (with_reducible refine (set_Of.calls kj4 _ _ l0 t390 _ ?side1 ?side2 A10.out).mono ?_); (case side1 => repeat (first | exact (Kd.C_below HR0.out HB.out) | (with_reducible refine Kd.C_alloc ?_ _) | (with_reducible refine Kd.C_drewN ?_ _) | (with_reducible refine Kd.C_drew ?_))); (case side2 => exact HC0.out); rintro e w11 ⟨v391, rfl, ho0, hb⟩; refine ⟨_, rfl, ?_⟩; have n0_ := Aside0.mk (Kd.R_lower ho0 (below_size (by repeat (first | (with_reducible first | exact HB.out | apply below_alloc | apply pw_below_drewN | apply below_drew1) | exact HB.out)))); have n1_ := Aside0.mk (below_step (by repeat (first | (with_reducible first | exact HB.out | apply below_alloc | apply pw_below_drewN | apply below_drew1) | exact HB.out)) hb); clear HB; have HO392 := n0_; have HB := n1_; clear n0_ n1_; (try clear hb); (try clear hb2); (try clear hk); (try clear hi); (try clear ho0)))
     go_loopg [6, 7] kj4 (fun kq v6 v7 w' => ∃ (x6_2 : List (S24)) (x7_2 : Int), v7 = .int .i64 x7_2 ∧ Aside0 (rubriclaw7_SetOrders.l0 kq l0 a1 t390 x6_2 x7_2 = some r) ∧ Aside0 (kq ≤ kj4) ∧ Aside0 (Kd.R k24 24 w' w.heap.size (fun k_ => some k_ ≠ (v6 : Value).ownBlock) v391 t390) ∧ Aside0 (Kd.R k24 24 w' w.heap.size (fun k_ => some k_ ≠ (v391 : Value).ownBlock) v6 x6_2) ∧ Aside0 (Below w.heap.size w w'))
     case atStart => exact ⟨(([] : List (S24))), (wrap64 ((l0.length : Int) - 1)), (by first | rfl | (simp; done) | (simp [*]; done)), H', ⟨Nat.le_refl _⟩, ⟨by (with_reducible repeat (first | apply Kd.R_alloc | apply Kd.R_drewN | apply Kd.R_drew)); exact Kd.R_mono HO392.out (fun _ hk => (by simp [Value.ownBlock]))⟩, ⟨by first | exact Kd.R_nil _ _ _ _ _ | exact Kd.N_nil _ _ _ _ _ | exact Kd.V_nil _ _ _ _ _ | exact Kd.Q_nil _ _ _ _ _ | exact Kd.S_nil _ _ _ _ _⟩, ⟨by repeat (first | (with_reducible first | exact HB.out | apply below_alloc | apply pw_below_drewN | apply below_drew1) | exact HB.out)⟩⟩
     case round =>
      clear H'
      try clear p2
      try clear c4
      try clear p6
      try clear c7
      try clear c7b0
      try clear c7b1
      try clear c8
      try clear c8b0
      try clear c9
      try clear p2
      obtain ⟨x6_2, x7_2, rfl, HA, HK2, HO_5, HO_6, HB⟩ := hrel
      cases gk with
      | zero => exact absurd HA.out (by simp [rubriclaw7_SetOrders.l0])
      | succ k2 =>
       have H := HA.out
       clear HA
       simp only [rubriclaw7_SetOrders.l0] at H
       by_cases c12 : x7_2 ≥ 0
       ·rw [if_pos c12] at H
        have c12b0 : decide (0 ≤ x7_2) = true := decide_eq_true c12
        clear c12
        by_cases c13 : 0 ≤ x7_2
        ·rw [if_pos c13] at H
         have c13b0 : decide (0 ≤ x7_2) = true := decide_eq_true c13
         clear c13
         by_cases c14 : x7_2 < (l0.length : Int)
         ·rw [if_pos c14] at H
          have c14b0 : decide (x7_2 < (l0.length : Int)) = true := decide_eq_true c14
          clear c14
          by_cases c15 : x6_2.length < 17592186044416
          ·rw [if_pos c15] at H
           have LMc15 := Aside0.mk c15
           clear c15
           obtain ⟨y394, hy394⟩ : ∃ y_ : List (S24), y_ = (x6_2 ++ [(⟨(rd_T24 l0 x7_2).f0, (rd_T24 l0 x7_2).f1⟩ : S24)]) := ⟨_, rfl⟩
           replace H : (rubriclaw7_SetOrders.l0 k2 l0 a1 t390 y394 (wrap64 (x7_2 - 1))) = some r := by first | (rw [hy394]; with_reducible exact H) | (have H2_ := (Option.bind_some _ _).symm.trans H; rw [hy394]; with_reducible exact H2_) | (have H2_ := (Option.bind_some _ _).symm.trans H; with_reducible exact H2_) | with_reducible exact H | (rw [hy394]; exact H) | exact H
           have Ny394 := Aside0.mk hy394
           clear hy394
           have H' := Aside0.mk H
           clear H
           have p393 : 0 ≤ (x7_2 : Int) := of_decide_eq_true (by first | (with_reducible assumption) | assumption)
           have q393 : x7_2 < (l0.length : Int) := of_decide_eq_true (by first | (with_reducible assumption) | assumption)
           obtain ⟨ad393, e393, hx393_0, hx393_1⟩ := at_T24 HR0.out x7_2 p393 q393
           cases e393
           replace hx393_0 := (HB.out.cell (World.block_lt_of_cell? w _ hx393_0)).trans hx393_0
           replace hx393_1 := (HB.out.cell (World.block_lt_of_cell? w _ hx393_1)).trans hx393_1
           replace p393 := eq_true p393
           replace q393 := eq_true q393
           go_wp2_with (first | ((with_reducible refine gate_builtin (b := .append) (xs := #[.tmp 34, .tmp 39]) rfl ?_); (try (refine gate_guard (by rfl) ?_; dsimp only)); at_builtin; refine Kd.R_append k24 (w0 := w) w.heap.size rfl (.tmp 34) (.tmp 39) 25 24 (.agg #[(.int .i32 0), (.int .i32 0)]) 8 rfl Try.underlying25 info24 rfl (by decide) (by omega) u6 x6_2 (⟨(rd_T24 l0 x7_2).f0, (rd_T24 l0 x7_2).f1⟩ : S24) [.int .i32 ((rd_T24 l0 x7_2).f0), .int .i32 ((rd_T24 l0 x7_2).f1)] (fun k_ => some k_ ≠ (v391 : Value).ownBlock) (fun _ => False) rfl rfl ?aP (fun _ hk => hk.elim) ?aF ?aO ?aB ?aS ?aL ?_; (case aP => exact k24_mkM _ _ _ (⟨(rd_T24 l0 x7_2).f0, (rd_T24 l0 x7_2).f1⟩ : S24)); (case aB => exact (by repeat (first | (with_reducible first | exact HB.out | apply below_alloc | apply pw_below_drewN | apply below_drew1) | exact HB.out))); (case aF => exact (fun k_ hk => Kd.fresh' (Kd.R_lt (S.r HO_5.out)) k_ hk)); (case aO => exact (S.r HO_6.out)); (case aS => exact (below_size (by repeat (first | (with_reducible first | exact HB.out | apply below_alloc | apply pw_below_drewN | apply below_drew1) | exact HB.out)))); (case aL => have := LMc15.out; omega); intro v395 w16 ho hb hg hat; rw [← Ny394.out] at ho; have n0_ := Aside0.mk (Kd.R_after (ok := (fun _ => True)) (by (with_reducible repeat (first | apply Kd.R_alloc | apply Kd.R_drewN | apply Kd.R_drew)); exact Kd.R_mono HO_5.out (fun _ hk => ⟨trivial, hk⟩)) hg hat); have n1_ := Aside0.mk (hb); have n2_ := Aside0.mk (ho); clear HO_5; clear HB; clear HO_6; have HO_5 := n0_; have HB := n1_; have HO396 := n2_; clear n0_ n1_ n2_; clear ho hb hg hat))
           go_roundg k2
           case measure => have := HJ4.out; have := HK2.out; omega
           case rel => exact ⟨(y394), (wrap64 (x7_2 - 1)), (by first | rfl | (simp; done) | (simp [*]; done)), H', ⟨by have := HJ4.out; have := HK2.out; omega⟩, ⟨by (with_reducible repeat (first | apply Kd.R_alloc | apply Kd.R_drewN | apply Kd.R_drew)); exact Kd.R_mono HO_5.out (fun _ hk => hk.2)⟩, ⟨S.r HO396.out⟩, ⟨by repeat (first | (with_reducible first | exact HB.out | apply below_alloc | apply pw_below_drewN | apply below_drew1) | exact HB.out)⟩⟩
          ·rw [if_neg c15] at H
           exact absurd H (by simp)
         ·rw [if_neg c14] at H
          exact absurd H (by simp)
        ·rw [if_neg c13] at H
         exact absurd H (by simp)
       ·rw [if_neg c12] at H
        have c12b0 : decide (0 ≤ x7_2) = false := decide_eq_false c12
        clear c12
        replace H := Option.bind_eq_some_iff.mp H
        obtain ⟨t397, A170, H⟩ := H
        replace H : (rubriclaw7_SetOrders.l1 k2 l0 a1 t390 x6_2 t397 0) = some r := H
        have A17 := Aside0.mk A170
        clear A170
        have H' := Aside0.mk H
        clear H
        go_wp2_with (first | ((with_reducible refine gate_callee (f := 8) rfl ?_); refine goesL_ (some 41) rfl rfl Try.func8 (by kernel_rfl) rfl #[.slice none 0 0] rfl (by (try simp only [List.map_toArray, List.map_cons, List.map_nil]); first | done | rfl | (rw [KY54.out, KA54.out, KC54.out]; rfl) | (simp only [List.length_drop, List.length_take]; rfl)) ?_; (refine (set_Of.calls k2 _ _ ([] : List (S24)) t397 _ ?side1 ?side2 A17.out).mono ?_); (case side1 => exact Kd.C_nil _ _); (case side2 => exact Nat.le_refl _); rintro e w18 ⟨v398, rfl, ho0, hb⟩; refine ⟨_, rfl, ?_⟩; have n0_ := Aside0.mk (Kd.R_elder' (S.r HO_5.out) (Kd.R_base ho0) hb); have n1_ := Aside0.mk (Kd.R_elder' (S.r HO_6.out) (Kd.R_base ho0) hb); have n2_ := Aside0.mk (Kd.R_lower (Kd.R_new' (Kd.R_new' ho0 (Kd.R_lt (S.r HO_5.out))) (Kd.R_lt (S.r HO_6.out))) (below_size (by repeat (first | (with_reducible first | exact HB.out | apply below_alloc | apply pw_below_drewN | apply below_drew1) | exact HB.out)))); have n3_ := Aside0.mk (below_step (by repeat (first | (with_reducible first | exact HB.out | apply below_alloc | apply pw_below_drewN | apply below_drew1) | exact HB.out)) hb); clear HO_5; clear HO_6; clear HB; have HO_5 := n0_; have HO_6 := n1_; have HO399 := n2_; have HB := n3_; clear n0_ n1_ n2_ n3_; (try clear hb); (try clear hb2); (try clear hk); (try clear hi); (try clear ho0)))
        go_loopg [8, 9] k2 (fun kq v8 v9 w' => ∃ (x8_3 : List (S24)) (x9_3 : Int), v9 = .int .i64 x9_3 ∧ Aside0 (rubriclaw7_SetOrders.l1 kq l0 a1 t390 x6_2 x8_3 x9_3 = some r) ∧ Aside0 (kq ≤ k2) ∧ Aside0 (Kd.R k24 24 w' w.heap.size (fun k_ => some k_ ≠ (u6 : Value).ownBlock ∧ some k_ ≠ (v8 : Value).ownBlock) v391 t390) ∧ Aside0 (Kd.R k24 24 w' w.heap.size (fun k_ => some k_ ≠ (v391 : Value).ownBlock ∧ some k_ ≠ (v8 : Value).ownBlock) u6 x6_2) ∧ Aside0 (Kd.R k24 24 w' w.heap.size (fun k_ => some k_ ≠ (v391 : Value).ownBlock ∧ some k_ ≠ (u6 : Value).ownBlock) v8 x8_3) ∧ Aside0 (Below w.heap.size w w'))
        case atStart => exact ⟨(t397), (0), (by first | rfl | (simp; done) | (simp [*]; done)), H', ⟨Nat.le_refl _⟩, ⟨S.r HO_5.out⟩, ⟨S.r HO_6.out⟩, ⟨by (with_reducible repeat (first | apply Kd.R_alloc | apply Kd.R_drewN | apply Kd.R_drew)); exact Kd.R_mono HO399.out (fun _ hk => ⟨hk.1.2, hk.2⟩)⟩, ⟨by repeat (first | (with_reducible first | exact HB.out | apply below_alloc | apply pw_below_drewN | apply below_drew1) | exact HB.out)⟩⟩
        case round =>
         clear H'
         try clear c1
         try clear p2
         try clear p3
         try clear q3
         try clear hx3
         try clear c4
         try clear p6
         try clear c7
         try clear c7b0
         try clear c7b1
         try clear c8
         try clear c8b0
         try clear c9
         try clear c12
         try clear c12b0
         try clear c13
         try clear c13b0
         try clear c14
         try clear c14b0
         try clear c15
         try clear hx393_0
         try clear hx393_1
         try clear p2
         try clear p393
         try clear p6
         try clear q393
         obtain ⟨x8_3, x9_3, rfl, HA, HK3, HO_5, HO_6, HO_8, HB⟩ := hrel
         cases gk with
         | zero => exact absurd HA.out (by simp [rubriclaw7_SetOrders.l1])
         | succ k3 =>
          have H := HA.out
          clear HA
          simp only [rubriclaw7_SetOrders.l1] at H
          by_cases c19 : x9_3 < (l0.length : Int)
          ·rw [if_pos c19] at H
           have c19b0 : decide (x9_3 < (l0.length : Int)) = true := decide_eq_true c19
           clear c19
           by_cases c20 : 0 ≤ x9_3
           ·rw [if_pos c20] at H
            have c20b0 : decide (0 ≤ x9_3) = true := decide_eq_true c20
            clear c20
            obtain ⟨y401, hy401⟩ : ∃ y_ : List (S24), y_ = (([(⟨(rd_T24 l0 x9_3).f0, (rd_T24 l0 x9_3).f1⟩ : S24)] : List (S24))) := ⟨_, rfl⟩
            replace H : ((set_Of.f k3 y401).bind fun t404 => ((set_Union.f k3 x8_3 t404).bind fun t407 => (rubriclaw7_SetOrders.l1 k3 l0 a1 t390 x6_2 t407 (wrap64 (x9_3 + 1))))) = some r := by first | (rw [hy401]; with_reducible exact H) | (have H2_ := (Option.bind_some _ _).symm.trans H; rw [hy401]; with_reducible exact H2_) | (have H2_ := (Option.bind_some _ _).symm.trans H; with_reducible exact H2_) | with_reducible exact H | (rw [hy401]; exact H) | exact H
            have Ny401 := Aside0.mk hy401
            clear hy401
            replace H := Option.bind_eq_some_iff.mp H
            obtain ⟨t404, A210, H⟩ := H
            replace H : ((set_Union.f k3 x8_3 t404).bind fun t407 => (rubriclaw7_SetOrders.l1 k3 l0 a1 t390 x6_2 t407 (wrap64 (x9_3 + 1)))) = some r := H
            have A21 := Aside0.mk A210
            clear A210
            replace H := Option.bind_eq_some_iff.mp H
            obtain ⟨t407, A220, H⟩ := H
            replace H : (rubriclaw7_SetOrders.l1 k3 l0 a1 t390 x6_2 t407 (wrap64 (x9_3 + 1))) = some r := H
            have A22 := Aside0.mk A220
            clear A220
            have H' := Aside0.mk H
            clear H
            have p400 : 0 ≤ (x9_3 : Int) := of_decide_eq_true (by first | (with_reducible assumption) | assumption)
            have q400 : x9_3 < (l0.length : Int) := of_decide_eq_true (by first | (with_reducible assumption) | assumption)
            obtain ⟨ad400, e400, hx400_0, hx400_1⟩ := at_T24 HR0.out x9_3 p400 q400
            cases e400
            replace hx400_0 := (HB.out.cell (World.block_lt_of_cell? w _ hx400_0)).trans hx400_0
            replace hx400_1 := (HB.out.cell (World.block_lt_of_cell? w _ hx400_1)).trans hx400_1
            replace p400 := eq_true p400
            replace q400 := eq_true q400
            go_wp2_with (first | ((with_reducible refine gate_dst (N := 53) rfl ?_); (try (refine gate_guard (by rfl) ?_; dsimp only)); refine Kd.R_lit k24 _ 24 ?hg (N := 53) ?hd (xs := ([(⟨(rd_T24 l0 x9_3).f0, (rd_T24 l0 x9_3).f1⟩ : S24)] : List (S24))) (inner := [.int .i32 ((rd_T24 l0 x9_3).f0), .int .i32 ((rd_T24 l0 x9_3).f1)]) (ok := fun _ => True) (okp := fun _ => True) ?hr ?hp (fun _ hk => hk) trivial (Below.refl _ _) (Nat.le_refl _) (by simp) ?_; (case hd => rfl); (case hg => rfl); (case hr => first | (go_simp; done) | (go_simp; rfl)); (case hp => exact (Reps.c2 (show Kd.M k24 _ _ _ (⟨(rd_T24 l0 x9_3).f0, (rd_T24 l0 x9_3).f1⟩ : S24) [.int .i32 ((rd_T24 l0 x9_3).f0), .int .i32 ((rd_T24 l0 x9_3).f1)] from (k24_mkM _ _ _ (⟨(rd_T24 l0 x9_3).f0, (rd_T24 l0 x9_3).f1⟩ : S24) )) (Reps.none _ _))); intro v402 w23 ho24 hb hg_ hnew_; clear hg_ hnew_; (first | rw [← Ny401.out] at ho24 | (simp only [Int.reduceToNat] at ho24; rw [← Ny401.out] at ho24)); have n0_ := Aside0.mk (Kd.R_elder' (S.r HO_5.out) (Kd.R_base ho24) hb); have n1_ := Aside0.mk (Kd.R_elder' (S.r HO_6.out) (Kd.R_base ho24) hb); have n2_ := Aside0.mk (Kd.R_elder' (S.r HO_8.out) (Kd.R_base ho24) hb); have n3_ := Aside0.mk (Kd.R_lower (Kd.R_new' (Kd.R_new' (Kd.R_new' ho24 (Kd.R_lt (S.r HO_5.out))) (Kd.R_lt (S.r HO_6.out))) (Kd.R_lt (S.r HO_8.out))) (below_size (by repeat (first | (with_reducible first | exact HB.out | apply below_alloc | apply pw_below_drewN | apply below_drew1) | exact HB.out)))); have n4_ := Aside0.mk (below_step (by repeat (first | (with_reducible first | exact HB.out | apply below_alloc | apply pw_below_drewN | apply below_drew1) | exact HB.out)) hb); clear HO_5; clear HO_6; clear HO_8; clear HB; have HO_5 := n0_; have HO_6 := n1_; have HO_8 := n2_; have HO403 := n3_; have HB := n4_; clear n0_ n1_ n2_ n3_ n4_; clear hb ho24; obtain ⟨Ao25, co25, eo25⟩ := Kd.R_slice HO403.out; subst eo25) | ((with_reducible refine gate_callee (f := 8) rfl ?_); refine goesL_ (some 54) rfl rfl Try.func8 (by kernel_rfl) rfl #[.slice Ao25 y401.length co25] rfl (by (try simp only [List.map_toArray, List.map_cons, List.map_nil]); first | done | rfl | (rw [KY54.out, KA54.out, KC54.out]; rfl) | (simp only [List.length_drop, List.length_take]; rfl)) ?_; (with_reducible refine (set_Of.calls k3 _ _ y401 t404 _ ?side1 ?side2 A21.out).mono ?_); (case side1 => repeat (first | exact (Kd.R_reads' HO403.out).2.2 | (with_reducible refine Kd.C_alloc ?_ _) | (with_reducible refine Kd.C_drewN ?_ _) | (with_reducible refine Kd.C_drew ?_))); (case side2 => exact (Kd.R_reads' HO403.out).2.1); rintro e w26 ⟨v405, rfl, ho0, hb⟩; refine ⟨_, rfl, ?_⟩; have n0_ := Aside0.mk (Kd.R_elder' (S.r HO_5.out) (Kd.R_base ho0) hb); have n1_ := Aside0.mk (Kd.R_elder' (S.r HO_6.out) (Kd.R_base ho0) hb); have n2_ := Aside0.mk (Kd.R_elder' (S.r HO_8.out) (Kd.R_base ho0) hb); have n3_ := Aside0.mk (Kd.R_elder' (S.r HO403.out) (Kd.R_base ho0) hb); have n4_ := Aside0.mk (Kd.R_lower (Kd.R_new' (Kd.R_new' (Kd.R_new' (Kd.R_new' ho0 (Kd.R_lt (S.r HO_5.out))) (Kd.R_lt (S.r HO_6.out))) (Kd.R_lt (S.r HO_8.out))) (Kd.R_lt (S.r HO403.out))) (below_size (by repeat (first | (with_reducible first | exact HB.out | apply below_alloc | apply pw_below_drewN | apply below_drew1) | exact HB.out)))); have n5_ := Aside0.mk (below_step (by repeat (first | (with_reducible first | exact HB.out | apply below_alloc | apply pw_below_drewN | apply below_drew1) | exact HB.out)) hb); clear HO_5; clear HO_6; clear HO_8; clear HO403; clear HB; have HO_5 := n0_; have HO_6 := n1_; have HO_8 := n2_; have HO403 := n3_; have HO406 := n4_; have HB := n5_; clear n0_ n1_ n2_ n3_ n4_ n5_; (try clear hb); (try clear hb2); (try clear hk); (try clear hi); (try clear ho0); obtain ⟨Ao27, co27, eo27⟩ := Kd.R_slice HO_8.out; subst eo27; obtain ⟨Ao28, co28, eo28⟩ := Kd.R_slice HO406.out; subst eo28) | ((with_reducible refine gate_callee (f := 12) rfl ?_); refine goesL_ (some 55) rfl rfl Try.func12 (by kernel_rfl) rfl #[.slice Ao27 x8_3.length co27, .slice Ao28 t404.length co28] rfl (by (try simp only [List.map_toArray, List.map_cons, List.map_nil]); first | done | rfl | (rw [KY54.out, KA54.out, KC54.out]; rfl) | (simp only [List.length_drop, List.length_take]; rfl)) ?_; (with_reducible refine (set_Union.calls k3 (fun k_ => some k_ = (.slice Ao27 x8_3.length co27 : Value).ownBlock) _ _ x8_3 (fun k_ => some k_ = (.slice Ao28 t404.length co28 : Value).ownBlock) _ _ t404 t407 _ ?side1 ?side2 A22.out).mono ?_); (case side1 => exact Kd.R_V (Kd.R_tight rfl (HO_8.out))); (case side2 => exact Kd.R_V (Kd.R_tight rfl (HO406.out))); rintro e w29 ⟨v408, rfl, ho0, hb⟩; refine ⟨_, rfl, ?_⟩; have n0_ := Aside0.mk (Kd.R_elder' (S.r HO_5.out) (Kd.R_base ho0) hb); have n1_ := Aside0.mk (Kd.R_elder' (S.r HO_6.out) (Kd.R_base ho0) hb); have n2_ := Aside0.mk (Kd.R_elder' (S.r HO_8.out) (Kd.R_base ho0) hb); have n3_ := Aside0.mk (Kd.R_elder' (S.r HO403.out) (Kd.R_base ho0) hb); have n4_ := Aside0.mk (Kd.R_elder' (S.r HO406.out) (Kd.R_base ho0) hb); have n5_ := Aside0.mk (Kd.R_lower (Kd.R_new' (Kd.R_new' (Kd.R_new' (Kd.R_new' (Kd.R_new' (Kd.R_mono (ok' := fun k_ => True) ho0 (fun _ hk_ => trivial)) (Kd.R_lt (S.r HO_5.out))) (Kd.R_lt (S.r HO_6.out))) (Kd.R_lt (S.r HO_8.out))) (Kd.R_lt (S.r HO403.out))) (Kd.R_lt (S.r HO406.out))) (below_size (by repeat (first | (with_reducible first | exact HB.out | apply below_alloc | apply pw_below_drewN | apply below_drew1) | exact HB.out)))); have n6_ := Aside0.mk (below_step (by repeat (first | (with_reducible first | exact HB.out | apply below_alloc | apply pw_below_drewN | apply below_drew1) | exact HB.out)) hb); clear HO_5; clear HO_6; clear HO_8; clear HO403; clear HO406; clear HB; have HO_5 := n0_; have HO_6 := n1_; have HO_8 := n2_; have HO403 := n3_; have HO406 := n4_; have HO409 := n5_; have HB := n6_; clear n0_ n1_ n2_ n3_ n4_ n5_ n6_; (try clear hb); (try clear hb2); (try clear hk); (try clear hi); (try clear ho0)))
            go_roundg k3
            case measure => have := HJ4.out; have := HK2.out; have := HK3.out; omega
            case rel => exact ⟨(t407), (wrap64 (x9_3 + 1)), (by first | rfl | (simp; done) | (simp [*]; done)), H', ⟨by have := HJ4.out; have := HK2.out; have := HK3.out; omega⟩, ⟨by (with_reducible repeat (first | apply Kd.R_alloc | apply Kd.R_drewN | apply Kd.R_drew)); exact Kd.R_mono HO_5.out (fun _ hk => ⟨hk.1.1.1.1, hk.2⟩)⟩, ⟨by (with_reducible repeat (first | apply Kd.R_alloc | apply Kd.R_drewN | apply Kd.R_drew)); exact Kd.R_mono HO_6.out (fun _ hk => ⟨hk.1.1.1.1, hk.2⟩)⟩, ⟨by (with_reducible repeat (first | apply Kd.R_alloc | apply Kd.R_drewN | apply Kd.R_drew)); exact Kd.R_mono HO409.out (fun _ hk => ⟨hk.1.1.1.1.2, hk.1.1.1.2⟩)⟩, ⟨by repeat (first | (with_reducible first | exact HB.out | apply below_alloc | apply pw_below_drewN | apply below_drew1) | exact HB.out)⟩⟩
           ·rw [if_neg c20] at H
            exact absurd H (by simp)
          ·rw [if_neg c19] at H
           have c19b0 : decide (x9_3 < (l0.length : Int)) = false := decide_eq_false c19
           clear c19
           replace H := Option.bind_eq_some_iff.mp H
           obtain ⟨t410, A300, H⟩ := H
           replace H : ((set_Same.f k3 t390 t410).bind fun t413 => (if t413 = true then ((set_Same.f k3 t390 x8_3).bind fun t414 => (if t414 = true then (if 0 ≤ a1 then (if a1 ≤ (l0.length : Int) then ((set_Of.f k3 (l0.take (a1 : Int).toNat)).bind fun t419 => ((set_Of.f k3 (l0.drop (a1 : Int).toNat)).bind fun t426 => ((set_Union.f k3 t419 t426).bind fun t429 => ((set_Same.f k3 t390 t429).bind fun t432 => (if t432 = true then ((set_Of.f k3 t390).bind fun t433 => ((set_Same.f k3 t433 t390).bind fun t436 => (some t436))) else (some false)))))) else (none)) else (none)) else (some false))) else (some false))) = some r := H
           have A30 := Aside0.mk A300
           clear A300
           replace H := Option.bind_eq_some_iff.mp H
           obtain ⟨t413, A310, H⟩ := H
           replace H : (if t413 = true then ((set_Same.f k3 t390 x8_3).bind fun t414 => (if t414 = true then (if 0 ≤ a1 then (if a1 ≤ (l0.length : Int) then ((set_Of.f k3 (l0.take (a1 : Int).toNat)).bind fun t419 => ((set_Of.f k3 (l0.drop (a1 : Int).toNat)).bind fun t426 => ((set_Union.f k3 t419 t426).bind fun t429 => ((set_Same.f k3 t390 t429).bind fun t432 => (if t432 = true then ((set_Of.f k3 t390).bind fun t433 => ((set_Same.f k3 t433 t390).bind fun t436 => (some t436))) else (some false)))))) else (none)) else (none)) else (some false))) else (some false)) = some r := H
           have A31 := Aside0.mk A310
           clear A310
           by_cases c32 : t413 = true
           ·subst c32
            have H1 : ((set_Same.f k3 t390 x8_3).bind fun t414 => (if t414 = true then (if 0 ≤ a1 then (if a1 ≤ (l0.length : Int) then ((set_Of.f k3 (l0.take (a1 : Int).toNat)).bind fun t419 => ((set_Of.f k3 (l0.drop (a1 : Int).toNat)).bind fun t426 => ((set_Union.f k3 t419 t426).bind fun t429 => ((set_Same.f k3 t390 t429).bind fun t432 => (if t432 = true then ((set_Of.f k3 t390).bind fun t433 => ((set_Same.f k3 t433 t390).bind fun t436 => (some t436))) else (some false)))))) else (none)) else (none)) else (some false))) = some r := by rw [if_pos rfl] at H; exact H
            clear H
            have H := H1
            clear H1
            replace H := Option.bind_eq_some_iff.mp H
            obtain ⟨t414, A330, H⟩ := H
            replace H : (if t414 = true then (if 0 ≤ a1 then (if a1 ≤ (l0.length : Int) then ((set_Of.f k3 (l0.take (a1 : Int).toNat)).bind fun t419 => ((set_Of.f k3 (l0.drop (a1 : Int).toNat)).bind fun t426 => ((set_Union.f k3 t419 t426).bind fun t429 => ((set_Same.f k3 t390 t429).bind fun t432 => (if t432 = true then ((set_Of.f k3 t390).bind fun t433 => ((set_Same.f k3 t433 t390).bind fun t436 => (some t436))) else (some false)))))) else (none)) else (none)) else (some false)) = some r := H
            have A33 := Aside0.mk A330
            clear A330
            by_cases c34 : t414 = true
            ·subst c34
             have H1 : (if 0 ≤ a1 then (if a1 ≤ (l0.length : Int) then ((set_Of.f k3 (l0.take (a1 : Int).toNat)).bind fun t419 => ((set_Of.f k3 (l0.drop (a1 : Int).toNat)).bind fun t426 => ((set_Union.f k3 t419 t426).bind fun t429 => ((set_Same.f k3 t390 t429).bind fun t432 => (if t432 = true then ((set_Of.f k3 t390).bind fun t433 => ((set_Same.f k3 t433 t390).bind fun t436 => (some t436))) else (some false)))))) else (none)) else (none)) = some r := by rw [if_pos rfl] at H; exact H
             clear H
             have H := H1
             clear H1
             by_cases c35 : 0 ≤ a1
             ·rw [if_pos c35] at H
              have c35b0 := eq_true c35
              have c35b1 : decide (0 ≤ a1) = true := decide_eq_true c35
              clear c35
              by_cases c36 : a1 ≤ (l0.length : Int)
              ·rw [if_pos c36] at H
               have c36b0 := eq_true c36
               have c36b1 : decide (a1 ≤ (l0.length : Int)) = true := decide_eq_true c36
               clear c36
               obtain ⟨y415, hy415⟩ : ∃ y_ : List (S24), y_ = (l0.take (a1 : Int).toNat) := ⟨_, rfl⟩
               replace H : ((set_Of.f k3 y415).bind fun t419 => ((set_Of.f k3 (l0.drop (a1 : Int).toNat)).bind fun t426 => ((set_Union.f k3 t419 t426).bind fun t429 => ((set_Same.f k3 t390 t429).bind fun t432 => (if t432 = true then ((set_Of.f k3 t390).bind fun t433 => ((set_Same.f k3 t433 t390).bind fun t436 => (some t436))) else (some false)))))) = some r := by first | (rw [hy415]; with_reducible exact H) | (have H2_ := (Option.bind_some _ _).symm.trans H; rw [hy415]; with_reducible exact H2_) | (have H2_ := (Option.bind_some _ _).symm.trans H; with_reducible exact H2_) | with_reducible exact H | (rw [hy415]; exact H) | exact H
               have Ny415 := Aside0.mk hy415
               clear hy415
               replace H := Option.bind_eq_some_iff.mp H
               obtain ⟨t419, A370, H⟩ := H
               replace H : ((set_Of.f k3 (l0.drop (a1 : Int).toNat)).bind fun t426 => ((set_Union.f k3 t419 t426).bind fun t429 => ((set_Same.f k3 t390 t429).bind fun t432 => (if t432 = true then ((set_Of.f k3 t390).bind fun t433 => ((set_Same.f k3 t433 t390).bind fun t436 => (some t436))) else (some false))))) = some r := H
               have A37 := Aside0.mk A370
               clear A370
               have c38b0 := eq_true (of_decide_eq_true (by first | (with_reducible assumption) | assumption) : 0 ≤ a1)
               have c39b0 := eq_true (of_decide_eq_true (by first | (with_reducible assumption) | assumption) : a1 ≤ (l0.length : Int))
               obtain ⟨y422, hy422⟩ : ∃ y_ : List (S24), y_ = (l0.drop (a1 : Int).toNat) := ⟨_, rfl⟩
               replace H : ((set_Of.f k3 y422).bind fun t426 => ((set_Union.f k3 t419 t426).bind fun t429 => ((set_Same.f k3 t390 t429).bind fun t432 => (if t432 = true then ((set_Of.f k3 t390).bind fun t433 => ((set_Same.f k3 t433 t390).bind fun t436 => (some t436))) else (some false))))) = some r := by first | (rw [hy422]; with_reducible exact H) | (have H2_ := (Option.bind_some _ _).symm.trans H; rw [hy422]; with_reducible exact H2_) | (have H2_ := (Option.bind_some _ _).symm.trans H; with_reducible exact H2_) | with_reducible exact H | (rw [hy422]; exact H) | exact H
               have Ny422 := Aside0.mk hy422
               clear hy422
               replace H := Option.bind_eq_some_iff.mp H
               obtain ⟨t426, A400, H⟩ := H
               replace H : ((set_Union.f k3 t419 t426).bind fun t429 => ((set_Same.f k3 t390 t429).bind fun t432 => (if t432 = true then ((set_Of.f k3 t390).bind fun t433 => ((set_Same.f k3 t433 t390).bind fun t436 => (some t436))) else (some false)))) = some r := H
               have A40 := Aside0.mk A400
               clear A400
               replace H := Option.bind_eq_some_iff.mp H
               obtain ⟨t429, A410, H⟩ := H
               replace H : ((set_Same.f k3 t390 t429).bind fun t432 => (if t432 = true then ((set_Of.f k3 t390).bind fun t433 => ((set_Same.f k3 t433 t390).bind fun t436 => (some t436))) else (some false))) = some r := H
               have A41 := Aside0.mk A410
               clear A410
               replace H := Option.bind_eq_some_iff.mp H
               obtain ⟨t432, A420, H⟩ := H
               replace H : (if t432 = true then ((set_Of.f k3 t390).bind fun t433 => ((set_Same.f k3 t433 t390).bind fun t436 => (some t436))) else (some false)) = some r := H
               have A42 := Aside0.mk A420
               clear A420
               by_cases c43 : t432 = true
               ·subst c43
                have H1 : ((set_Of.f k3 t390).bind fun t433 => ((set_Same.f k3 t433 t390).bind fun t436 => (some t436))) = some r := by rw [if_pos rfl] at H; exact H
                clear H
                have H := H1
                clear H1
                replace H := Option.bind_eq_some_iff.mp H
                obtain ⟨t433, A440, H⟩ := H
                replace H : ((set_Same.f k3 t433 t390).bind fun t436 => (some t436)) = some r := H
                have A44 := Aside0.mk A440
                clear A440
                replace H := Option.bind_eq_some_iff.mp H
                obtain ⟨t436, A450, H⟩ := H
                replace H : (some t436) = some r := H
                have A45 := Aside0.mk A450
                clear A450
                obtain rfl := Option.some.inj H
                try go_wp2
                have n0_ := Aside0.mk (Kd.R_drew HO_5.out)
                have n1_ := Aside0.mk (Kd.R_drew HO_6.out)
                have n2_ := Aside0.mk (Kd.R_drew HO_8.out)
                have n3_ := Aside0.mk (below_drew1 HB.out)
                clear HO_5
                clear HO_6
                clear HO_8
                clear HB
                have HO_5 := n0_
                have HO_6 := n1_
                have HO_8 := n2_
                have HB := n3_
                clear n0_ n1_ n2_ n3_
                obtain ⟨Ao47, co47, eo47⟩ := Kd.R_slice HO_6.out
                (first | subst eo47 | (injection eo47 with f1_ f2_ f3_; have f4_ := f1_.symm; have f5_ := f3_.symm; clear f1_ f2_ f3_; subst f4_; subst f5_))
                refine start_ (n := 29) (S := fun w' => True) (ds := []) #[false, false, false, false, false, false, false, false, false, false, false, false, false, false, false, false, false, false, false, false, false, false, false, false, false, false, false, false, false] (by kernel_rfl) rfl rfl trivial (fun hHeld => ?_); refine with_tabW rubriclaw7_SetOrders.tab16 rubriclaw7_SetOrders.bits16 (fun HT_ HW_ => ?_)
                generalize wr.drew = w46 at HO_5 HO_6 HO_8 HB hHeld ⊢
                refine pure_ (i := 0) (N := some 56) (v := ?_) (a' := ?_) #[true, false, false, false, false, false, false, false, false, false, false, false, false, false, false, false, false, false, false, false, false, false, false, false, false, false, false, false, false] rfl rfl (any_of HT_.out (by kernel_rfl)) (fun _ _ _ h => h) (Or.inl ⟨by rfl, ?_⟩) ?_ ?_
                rotate_left
                ·intro w'
                 go_simp
                 with_reducible rfl
                rotate_left
                ·simp only [Act.put, List.setIfInBounds_toArray, List.set_cons_zero, List.set_cons_succ, i64_w, i32_w]
                 rfl
                refine pure_ (i := 1) (N := some 57) (v := ?_) (a' := ?_) #[true, true, false, false, false, false, false, false, false, false, false, false, false, false, false, false, false, false, false, false, false, false, false, false, false, false, false, false, false] rfl rfl (any_of HT_.out (by kernel_rfl)) (fun _ _ _ h => h) (Or.inl ⟨by rfl, ?_⟩) ?_ ?_
                rotate_left
                ·intro w'
                 go_simp
                 with_reducible rfl
                rotate_left
                ·simp only [Act.put, List.setIfInBounds_toArray, List.set_cons_zero, List.set_cons_succ, i64_w, i32_w]
                 rfl
                refine one_ (i := 2) (N := some 58) #[true, true, true, false, false, false, false, false, false, false, false, false, false, false, false, false, false, false, false, false, false, false, false, false, false, false, false, false, false] rfl rfl (one_of HT_.out (by kernel_rfl)) (by decide) (fun K hK => ?_)
                refine goes_ Try.func8 (by kernel_rfl) rfl #[.slice Ao47 x6_2.length co47] (by rfl) rfl rfl (by (try simp only [List.map_toArray, List.map_cons, List.map_nil]); first | done | rfl | (rw [KY54.out, KA54.out, KC54.out]; rfl) | (simp only [List.length_drop, List.length_take]; rfl)) ?_
                with_reducible refine (set_Of.calls k3 _ _ x6_2 t410 _ ?side1 ?side2 A30.out).mono ?_
                (case side1 => repeat (first | exact (Kd.R_reads' HO_6.out).2.2 | (with_reducible refine Kd.C_alloc ?_ _) | (with_reducible refine Kd.C_drewN ?_ _) | (with_reducible refine Kd.C_drew ?_)))
                (case side2 => exact (Kd.R_reads' HO_6.out).2.1)
                rintro e w48 ⟨v411, rfl, ho0, hb⟩
                refine ⟨_, rfl, ?_⟩
                have n0_ := Aside0.mk (Kd.R_elder' (S.r HO_5.out) (Kd.R_base ho0) hb)
                have n1_ := Aside0.mk (Kd.R_elder' (S.r HO_6.out) (Kd.R_base ho0) hb)
                have n2_ := Aside0.mk (Kd.R_elder' (S.r HO_8.out) (Kd.R_base ho0) hb)
                have n3_ := Aside0.mk (Kd.R_lower (Kd.R_new' (Kd.R_new' (Kd.R_new' ho0 (Kd.R_lt (S.r HO_5.out))) (Kd.R_lt (S.r HO_6.out))) (Kd.R_lt (S.r HO_8.out))) (below_size (by repeat (first | (with_reducible first | exact HB.out | apply below_alloc | apply pw_below_drewN | apply below_drew1) | exact HB.out))))
                have n4_ := Aside0.mk (below_step (by repeat (first | (with_reducible first | exact HB.out | apply below_alloc | apply pw_below_drewN | apply below_drew1) | exact HB.out)) hb)
                clear HO_5
                clear HO_6
                clear HO_8
                clear HB
                have HO_5 := n0_
                have HO_6 := n1_
                have HO_8 := n2_
                have HO412 := n3_
                have HB := n4_
                clear n0_ n1_ n2_ n3_ n4_
                (try clear hb)
                (try clear hb2)
                (try clear hk)
                (try clear hi)
                (try clear ho0)
                obtain ⟨Ao49, co49, eo49⟩ := Kd.R_slice HO_5.out
                (first | subst eo49 | (injection eo49 with f1_ f2_ f3_; have f4_ := f1_.symm; have f5_ := f3_.symm; clear f1_ f2_ f3_; subst f4_; subst f5_))
                obtain ⟨Ao50, co50, eo50⟩ := Kd.R_slice HO412.out
                (first | subst eo50 | (injection eo50 with f1_ f2_ f3_; have f4_ := f1_.symm; have f5_ := f3_.symm; clear f1_ f2_ f3_; subst f4_; subst f5_))
                refine hK.out _ _ trivial (fun hHeld => ?_)
                clear hK K
                refine norm_ (a' := ?_) ?_ ?_
                rotate_left
                ·show Act.put _ (some 58) _ = _
                 simp only [Act.put, List.setIfInBounds_toArray, List.set_cons_zero, List.set_cons_succ, i64_w, i32_w]
                 rfl
                refine one_ (i := 3) (N := some 59) #[true, true, true, true, false, false, false, false, false, false, false, false, false, false, false, false, false, false, false, false, false, false, false, false, false, false, false, false, false] rfl rfl (one_of HT_.out (by kernel_rfl)) (by decide) (fun K hK => ?_)
                refine goes_ Try.func13 (by kernel_rfl) rfl #[.slice Ao49 t390.length co49, .slice Ao50 t410.length co50] (by rfl) rfl rfl (by (try simp only [List.map_toArray, List.map_cons, List.map_nil]); first | done | rfl | (rw [KY54.out, KA54.out, KC54.out]; rfl) | (simp only [List.length_drop, List.length_take]; rfl)) ?_
                with_reducible refine (set_Same.calls k3 _ _ t390 _ _ t410 true _ ?side1 ?side2 ?side3 ?side4 A31.out).mono ?_
                (case side1 => repeat (first | exact (Kd.R_reads' HO_5.out).2.2 | (with_reducible refine Kd.C_alloc ?_ _) | (with_reducible refine Kd.C_drewN ?_ _) | (with_reducible refine Kd.C_drew ?_)))
                (case side2 => exact (Kd.R_reads' HO_5.out).2.1)
                (case side3 => repeat (first | exact (Kd.R_reads' HO412.out).2.2 | (with_reducible refine Kd.C_alloc ?_ _) | (with_reducible refine Kd.C_drewN ?_ _) | (with_reducible refine Kd.C_drew ?_)))
                (case side4 => exact (Kd.R_reads' HO412.out).2.1)
                rintro e w' ⟨rfl, ⟨nd, rfl⟩⟩
                refine ⟨_, rfl, ?_⟩
                obtain ⟨Ao51, co51, eo51⟩ := Kd.R_slice HO_8.out
                (first | subst eo51 | (injection eo51 with f1_ f2_ f3_; have f4_ := f1_.symm; have f5_ := f3_.symm; clear f1_ f2_ f3_; subst f4_; subst f5_))
                refine hK.out _ _ trivial (fun hHeld => ?_)
                clear hK K
                refine norm_ (a' := ?_) ?_ ?_
                rotate_left
                ·show Act.put _ (some 59) _ = _
                 simp only [Act.put, List.setIfInBounds_toArray, List.set_cons_zero, List.set_cons_succ, i64_w, i32_w]
                 rfl
                refine pure_ (i := 4) (N := some 60) (v := ?_) (a' := ?_) #[true, true, true, true, true, false, false, false, false, false, false, false, false, false, false, false, false, false, false, false, false, false, false, false, false, false, false, false, false] rfl rfl (any_of HT_.out (by kernel_rfl)) (fun _ _ _ h => h) (Or.inl ⟨by rfl, ?_⟩) ?_ ?_
                rotate_left
                ·intro w'
                 go_simp
                 with_reducible rfl
                rotate_left
                ·simp only [Act.put, List.setIfInBounds_toArray, List.set_cons_zero, List.set_cons_succ, i64_w, i32_w]
                 rfl
                refine pure_ (i := 5) (N := some 61) (v := ?_) (a' := ?_) #[true, true, true, true, true, true, false, false, false, false, false, false, false, false, false, false, false, false, false, false, false, false, false, false, false, false, false, false, false] rfl rfl (any_of HT_.out (by kernel_rfl)) (fun _ _ _ h => h) (Or.inl ⟨by rfl, ?_⟩) ?_ ?_
                rotate_left
                ·intro w'
                 go_simp
                 with_reducible rfl
                rotate_left
                ·simp only [Act.put, List.setIfInBounds_toArray, List.set_cons_zero, List.set_cons_succ, i64_w, i32_w]
                 rfl
                refine pure_ (i := 6) (N := some 62) (v := ?_) (a' := ?_) #[true, true, true, true, true, true, true, false, false, false, false, false, false, false, false, false, false, false, false, false, false, false, false, false, false, false, false, false, false] rfl rfl (any_of HT_.out (by kernel_rfl)) (fun _ _ _ h => h) (Or.inl ⟨by rfl, ?_⟩) ?_ ?_
                rotate_left
                ·intro w'
                 go_simp
                 with_reducible rfl
                rotate_left
                ·simp only [Act.put, List.setIfInBounds_toArray, List.set_cons_zero, List.set_cons_succ, i64_w, i32_w]
                 rfl
                refine one_ (i := 7) (N := some 63) #[true, true, true, true, true, true, true, true, false, false, false, false, false, false, false, false, false, false, false, false, false, false, false, false, false, false, false, false, false] rfl rfl (one_of HT_.out (by kernel_rfl)) (by decide) (fun K hK => ?_)
                refine goes_ Try.func13 (by kernel_rfl) rfl #[.slice Ao49 t390.length co49, .slice Ao51 x8_3.length co51] (by rfl) rfl rfl (by (try simp only [List.map_toArray, List.map_cons, List.map_nil]); first | done | rfl | (rw [KY54.out, KA54.out, KC54.out]; rfl) | (simp only [List.length_drop, List.length_take]; rfl)) ?_
                with_reducible refine (set_Same.calls k3 _ _ t390 _ _ x8_3 true _ ?side1 ?side2 ?side3 ?side4 A33.out).mono ?_
                (case side1 => repeat (first | exact (Kd.R_reads' HO_5.out).2.2 | (with_reducible refine Kd.C_alloc ?_ _) | (with_reducible refine Kd.C_drewN ?_ _) | (with_reducible refine Kd.C_drew ?_)))
                (case side2 => exact (Kd.R_reads' HO_5.out).2.1)
                (case side3 => repeat (first | exact (Kd.R_reads' HO_8.out).2.2 | (with_reducible refine Kd.C_alloc ?_ _) | (with_reducible refine Kd.C_drewN ?_ _) | (with_reducible refine Kd.C_drew ?_)))
                (case side4 => exact (Kd.R_reads' HO_8.out).2.1)
                rintro e w' ⟨rfl, ⟨nd, rfl⟩⟩
                refine ⟨_, rfl, ?_⟩
                have q52 : (a1 : Int) ≤ ((l0.length : Int) : Int) := of_decide_eq_true (by first | (with_reducible assumption) | assumption)
                obtain ⟨i052, hi052, _, hsz52, _⟩ := info_parts info24
                have hroom52 : l0.length ≤ c0 := HC0.out
                have hC52 : Kd.C k24 _ A0 l0.length l0 := HR0.out
                have hcut52 := cut_to (P := Try.prog) 25 24 .i64 Try.underlying25 hi052 A0 l0.length c0 a1 (of_decide_eq_true (by first | (with_reducible assumption) | assumption)) q52 hroom52
                have hr52 := Kd.C_take (m := (a1 : Int).toNat) hC52 (by omega)
                have hy52 : y415.length = (a1 : Int).toNat := (by rw [Ny415.out, List.length_take]; omega)
                rw [← Ny415.out] at hr52
                rw [← hy52] at hcut52
                have HR418 := Aside0.mk hr52
                have HC418 := Aside0.mk (show y415.length ≤ c0 from by omega)
                clear hr52 hC52 hroom52 hi052 hsz52
                have KY52 := Aside0.mk hy52
                clear hy52
                replace q52 := eq_true q52
                refine hK.out _ _ trivial (fun hHeld => ?_)
                clear hK K
                refine norm_ (a' := ?_) ?_ ?_
                rotate_left
                ·show Act.put _ (some 63) _ = _
                 simp only [Act.put, List.setIfInBounds_toArray, List.set_cons_zero, List.set_cons_succ, i64_w, i32_w]
                 rfl
                refine pure_ (i := 8) (N := some 64) (v := ?_) (a' := ?_) #[true, true, true, true, true, true, true, true, true, false, false, false, false, false, false, false, false, false, false, false, false, false, false, false, false, false, false, false, false] rfl rfl (any_of HT_.out (by kernel_rfl)) (fun _ _ _ h => h) (Or.inl ⟨by rfl, ?_⟩) ?_ ?_
                rotate_left
                ·intro w'
                 go_simp
                 with_reducible rfl
                rotate_left
                ·simp only [Act.put, List.setIfInBounds_toArray, List.set_cons_zero, List.set_cons_succ, i64_w, i32_w]
                 rfl
                refine pure_ (i := 9) (N := some 65) (v := ?_) (a' := ?_) #[true, true, true, true, true, true, true, true, true, true, false, false, false, false, false, false, false, false, false, false, false, false, false, false, false, false, false, false, false] rfl rfl (any_of HT_.out (by kernel_rfl)) (fun _ _ _ h => h) (Or.inl ⟨by rfl, ?_⟩) ?_ ?_
                rotate_left
                ·intro w'
                 go_simp
                 with_reducible rfl
                rotate_left
                ·simp only [Act.put, List.setIfInBounds_toArray, List.set_cons_zero, List.set_cons_succ, i64_w, i32_w]
                 rfl
                refine pure_ (i := 10) (N := some 66) (v := ?_) (a' := ?_) #[true, true, true, true, true, true, true, true, true, true, true, false, false, false, false, false, false, false, false, false, false, false, false, false, false, false, false, false, false] rfl rfl (any_of HT_.out (by kernel_rfl)) (fun _ _ _ h => h) (Or.inl ⟨by rfl, ?_⟩) ?_ ?_
                rotate_left
                ·intro w'
                 go_simp
                 with_reducible rfl
                rotate_left
                ·simp only [Act.put, List.setIfInBounds_toArray, List.set_cons_zero, List.set_cons_succ, i64_w, i32_w]
                 rfl
                refine pure_ (i := 11) (N := some 67) (v := ?_) (a' := ?_) #[true, true, true, true, true, true, true, true, true, true, true, true, false, false, false, false, false, false, false, false, false, false, false, false, false, false, false, false, false] rfl rfl (any_of HT_.out (by kernel_rfl)) (fun _ _ _ h => h) (Or.inl ⟨by rfl, ?_⟩) ?_ ?_
                rotate_left
                ·intro w'
                 go_simp
                 with_reducible rfl
                rotate_left
                ·simp only [Act.put, List.setIfInBounds_toArray, List.set_cons_zero, List.set_cons_succ, i64_w, i32_w]
                 rfl
                refine pure_ (i := 12) (N := some 68) (v := ?_) (a' := ?_) #[true, true, true, true, true, true, true, true, true, true, true, true, true, false, false, false, false, false, false, false, false, false, false, false, false, false, false, false, false] rfl rfl (any_of HT_.out (by kernel_rfl)) (fun _ _ _ h => h) (Or.inl ⟨by rfl, ?_⟩) ?_ ?_
                rotate_left
                ·intro w'
                 go_simp
                 with_reducible rfl
                rotate_left
                ·simp only [Act.put, List.setIfInBounds_toArray, List.set_cons_zero, List.set_cons_succ, i64_w, i32_w]
                 rfl
                refine pure_ (i := 13) (N := some 69) (v := ?_) (a' := ?_) #[true, true, true, true, true, true, true, true, true, true, true, true, true, true, false, false, false, false, false, false, false, false, false, false, false, false, false, false, false] rfl rfl (any_of HT_.out (by kernel_rfl)) (fun _ _ _ h => h) (Or.inl ⟨by rfl, ?_⟩) ?_ ?_
                rotate_left
                ·intro w'
                 go_simp
                 with_reducible rfl
                rotate_left
                ·simp only [Act.put, List.setIfInBounds_toArray, List.set_cons_zero, List.set_cons_succ, i64_w, i32_w]
                 rfl
                refine pure_ (i := 15) (N := some 71) (v := ?_) (a' := ?_) #[true, true, true, true, true, true, true, true, true, true, true, true, true, true, false, true, false, false, false, false, false, false, false, false, false, false, false, false, false] rfl rfl (any_of HT_.out (by kernel_rfl)) (fun _ _ _ h => h) (Or.inl ⟨by rfl, ?_⟩) ?_ ?_
                rotate_left
                ·intro w'
                 go_simp
                 with_reducible rfl
                rotate_left
                ·simp only [Act.put, List.setIfInBounds_toArray, List.set_cons_zero, List.set_cons_succ, i64_w, i32_w]
                 rfl
                refine pure_ (i := 16) (N := some 72) (v := ?_) (a' := ?_) #[true, true, true, true, true, true, true, true, true, true, true, true, true, true, false, true, true, false, false, false, false, false, false, false, false, false, false, false, false] rfl rfl (any_of HT_.out (by kernel_rfl)) (fun _ _ _ h => h) (Or.inl ⟨by rfl, ?_⟩) ?_ ?_
                rotate_left
                ·intro w'
                 go_simp
                 with_reducible rfl
                rotate_left
                ·simp only [Act.put, List.setIfInBounds_toArray, List.set_cons_zero, List.set_cons_succ, i64_w, i32_w]
                 rfl
                refine pure_ (i := 17) (N := some 73) (v := ?_) (a' := ?_) #[true, true, true, true, true, true, true, true, true, true, true, true, true, true, false, true, true, true, false, false, false, false, false, false, false, false, false, false, false] rfl rfl (any_of HT_.out (by kernel_rfl)) (fun _ _ _ h => h) (Or.inl ⟨by rfl, ?_⟩) ?_ ?_
                rotate_left
                ·intro w'
                 go_simp
                 with_reducible rfl
                rotate_left
                ·simp only [Act.put, List.setIfInBounds_toArray, List.set_cons_zero, List.set_cons_succ, i64_w, i32_w]
                 rfl
                refine one_ (i := 14) (N := some 70) #[true, true, true, true, true, true, true, true, true, true, true, true, true, true, true, true, true, true, false, false, false, false, false, false, false, false, false, false, false] rfl rfl (one_of HT_.out (by kernel_rfl)) (by decide) (fun K hK => ?_)
                refine goes_ Try.func8 (by kernel_rfl) rfl #[.slice A0 y415.length c0] (by rfl) rfl rfl (by (try simp only [List.map_toArray, List.map_cons, List.map_nil]); first | done | rfl | (rw [KY54.out, KA54.out, KC54.out]; rfl) | (simp only [List.length_drop, List.length_take]; rfl)) ?_
                with_reducible refine (set_Of.calls k3 _ _ y415 t419 _ ?side1 ?side2 A37.out).mono ?_
                (case side1 => repeat (first | exact (Kd.C_below HR418.out (by repeat (first | (with_reducible first | exact HB.out | apply below_alloc | apply pw_below_drewN | apply below_drew1) | exact HB.out))) | (with_reducible refine Kd.C_alloc ?_ _) | (with_reducible refine Kd.C_drewN ?_ _) | (with_reducible refine Kd.C_drew ?_)))
                (case side2 => exact HC418.out)
                rintro e w53 ⟨v420, rfl, ho0, hb⟩
                refine ⟨_, rfl, ?_⟩
                have n0_ := Aside0.mk (Kd.R_elder' (S.r HO_5.out) (Kd.R_base ho0) hb)
                have n1_ := Aside0.mk (Kd.R_elder' (S.r HO_6.out) (Kd.R_base ho0) hb)
                have n2_ := Aside0.mk (Kd.R_elder' (S.r HO_8.out) (Kd.R_base ho0) hb)
                have n3_ := Aside0.mk (Kd.R_elder' (S.r HO412.out) (Kd.R_base ho0) hb)
                have n4_ := Aside0.mk (Kd.R_lower (Kd.R_new' (Kd.R_new' (Kd.R_new' (Kd.R_new' ho0 (Kd.R_lt (S.r HO_5.out))) (Kd.R_lt (S.r HO_6.out))) (Kd.R_lt (S.r HO_8.out))) (Kd.R_lt (S.r HO412.out))) (below_size (by repeat (first | (with_reducible first | exact HB.out | apply below_alloc | apply pw_below_drewN | apply below_drew1) | exact HB.out))))
                have n5_ := Aside0.mk (below_step (by repeat (first | (with_reducible first | exact HB.out | apply below_alloc | apply pw_below_drewN | apply below_drew1) | exact HB.out)) hb)
                clear HO_5
                clear HO_6
                clear HO_8
                clear HO412
                clear HB
                have HO_5 := n0_
                have HO_6 := n1_
                have HO_8 := n2_
                have HO412 := n3_
                have HO421 := n4_
                have HB := n5_
                clear n0_ n1_ n2_ n3_ n4_ n5_
                (try clear hb)
                (try clear hb2)
                (try clear hk)
                (try clear hi)
                (try clear ho0)
                have q54 : (a1 : Int) ≤ ((l0.length : Int) : Int) := of_decide_eq_true (by first | (with_reducible assumption) | assumption)
                obtain ⟨i054, hi054, _, hsz54, _⟩ := info_parts info24
                have hroom54 : l0.length ≤ c0 := HC0.out
                have hC54 : Kd.C k24 _ A0 l0.length l0 := HR0.out
                have q054 : (0 : Int) ≤ (a1 : Int) := of_decide_eq_true (by first | (with_reducible assumption) | assumption)
                have hcut54 := cut_from (P := Try.prog) 25 24 .i64 Try.underlying25 hi054 2 hsz54 A0 l0.length c0 a1 q054 q54
                have hr54 := Kd.C_drop (m := (a1 : Int).toNat) (c := c0) hC54 (by omega) hroom54
                obtain ⟨A54, hA54⟩ : ∃ A1, A1 = (if c0 = (a1 : Int).toNat then A0 else (A0 : Option Addr).map (·.add ((a1 : Int).toNat * 2))) := ⟨_, rfl⟩
                obtain ⟨c54, hc54⟩ : ∃ c1, c1 = c0 - (a1 : Int).toNat := ⟨_, rfl⟩
                have hy54 : y422.length = l0.length - (a1 : Int).toNat := (by rw [Ny422.out, List.length_drop] <;> omega)
                rw [show (l0).drop (a1 : Int).toNat = y422 from Ny422.out.symm] at hr54
                replace hr54 : Kd.C k24 _ A54 y422.length y422 := (by rw [hA54]; exact hr54)
                rw [← hy54, ← hA54, ← hc54] at hcut54
                have HR425 := Aside0.mk hr54
                have HC425 := Aside0.mk (show y422.length ≤ c54 from by rw [hy54, hc54]; exact Nat.sub_le_sub_right hroom54 _)
                have KC54 := Aside0.mk hc54
                clear hr54 hC54 hroom54 hi054 hsz54 hc54
                have KY54 := Aside0.mk hy54
                have KA54 := Aside0.mk hA54
                clear hy54 hA54
                replace q54 := eq_true q54
                refine hK.out _ _ trivial (fun hHeld => ?_)
                clear hK K
                refine norm_ (a' := ?_) ?_ ?_
                rotate_left
                ·show Act.put _ (some 70) _ = _
                 simp only [Act.put, List.setIfInBounds_toArray, List.set_cons_zero, List.set_cons_succ, i64_w, i32_w]
                 rfl
                refine one_ (i := 18) (N := some 74) #[true, true, true, true, true, true, true, true, true, true, true, true, true, true, true, true, true, true, true, false, false, false, false, false, false, false, false, false, false] rfl rfl (one_of HT_.out (by kernel_rfl)) (by decide) (fun K hK => ?_)
                refine goes_ Try.func8 (by kernel_rfl) rfl #[.slice A54 y422.length c54] (by rfl) rfl rfl (by (try simp only [List.map_toArray, List.map_cons, List.map_nil]); first | done | rfl | (rw [KY54.out, KA54.out, KC54.out]; rfl) | (simp only [List.length_drop, List.length_take]; rfl)) ?_
                with_reducible refine (set_Of.calls k3 _ _ y422 t426 _ ?side1 ?side2 A40.out).mono ?_
                (case side1 => repeat (first | exact (Kd.C_below HR425.out HB.out) | (with_reducible refine Kd.C_alloc ?_ _) | (with_reducible refine Kd.C_drewN ?_ _) | (with_reducible refine Kd.C_drew ?_)))
                (case side2 => exact HC425.out)
                rintro e w55 ⟨v427, rfl, ho0, hb⟩
                refine ⟨_, rfl, ?_⟩
                have n0_ := Aside0.mk (Kd.R_elder' (S.r HO_5.out) (Kd.R_base ho0) hb)
                have n1_ := Aside0.mk (Kd.R_elder' (S.r HO_6.out) (Kd.R_base ho0) hb)
                have n2_ := Aside0.mk (Kd.R_elder' (S.r HO_8.out) (Kd.R_base ho0) hb)
                have n3_ := Aside0.mk (Kd.R_elder' (S.r HO412.out) (Kd.R_base ho0) hb)
                have n4_ := Aside0.mk (Kd.R_elder' (S.r HO421.out) (Kd.R_base ho0) hb)
                have n5_ := Aside0.mk (Kd.R_lower (Kd.R_new' (Kd.R_new' (Kd.R_new' (Kd.R_new' (Kd.R_new' ho0 (Kd.R_lt (S.r HO_5.out))) (Kd.R_lt (S.r HO_6.out))) (Kd.R_lt (S.r HO_8.out))) (Kd.R_lt (S.r HO412.out))) (Kd.R_lt (S.r HO421.out))) (below_size (by repeat (first | (with_reducible first | exact HB.out | apply below_alloc | apply pw_below_drewN | apply below_drew1) | exact HB.out))))
                have n6_ := Aside0.mk (below_step (by repeat (first | (with_reducible first | exact HB.out | apply below_alloc | apply pw_below_drewN | apply below_drew1) | exact HB.out)) hb)
                clear HO_5
                clear HO_6
                clear HO_8
                clear HO412
                clear HO421
                clear HB
                have HO_5 := n0_
                have HO_6 := n1_
                have HO_8 := n2_
                have HO412 := n3_
                have HO421 := n4_
                have HO428 := n5_
                have HB := n6_
                clear n0_ n1_ n2_ n3_ n4_ n5_ n6_
                (try clear hb)
                (try clear hb2)
                (try clear hk)
                (try clear hi)
                (try clear ho0)
                obtain ⟨Ao56, co56, eo56⟩ := Kd.R_slice HO421.out
                (first | subst eo56 | (injection eo56 with f1_ f2_ f3_; have f4_ := f1_.symm; have f5_ := f3_.symm; clear f1_ f2_ f3_; subst f4_; subst f5_))
                obtain ⟨Ao57, co57, eo57⟩ := Kd.R_slice HO428.out
                (first | subst eo57 | (injection eo57 with f1_ f2_ f3_; have f4_ := f1_.symm; have f5_ := f3_.symm; clear f1_ f2_ f3_; subst f4_; subst f5_))
                refine hK.out _ _ trivial (fun hHeld => ?_)
                clear hK K
                refine norm_ (a' := ?_) ?_ ?_
                rotate_left
                ·show Act.put _ (some 74) _ = _
                 simp only [Act.put, List.setIfInBounds_toArray, List.set_cons_zero, List.set_cons_succ, i64_w, i32_w]
                 rfl
                refine one_ (i := 19) (N := some 75) #[true, true, true, true, true, true, true, true, true, true, true, true, true, true, true, true, true, true, true, true, false, false, false, false, false, false, false, false, false] rfl rfl (one_of HT_.out (by kernel_rfl)) (by decide) (fun K hK => ?_)
                refine goes_ Try.func12 (by kernel_rfl) rfl #[.slice Ao56 t419.length co56, .slice Ao57 t426.length co57] (by rfl) rfl rfl (by (try simp only [List.map_toArray, List.map_cons, List.map_nil]); first | done | rfl | (rw [KY54.out, KA54.out, KC54.out]; rfl) | (simp only [List.length_drop, List.length_take]; rfl)) ?_
                with_reducible refine (set_Union.calls k3 (fun k_ => some k_ = (.slice Ao56 t419.length co56 : Value).ownBlock) _ _ t419 (fun k_ => some k_ = (.slice Ao57 t426.length co57 : Value).ownBlock) _ _ t426 t429 _ ?side1 ?side2 A41.out).mono ?_
                (case side1 => exact Kd.R_V (Kd.R_tight rfl (HO421.out)))
                (case side2 => exact Kd.R_V (Kd.R_tight rfl (HO428.out)))
                rintro e w58 ⟨v430, rfl, ho0, hb⟩
                refine ⟨_, rfl, ?_⟩
                have n0_ := Aside0.mk (Kd.R_elder' (S.r HO_5.out) (Kd.R_base ho0) hb)
                have n1_ := Aside0.mk (Kd.R_elder' (S.r HO_6.out) (Kd.R_base ho0) hb)
                have n2_ := Aside0.mk (Kd.R_elder' (S.r HO_8.out) (Kd.R_base ho0) hb)
                have n3_ := Aside0.mk (Kd.R_elder' (S.r HO412.out) (Kd.R_base ho0) hb)
                have n4_ := Aside0.mk (Kd.R_elder' (S.r HO421.out) (Kd.R_base ho0) hb)
                have n5_ := Aside0.mk (Kd.R_elder' (S.r HO428.out) (Kd.R_base ho0) hb)
                have n6_ := Aside0.mk (Kd.R_lower (Kd.R_new' (Kd.R_new' (Kd.R_new' (Kd.R_new' (Kd.R_new' (Kd.R_new' (Kd.R_mono (ok' := fun k_ => True) ho0 (fun _ hk_ => trivial)) (Kd.R_lt (S.r HO_5.out))) (Kd.R_lt (S.r HO_6.out))) (Kd.R_lt (S.r HO_8.out))) (Kd.R_lt (S.r HO412.out))) (Kd.R_lt (S.r HO421.out))) (Kd.R_lt (S.r HO428.out))) (below_size (by repeat (first | (with_reducible first | exact HB.out | apply below_alloc | apply pw_below_drewN | apply below_drew1) | exact HB.out))))
                have n7_ := Aside0.mk (below_step (by repeat (first | (with_reducible first | exact HB.out | apply below_alloc | apply pw_below_drewN | apply below_drew1) | exact HB.out)) hb)
                clear HO_5
                clear HO_6
                clear HO_8
                clear HO412
                clear HO421
                clear HO428
                clear HB
                have HO_5 := n0_
                have HO_6 := n1_
                have HO_8 := n2_
                have HO412 := n3_
                have HO421 := n4_
                have HO428 := n5_
                have HO431 := n6_
                have HB := n7_
                clear n0_ n1_ n2_ n3_ n4_ n5_ n6_ n7_
                (try clear hb)
                (try clear hb2)
                (try clear hk)
                (try clear hi)
                (try clear ho0)
                obtain ⟨Ao59, co59, eo59⟩ := Kd.R_slice HO431.out
                (first | subst eo59 | (injection eo59 with f1_ f2_ f3_; have f4_ := f1_.symm; have f5_ := f3_.symm; clear f1_ f2_ f3_; subst f4_; subst f5_))
                refine hK.out _ _ trivial (fun hHeld => ?_)
                clear hK K
                refine norm_ (a' := ?_) ?_ ?_
                rotate_left
                ·show Act.put _ (some 75) _ = _
                 simp only [Act.put, List.setIfInBounds_toArray, List.set_cons_zero, List.set_cons_succ, i64_w, i32_w]
                 rfl
                refine one_ (i := 20) (N := some 76) #[true, true, true, true, true, true, true, true, true, true, true, true, true, true, true, true, true, true, true, true, true, false, false, false, false, false, false, false, false] rfl rfl (one_of HT_.out (by kernel_rfl)) (by decide) (fun K hK => ?_)
                refine goes_ Try.func13 (by kernel_rfl) rfl #[.slice Ao49 t390.length co49, .slice Ao59 t429.length co59] (by rfl) rfl rfl (by (try simp only [List.map_toArray, List.map_cons, List.map_nil]); first | done | rfl | (rw [KY54.out, KA54.out, KC54.out]; rfl) | (simp only [List.length_drop, List.length_take]; rfl)) ?_
                with_reducible refine (set_Same.calls k3 _ _ t390 _ _ t429 true _ ?side1 ?side2 ?side3 ?side4 A42.out).mono ?_
                (case side1 => repeat (first | exact (Kd.R_reads' HO_5.out).2.2 | (with_reducible refine Kd.C_alloc ?_ _) | (with_reducible refine Kd.C_drewN ?_ _) | (with_reducible refine Kd.C_drew ?_)))
                (case side2 => exact (Kd.R_reads' HO_5.out).2.1)
                (case side3 => repeat (first | exact (Kd.R_reads' HO431.out).2.2 | (with_reducible refine Kd.C_alloc ?_ _) | (with_reducible refine Kd.C_drewN ?_ _) | (with_reducible refine Kd.C_drew ?_)))
                (case side4 => exact (Kd.R_reads' HO431.out).2.1)
                rintro e w' ⟨rfl, ⟨nd, rfl⟩⟩
                refine ⟨_, rfl, ?_⟩
                refine hK.out _ _ trivial (fun hHeld => ?_)
                clear hK K
                refine norm_ (a' := ?_) ?_ ?_
                rotate_left
                ·show Act.put _ (some 76) _ = _
                 simp only [Act.put, List.setIfInBounds_toArray, List.set_cons_zero, List.set_cons_succ, i64_w, i32_w]
                 rfl
                refine pure_ (i := 21) (N := some 77) (v := ?_) (a' := ?_) #[true, true, true, true, true, true, true, true, true, true, true, true, true, true, true, true, true, true, true, true, true, true, false, false, false, false, false, false, false] rfl rfl (any_of HT_.out (by kernel_rfl)) (fun _ _ _ h => h) (Or.inl ⟨by rfl, ?_⟩) ?_ ?_
                rotate_left
                ·intro w'
                 go_simp
                 with_reducible rfl
                rotate_left
                ·simp only [Act.put, List.setIfInBounds_toArray, List.set_cons_zero, List.set_cons_succ, i64_w, i32_w]
                 rfl
                refine pure_ (i := 22) (N := some 78) (v := ?_) (a' := ?_) #[true, true, true, true, true, true, true, true, true, true, true, true, true, true, true, true, true, true, true, true, true, true, true, false, false, false, false, false, false] rfl rfl (any_of HT_.out (by kernel_rfl)) (fun _ _ _ h => h) (Or.inl ⟨by rfl, ?_⟩) ?_ ?_
                rotate_left
                ·intro w'
                 go_simp
                 with_reducible rfl
                rotate_left
                ·simp only [Act.put, List.setIfInBounds_toArray, List.set_cons_zero, List.set_cons_succ, i64_w, i32_w]
                 rfl
                refine pure_ (i := 23) (N := some 79) (v := ?_) (a' := ?_) #[true, true, true, true, true, true, true, true, true, true, true, true, true, true, true, true, true, true, true, true, true, true, true, true, false, false, false, false, false] rfl rfl (any_of HT_.out (by kernel_rfl)) (fun _ _ _ h => h) (Or.inl ⟨by rfl, ?_⟩) ?_ ?_
                rotate_left
                ·intro w'
                 go_simp
                 with_reducible rfl
                rotate_left
                ·simp only [Act.put, List.setIfInBounds_toArray, List.set_cons_zero, List.set_cons_succ, i64_w, i32_w]
                 rfl
                refine pure_ (i := 25) (N := some 81) (v := ?_) (a' := ?_) #[true, true, true, true, true, true, true, true, true, true, true, true, true, true, true, true, true, true, true, true, true, true, true, true, false, true, false, false, false] rfl rfl (any_of HT_.out (by kernel_rfl)) (fun _ _ _ h => h) (Or.inl ⟨by rfl, ?_⟩) ?_ ?_
                rotate_left
                ·intro w'
                 go_simp
                 with_reducible rfl
                rotate_left
                ·simp only [Act.put, List.setIfInBounds_toArray, List.set_cons_zero, List.set_cons_succ, i64_w, i32_w]
                 rfl
                refine one_ (i := 24) (N := some 80) #[true, true, true, true, true, true, true, true, true, true, true, true, true, true, true, true, true, true, true, true, true, true, true, true, true, true, false, false, false] rfl rfl (one_of HT_.out (by kernel_rfl)) (by decide) (fun K hK => ?_)
                refine goes_ Try.func8 (by kernel_rfl) rfl #[.slice Ao49 t390.length co49] (by rfl) rfl rfl (by (try simp only [List.map_toArray, List.map_cons, List.map_nil]); first | done | rfl | (rw [KY54.out, KA54.out, KC54.out]; rfl) | (simp only [List.length_drop, List.length_take]; rfl)) ?_
                with_reducible refine (set_Of.calls k3 _ _ t390 t433 _ ?side1 ?side2 A44.out).mono ?_
                (case side1 => repeat (first | exact (Kd.R_reads' HO_5.out).2.2 | (with_reducible refine Kd.C_alloc ?_ _) | (with_reducible refine Kd.C_drewN ?_ _) | (with_reducible refine Kd.C_drew ?_)))
                (case side2 => exact (Kd.R_reads' HO_5.out).2.1)
                rintro e w60 ⟨v434, rfl, ho0, hb⟩
                refine ⟨_, rfl, ?_⟩
                have n0_ := Aside0.mk (Kd.R_elder' (S.r HO_5.out) (Kd.R_base ho0) hb)
                have n1_ := Aside0.mk (Kd.R_elder' (S.r HO_6.out) (Kd.R_base ho0) hb)
                have n2_ := Aside0.mk (Kd.R_elder' (S.r HO_8.out) (Kd.R_base ho0) hb)
                have n3_ := Aside0.mk (Kd.R_elder' (S.r HO412.out) (Kd.R_base ho0) hb)
                have n4_ := Aside0.mk (Kd.R_elder' (S.r HO421.out) (Kd.R_base ho0) hb)
                have n5_ := Aside0.mk (Kd.R_elder' (S.r HO428.out) (Kd.R_base ho0) hb)
                have n6_ := Aside0.mk (Kd.R_elder' (S.r HO431.out) (Kd.R_base ho0) hb)
                have n7_ := Aside0.mk (Kd.R_lower (Kd.R_new' (Kd.R_new' (Kd.R_new' (Kd.R_new' (Kd.R_new' (Kd.R_new' (Kd.R_new' ho0 (Kd.R_lt (S.r HO_5.out))) (Kd.R_lt (S.r HO_6.out))) (Kd.R_lt (S.r HO_8.out))) (Kd.R_lt (S.r HO412.out))) (Kd.R_lt (S.r HO421.out))) (Kd.R_lt (S.r HO428.out))) (Kd.R_lt (S.r HO431.out))) (below_size (by repeat (first | (with_reducible first | exact HB.out | apply below_alloc | apply pw_below_drewN | apply below_drew1) | exact HB.out))))
                have n8_ := Aside0.mk (below_step (by repeat (first | (with_reducible first | exact HB.out | apply below_alloc | apply pw_below_drewN | apply below_drew1) | exact HB.out)) hb)
                clear HO_5
                clear HO_6
                clear HO_8
                clear HO412
                clear HO421
                clear HO428
                clear HO431
                clear HB
                have HO_5 := n0_
                have HO_6 := n1_
                have HO_8 := n2_
                have HO412 := n3_
                have HO421 := n4_
                have HO428 := n5_
                have HO431 := n6_
                have HO435 := n7_
                have HB := n8_
                clear n0_ n1_ n2_ n3_ n4_ n5_ n6_ n7_ n8_
                (try clear hb)
                (try clear hb2)
                (try clear hk)
                (try clear hi)
                (try clear ho0)
                obtain ⟨Ao61, co61, eo61⟩ := Kd.R_slice HO435.out
                (first | subst eo61 | (injection eo61 with f1_ f2_ f3_; have f4_ := f1_.symm; have f5_ := f3_.symm; clear f1_ f2_ f3_; subst f4_; subst f5_))
                refine hK.out _ _ trivial (fun hHeld => ?_)
                clear hK K
                refine norm_ (a' := ?_) ?_ ?_
                rotate_left
                ·show Act.put _ (some 80) _ = _
                 simp only [Act.put, List.setIfInBounds_toArray, List.set_cons_zero, List.set_cons_succ, i64_w, i32_w]
                 rfl
                refine one_ (i := 26) (N := some 82) #[true, true, true, true, true, true, true, true, true, true, true, true, true, true, true, true, true, true, true, true, true, true, true, true, true, true, true, false, false] rfl rfl (one_of HT_.out (by kernel_rfl)) (by decide) (fun K hK => ?_)
                refine goes_ Try.func13 (by kernel_rfl) rfl #[.slice Ao61 t433.length co61, .slice Ao49 t390.length co49] (by rfl) rfl rfl (by (try simp only [List.map_toArray, List.map_cons, List.map_nil]); first | done | rfl | (rw [KY54.out, KA54.out, KC54.out]; rfl) | (simp only [List.length_drop, List.length_take]; rfl)) ?_
                with_reducible refine (set_Same.calls k3 _ _ t433 _ _ t390 t436 _ ?side1 ?side2 ?side3 ?side4 A45.out).mono ?_
                (case side1 => repeat (first | exact (Kd.R_reads' HO435.out).2.2 | (with_reducible refine Kd.C_alloc ?_ _) | (with_reducible refine Kd.C_drewN ?_ _) | (with_reducible refine Kd.C_drew ?_)))
                (case side2 => exact (Kd.R_reads' HO435.out).2.1)
                (case side3 => repeat (first | exact (Kd.R_reads' HO_5.out).2.2 | (with_reducible refine Kd.C_alloc ?_ _) | (with_reducible refine Kd.C_drewN ?_ _) | (with_reducible refine Kd.C_drew ?_)))
                (case side4 => exact (Kd.R_reads' HO_5.out).2.1)
                rintro e w' ⟨rfl, ⟨nd, rfl⟩⟩
                refine ⟨_, rfl, ?_⟩
                refine hK.out _ _ trivial (fun hHeld => ?_)
                clear hK K
                refine norm_ (a' := ?_) ?_ ?_
                rotate_left
                ·show Act.put _ (some 82) _ = _
                 simp only [Act.put, List.setIfInBounds_toArray, List.set_cons_zero, List.set_cons_succ, i64_w, i32_w]
                 rfl
                refine pure_ (i := 27) (N := some 83) (v := ?_) (a' := ?_) #[true, true, true, true, true, true, true, true, true, true, true, true, true, true, true, true, true, true, true, true, true, true, true, true, true, true, true, true, false] rfl rfl (any_of HT_.out (by kernel_rfl)) (fun _ _ _ h => h) (Or.inl ⟨by rfl, ?_⟩) ?_ ?_
                rotate_left
                ·intro w'
                 go_simp
                 with_reducible rfl
                rotate_left
                ·simp only [Act.put, List.setIfInBounds_toArray, List.set_cons_zero, List.set_cons_succ, i64_w, i32_w]
                 rfl
                refine pure_ (i := 28) (N := some 4) (v := ?_) (a' := ?_) #[true, true, true, true, true, true, true, true, true, true, true, true, true, true, true, true, true, true, true, true, true, true, true, true, true, true, true, true, true] rfl rfl (any_of HT_.out (by kernel_rfl)) (fun _ _ _ h => h) (Or.inl ⟨by rfl, ?_⟩) ?_ ?_
                rotate_left
                ·intro w'
                 go_simp
                 with_reducible rfl
                rotate_left
                ·simp only [Act.put, List.setIfInBounds_toArray, List.set_cons_zero, List.set_cons_succ, i64_w, i32_w]
                 rfl
                refine done_ (done_of HT_.out (by kernel_rfl)) ?_
                try go_wp2
                all_goals (go_ret; exact ⟨by first | rfl | (simp [errW_none, errW_some] <;> rfl) | (simp [*, errW_none, errW_some] <;> rfl), by repeat (first | (with_reducible first | exact HB.out | apply below_alloc | apply pw_below_drewN | apply below_drew1) | exact HB.out)⟩)
               ·replace c43 := Bool.eq_false_iff.mpr c43
                subst c43
                have H1 : (some false) = some r := by rw [if_neg (show ¬ (false = true) by decide)] at H; exact H
                clear H
                have H := H1
                clear H1
                exact absurd ((Option.some.inj H).trans HRT.out) (by decide)
              ·rw [if_neg c36] at H
               exact absurd H (by simp)
             ·rw [if_neg c35] at H
              exact absurd H (by simp)
            ·replace c34 := Bool.eq_false_iff.mpr c34
             subst c34
             have H1 : (some false) = some r := by rw [if_neg (show ¬ (false = true) by decide)] at H; exact H
             clear H
             have H := H1
             clear H1
             exact absurd ((Option.some.inj H).trans HRT.out) (by decide)
           ·replace c32 := Bool.eq_false_iff.mpr c32
            subst c32
            have H1 : (some false) = some r := by rw [if_neg (show ¬ (false = true) by decide)] at H; exact H
            clear H
            have H := H1
            clear H1
            exact absurd ((Option.some.inj H).trans HRT.out) (by decide)
 ·replace c4 := Bool.eq_false_iff.mpr c4
  subst c4
  have H1 : (some false) = some r := by rw [if_neg (show ¬ (false = true) by decide)] at H; exact H
  clear H
  have H := H1
  clear H1
  exact absurd ((Option.some.inj H).trans HRT.out) (by decide)

end Go.Proofs.Ytjhmpippcndloaa.Pr
