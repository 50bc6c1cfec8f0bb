-- printed by wip/gprint.py (ours) out of the translation, by the kit's print program with given contracts
import Derived.Test.YtehaonhgbmlmnaaDoorPrx0
namespace Go.Proofs.YtehaonhgbmlmnaaDoor.Pr
open Go.RowKit Go.Proofs.YtehaonhgbmlmnaaDoorW.PrintWords Go.Proofs.YtehaonhgbmlmnaaDoorW.PrintLast Go.Proofs.YtehaonhgbmlmnaaDoorW.PrintMore
attribute [local go_sem] max2_int min2_int max_two min_two max_three min_three max_four min_four   -- for this text's walks alone
set_option linter.unusedVariables false
set_option linter.unusedSimpArgs false

/-! ### rubricref6_order: function 31 -/
def rubricref6_order.j0 : Nat → Int → Int → Int → Int → Bool → Option (Int)
 | 0, _, _, _, _, _ => none
 | k + 1, x0, x1, x2, x3, x9 => if x9 = true then (some (-1)) else (if x0 = x2 then (if x1 = x3 then (some 0) else (some 1)) else (some 1))
def rubricref6_order.f (k : Nat) (a0 : Int) (a1 : Int) (a2 : Int) (a3 : Int) : Option (Int) := if a0 < a2 then (rubricref6_order.j0 k a0 a1 a2 a3 true) else (if a0 = a2 then (rubricref6_order.j0 k a0 a1 a2 a3 (decide (a1 < a3))) else (rubricref6_order.j0 k a0 a1 a2 a3 false))
theorem rubricref6_order.mono_l : ∀ k, (∀ y0 y1 y2 y3 y4, LeO (rubricref6_order.j0 k y0 y1 y2 y3 y4) (rubricref6_order.j0 (k + 1) y0 y1 y2 y3 y4))
 | 0 => fun _ _ _ _ _ r h => by simp [rubricref6_order.j0] at h
 | k + 1 => by
  have ih0 := rubricref6_order.mono_l k
  ·intro y0 y1 y2 y3 y4
   unfold rubricref6_order.j0
   repeat' first
   | (with_reducible exact ih0 _ _ _ _ _)
   | (with_reducible exact LeO.refl _)
   | (with_reducible exact LeO.none _)
   | (with_reducible refine LeO.ite ?_ ?_)
   | (with_reducible refine LeO.bind ?_ (fun _ => ?_))
   | exact ih0 _ _ _ _ _
   | exact LeO.none _
   | refine LeO.ite ?_ ?_
   | refine LeO.bind ?_ (fun _ => ?_)
theorem rubricref6_order.mono : ∀ a0 a1 a2 a3 k, LeO (rubricref6_order.f k a0 a1 a2 a3) (rubricref6_order.f (k + 1) a0 a1 a2 a3) := by
 intro a0 a1 a2 a3 k
 have ih0 := rubricref6_order.mono_l k
 unfold rubricref6_order.f
 repeat' first
   | (with_reducible exact ih0 _ _ _ _ _)
   | (with_reducible exact LeO.refl _)
   | (with_reducible exact LeO.none _)
   | (with_reducible refine LeO.ite ?_ ?_)
   | (with_reducible refine LeO.bind ?_ (fun _ => ?_))
   | exact ih0 _ _ _ _ _
   | exact LeO.none _
   | refine LeO.ite ?_ ?_
   | refine LeO.bind ?_ (fun _ => ?_)
set_option maxHeartbeats 8000000 in
set_option maxRecDepth 100000 in
theorem rubricref6_order.calls (k : Nat) (a0 : Int) (a1 : Int) (a2 : Int) (a3 : Int) (r : Int) (w : World) (h : rubricref6_order.f k a0 a1 a2 a3 = some r) :
  Calls Tryd.prog 31 #[.int .i64 a0, .int .i64 a1, .int .i64 a2, .int .i64 a3] w fun e w' => e = .returned (.int .i64 r) ∧ Drawn0 w w' := by
 have H : (if a0 < a2 then (rubricref6_order.j0 k a0 a1 a2 a3 true) else (if a0 = a2 then (rubricref6_order.j0 k a0 a1 a2 a3 (decide (a1 < a3))) else (rubricref6_order.j0 k a0 a1 a2 a3 false))) = some r := h
 clear h
 have HC5 := Aside0.mk H
 clear H
 go_enter Tryd.func31, Tryd.ntmps31
 go_upto_region 1 with (fail)
 go_cut [9] (fun v9 wc => ∃ (kq : Nat) (x9_4 : Bool), v9 = .bool x9_4 ∧ Aside0 (rubricref6_order.j0 kq a0 a1 a2 a3 x9_4 = some r) ∧ Aside0 (kq ≤ k) ∧ Drawn0 w wc)
 case first =>
  have H := HC5.out
  clear HC5
  by_cases c6 : a0 < a2
  ·rw [if_pos c6] at H
   have c6b0 : decide (a0 < a2) = true := decide_eq_true c6
   clear c6
   (first | rw [c6b0] | (simp only [i64_w, i32_w]; rw [c6b0]) | skip)
   have H' := Aside0.mk H
   clear H
   go_wp2
   go_meet
   case rel => exact ⟨_, (true), (by first | rfl | (simp; done) | (simp [*]; done)), H', ⟨by first | omega | exact Nat.le_refl _⟩, by repeat (first | exact Drawn0.refl _ | apply Drawn0.step)⟩
  ·rw [if_neg c6] at H
   have c6b0 : decide (a0 < a2) = false := decide_eq_false c6
   clear c6
   (first | rw [c6b0] | (simp only [i64_w, i32_w]; rw [c6b0]) | skip)
   by_cases c7 : a0 = a2
   ·rw [if_pos c7] at H
    have c7b0 : (a0 == a2) = true := beq_iff_eq.mpr c7
    have c7b1 : (a0 != a2) = false := bne_eq_false_iff_eq.mpr c7
    clear c7
    have H' := Aside0.mk H
    clear H
    go_wp2
    go_meet
    case rel => exact ⟨_, (decide (a1 < a3)), (by first | rfl | (simp; done) | (simp [*]; done)), H', ⟨by first | omega | exact Nat.le_refl _⟩, by repeat (first | exact Drawn0.refl _ | apply Drawn0.step)⟩
   ·rw [if_neg c7] at H
    have c7b0 : (a0 == a2) = false := beq_eq_false_iff_ne.mpr c7
    have c7b1 : (a0 != a2) = true := bne_iff_ne.mpr c7
    have H' := Aside0.mk H
    clear H
    go_wp2
    go_meet
    case rel => exact ⟨_, (false), (by first | rfl | (simp; done) | (simp [*]; done)), H', ⟨by first | omega | exact Nat.le_refl _⟩, by repeat (first | exact Drawn0.refl _ | apply Drawn0.step)⟩
 case rest =>
  clear HC5
  (try clear p2); (try clear c3); (try clear c6); (try clear c6b0); (try clear c7); (try clear c7b0); (try clear c7b1)
  obtain ⟨kq, x9_4, rfl, HA, HJ4, ⟨mc4, rfl⟩⟩ := hcut
  cases kq with
  | zero => exact absurd HA.out (by simp [rubricref6_order.j0])
  | succ kj4 =>
   have H := HA.out
   clear HA
   simp only [rubricref6_order.j0] at H
   by_cases c8 : x9_4 = true
   ·subst c8
    rw [if_pos rfl] at H
    try dsimp only at H
    obtain rfl := Option.some.inj H
    go_wp2
    go_ret
    exact ⟨by first | rfl | (simp; done) | (simp [*]; done), by repeat (first | exact Drawn0.refl _ | apply Drawn0.step)⟩
   ·replace c8 := Bool.eq_false_iff.mpr c8
    subst c8
    rw [if_neg (show ¬ (false = true) by decide)] at H
    try dsimp only at H
    by_cases c9 : a0 = a2
    ·rw [if_pos c9] at H
     have c9b0 : (a0 == a2) = true := beq_iff_eq.mpr c9
     have c9b1 : (a0 != a2) = false := bne_eq_false_iff_eq.mpr c9
     clear c9
     by_cases c10 : a1 = a3
     ·rw [if_pos c10] at H
      have c10b0 : (a1 == a3) = true := beq_iff_eq.mpr c10
      have c10b1 : (a1 != a3) = false := bne_eq_false_iff_eq.mpr c10
      clear c10
      obtain rfl := Option.some.inj H
      go_wp2
      go_ret
      exact ⟨by first | rfl | (simp; done) | (simp [*]; done), by repeat (first | exact Drawn0.refl _ | apply Drawn0.step)⟩
     ·rw [if_neg c10] at H
      have c10b0 : (a1 == a3) = false := beq_eq_false_iff_ne.mpr c10
      have c10b1 : (a1 != a3) = true := bne_iff_ne.mpr c10
      obtain rfl := Option.some.inj H
      go_wp2
      go_ret
      exact ⟨by first | rfl | (simp; done) | (simp [*]; done), by repeat (first | exact Drawn0.refl _ | apply Drawn0.step)⟩
    ·rw [if_neg c9] at H
     have c9b0 : (a0 == a2) = false := beq_eq_false_iff_ne.mpr c9
     have c9b1 : (a0 != a2) = true := bne_iff_ne.mpr c9
     obtain rfl := Option.some.inj H
     go_wp2
     go_ret
     exact ⟨by first | rfl | (simp; done) | (simp [*]; done), by repeat (first | exact Drawn0.refl _ | apply Drawn0.step)⟩

/-! ### rubricref6_line: function 57 -/
def rubricref6_line.f (a0 : Int) : Option (Int) := if a0 < 0 then (some (wrap64 (a0 + 1))) else (some a0)
set_option maxHeartbeats 8000000 in
set_option maxRecDepth 100000 in
theorem rubricref6_line.calls (a0 : Int) (r : Int) (w : World) (h : rubricref6_line.f a0 = some r) :
  Calls Tryd.prog 57 #[.int .i64 a0] w fun e w' => e = .returned (.int .i64 r) ∧ Drawn0 w w' := by
 have H : (if a0 < 0 then (some (wrap64 (a0 + 1))) else (some a0)) = some r := h
 clear h
 by_cases c2 : a0 < 0
 ·rw [if_pos c2] at H
  have c2b0 : decide (a0 < 0) = true := decide_eq_true c2
  clear c2
  obtain rfl := Option.some.inj H
  go_enter Tryd.func57, Tryd.ntmps57
  go_wp2
  go_ret
  exact ⟨by first | rfl | (simp; done) | (simp [*]; done), by repeat (first | exact Drawn0.refl _ | apply Drawn0.step)⟩
 ·rw [if_neg c2] at H
  have c2b0 : decide (a0 < 0) = false := decide_eq_false c2
  clear c2
  obtain rfl := Option.some.inj H
  go_enter Tryd.func57, Tryd.ntmps57
  go_wp2
  go_ret
  exact ⟨by first | rfl | (simp; done) | (simp [*]; done), by repeat (first | exact Drawn0.refl _ | apply Drawn0.step)⟩

/-! ### rubricref6_mod: function 59 -/
def rubricref6_mod.f (a0 : Int) (a1 : Int) : Option (Int) := if a1 = 0 then (none) else (if (Int.tmod a0 a1) < 0 then (some (wrap64 ((Int.tmod a0 a1) + a1))) else (some (Int.tmod a0 a1)))
set_option maxHeartbeats 8000000 in
set_option maxRecDepth 100000 in
theorem rubricref6_mod.calls (a0 : Int) (a1 : Int) (r : Int) (w : World) (h : rubricref6_mod.f a0 a1 = some r) :
  Calls Tryd.prog 59 #[.int .i64 a0, .int .i64 a1] w fun e w' => e = .returned (.int .i64 r) ∧ Drawn0 w w' := by
 have H : (if a1 = 0 then (none) else (if (Int.tmod a0 a1) < 0 then (some (wrap64 ((Int.tmod a0 a1) + a1))) else (some (Int.tmod a0 a1)))) = some r := h
 clear h
 by_cases c3 : a1 = 0
 ·rw [if_pos c3] at H
  exact absurd H (by simp)
 ·rw [if_neg c3] at H
  have c3b0 : (a1 == 0) = false := beq_eq_false_iff_ne.mpr c3
  have c3b1 : (a1 != 0) = true := bne_iff_ne.mpr c3
  by_cases c4 : (Int.tmod a0 a1) < 0
  ·rw [if_pos c4] at H
   have c4b0 : decide ((Int.tmod a0 a1) < 0) = true := decide_eq_true c4
   clear c4
   obtain rfl := Option.some.inj H
   go_enter Tryd.func59, Tryd.ntmps59
   go_wp2
   go_ret
   exact ⟨by first | rfl | (simp; done) | (simp [*]; done), by repeat (first | exact Drawn0.refl _ | apply Drawn0.step)⟩
  ·rw [if_neg c4] at H
   have c4b0 : decide ((Int.tmod a0 a1) < 0) = false := decide_eq_false c4
   clear c4
   obtain rfl := Option.some.inj H
   go_enter Tryd.func59, Tryd.ntmps59
   go_wp2
   go_ret
   exact ⟨by first | rfl | (simp; done) | (simp [*]; done), by repeat (first | exact Drawn0.refl _ | apply Drawn0.step)⟩

/-! ### rubricref6_div: function 58 -/
def rubricref6_div.f (a0 : Int) (a1 : Int) : Option (Int) := (rubricref6_mod.f a0 a1).bind fun t298 => (if a1 = 0 then (none) else (some (wrap64 (Int.tdiv (wrap64 (a0 - t298)) a1))))
set_option maxHeartbeats 8000000 in
set_option maxRecDepth 100000 in
theorem rubricref6_div.calls (a0 : Int) (a1 : Int) (r : Int) (w : World) (h : rubricref6_div.f a0 a1 = some r) :
  Calls Tryd.prog 58 #[.int .i64 a0, .int .i64 a1] w fun e w' => e = .returned (.int .i64 r) ∧ Drawn0 w w' := by
 have H : ((rubricref6_mod.f a0 a1).bind fun t298 => (if a1 = 0 then (none) else (some (wrap64 (Int.tdiv (wrap64 (a0 - t298)) a1))))) = some r := h
 clear h
 replace H := Option.bind_eq_some_iff.mp H
 obtain ⟨t298, A30, H⟩ := H
 try dsimp only at H
 have A3 := Aside0.mk A30
 clear A30
 by_cases c4 : a1 = 0
 ·rw [if_pos c4] at H
  exact absurd H (by simp)
 ·rw [if_neg c4] at H
  have c4b0 : (a1 == 0) = false := beq_eq_false_iff_ne.mpr c4
  have c4b1 : (a1 != 0) = true := bne_iff_ne.mpr c4
  obtain rfl := Option.some.inj H
  go_enter Tryd.func58, Tryd.ntmps58
  go_wp2_with (first | ((with_reducible refine gate_callee (f := 59) rfl ?_); refine goesL_ (some 8) rfl rfl Tryd.func59 (by kernel_rfl) rfl #[.int .i64 a0, .int .i64 a1] rfl (by (try simp only [List.map_toArray, List.map_cons, List.map_nil]); first | done | rfl | (simp only [List.length_drop, List.length_take]; rfl)) ?_; (with_reducible refine (rubricref6_mod.calls a0 a1 t298 _ A3.out).mono ?_); rintro e w' ⟨rfl, ⟨nd, rfl⟩⟩; refine ⟨_, rfl, ?_⟩))
  go_ret
  exact ⟨by first | rfl | (simp; done) | (simp [*]; done), by repeat (first | exact Drawn0.refl _ | apply Drawn0.step)⟩

/-! ### rubricref6_ahead: function 60 -/
def rubricref6_ahead.f (a0 : Int) : Option (Int) := (rubricref6_div.f (wrap64 (a0 + 3)) 4).bind fun t299 => ((rubricref6_div.f (wrap64 (a0 + 99)) 100).bind fun t300 => ((rubricref6_div.f (wrap64 (a0 + 399)) 400).bind fun t301 => (some (wrap64 ((wrap64 ((wrap64 ((wrap64 (365 * a0)) + t299)) - t300)) + t301)))))
set_option maxHeartbeats 8000000 in
set_option maxRecDepth 100000 in
theorem rubricref6_ahead.calls (a0 : Int) (r : Int) (w : World) (h : rubricref6_ahead.f a0 = some r) :
  Calls Tryd.prog 60 #[.int .i64 a0] w fun e w' => e = .returned (.int .i64 r) ∧ Drawn0 w w' := by
 have H : ((rubricref6_div.f (wrap64 (a0 + 3)) 4).bind fun t299 => ((rubricref6_div.f (wrap64 (a0 + 99)) 100).bind fun t300 => ((rubricref6_div.f (wrap64 (a0 + 399)) 400).bind fun t301 => (some (wrap64 ((wrap64 ((wrap64 ((wrap64 (365 * a0)) + t299)) - t300)) + t301)))))) = some r := h
 clear h
 replace H := Option.bind_eq_some_iff.mp H
 obtain ⟨t299, A20, H⟩ := H
 try dsimp only at H
 have A2 := Aside0.mk A20
 clear A20
 replace H := Option.bind_eq_some_iff.mp H
 obtain ⟨t300, A30, H⟩ := H
 try dsimp only at H
 have A3 := Aside0.mk A30
 clear A30
 replace H := Option.bind_eq_some_iff.mp H
 obtain ⟨t301, A40, H⟩ := H
 try dsimp only at H
 have A4 := Aside0.mk A40
 clear A40
 obtain rfl := Option.some.inj H
 go_enter Tryd.func60, Tryd.ntmps60
 go_wp2_with (first | ((with_reducible refine gate_callee (f := 58) rfl ?_); refine goesL_ (some 7) rfl rfl Tryd.func58 (by kernel_rfl) rfl #[.int .i64 (wrap64 (a0 + 3)), .int .i64 4] rfl (by (try simp only [List.map_toArray, List.map_cons, List.map_nil]); first | done | rfl | (simp only [List.length_drop, List.length_take]; rfl)) ?_; (with_reducible refine (rubricref6_div.calls (wrap64 (a0 + 3)) 4 t299 _ A2.out).mono ?_); rintro e w' ⟨rfl, ⟨nd, rfl⟩⟩; refine ⟨_, rfl, ?_⟩) | ((with_reducible refine gate_callee (f := 58) rfl ?_); refine goesL_ (some 11) rfl rfl Tryd.func58 (by kernel_rfl) rfl #[.int .i64 (wrap64 (a0 + 99)), .int .i64 100] rfl (by (try simp only [List.map_toArray, List.map_cons, List.map_nil]); first | done | rfl | (simp only [List.length_drop, List.length_take]; rfl)) ?_; (with_reducible refine (rubricref6_div.calls (wrap64 (a0 + 99)) 100 t300 _ A3.out).mono ?_); rintro e w' ⟨rfl, ⟨nd, rfl⟩⟩; refine ⟨_, rfl, ?_⟩) | ((with_reducible refine gate_callee (f := 58) rfl ?_); refine goesL_ (some 15) rfl rfl Tryd.func58 (by kernel_rfl) rfl #[.int .i64 (wrap64 (a0 + 399)), .int .i64 400] rfl (by (try simp only [List.map_toArray, List.map_cons, List.map_nil]); first | done | rfl | (simp only [List.length_drop, List.length_take]; rfl)) ?_; (with_reducible refine (rubricref6_div.calls (wrap64 (a0 + 399)) 400 t301 _ A4.out).mono ?_); rintro e w' ⟨rfl, ⟨nd, rfl⟩⟩; refine ⟨_, rfl, ?_⟩))
 go_ret
 exact ⟨by first | rfl | (simp; done) | (simp [*]; done), by repeat (first | exact Drawn0.refl _ | apply Drawn0.step)⟩

/-! ### rubricref6_leap: function 84 -/
def rubricref6_leap.f (a0 : Int) : Option (Bool) := (rubricref6_mod.f a0 4).bind fun t302 => (if t302 = 0 then ((rubricref6_mod.f a0 100).bind fun t303 => (if t303 = 0 then ((rubricref6_mod.f a0 400).bind fun t304 => (some (t304 == 0))) else (some true))) else (some false))
set_option maxHeartbeats 8000000 in
set_option maxRecDepth 100000 in
theorem rubricref6_leap.calls (a0 : Int) (r : Bool) (w : World) (h : rubricref6_leap.f a0 = some r) :
  Calls Tryd.prog 84 #[.int .i64 a0] w fun e w' => e = .returned (.bool r) ∧ Drawn0 w w' := by
 have H : ((rubricref6_mod.f a0 4).bind fun t302 => (if t302 = 0 then ((rubricref6_mod.f a0 100).bind fun t303 => (if t303 = 0 then ((rubricref6_mod.f a0 400).bind fun t304 => (some (t304 == 0))) else (some true))) else (some false))) = some r := h
 clear h
 replace H := Option.bind_eq_some_iff.mp H
 obtain ⟨t302, A20, H⟩ := H
 try dsimp only at H
 have A2 := Aside0.mk A20
 clear A20
 by_cases c3 : t302 = 0
 ·rw [if_pos c3] at H
  have c3b0 : (t302 == 0) = true := beq_iff_eq.mpr c3
  have c3b1 : (t302 != 0) = false := bne_eq_false_iff_eq.mpr c3
  clear c3
  replace H := Option.bind_eq_some_iff.mp H
  obtain ⟨t303, A40, H⟩ := H
  try dsimp only at H
  have A4 := Aside0.mk A40
  clear A40
  by_cases c5 : t303 = 0
  ·rw [if_pos c5] at H
   have c5b0 : (t303 == 0) = true := beq_iff_eq.mpr c5
   have c5b1 : (t303 != 0) = false := bne_eq_false_iff_eq.mpr c5
   clear c5
   replace H := Option.bind_eq_some_iff.mp H
   obtain ⟨t304, A60, H⟩ := H
   try dsimp only at H
   have A6 := Aside0.mk A60
   clear A60
   obtain rfl := Option.some.inj H
   go_enter Tryd.func84, Tryd.ntmps84
   go_wp2_with (first | ((with_reducible refine gate_callee (f := 59) rfl ?_); refine goesL_ (some 4) rfl rfl Tryd.func59 (by kernel_rfl) rfl #[.int .i64 a0, .int .i64 4] rfl (by (try simp only [List.map_toArray, List.map_cons, List.map_nil]); first | done | rfl | (simp only [List.length_drop, List.length_take]; rfl)) ?_; (with_reducible refine (rubricref6_mod.calls a0 4 t302 _ A2.out).mono ?_); rintro e w' ⟨rfl, ⟨nd, rfl⟩⟩; refine ⟨_, rfl, ?_⟩) | (go_at_call 59; (with_reducible refine (rubricref6_mod.calls a0 100 t303 _ A4.out).mono ?_); rintro e w' ⟨rfl, ⟨nd, rfl⟩⟩) | (go_at_call 59; (with_reducible refine (rubricref6_mod.calls a0 400 t304 _ A6.out).mono ?_); rintro e w' ⟨rfl, ⟨nd, rfl⟩⟩))
   go_ret
   exact ⟨by first | rfl | (simp; done) | (simp [*]; done), by repeat (first | exact Drawn0.refl _ | apply Drawn0.step)⟩
  ·rw [if_neg c5] at H
   have c5b0 : (t303 == 0) = false := beq_eq_false_iff_ne.mpr c5
   have c5b1 : (t303 != 0) = true := bne_iff_ne.mpr c5
   obtain rfl := Option.some.inj H
   go_enter Tryd.func84, Tryd.ntmps84
   go_wp2_with (first | ((with_reducible refine gate_callee (f := 59) rfl ?_); refine goesL_ (some 4) rfl rfl Tryd.func59 (by kernel_rfl) rfl #[.int .i64 a0, .int .i64 4] rfl (by (try simp only [List.map_toArray, List.map_cons, List.map_nil]); first | done | rfl | (simp only [List.length_drop, List.length_take]; rfl)) ?_; (with_reducible refine (rubricref6_mod.calls a0 4 t302 _ A2.out).mono ?_); rintro e w' ⟨rfl, ⟨nd, rfl⟩⟩; refine ⟨_, rfl, ?_⟩) | (go_at_call 59; (with_reducible refine (rubricref6_mod.calls a0 100 t303 _ A4.out).mono ?_); rintro e w' ⟨rfl, ⟨nd, rfl⟩⟩))
   go_ret
   exact ⟨by first | rfl | (simp; done) | (simp [*]; done), by repeat (first | exact Drawn0.refl _ | apply Drawn0.step)⟩
 ·rw [if_neg c3] at H
  have c3b0 : (t302 == 0) = false := beq_eq_false_iff_ne.mpr c3
  have c3b1 : (t302 != 0) = true := bne_iff_ne.mpr c3
  obtain rfl := Option.some.inj H
  go_enter Tryd.func84, Tryd.ntmps84
  go_wp2_with (first | ((with_reducible refine gate_callee (f := 59) rfl ?_); refine goesL_ (some 4) rfl rfl Tryd.func59 (by kernel_rfl) rfl #[.int .i64 a0, .int .i64 4] rfl (by (try simp only [List.map_toArray, List.map_cons, List.map_nil]); first | done | rfl | (simp only [List.length_drop, List.length_take]; rfl)) ?_; (with_reducible refine (rubricref6_mod.calls a0 4 t302 _ A2.out).mono ?_); rintro e w' ⟨rfl, ⟨nd, rfl⟩⟩; refine ⟨_, rfl, ?_⟩))
  go_ret
  exact ⟨by first | rfl | (simp; done) | (simp [*]; done), by repeat (first | exact Drawn0.refl _ | apply Drawn0.step)⟩

/-! ### rubricref6_Leap: function 74 -/
def rubricref6_Leap.f (a0 : Int) : Option (Bool) := (rubricref6_line.f a0).bind fun t305 => ((rubricref6_leap.f t305).bind fun t306 => (some t306))
set_option maxHeartbeats 8000000 in
set_option maxRecDepth 100000 in
theorem rubricref6_Leap.calls (a0 : Int) (r : Bool) (w : World) (h : rubricref6_Leap.f a0 = some r) :
  Calls Tryd.prog 74 #[.int .i64 a0] w fun e w' => e = .returned (.bool r) ∧ Drawn0 w w' := by
 have H : ((rubricref6_line.f a0).bind fun t305 => ((rubricref6_leap.f t305).bind fun t306 => (some t306))) = some r := h
 clear h
 replace H := Option.bind_eq_some_iff.mp H
 obtain ⟨t305, A20, H⟩ := H
 try dsimp only at H
 have A2 := Aside0.mk A20
 clear A20
 replace H := Option.bind_eq_some_iff.mp H
 obtain ⟨t306, A30, H⟩ := H
 try dsimp only at H
 have A3 := Aside0.mk A30
 clear A30
 obtain rfl := Option.some.inj H
 go_enter Tryd.func74, Tryd.ntmps74
 go_wp2_with (first | ((with_reducible refine gate_callee (f := 57) rfl ?_); refine goesL_ (some 4) rfl rfl Tryd.func57 (by kernel_rfl) rfl #[.int .i64 a0] rfl (by (try simp only [List.map_toArray, List.map_cons, List.map_nil]); first | done | rfl | (simp only [List.length_drop, List.length_take]; rfl)) ?_; (with_reducible refine (rubricref6_line.calls a0 t305 _ A2.out).mono ?_); rintro e w' ⟨rfl, ⟨nd, rfl⟩⟩; refine ⟨_, rfl, ?_⟩) | ((with_reducible refine gate_callee (f := 84) rfl ?_); refine goesL_ (some 5) rfl rfl Tryd.func84 (by kernel_rfl) rfl #[.int .i64 t305] rfl (by (try simp only [List.map_toArray, List.map_cons, List.map_nil]); first | done | rfl | (simp only [List.length_drop, List.length_take]; rfl)) ?_; (with_reducible refine (rubricref6_leap.calls t305 t306 _ A3.out).mono ?_); rintro e w' ⟨rfl, ⟨nd, rfl⟩⟩; refine ⟨_, rfl, ?_⟩))
 go_ret
 exact ⟨by first | rfl | (simp; done) | (simp [*]; done), by repeat (first | exact Drawn0.refl _ | apply Drawn0.step)⟩

/-! ### rubricref6_Length: function 61 -/
def rubricref6_Length.j0 : Nat → Int → Bool → Option (Int)
 | 0, _, _ => none
 | k + 1, x5, x10 => if x10 = true then (some 30) else (if x5 = 1 then (some 31) else (if x5 = 3 then (some 31) else (if x5 = 5 then (some 31) else (if x5 = 7 then (some 31) else (if x5 = 8 then (some 31) else (if x5 = 10 then (some 31) else (if x5 = 12 then (some 31) else (some 0))))))))
def rubricref6_Length.f (k : Nat) (a0 : Int) (a1 : Int) : Option (Int) := if a1 = 2 then ((rubricref6_Leap.f a0).bind fun t307 => (if t307 = true then (some 29) else (some 28))) else (if a1 = 4 then (rubricref6_Length.j0 k a1 (a1 == 4)) else (if a1 = 6 then (rubricref6_Length.j0 k a1 (a1 == 6)) else (if a1 = 9 then (rubricref6_Length.j0 k a1 (a1 == 9)) else (rubricref6_Length.j0 k a1 (a1 == 11)))))
theorem rubricref6_Length.mono_l : ∀ k, (∀ y0 y1, LeO (rubricref6_Length.j0 k y0 y1) (rubricref6_Length.j0 (k + 1) y0 y1))
 | 0 => fun _ _ r h => by simp [rubricref6_Length.j0] at h
 | k + 1 => by
  have ih0 := rubricref6_Length.mono_l k
  ·intro y0 y1
   unfold rubricref6_Length.j0
   repeat' first
   | (with_reducible exact ih0 _ _)
   | (with_reducible exact LeO.refl _)
   | (with_reducible exact LeO.none _)
   | (with_reducible refine LeO.ite ?_ ?_)
   | (with_reducible refine LeO.bind ?_ (fun _ => ?_))
   | exact ih0 _ _
   | exact LeO.none _
   | refine LeO.ite ?_ ?_
   | refine LeO.bind ?_ (fun _ => ?_)
theorem rubricref6_Length.mono : ∀ a0 a1 k, LeO (rubricref6_Length.f k a0 a1) (rubricref6_Length.f (k + 1) a0 a1) := by
 intro a0 a1 k
 have ih0 := rubricref6_Length.mono_l k
 unfold rubricref6_Length.f
 repeat' first
   | (with_reducible exact ih0 _ _)
   | (with_reducible exact LeO.refl _)
   | (with_reducible exact LeO.none _)
   | (with_reducible refine LeO.ite ?_ ?_)
   | (with_reducible refine LeO.bind ?_ (fun _ => ?_))
   | exact ih0 _ _
   | exact LeO.none _
   | refine LeO.ite ?_ ?_
   | refine LeO.bind ?_ (fun _ => ?_)
set_option maxHeartbeats 8000000 in
set_option maxRecDepth 100000 in
theorem rubricref6_Length.calls (k : Nat) (a0 : Int) (a1 : Int) (r : Int) (w : World) (h : rubricref6_Length.f k a0 a1 = some r) :
  Calls Tryd.prog 61 #[.int .i64 a0, .int .i64 a1] w fun e w' => e = .returned (.int .i64 r) ∧ Drawn0 w w' := by
 have H : (if a1 = 2 then ((rubricref6_Leap.f a0).bind fun t307 => (if t307 = true then (some 29) else (some 28))) else (if a1 = 4 then (rubricref6_Length.j0 k a1 (a1 == 4)) else (if a1 = 6 then (rubricref6_Length.j0 k a1 (a1 == 6)) else (if a1 = 9 then (rubricref6_Length.j0 k a1 (a1 == 9)) else (rubricref6_Length.j0 k a1 (a1 == 11)))))) = some r := h
 clear h
 by_cases c3 : a1 = 2
 ·rw [if_pos c3] at H
  have c3b0 : (a1 == 2) = true := beq_iff_eq.mpr c3
  have c3b1 : (a1 != 2) = false := bne_eq_false_iff_eq.mpr c3
  clear c3
  replace H := Option.bind_eq_some_iff.mp H
  obtain ⟨t307, A40, H⟩ := H
  try dsimp only at H
  have A4 := Aside0.mk A40
  clear A40
  by_cases c5 : t307 = true
  ·subst c5
   rw [if_pos rfl] at H
   try dsimp only at H
   obtain rfl := Option.some.inj H
   go_enter Tryd.func61, Tryd.ntmps61
   go_wp2_with (first | ((with_reducible refine gate_callee (f := 74) rfl ?_); refine goesL_ (some 9) rfl rfl Tryd.func74 (by kernel_rfl) rfl #[.int .i64 a0] rfl (by (try simp only [List.map_toArray, List.map_cons, List.map_nil]); first | done | rfl | (simp only [List.length_drop, List.length_take]; rfl)) ?_; (with_reducible refine (rubricref6_Leap.calls a0 true _ A4.out).mono ?_); rintro e w' ⟨rfl, ⟨nd, rfl⟩⟩; refine ⟨_, rfl, ?_⟩))
   go_ret
   exact ⟨by first | rfl | (simp; done) | (simp [*]; done), by repeat (first | exact Drawn0.refl _ | apply Drawn0.step)⟩
  ·replace c5 := Bool.eq_false_iff.mpr c5
   subst c5
   rw [if_neg (show ¬ (false = true) by decide)] at H
   try dsimp only at H
   obtain rfl := Option.some.inj H
   go_enter Tryd.func61, Tryd.ntmps61
   go_wp2_with (first | ((with_reducible refine gate_callee (f := 74) rfl ?_); refine goesL_ (some 9) rfl rfl Tryd.func74 (by kernel_rfl) rfl #[.int .i64 a0] rfl (by (try simp only [List.map_toArray, List.map_cons, List.map_nil]); first | done | rfl | (simp only [List.length_drop, List.length_take]; rfl)) ?_; (with_reducible refine (rubricref6_Leap.calls a0 false _ A4.out).mono ?_); rintro e w' ⟨rfl, ⟨nd, rfl⟩⟩; refine ⟨_, rfl, ?_⟩))
   go_ret
   exact ⟨by first | rfl | (simp; done) | (simp [*]; done), by repeat (first | exact Drawn0.refl _ | apply Drawn0.step)⟩
 ·rw [if_neg c3] at H
  have c3b0 : (a1 == 2) = false := beq_eq_false_iff_ne.mpr c3
  have c3b1 : (a1 != 2) = true := bne_iff_ne.mpr c3
  have HC6 := Aside0.mk H
  clear H
  go_enter Tryd.func61, Tryd.ntmps61
  go_upto_if 10 with (fail)
  go_cut [10] (fun v10 wc => ∃ (kq : Nat) (x10_5 : Bool), v10 = .bool x10_5 ∧ Aside0 (rubricref6_Length.j0 kq a1 x10_5 = some r) ∧ Aside0 (kq ≤ k) ∧ Drawn0 w wc)
  case first =>
   have H := HC6.out
   clear HC6
   by_cases c7 : a1 = 4
   ·rw [if_pos c7] at H
    have c7b0 : (a1 == 4) = true := beq_iff_eq.mpr c7
    have c7b1 : (a1 != 4) = false := bne_eq_false_iff_eq.mpr c7
    clear c7
    (first | rw [c7b0] | (simp only [i64_w, i32_w]; rw [c7b0]) | skip)
    have H' := Aside0.mk H
    clear H
    go_wp2
    go_meet
    case rel => exact ⟨_, ((a1 == 4)), (by first | rfl | (simp; done) | (simp [*]; done)), H', ⟨by first | omega | exact Nat.le_refl _⟩, by repeat (first | exact Drawn0.refl _ | apply Drawn0.step)⟩
   ·rw [if_neg c7] at H
    have c7b0 : (a1 == 4) = false := beq_eq_false_iff_ne.mpr c7
    have c7b1 : (a1 != 4) = true := bne_iff_ne.mpr c7
    (first | rw [c7b0] | (simp only [i64_w, i32_w]; rw [c7b0]) | skip)
    by_cases c8 : a1 = 6
    ·rw [if_pos c8] at H
     have c8b0 : (a1 == 6) = true := beq_iff_eq.mpr c8
     have c8b1 : (a1 != 6) = false := bne_eq_false_iff_eq.mpr c8
     clear c8
     have H' := Aside0.mk H
     clear H
     go_wp2
     go_meet
     case rel => exact ⟨_, ((a1 == 6)), (by first | rfl | (simp; done) | (simp [*]; done)), H', ⟨by first | omega | exact Nat.le_refl _⟩, by repeat (first | exact Drawn0.refl _ | apply Drawn0.step)⟩
    ·rw [if_neg c8] at H
     have c8b0 : (a1 == 6) = false := beq_eq_false_iff_ne.mpr c8
     have c8b1 : (a1 != 6) = true := bne_iff_ne.mpr c8
     by_cases c9 : a1 = 9
     ·rw [if_pos c9] at H
      have c9b0 : (a1 == 9) = true := beq_iff_eq.mpr c9
      have c9b1 : (a1 != 9) = false := bne_eq_false_iff_eq.mpr c9
      clear c9
      have H' := Aside0.mk H
      clear H
      go_wp2
      go_meet
      case rel => exact ⟨_, ((a1 == 9)), (by first | rfl | (simp; done) | (simp [*]; done)), H', ⟨by first | omega | exact Nat.le_refl _⟩, by repeat (first | exact Drawn0.refl _ | apply Drawn0.step)⟩
     ·rw [if_neg c9] at H
      have c9b0 : (a1 == 9) = false := beq_eq_false_iff_ne.mpr c9
      have c9b1 : (a1 != 9) = true := bne_iff_ne.mpr c9
      have H' := Aside0.mk H
      clear H
      go_wp2
      go_meet
      case rel => exact ⟨_, ((a1 == 11)), (by first | rfl | (simp; done) | (simp [*]; done)), H', ⟨by first | omega | exact Nat.le_refl _⟩, by repeat (first | exact Drawn0.refl _ | apply Drawn0.step)⟩
  case rest =>
   clear HC6
   (try clear p2); (try clear c3); (try clear c3b0); (try clear c3b1); (try clear c5); (try clear c6); (try clear c7); (try clear c7b0); (try clear c7b1); (try clear c8); (try clear c8b0); (try clear c8b1); (try clear c9); (try clear c9b0); (try clear c9b1)
   obtain ⟨kq, x10_5, rfl, HA, HJ5, ⟨mc5, rfl⟩⟩ := hcut
   cases kq with
   | zero => exact absurd HA.out (by simp [rubricref6_Length.j0])
   | succ kj5 =>
    have H := HA.out
    clear HA
    simp only [rubricref6_Length.j0] at H
    by_cases c10 : x10_5 = true
    ·subst c10
     rw [if_pos rfl] at H
     try dsimp only at H
     obtain rfl := Option.some.inj H
     go_wp2
     go_ret
     exact ⟨by first | rfl | (simp; done) | (simp [*]; done), by repeat (first | exact Drawn0.refl _ | apply Drawn0.step)⟩
    ·replace c10 := Bool.eq_false_iff.mpr c10
     subst c10
     rw [if_neg (show ¬ (false = true) by decide)] at H
     try dsimp only at H
     by_cases c11 : a1 = 1
     ·rw [if_pos c11] at H
      have c11b0 : (a1 == 1) = true := beq_iff_eq.mpr c11
      have c11b1 : (a1 != 1) = false := bne_eq_false_iff_eq.mpr c11
      clear c11
      obtain rfl := Option.some.inj H
      go_wp2
      go_ret
      exact ⟨by first | rfl | (simp; done) | (simp [*]; done), by repeat (first | exact Drawn0.refl _ | apply Drawn0.step)⟩
     ·rw [if_neg c11] at H
      have c11b0 : (a1 == 1) = false := beq_eq_false_iff_ne.mpr c11
      have c11b1 : (a1 != 1) = true := bne_iff_ne.mpr c11
      by_cases c12 : a1 = 3
      ·rw [if_pos c12] at H
       have c12b0 : (a1 == 3) = true := beq_iff_eq.mpr c12
       have c12b1 : (a1 != 3) = false := bne_eq_false_iff_eq.mpr c12
       clear c12
       obtain rfl := Option.some.inj H
       go_wp2
       go_ret
       exact ⟨by first | rfl | (simp; done) | (simp [*]; done), by repeat (first | exact Drawn0.refl _ | apply Drawn0.step)⟩
      ·rw [if_neg c12] at H
       have c12b0 : (a1 == 3) = false := beq_eq_false_iff_ne.mpr c12
       have c12b1 : (a1 != 3) = true := bne_iff_ne.mpr c12
       by_cases c13 : a1 = 5
       ·rw [if_pos c13] at H
        have c13b0 : (a1 == 5) = true := beq_iff_eq.mpr c13
        have c13b1 : (a1 != 5) = false := bne_eq_false_iff_eq.mpr c13
        clear c13
        obtain rfl := Option.some.inj H
        go_wp2
        go_ret
        exact ⟨by first | rfl | (simp; done) | (simp [*]; done), by repeat (first | exact Drawn0.refl _ | apply Drawn0.step)⟩
       ·rw [if_neg c13] at H
        have c13b0 : (a1 == 5) = false := beq_eq_false_iff_ne.mpr c13
        have c13b1 : (a1 != 5) = true := bne_iff_ne.mpr c13
        by_cases c14 : a1 = 7
        ·rw [if_pos c14] at H
         have c14b0 : (a1 == 7) = true := beq_iff_eq.mpr c14
         have c14b1 : (a1 != 7) = false := bne_eq_false_iff_eq.mpr c14
         clear c14
         obtain rfl := Option.some.inj H
         go_wp2
         go_ret
         exact ⟨by first | rfl | (simp; done) | (simp [*]; done), by repeat (first | exact Drawn0.refl _ | apply Drawn0.step)⟩
        ·rw [if_neg c14] at H
         have c14b0 : (a1 == 7) = false := beq_eq_false_iff_ne.mpr c14
         have c14b1 : (a1 != 7) = true := bne_iff_ne.mpr c14
         by_cases c15 : a1 = 8
         ·rw [if_pos c15] at H
          have c15b0 : (a1 == 8) = true := beq_iff_eq.mpr c15
          have c15b1 : (a1 != 8) = false := bne_eq_false_iff_eq.mpr c15
          clear c15
          obtain rfl := Option.some.inj H
          go_wp2
          go_ret
          exact ⟨by first | rfl | (simp; done) | (simp [*]; done), by repeat (first | exact Drawn0.refl _ | apply Drawn0.step)⟩
         ·rw [if_neg c15] at H
          have c15b0 : (a1 == 8) = false := beq_eq_false_iff_ne.mpr c15
          have c15b1 : (a1 != 8) = true := bne_iff_ne.mpr c15
          by_cases c16 : a1 = 10
          ·rw [if_pos c16] at H
           have c16b0 : (a1 == 10) = true := beq_iff_eq.mpr c16
           have c16b1 : (a1 != 10) = false := bne_eq_false_iff_eq.mpr c16
           clear c16
           obtain rfl := Option.some.inj H
           go_wp2
           go_ret
           exact ⟨by first | rfl | (simp; done) | (simp [*]; done), by repeat (first | exact Drawn0.refl _ | apply Drawn0.step)⟩
          ·rw [if_neg c16] at H
           have c16b0 : (a1 == 10) = false := beq_eq_false_iff_ne.mpr c16
           have c16b1 : (a1 != 10) = true := bne_iff_ne.mpr c16
           by_cases c17 : a1 = 12
           ·rw [if_pos c17] at H
            have c17b0 : (a1 == 12) = true := beq_iff_eq.mpr c17
            have c17b1 : (a1 != 12) = false := bne_eq_false_iff_eq.mpr c17
            clear c17
            obtain rfl := Option.some.inj H
            go_wp2
            go_ret
            exact ⟨by first | rfl | (simp; done) | (simp [*]; done), by repeat (first | exact Drawn0.refl _ | apply Drawn0.step)⟩
           ·rw [if_neg c17] at H
            have c17b0 : (a1 == 12) = false := beq_eq_false_iff_ne.mpr c17
            have c17b1 : (a1 != 12) = true := bne_iff_ne.mpr c17
            obtain rfl := Option.some.inj H
            go_wp2
            go_ret
            exact ⟨by first | rfl | (simp; done) | (simp [*]; done), by repeat (first | exact Drawn0.refl _ | apply Drawn0.step)⟩

/-! ### rubricref6_back: function 62 -/
def rubricref6_back.f (a0 : Int) : Option (Int) := if a0 ≤ 0 then (some (wrap64 (a0 - 1))) else (some a0)
set_option maxHeartbeats 8000000 in
set_option maxRecDepth 100000 in
theorem rubricref6_back.calls (a0 : Int) (r : Int) (w : World) (h : rubricref6_back.f a0 = some r) :
  Calls Tryd.prog 62 #[.int .i64 a0] w fun e w' => e = .returned (.int .i64 r) ∧ Drawn0 w w' := by
 have H : (if a0 ≤ 0 then (some (wrap64 (a0 - 1))) else (some a0)) = some r := h
 clear h
 by_cases c2 : a0 ≤ 0
 ·rw [if_pos c2] at H
  have c2b0 : decide (a0 ≤ 0) = true := decide_eq_true c2
  clear c2
  obtain rfl := Option.some.inj H
  go_enter Tryd.func62, Tryd.ntmps62
  go_wp2
  go_ret
  exact ⟨by first | rfl | (simp; done) | (simp [*]; done), by repeat (first | exact Drawn0.refl _ | apply Drawn0.step)⟩
 ·rw [if_neg c2] at H
  have c2b0 : decide (a0 ≤ 0) = false := decide_eq_false c2
  clear c2
  obtain rfl := Option.some.inj H
  go_enter Tryd.func62, Tryd.ntmps62
  go_wp2
  go_ret
  exact ⟨by first | rfl | (simp; done) | (simp [*]; done), by repeat (first | exact Drawn0.refl _ | apply Drawn0.step)⟩

/-! ### rubricref6_Days: function 52 -/
def rubricref6_Days.l0 : Nat → Int → Int → Int → Int → Int → Option (Int)
 | 0, _, _, _, _, _ => none
 | k + 1, x2, x7, x8, x9, x10 => if x10 < x8 then ((rubricref6_back.f x7).bind fun t313 => ((rubricref6_Length.f k t313 x10).bind fun t314 => (rubricref6_Days.l0 k x2 x7 x8 (wrap64 (x9 + t314)) (wrap64 (x10 + 1))))) else (some (wrap64 ((wrap64 (x9 + x2)) - 1)))
def rubricref6_Days.f (k : Nat) (a0 : Int) (a1 : Int) (a2 : Int) : Option (Int) := (rubricref6_line.f a0).bind fun t308 => ((rubricref6_div.f (wrap64 (a1 - 1)) 12).bind fun t309 => ((rubricref6_mod.f (wrap64 (a1 - 1)) 12).bind fun t310 => ((rubricref6_ahead.f (wrap64 (t308 + t309))).bind fun t311 => ((rubricref6_ahead.f 2000).bind fun t312 => (rubricref6_Days.l0 k a2 (wrap64 (t308 + t309)) (wrap64 (t310 + 1)) (wrap64 (t311 - t312)) 1)))))
theorem rubricref6_Days.mono_l : ∀ k, (∀ y0 y1 y2 y3 y4, LeO (rubricref6_Days.l0 k y0 y1 y2 y3 y4) (rubricref6_Days.l0 (k + 1) y0 y1 y2 y3 y4))
 | 0 => fun _ _ _ _ _ r h => by simp [rubricref6_Days.l0] at h
 | k + 1 => by
  have ih0 := rubricref6_Days.mono_l k
  ·intro y0 y1 y2 y3 y4
   unfold rubricref6_Days.l0
   repeat' first
   | (with_reducible exact ih0 _ _ _ _ _)
   | (with_reducible exact rubricref6_Length.mono _ _ _)
   | (with_reducible exact LeO.refl _)
   | (with_reducible exact LeO.none _)
   | (with_reducible refine LeO.ite ?_ ?_)
   | (with_reducible refine LeO.bind ?_ (fun _ => ?_))
   | exact ih0 _ _ _ _ _
   | exact rubricref6_Length.mono _ _ _
   | exact LeO.none _
   | refine LeO.ite ?_ ?_
   | refine LeO.bind ?_ (fun _ => ?_)
theorem rubricref6_Days.mono : ∀ a0 a1 a2 k, LeO (rubricref6_Days.f k a0 a1 a2) (rubricref6_Days.f (k + 1) a0 a1 a2) := by
 intro a0 a1 a2 k
 have ih0 := rubricref6_Days.mono_l k
 unfold rubricref6_Days.f
 repeat' first
   | (with_reducible exact ih0 _ _ _ _ _)
   | (with_reducible exact rubricref6_Length.mono _ _ _)
   | (with_reducible exact LeO.refl _)
   | (with_reducible exact LeO.none _)
   | (with_reducible refine LeO.ite ?_ ?_)
   | (with_reducible refine LeO.bind ?_ (fun _ => ?_))
   | exact ih0 _ _ _ _ _
   | exact rubricref6_Length.mono _ _ _
   | exact LeO.none _
   | refine LeO.ite ?_ ?_
   | refine LeO.bind ?_ (fun _ => ?_)
set_option maxHeartbeats 8000000 in
set_option maxRecDepth 100000 in
theorem rubricref6_Days.calls (k : Nat) (a0 : Int) (a1 : Int) (a2 : Int) (r : Int) (w : World) (h : rubricref6_Days.f k a0 a1 a2 = some r) :
  Calls Tryd.prog 52 #[.int .i64 a0, .int .i64 a1, .int .i64 a2] w fun e w' => e = .returned (.int .i64 r) ∧ Drawn0 w w' := by
 have H : ((rubricref6_line.f a0).bind fun t308 => ((rubricref6_div.f (wrap64 (a1 - 1)) 12).bind fun t309 => ((rubricref6_mod.f (wrap64 (a1 - 1)) 12).bind fun t310 => ((rubricref6_ahead.f (wrap64 (t308 + t309))).bind fun t311 => ((rubricref6_ahead.f 2000).bind fun t312 => (rubricref6_Days.l0 k a2 (wrap64 (t308 + t309)) (wrap64 (t310 + 1)) (wrap64 (t311 - t312)) 1)))))) = some r := h
 clear h
 replace H := Option.bind_eq_some_iff.mp H
 obtain ⟨t308, A40, H⟩ := H
 try dsimp only at H
 have A4 := Aside0.mk A40
 clear A40
 replace H := Option.bind_eq_some_iff.mp H
 obtain ⟨t309, A50, H⟩ := H
 try dsimp only at H
 have A5 := Aside0.mk A50
 clear A50
 replace H := Option.bind_eq_some_iff.mp H
 obtain ⟨t310, A60, H⟩ := H
 try dsimp only at H
 have A6 := Aside0.mk A60
 clear A60
 replace H := Option.bind_eq_some_iff.mp H
 obtain ⟨t311, A70, H⟩ := H
 try dsimp only at H
 have A7 := Aside0.mk A70
 clear A70
 replace H := Option.bind_eq_some_iff.mp H
 obtain ⟨t312, A80, H⟩ := H
 try dsimp only at H
 have A8 := Aside0.mk A80
 clear A80
 have H' := Aside0.mk H
 clear H
 go_enter Tryd.func52, Tryd.ntmps52
 go_wp2_with (first | ((with_reducible refine gate_callee (f := 57) rfl ?_); refine goesL_ (some 12) rfl rfl Tryd.func57 (by kernel_rfl) rfl #[.int .i64 a0] rfl (by (try simp only [List.map_toArray, List.map_cons, List.map_nil]); first | done | rfl | (simp only [List.length_drop, List.length_take]; rfl)) ?_; (with_reducible refine (rubricref6_line.calls a0 t308 _ A4.out).mono ?_); rintro e w' ⟨rfl, ⟨nd, rfl⟩⟩; refine ⟨_, rfl, ?_⟩) | ((with_reducible refine gate_callee (f := 58) rfl ?_); refine goesL_ (some 15) rfl rfl Tryd.func58 (by kernel_rfl) rfl #[.int .i64 (wrap64 (a1 - 1)), .int .i64 12] rfl (by (try simp only [List.map_toArray, List.map_cons, List.map_nil]); first | done | rfl | (simp only [List.length_drop, List.length_take]; rfl)) ?_; (with_reducible refine (rubricref6_div.calls (wrap64 (a1 - 1)) 12 t309 _ A5.out).mono ?_); rintro e w' ⟨rfl, ⟨nd, rfl⟩⟩; refine ⟨_, rfl, ?_⟩) | ((with_reducible refine gate_callee (f := 59) rfl ?_); refine goesL_ (some 19) rfl rfl Tryd.func59 (by kernel_rfl) rfl #[.int .i64 (wrap64 (a1 - 1)), .int .i64 12] rfl (by (try simp only [List.map_toArray, List.map_cons, List.map_nil]); first | done | rfl | (simp only [List.length_drop, List.length_take]; rfl)) ?_; (with_reducible refine (rubricref6_mod.calls (wrap64 (a1 - 1)) 12 t310 _ A6.out).mono ?_); rintro e w' ⟨rfl, ⟨nd, rfl⟩⟩; refine ⟨_, rfl, ?_⟩) | ((with_reducible refine gate_callee (f := 60) rfl ?_); refine goesL_ (some 22) rfl rfl Tryd.func60 (by kernel_rfl) rfl #[.int .i64 (wrap64 (t308 + t309))] rfl (by (try simp only [List.map_toArray, List.map_cons, List.map_nil]); first | done | rfl | (simp only [List.length_drop, List.length_take]; rfl)) ?_; (with_reducible refine (rubricref6_ahead.calls (wrap64 (t308 + t309)) t311 _ A7.out).mono ?_); rintro e w' ⟨rfl, ⟨nd, rfl⟩⟩; refine ⟨_, rfl, ?_⟩) | ((with_reducible refine gate_callee (f := 60) rfl ?_); refine goesL_ (some 23) rfl rfl Tryd.func60 (by kernel_rfl) rfl #[.int .i64 2000] rfl (by (try simp only [List.map_toArray, List.map_cons, List.map_nil]); first | done | rfl | (simp only [List.length_drop, List.length_take]; rfl)) ?_; (with_reducible refine (rubricref6_ahead.calls 2000 t312 _ A8.out).mono ?_); rintro e w' ⟨rfl, ⟨nd, rfl⟩⟩; refine ⟨_, rfl, ?_⟩))
 go_loopg [9, 10] k (fun kq v9 v10 w' => ∃ (x9_1 : Int) (x10_1 : Int), v9 = .int .i64 x9_1 ∧ v10 = .int .i64 x10_1 ∧ Aside0 (rubricref6_Days.l0 kq a2 (wrap64 (t308 + t309)) (wrap64 (t310 + 1)) x9_1 x10_1 = some r) ∧ Aside0 (kq ≤ k) ∧ Drawn0 w w')
 case atStart => exact ⟨(wrap64 (t311 - t312)), (1), (by first | rfl | (simp; done) | (simp [*]; done)), (by first | rfl | (simp; done) | (simp [*]; done)), H', ⟨Nat.le_refl _⟩, by repeat (first | exact Drawn0.refl _ | apply Drawn0.step)⟩
 case round =>
  clear H'
  (try clear p2); (try clear c5); (try clear c6); (try clear p6)
  obtain ⟨x9_1, x10_1, rfl, rfl, HA, HK1, ⟨m1, rfl⟩⟩ := hrel
  cases gk with
  | zero => exact absurd HA.out (by simp [rubricref6_Days.l0])
  | succ k1 =>
   have H := HA.out
   clear HA
   simp only [rubricref6_Days.l0] at H
   by_cases c9 : x10_1 < (wrap64 (t310 + 1))
   ·rw [if_pos c9] at H
    have c9b0 : decide (x10_1 < (wrap64 (t310 + 1))) = true := decide_eq_true c9
    clear c9
    replace H := Option.bind_eq_some_iff.mp H
    obtain ⟨t313, A100, H⟩ := H
    try dsimp only at H
    have A10 := Aside0.mk A100
    clear A100
    replace H := Option.bind_eq_some_iff.mp H
    obtain ⟨t314, A110, H⟩ := H
    try dsimp only at H
    have A11 := Aside0.mk A110
    clear A110
    have H' := Aside0.mk H
    clear H
    go_wp2_with (first | ((with_reducible refine gate_callee (f := 62) rfl ?_); refine goesL_ (some 32) rfl rfl Tryd.func62 (by kernel_rfl) rfl #[.int .i64 (wrap64 (t308 + t309))] rfl (by (try simp only [List.map_toArray, List.map_cons, List.map_nil]); first | done | rfl | (simp only [List.length_drop, List.length_take]; rfl)) ?_; (with_reducible refine (rubricref6_back.calls (wrap64 (t308 + t309)) t313 _ A10.out).mono ?_); rintro e w' ⟨rfl, ⟨nd, rfl⟩⟩; refine ⟨_, rfl, ?_⟩) | ((with_reducible refine gate_callee (f := 61) rfl ?_); refine goesL_ (some 34) rfl rfl Tryd.func61 (by kernel_rfl) rfl #[.int .i64 t313, .int .i64 x10_1] rfl (by (try simp only [List.map_toArray, List.map_cons, List.map_nil]); first | done | rfl | (simp only [List.length_drop, List.length_take]; rfl)) ?_; (with_reducible refine (rubricref6_Length.calls k1 t313 x10_1 t314 _ A11.out).mono ?_); rintro e w' ⟨rfl, ⟨nd, rfl⟩⟩; refine ⟨_, rfl, ?_⟩))
    go_roundg k1
    case measure => have := HK1.out; omega
    case rel => exact ⟨(wrap64 (x9_1 + t314)), (wrap64 (x10_1 + 1)), (by first | rfl | (simp; done) | (simp [*]; done)), (by first | rfl | (simp; done) | (simp [*]; done)), H', ⟨by have := HK1.out; omega⟩, by repeat (first | exact Drawn0.refl _ | apply Drawn0.step)⟩
   ·rw [if_neg c9] at H
    have c9b0 : decide (x10_1 < (wrap64 (t310 + 1))) = false := decide_eq_false c9
    clear c9
    obtain rfl := Option.some.inj H
    go_wp2
    go_ret
    exact ⟨by first | rfl | (simp; done) | (simp [*]; done), by repeat (first | exact Drawn0.refl _ | apply Drawn0.step)⟩

/-! ### rubricref6_seconds: function 32 -/
def rubricref6_seconds.f (k : Nat) (a0_0 : Int) (a0_1 : Int) (a0_2 : Int) (a0_3 : Int) (a0_4 : Int) (a0_5 : Int) (a0_6 : Bool) (a0_7 : Int) (a1 : Int) : Option (Int) := (rubricref6_Days.f k a0_1 a0_2 a0_3).bind fun t316 => (some (wrap64 ((wrap64 ((wrap64 (86400 * t316)) + a0_4)) - (wrap64 (60 * a1)))))
theorem rubricref6_seconds.mono : ∀ a0 a1 a2 a3 a4 a5 a6 a7 a8 k, LeO (rubricref6_seconds.f k a0 a1 a2 a3 a4 a5 a6 a7 a8) (rubricref6_seconds.f (k + 1) a0 a1 a2 a3 a4 a5 a6 a7 a8) := by
 intro a0 a1 a2 a3 a4 a5 a6 a7 a8 k
 unfold rubricref6_seconds.f
 repeat' first
   | (with_reducible exact rubricref6_Days.mono _ _ _ _)
   | (with_reducible exact LeO.refl _)
   | (with_reducible exact LeO.none _)
   | (with_reducible refine LeO.ite ?_ ?_)
   | (with_reducible refine LeO.bind ?_ (fun _ => ?_))
   | exact rubricref6_Days.mono _ _ _ _
   | exact LeO.none _
   | refine LeO.ite ?_ ?_
   | refine LeO.bind ?_ (fun _ => ?_)
set_option maxHeartbeats 8000000 in
set_option maxRecDepth 100000 in
theorem rubricref6_seconds.calls (k : Nat) (a0_0 : Int) (a0_1 : Int) (a0_2 : Int) (a0_3 : Int) (a0_4 : Int) (a0_5 : Int) (a0_6 : Bool) (a0_7 : Int) (a1 : Int) (r : Int) (w : World) (h : rubricref6_seconds.f k a0_0 a0_1 a0_2 a0_3 a0_4 a0_5 a0_6 a0_7 a1 = some r) :
  Calls Tryd.prog 32 #[.agg #[.int .i64 a0_0, .int .i64 a0_1, .int .i64 a0_2, .int .i64 a0_3, .int .i64 a0_4, .int .i64 a0_5, .bool a0_6, .int .i64 a0_7], .int .i64 a1] w fun e w' => e = .returned (.int .i64 r) ∧ Below w.heap.size w w' := by
 have hu30 := Tryd.underlying30
 have HB := Aside0.mk (Below.refl w.heap.size w)
 have H : ((rubricref6_Days.f k a0_1 a0_2 a0_3).bind fun t316 => (some (wrap64 ((wrap64 ((wrap64 (86400 * t316)) + a0_4)) - (wrap64 (60 * a1)))))) = some r := h
 clear h
 replace H := Option.bind_eq_some_iff.mp H
 obtain ⟨t316, A30, H⟩ := H
 try dsimp only at H
 have A3 := Aside0.mk A30
 clear A30
 obtain rfl := Option.some.inj H
 go_enter Tryd.func32, Tryd.ntmps32
 go_wp2_with (first | ((with_reducible refine gate_dst (N := 2) rfl ?_); refine box_event ?hg (N := 2) ?hd (cs := #[.int .i64 a0_0, .int .i64 a0_1, .int .i64 a0_2, .int .i64 a0_3, .int .i64 a0_4, .int .i64 a0_5, .bool a0_6, .int .i64 a0_7]) (t := 30) ?hr ?_; (case hd => rfl); (case hg => rfl); (case hr => first | (go_simp; done) | (go_simp; rfl)); intro gb315 hg w4 hbox hb; have n0_ := Aside0.mk (below_step (by repeat (first | (with_reducible first | exact HB.out | apply below_alloc | apply pw_below_drewN | apply below_drew1) | exact HB.out)) hb); have n1_ := Aside0.mk (hbox); have n2_ := Aside0.mk ((by rw [hg]; exact (below_size (by repeat (first | (with_reducible first | exact HB.out | apply below_alloc | apply pw_below_drewN | apply below_drew1) | exact HB.out))) : w.heap.size ≤ gb315)); have n3_ := Aside0.mk ((by rw [hg]; exact (below_size (by repeat (first | (with_reducible first | exact HB.out | apply below_alloc | apply pw_below_drewN | apply below_drew1) | exact HB.out))) : w.heap.size ≤ gb315)); clear HB; have HB := n0_; have BK315 := n1_; have GW315 := n2_; have GE315 := n3_; clear n0_ n1_ n2_ n3_; clear hb hbox hg; have hcz5_0 : w4.cell? ⟨gb315, 0, none⟩ = some (.int .i64 a0_0) := (blk_cell BK315.out 0).trans rfl; have hcz5_1 : w4.cell? ⟨gb315, 1, none⟩ = some (.int .i64 a0_1) := (blk_cell BK315.out 1).trans rfl; have hcz5_2 : w4.cell? ⟨gb315, 2, none⟩ = some (.int .i64 a0_2) := (blk_cell BK315.out 2).trans rfl; have hcz5_3 : w4.cell? ⟨gb315, 3, none⟩ = some (.int .i64 a0_3) := (blk_cell BK315.out 3).trans rfl; have hcz5_4 : w4.cell? ⟨gb315, 4, none⟩ = some (.int .i64 a0_4) := (blk_cell BK315.out 4).trans rfl; have hcz5_5 : w4.cell? ⟨gb315, 5, none⟩ = some (.int .i64 a0_5) := (blk_cell BK315.out 5).trans rfl; have hcz5_6 : w4.cell? ⟨gb315, 6, none⟩ = some (.bool a0_6) := (blk_cell BK315.out 6).trans rfl; have hcz5_7 : w4.cell? ⟨gb315, 7, none⟩ = some (.int .i64 a0_7) := (blk_cell BK315.out 7).trans rfl; have hfz5_0 := blk_frozen BK315.out 0; have hfz5_1 := blk_frozen BK315.out 1; have hfz5_2 := blk_frozen BK315.out 2; have hfz5_3 := blk_frozen BK315.out 3; have hfz5_4 := blk_frozen BK315.out 4; have hfz5_5 := blk_frozen BK315.out 5; have hfz5_6 := blk_frozen BK315.out 6; have hfz5_7 := blk_frozen BK315.out 7) | (go_at_call 52; (with_reducible refine (rubricref6_Days.calls k a0_1 a0_2 a0_3 t316 _ A3.out).mono ?_); rintro e w' ⟨rfl, ⟨nd, rfl⟩⟩; (try first | exact ⟨rfl, _, World.drewN_drewN _ _ _⟩ | exact ⟨rfl, _, Eq.trans (World.drewN_drewN _ _ _) (congrArg (World.drewN _) (Nat.add_assoc _ _ _))⟩)))
 repeat (go_quiet (first | ((with_reducible refine gate_dst (N := 2) rfl ?_); refine box_event ?hg (N := 2) ?hd (cs := #[.int .i64 a0_0, .int .i64 a0_1, .int .i64 a0_2, .int .i64 a0_3, .int .i64 a0_4, .int .i64 a0_5, .bool a0_6, .int .i64 a0_7]) (t := 30) ?hr ?_; (case hd => rfl); (case hg => rfl); (case hr => first | (go_simp; done) | (go_simp; rfl)); intro gb315 hg w4 hbox hb; have n0_ := Aside0.mk (below_step (by repeat (first | (with_reducible first | exact HB.out | apply below_alloc | apply pw_below_drewN | apply below_drew1) | exact HB.out)) hb); have n1_ := Aside0.mk (hbox); have n2_ := Aside0.mk ((by rw [hg]; exact (below_size (by repeat (first | (with_reducible first | exact HB.out | apply below_alloc | apply pw_below_drewN | apply below_drew1) | exact HB.out))) : w.heap.size ≤ gb315)); have n3_ := Aside0.mk ((by rw [hg]; exact (below_size (by repeat (first | (with_reducible first | exact HB.out | apply below_alloc | apply pw_below_drewN | apply below_drew1) | exact HB.out))) : w.heap.size ≤ gb315)); clear HB; have HB := n0_; have BK315 := n1_; have GW315 := n2_; have GE315 := n3_; clear n0_ n1_ n2_ n3_; clear hb hbox hg; have hcz5_0 : w4.cell? ⟨gb315, 0, none⟩ = some (.int .i64 a0_0) := (blk_cell BK315.out 0).trans rfl; have hcz5_1 : w4.cell? ⟨gb315, 1, none⟩ = some (.int .i64 a0_1) := (blk_cell BK315.out 1).trans rfl; have hcz5_2 : w4.cell? ⟨gb315, 2, none⟩ = some (.int .i64 a0_2) := (blk_cell BK315.out 2).trans rfl; have hcz5_3 : w4.cell? ⟨gb315, 3, none⟩ = some (.int .i64 a0_3) := (blk_cell BK315.out 3).trans rfl; have hcz5_4 : w4.cell? ⟨gb315, 4, none⟩ = some (.int .i64 a0_4) := (blk_cell BK315.out 4).trans rfl; have hcz5_5 : w4.cell? ⟨gb315, 5, none⟩ = some (.int .i64 a0_5) := (blk_cell BK315.out 5).trans rfl; have hcz5_6 : w4.cell? ⟨gb315, 6, none⟩ = some (.bool a0_6) := (blk_cell BK315.out 6).trans rfl; have hcz5_7 : w4.cell? ⟨gb315, 7, none⟩ = some (.int .i64 a0_7) := (blk_cell BK315.out 7).trans rfl; have hfz5_0 := blk_frozen BK315.out 0; have hfz5_1 := blk_frozen BK315.out 1; have hfz5_2 := blk_frozen BK315.out 2; have hfz5_3 := blk_frozen BK315.out 3; have hfz5_4 := blk_frozen BK315.out 4; have hfz5_5 := blk_frozen BK315.out 5; have hfz5_6 := blk_frozen BK315.out 6; have hfz5_7 := blk_frozen BK315.out 7) | (go_at_call 52; (with_reducible refine (rubricref6_Days.calls k a0_1 a0_2 a0_3 t316 _ A3.out).mono ?_); rintro e w' ⟨rfl, ⟨nd, rfl⟩⟩; (try first | exact ⟨rfl, _, World.drewN_drewN _ _ _⟩ | exact ⟨rfl, _, Eq.trans (World.drewN_drewN _ _ _) (congrArg (World.drewN _) (Nat.add_assoc _ _ _))⟩))); try go_wp2_with (first | ((with_reducible refine gate_dst (N := 2) rfl ?_); refine box_event ?hg (N := 2) ?hd (cs := #[.int .i64 a0_0, .int .i64 a0_1, .int .i64 a0_2, .int .i64 a0_3, .int .i64 a0_4, .int .i64 a0_5, .bool a0_6, .int .i64 a0_7]) (t := 30) ?hr ?_; (case hd => rfl); (case hg => rfl); (case hr => first | (go_simp; done) | (go_simp; rfl)); intro gb315 hg w4 hbox hb; have n0_ := Aside0.mk (below_step (by repeat (first | (with_reducible first | exact HB.out | apply below_alloc | apply pw_below_drewN | apply below_drew1) | exact HB.out)) hb); have n1_ := Aside0.mk (hbox); have n2_ := Aside0.mk ((by rw [hg]; exact (below_size (by repeat (first | (with_reducible first | exact HB.out | apply below_alloc | apply pw_below_drewN | apply below_drew1) | exact HB.out))) : w.heap.size ≤ gb315)); have n3_ := Aside0.mk ((by rw [hg]; exact (below_size (by repeat (first | (with_reducible first | exact HB.out | apply below_alloc | apply pw_below_drewN | apply below_drew1) | exact HB.out))) : w.heap.size ≤ gb315)); clear HB; have HB := n0_; have BK315 := n1_; have GW315 := n2_; have GE315 := n3_; clear n0_ n1_ n2_ n3_; clear hb hbox hg; have hcz5_0 : w4.cell? ⟨gb315, 0, none⟩ = some (.int .i64 a0_0) := (blk_cell BK315.out 0).trans rfl; have hcz5_1 : w4.cell? ⟨gb315, 1, none⟩ = some (.int .i64 a0_1) := (blk_cell BK315.out 1).trans rfl; have hcz5_2 : w4.cell? ⟨gb315, 2, none⟩ = some (.int .i64 a0_2) := (blk_cell BK315.out 2).trans rfl; have hcz5_3 : w4.cell? ⟨gb315, 3, none⟩ = some (.int .i64 a0_3) := (blk_cell BK315.out 3).trans rfl; have hcz5_4 : w4.cell? ⟨gb315, 4, none⟩ = some (.int .i64 a0_4) := (blk_cell BK315.out 4).trans rfl; have hcz5_5 : w4.cell? ⟨gb315, 5, none⟩ = some (.int .i64 a0_5) := (blk_cell BK315.out 5).trans rfl; have hcz5_6 : w4.cell? ⟨gb315, 6, none⟩ = some (.bool a0_6) := (blk_cell BK315.out 6).trans rfl; have hcz5_7 : w4.cell? ⟨gb315, 7, none⟩ = some (.int .i64 a0_7) := (blk_cell BK315.out 7).trans rfl; have hfz5_0 := blk_frozen BK315.out 0; have hfz5_1 := blk_frozen BK315.out 1; have hfz5_2 := blk_frozen BK315.out 2; have hfz5_3 := blk_frozen BK315.out 3; have hfz5_4 := blk_frozen BK315.out 4; have hfz5_5 := blk_frozen BK315.out 5; have hfz5_6 := blk_frozen BK315.out 6; have hfz5_7 := blk_frozen BK315.out 7) | (go_at_call 52; (with_reducible refine (rubricref6_Days.calls k a0_1 a0_2 a0_3 t316 _ A3.out).mono ?_); rintro e w' ⟨rfl, ⟨nd, rfl⟩⟩; (try first | exact ⟨rfl, _, World.drewN_drewN _ _ _⟩ | exact ⟨rfl, _, Eq.trans (World.drewN_drewN _ _ _) (congrArg (World.drewN _) (Nat.add_assoc _ _ _))⟩))))
 go_ret
 exact ⟨by first | rfl | (simp [errW_none, errW_some] <;> rfl) | (simp [*, errW_none, errW_some] <;> rfl), by repeat (first | (with_reducible first | exact HB.out | apply below_alloc | apply pw_below_drewN | apply below_drew1 | refine below_set ?_ GE315.out) | exact HB.out)⟩

end Go.Proofs.YtehaonhgbmlmnaaDoor.Pr
