-- printed by wip/gprint.py (ours) out of the translation, by the kit's print program with given contracts
import Derived.Test.YtnafjabpkbahdaaPrx0
import Derived.Test.YtnafjabpkbahdaaPrx8
import Derived.Test.YtnafjabpkbahdaaPrx9
namespace Go.Proofs.Ytnafjabpkbahdaa.Pr
open Go.RowKit Go.Proofs.YtnafjabpkbahdaaW.PrintWords Go.Proofs.YtnafjabpkbahdaaW.PrintLast Go.Proofs.YtnafjabpkbahdaaW.PrintMore
attribute [local go_sem] max2_int min2_int max_two min_two max_three min_three max_four min_four   -- for this text's walks alone
set_option linter.unusedVariables false
set_option linter.unusedSimpArgs false

/-! ### rubricref5_Add: function 14 -/
mutual
def rubricref5_Add.l0 : Nat → Int → Int → List Int → Bool → Int → Int → Bool → List Int → Int → Bool → List Int → Int → Option (Bool × List Int × Int × Int)
 | 0, _, _, _, _, _, _, _, _, _, _, _, _ => none
 | k + 1, x6, x7, x8, x9, x10, x11, x331000, x331001, x331002, x332000, x332001, x332002 => if x11 ≤ x6 then ((rubricref5_Dec_digit.f x331000 x331001 x331002 x11).bind fun t338 => ((rubricref5_Dec_digit.f x332000 x332001 x332002 x11).bind fun t339 => (if 0 ≤ (wrap64 (x6 - x11)) then (if (wrap64 (x6 - x11)) < (x8.length : Int) then (rubricref5_Add.l0 k x6 x7 (x8.set ((wrap64 (x6 - x11)) : Int).toNat ((Int.tmod (wrap64 ((wrap64 (t338 + t339)) + x10)) 10) % 256)) x9 (wrap64 (Int.tdiv (wrap64 ((wrap64 (t338 + t339)) + x10)) 10)) (wrap64 (x11 + 1)) x331000 x331001 x331002 x332000 x332001 x332002) else (none)) else (none)))) else ((rubricref5_canon.f k x9 x8 x7).bind fun bt341 => (if (bt341.2.1.length : Int) > 4096 then (some (false, ([] : List Int), 0, 3)) else (some (bt341.1, bt341.2.1, bt341.2.2, 0))))
def rubricref5_Add.j1 : Nat → Int → Int → List Int → Bool → Bool → List Int → Int → Bool → List Int → Int → Option (Bool × List Int × Int × Int)
 | 0, _, _, _, _, _, _, _, _, _, _ => none
 | k + 1, x6, x7, x8, x9, x331000, x331001, x331002, x332000, x332001, x332002 => rubricref5_Add.l1 k x6 x7 x8 x9 0 (wrap64 (-x7)) x331000 x331001 x331002 x332000 x332001 x332002
def rubricref5_Add.l1 : Nat → Int → Int → List Int → Bool → Int → Int → Bool → List Int → Int → Bool → List Int → Int → Option (Bool × List Int × Int × Int)
 | 0, _, _, _, _, _, _, _, _, _, _, _, _ => none
 | k + 1, x6, x7, x8, x9, x14, x15, x331000, x331001, x331002, x332000, x332001, x332002 => if x15 ≤ x6 then ((rubricref5_Dec_digit.f x331000 x331001 x331002 x15).bind fun t355 => ((rubricref5_Dec_digit.f x332000 x332001 x332002 x15).bind fun t356 => (if (wrap64 ((wrap64 (t355 - t356)) - x14)) < 0 then (if 0 ≤ (wrap64 (x6 - x15)) then (if (wrap64 (x6 - x15)) < (x8.length : Int) then (rubricref5_Add.l1 k x6 x7 (x8.set ((wrap64 (x6 - x15)) : Int).toNat ((wrap64 ((wrap64 ((wrap64 (t355 - t356)) - x14)) + 10)) % 256)) x9 1 (wrap64 (x15 + 1)) x331000 x331001 x331002 x332000 x332001 x332002) else (none)) else (none)) else (if 0 ≤ (wrap64 (x6 - x15)) then (if (wrap64 (x6 - x15)) < (x8.length : Int) then (rubricref5_Add.l1 k x6 x7 (x8.set ((wrap64 (x6 - x15)) : Int).toNat ((wrap64 ((wrap64 (t355 - t356)) - x14)) % 256)) x9 0 (wrap64 (x15 + 1)) x331000 x331001 x331002 x332000 x332001 x332002) else (none)) else (none))))) else ((rubricref5_canon.f k x9 x8 x7).bind fun bt349 => (if (bt349.2.1.length : Int) > 4096 then (some (false, ([] : List Int), 0, 3)) else (some (bt349.1, bt349.2.1, bt349.2.2, 0))))
end
def rubricref5_Add.f (k : Nat) (a0_0 : Bool) (l0_1 : List Int) (a0_2 : Int) (a1_0 : Bool) (l1_1 : List Int) (a1_2 : Int) : Option (Bool × List Int × Int × Int) := (rubricref5_high.f a0_0 l0_1 a0_2 a1_0 l1_1 a1_2).bind fun bt333 => (if 0 ≤ (wrap64 ((wrap64 (bt333.1 + 1)) + bt333.2)) then (if (wrap64 ((wrap64 (bt333.1 + 1)) + bt333.2) : Int).toNat ≤ 281474976710656 then ((some (List.replicate (wrap64 ((wrap64 (bt333.1 + 1)) + bt333.2) : Int).toNat 0 : List Int)).bind fun y335 => (if (a0_0 == a1_0) = true then (rubricref5_Add.l0 k bt333.1 bt333.2 y335 a0_0 0 (wrap64 (-bt333.2)) a0_0 l0_1 a0_2 a1_0 l1_1 a1_2) else ((rubricref5_size.f k a0_0 l0_1 a0_2 a1_0 l1_1 a1_2).bind fun t347 => (if t347 < 0 then (rubricref5_Add.j1 k bt333.1 bt333.2 y335 a1_0 a1_0 l1_1 a1_2 a0_0 l0_1 a0_2) else (rubricref5_Add.j1 k bt333.1 bt333.2 y335 a0_0 a0_0 l0_1 a0_2 a1_0 l1_1 a1_2))))) else (none)) else (none))
theorem rubricref5_Add.mono_l : ∀ k, (∀ y0 y1 y2 y3 y4 y5 y6 y7 y8 y9 y10 y11, LeO (rubricref5_Add.l0 k y0 y1 y2 y3 y4 y5 y6 y7 y8 y9 y10 y11) (rubricref5_Add.l0 (k + 1) y0 y1 y2 y3 y4 y5 y6 y7 y8 y9 y10 y11)) ∧ (∀ y0 y1 y2 y3 y4 y5 y6 y7 y8 y9, LeO (rubricref5_Add.j1 k y0 y1 y2 y3 y4 y5 y6 y7 y8 y9) (rubricref5_Add.j1 (k + 1) y0 y1 y2 y3 y4 y5 y6 y7 y8 y9)) ∧ (∀ y0 y1 y2 y3 y4 y5 y6 y7 y8 y9 y10 y11, LeO (rubricref5_Add.l1 k y0 y1 y2 y3 y4 y5 y6 y7 y8 y9 y10 y11) (rubricref5_Add.l1 (k + 1) y0 y1 y2 y3 y4 y5 y6 y7 y8 y9 y10 y11))
 | 0 => ⟨fun _ _ _ _ _ _ _ _ _ _ _ _ r h => by simp [rubricref5_Add.l0] at h, fun _ _ _ _ _ _ _ _ _ _ r h => by simp [rubricref5_Add.j1] at h, fun _ _ _ _ _ _ _ _ _ _ _ _ r h => by simp [rubricref5_Add.l1] at h⟩
 | k + 1 => by
  obtain ⟨ih0, ih1, ih2⟩ := rubricref5_Add.mono_l k
  refine ⟨?_, ?_, ?_⟩
  ·intro y0 y1 y2 y3 y4 y5 y6 y7 y8 y9 y10 y11
   unfold rubricref5_Add.l0
   repeat' first
   | (with_reducible exact ih0 _ _ _ _ _ _ _ _ _ _ _ _)
   | (with_reducible exact ih1 _ _ _ _ _ _ _ _ _ _)
   | (with_reducible exact ih2 _ _ _ _ _ _ _ _ _ _ _ _)
   | (with_reducible exact rubricref5_canon.mono _ _ _ _)
   | (with_reducible exact rubricref5_size.mono _ _ _ _ _ _ _)
   | (with_reducible exact LeO.refl _)
   | (with_reducible exact LeO.none _)
   | (with_reducible refine LeO.ite ?_ ?_)
   | (with_reducible refine LeO.bind ?_ (fun _ => ?_))
   | exact ih0 _ _ _ _ _ _ _ _ _ _ _ _
   | exact ih1 _ _ _ _ _ _ _ _ _ _
   | exact ih2 _ _ _ _ _ _ _ _ _ _ _ _
   | exact rubricref5_canon.mono _ _ _ _
   | exact rubricref5_size.mono _ _ _ _ _ _ _
   | exact LeO.none _
   | refine LeO.ite ?_ ?_
   | refine LeO.bind ?_ (fun _ => ?_)
  ·intro y0 y1 y2 y3 y4 y5 y6 y7 y8 y9
   unfold rubricref5_Add.j1
   repeat' first
   | (with_reducible exact ih0 _ _ _ _ _ _ _ _ _ _ _ _)
   | (with_reducible exact ih1 _ _ _ _ _ _ _ _ _ _)
   | (with_reducible exact ih2 _ _ _ _ _ _ _ _ _ _ _ _)
   | (with_reducible exact rubricref5_canon.mono _ _ _ _)
   | (with_reducible exact rubricref5_size.mono _ _ _ _ _ _ _)
   | (with_reducible exact LeO.refl _)
   | (with_reducible exact LeO.none _)
   | (with_reducible refine LeO.ite ?_ ?_)
   | (with_reducible refine LeO.bind ?_ (fun _ => ?_))
   | exact ih0 _ _ _ _ _ _ _ _ _ _ _ _
   | exact ih1 _ _ _ _ _ _ _ _ _ _
   | exact ih2 _ _ _ _ _ _ _ _ _ _ _ _
   | exact rubricref5_canon.mono _ _ _ _
   | exact rubricref5_size.mono _ _ _ _ _ _ _
   | exact LeO.none _
   | refine LeO.ite ?_ ?_
   | refine LeO.bind ?_ (fun _ => ?_)
  ·intro y0 y1 y2 y3 y4 y5 y6 y7 y8 y9 y10 y11
   unfold rubricref5_Add.l1
   repeat' first
   | (with_reducible exact ih0 _ _ _ _ _ _ _ _ _ _ _ _)
   | (with_reducible exact ih1 _ _ _ _ _ _ _ _ _ _)
   | (with_reducible exact ih2 _ _ _ _ _ _ _ _ _ _ _ _)
   | (with_reducible exact rubricref5_canon.mono _ _ _ _)
   | (with_reducible exact rubricref5_size.mono _ _ _ _ _ _ _)
   | (with_reducible exact LeO.refl _)
   | (with_reducible exact LeO.none _)
   | (with_reducible refine LeO.ite ?_ ?_)
   | (with_reducible refine LeO.bind ?_ (fun _ => ?_))
   | exact ih0 _ _ _ _ _ _ _ _ _ _ _ _
   | exact ih1 _ _ _ _ _ _ _ _ _ _
   | exact ih2 _ _ _ _ _ _ _ _ _ _ _ _
   | exact rubricref5_canon.mono _ _ _ _
   | exact rubricref5_size.mono _ _ _ _ _ _ _
   | exact LeO.none _
   | refine LeO.ite ?_ ?_
   | refine LeO.bind ?_ (fun _ => ?_)
theorem rubricref5_Add.mono : ∀ a0 a1 a2 a3 a4 a5 k, LeO (rubricref5_Add.f k a0 a1 a2 a3 a4 a5) (rubricref5_Add.f (k + 1) a0 a1 a2 a3 a4 a5) := by
 intro a0 a1 a2 a3 a4 a5 k
 obtain ⟨ih0, ih1, ih2⟩ := rubricref5_Add.mono_l k
 unfold rubricref5_Add.f
 repeat' first
   | (with_reducible exact ih0 _ _ _ _ _ _ _ _ _ _ _ _)
   | (with_reducible exact ih1 _ _ _ _ _ _ _ _ _ _)
   | (with_reducible exact ih2 _ _ _ _ _ _ _ _ _ _ _ _)
   | (with_reducible exact rubricref5_canon.mono _ _ _ _)
   | (with_reducible exact rubricref5_size.mono _ _ _ _ _ _ _)
   | (with_reducible exact LeO.refl _)
   | (with_reducible exact LeO.none _)
   | (with_reducible refine LeO.ite ?_ ?_)
   | (with_reducible refine LeO.bind ?_ (fun _ => ?_))
   | exact ih0 _ _ _ _ _ _ _ _ _ _ _ _
   | exact ih1 _ _ _ _ _ _ _ _ _ _
   | exact ih2 _ _ _ _ _ _ _ _ _ _ _ _
   | exact rubricref5_canon.mono _ _ _ _
   | exact rubricref5_size.mono _ _ _ _ _ _ _
   | exact LeO.none _
   | refine LeO.ite ?_ ?_
   | refine LeO.bind ?_ (fun _ => ?_)
def rubricref5_Add.T9 : Bool × List (List Nat × List Nat) := (true, [([], []), ([], []), ([0, 1], [0, 1]), ([], []), ([], []), ([3, 4, 2], [3, 4]), ([2, 5], [2, 5]), ([], []), ([6, 7], [6, 7]), ([8, 5, 0, 1, 2, 3, 4, 5, 6, 7, 8], [8])])
def rubricref5_Add.B9 : List Nat := [0, 0, 3, 0, 0, 31, 63, 0, 255, 511]
theorem rubricref5_Add.tab9 : rtab .any (opsOf Try.f14 9) = rubricref5_Add.T9 := by kernel_rfl
theorem rubricref5_Add.bits9 : waitsOk rubricref5_Add.T9.2 rubricref5_Add.B9 = true := by kernel_rfl
def rubricref5_Add.T21 : Bool × List (List Nat × List Nat) := (true, [([], []), ([], []), ([0, 1], [0, 1]), ([], []), ([], []), ([3, 4, 2], [3, 4]), ([2, 5], [2, 5]), ([], []), ([6, 7], [6, 7]), ([8, 5, 0, 1, 2, 3, 4, 5, 6, 7, 8], [8])])
def rubricref5_Add.B21 : List Nat := [0, 0, 3, 0, 0, 31, 63, 0, 255, 511]
theorem rubricref5_Add.tab21 : rtab .any (opsOf Try.f14 21) = rubricref5_Add.T21 := by kernel_rfl
theorem rubricref5_Add.bits21 : waitsOk rubricref5_Add.T21.2 rubricref5_Add.B21 = true := by kernel_rfl
set_option maxHeartbeats 8000000 in
set_option maxRecDepth 100000 in
theorem rubricref5_Add.calls (k : Nat) (a0_0 : Bool) (P0_1_ : Nat → Prop) (A0_1 : Option Addr) (c0_1 : Nat) (l0_1 : List Int) (a0_2 : Int) (a1_0 : Bool) (P1_1_ : Nat → Prop) (A1_1 : Option Addr) (c1_1 : Nat) (l1_1 : List Int) (a1_2 : Int) (r1 : Bool) (r2 : List Int) (r3 : Int) (r4 : Int) (w : World) (hs0_1 : Kd.V (Kd.int .u8) 5 w w.heap.size (fun k_ => P0_1_ k_) (.slice A0_1 l0_1.length c0_1) l0_1) (hs1_1 : Kd.V (Kd.int .u8) 5 w w.heap.size (fun k_ => P1_1_ k_) (.slice A1_1 l1_1.length c1_1) l1_1) (h : rubricref5_Add.f k a0_0 l0_1 a0_2 a1_0 l1_1 a1_2 = some (r1, r2, r3, r4)) :
  Calls Try.prog 14 #[.agg #[.bool a0_0, .slice A0_1 l0_1.length c0_1, .int .i64 a0_2], .agg #[.bool a1_0, .slice A1_1 l1_1.length c1_1, .int .i64 a1_2]] w fun e w' => ∃ v1_ : Value, e = .returned (.tuple #[.agg #[.bool r1, v1_, .int .i64 r3], .int .i64 r4]) ∧ Kd.R (Kd.int .u8) 5 w' w.heap.size (fun k_ => (w.heap.size ≤ k_)) v1_ r2 ∧ Below w.heap.size w w' := by
 have hu36 := Try.underlying36
 have HO0_1 := Aside0.mk (show Kd.V (Kd.int .u8) 5 w w.heap.size (fun k_ => ((P0_1_ k_ ∨ P1_1_ k_) ∨ w.heap.size ≤ k_)) (.slice A0_1 l0_1.length c0_1) l0_1 from Kd.V_mono hs0_1 (fun k_ hk => .inl (.inl hk)))
 have HO1_1 := Aside0.mk (show Kd.V (Kd.int .u8) 5 w w.heap.size (fun k_ => ((P0_1_ k_ ∨ P1_1_ k_) ∨ w.heap.size ≤ k_)) (.slice A1_1 l1_1.length c1_1) l1_1 from Kd.V_mono hs1_1 (fun k_ hk => .inl (.inr hk)))
 have HB := Aside0.mk (Below.refl w.heap.size w)
 have H : ((rubricref5_high.f a0_0 l0_1 a0_2 a1_0 l1_1 a1_2).bind fun bt333 => (if 0 ≤ (wrap64 ((wrap64 (bt333.1 + 1)) + bt333.2)) then (if (wrap64 ((wrap64 (bt333.1 + 1)) + bt333.2) : Int).toNat ≤ 281474976710656 then ((some (List.replicate (wrap64 ((wrap64 (bt333.1 + 1)) + bt333.2) : Int).toNat 0 : List Int)).bind fun y335 => (if (a0_0 == a1_0) = true then (rubricref5_Add.l0 k bt333.1 bt333.2 y335 a0_0 0 (wrap64 (-bt333.2)) a0_0 l0_1 a0_2 a1_0 l1_1 a1_2) else ((rubricref5_size.f k a0_0 l0_1 a0_2 a1_0 l1_1 a1_2).bind fun t347 => (if t347 < 0 then (rubricref5_Add.j1 k bt333.1 bt333.2 y335 a1_0 a1_0 l1_1 a1_2 a0_0 l0_1 a0_2) else (rubricref5_Add.j1 k bt333.1 bt333.2 y335 a0_0 a0_0 l0_1 a0_2 a1_0 l1_1 a1_2))))) else (none)) else (none))) = some (r1, r2, r3, r4) := h
 clear h
 replace H := Option.bind_eq_some_iff.mp H
 obtain ⟨⟨t333, t334⟩, A30, H⟩ := H
 replace H : (if 0 ≤ (wrap64 ((wrap64 (t333 + 1)) + t334)) then (if (wrap64 ((wrap64 (t333 + 1)) + t334) : Int).toNat ≤ 281474976710656 then ((some (List.replicate (wrap64 ((wrap64 (t333 + 1)) + t334) : Int).toNat 0 : List Int)).bind fun y335 => (if (a0_0 == a1_0) = true then (rubricref5_Add.l0 k t333 t334 y335 a0_0 0 (wrap64 (-t334)) a0_0 l0_1 a0_2 a1_0 l1_1 a1_2) else ((rubricref5_size.f k a0_0 l0_1 a0_2 a1_0 l1_1 a1_2).bind fun t347 => (if t347 < 0 then (rubricref5_Add.j1 k t333 t334 y335 a1_0 a1_0 l1_1 a1_2 a0_0 l0_1 a0_2) else (rubricref5_Add.j1 k t333 t334 y335 a0_0 a0_0 l0_1 a0_2 a1_0 l1_1 a1_2))))) else (none)) else (none)) = some (r1, r2, r3, r4) := H
 have A3 := Aside0.mk A30
 clear A30
 obtain ⟨ji4, hji4⟩ : ∃ j_ : Int, (wrap64 ((wrap64 (t333 + 1)) + t334)) = j_ := ⟨_, rfl⟩
 replace H : (if 0 ≤ (ji4) then (if (ji4 : Int).toNat ≤ 281474976710656 then ((some (List.replicate (ji4 : Int).toNat 0 : List Int)).bind fun y335 => (if (a0_0 == a1_0) = true then (rubricref5_Add.l0 k t333 t334 y335 a0_0 0 (wrap64 (-t334)) a0_0 l0_1 a0_2 a1_0 l1_1 a1_2) else ((rubricref5_size.f k a0_0 l0_1 a0_2 a1_0 l1_1 a1_2).bind fun t347 => (if t347 < 0 then (rubricref5_Add.j1 k t333 t334 y335 a1_0 a1_0 l1_1 a1_2 a0_0 l0_1 a0_2) else (rubricref5_Add.j1 k t333 t334 y335 a0_0 a0_0 l0_1 a0_2 a1_0 l1_1 a1_2))))) else (none)) else (none)) = some (r1, r2, r3, r4) := by first | (rw [hji4] at H; exact H) | (simp only [hji4] at H ⊢; exact H)
 (try rw [hji4] at A3)
 have hji4w : (IntKind.i64.wrap ((wrap64 (t333 + 1)) + t334)) = ji4 := (i64_w _).trans hji4
 by_cases c5 : 0 ≤ (ji4)
 ·rw [if_pos c5] at H
  have c5b0 := eq_true c5
  have c5b1 : decide (0 ≤ (ji4)) = true := decide_eq_true c5
  clear c5
  by_cases c6 : (ji4 : Int).toNat ≤ 281474976710656
  ·rw [if_pos c6] at H
   have c6b0 := eq_true c6
   have c6b1 : decide ((ji4 : Int).toNat ≤ 281474976710656) = true := decide_eq_true c6
   clear c6
   obtain ⟨y335, hy335⟩ : ∃ y_ : List Int, y_ = (List.replicate (ji4 : Int).toNat 0) := ⟨_, rfl⟩
   replace H : (if (a0_0 == a1_0) = true then (rubricref5_Add.l0 k t333 t334 y335 a0_0 0 (wrap64 (-t334)) a0_0 l0_1 a0_2 a1_0 l1_1 a1_2) else ((rubricref5_size.f k a0_0 l0_1 a0_2 a1_0 l1_1 a1_2).bind fun t347 => (if t347 < 0 then (rubricref5_Add.j1 k t333 t334 y335 a1_0 a1_0 l1_1 a1_2 a0_0 l0_1 a0_2) else (rubricref5_Add.j1 k t333 t334 y335 a0_0 a0_0 l0_1 a0_2 a1_0 l1_1 a1_2)))) = some (r1, r2, r3, r4) := by first | (rw [hy335]; with_reducible exact H) | (have H2_ := (Option.bind_some _ _).symm.trans H; rw [hy335]; with_reducible exact H2_) | (have H2_ := (Option.bind_some _ _).symm.trans H; with_reducible exact H2_) | with_reducible exact H | (rw [hy335]; exact H) | exact H
   have Ny335 := Aside0.mk hy335
   clear hy335
   by_cases c7 : (a0_0 == a1_0) = true
   ·rw [if_pos c7] at H
    have c7b0 : (a0_0 == a1_0) = true := c7
    (try (have c7b1 : decide (a0_0 = a1_0) = true := by simpa using c7))
    (try (have c7b2 : (a0_0 == a1_0) = true := by simpa using c7))
    clear c7
    have H' := Aside0.mk H
    clear H
    go_enter Try.func14, Try.ntmps14
    go_wp2_with (first | ((with_reducible refine gate_dst (N := 2) rfl ?_); refine box_event ?hg (N := 2) ?hd (cs := #[.bool a0_0, .slice A0_1 l0_1.length c0_1, .int .i64 a0_2]) (t := 36) ?hr ?_; (case hd => rfl); (case hg => rfl); (case hr => first | (go_simp; done) | (go_simp; rfl)); intro gb330 hg w8 hbox hb; have n0_ := Aside0.mk (Kd.V_below (Kd.V_elderB (S.v HO0_1.out) gb330 (Nat.le_of_eq hg.symm)) hb); have n1_ := Aside0.mk (Kd.V_below (Kd.V_elderB (S.v HO1_1.out) gb330 (Nat.le_of_eq hg.symm)) hb); have n2_ := Aside0.mk (below_step (by repeat (first | (with_reducible first | exact HB.out | apply below_alloc | apply pw_below_drewN | apply below_drew1) | exact HB.out)) hb); have n3_ := Aside0.mk (hbox); have n4_ := Aside0.mk ((by rw [hg]; exact (below_size (by repeat (first | (with_reducible first | exact HB.out | apply below_alloc | apply pw_below_drewN | apply below_drew1) | exact HB.out))) : w.heap.size ≤ gb330)); have n5_ := Aside0.mk ((by rw [hg]; exact (below_size (by repeat (first | (with_reducible first | exact HB.out | apply below_alloc | apply pw_below_drewN | apply below_drew1) | exact HB.out))) : w.heap.size ≤ gb330)); clear HO0_1; clear HO1_1; clear HB; have HO0_1 := n0_; have HO1_1 := n1_; have HB := n2_; have BK330 := n3_; have GW330 := n4_; have GE330 := n5_; clear n0_ n1_ n2_ n3_ n4_ n5_; clear hb hbox hg) | ((with_reducible refine gate_dst (N := 3) rfl ?_); refine box_event ?hg (N := 3) ?hd (cs := #[.bool a1_0, .slice A1_1 l1_1.length c1_1, .int .i64 a1_2]) (t := 36) ?hr ?_; (case hd => rfl); (case hg => rfl); (case hr => first | (go_simp; done) | (go_simp; rfl)); intro gb331 hg w9 hbox hb; have n0_ := Aside0.mk (Kd.V_below (Kd.V_elderB (S.v HO0_1.out) gb331 (Nat.le_of_eq hg.symm)) hb); have n1_ := Aside0.mk (Kd.V_below (Kd.V_elderB (S.v HO1_1.out) gb331 (Nat.le_of_eq hg.symm)) hb); have n2_ := Aside0.mk (blk_below (g := gb330) (o := .cells #[.bool a0_0, .slice A0_1 l0_1.length c0_1, .int .i64 a0_2] 36 (0, 0)) (S.b BK330.out) hb); have n3_ := Aside0.mk (below_step (by repeat (first | (with_reducible first | exact HB.out | apply below_alloc | apply pw_below_drewN | apply below_drew1 | refine below_set ?_ GE330.out) | exact HB.out)) hb); have n4_ := Aside0.mk (hbox); have n5_ := Aside0.mk ((by rw [hg]; exact (below_size (by repeat (first | (with_reducible first | exact HB.out | apply below_alloc | apply pw_below_drewN | apply below_drew1 | refine below_set ?_ GE330.out) | exact HB.out))) : w.heap.size ≤ gb331)); have n6_ := Aside0.mk ((by rw [hg]; exact (below_size (by repeat (first | (with_reducible first | exact HB.out | apply below_alloc | apply pw_below_drewN | apply below_drew1 | refine below_set ?_ GE330.out) | exact HB.out))) : w.heap.size ≤ gb331)); have n7_ := Aside0.mk ((by rw [hg]; exact Nat.ne_of_lt (blk_lt (g := gb330) (o := .cells #[.bool a0_0, .slice A0_1 l0_1.length c0_1, .int .i64 a0_2] 36 (0, 0)) (S.b BK330.out)) : gb330 ≠ gb331)); have n8_ := Aside0.mk ((by rw [hg]; exact Nat.ne_of_gt (blk_lt (g := gb330) (o := .cells #[.bool a0_0, .slice A0_1 l0_1.length c0_1, .int .i64 a0_2] 36 (0, 0)) (S.b BK330.out)) : gb331 ≠ gb330)); clear HO0_1; clear HO1_1; clear BK330; clear HB; have HO0_1 := n0_; have HO1_1 := n1_; have BK330 := n2_; have HB := n3_; have BK331 := n4_; have GW331 := n5_; have GE331 := n6_; have NB330_331 := n7_; have NB331_330 := n8_; clear n0_ n1_ n2_ n3_ n4_ n5_ n6_ n7_ n8_; clear hb hbox hg) | ((with_reducible refine gate_dst (N := 4) rfl ?_); refine box_event ?hg (N := 4) ?hd (cs := #[.bool false, .slice none 0 0, .int .i64 0]) (t := 36) ?hr ?_; (case hd => rfl); (case hg => rfl); (case hr => first | (go_simp; done) | (go_simp; rfl)); intro gb332 hg w10 hbox hb; have n0_ := Aside0.mk (Kd.V_below (Kd.V_elderB (S.v HO0_1.out) gb332 (Nat.le_of_eq hg.symm)) hb); have n1_ := Aside0.mk (Kd.V_below (Kd.V_elderB (S.v HO1_1.out) gb332 (Nat.le_of_eq hg.symm)) hb); have n2_ := Aside0.mk (blk_below (g := gb330) (o := .cells #[.bool a0_0, .slice A0_1 l0_1.length c0_1, .int .i64 a0_2] 36 (0, 0)) (S.b BK330.out) hb); have n3_ := Aside0.mk (blk_below (g := gb331) (o := .cells #[.bool a1_0, .slice A1_1 l1_1.length c1_1, .int .i64 a1_2] 36 (0, 0)) (S.b BK331.out) hb); have n4_ := Aside0.mk (below_step (by repeat (first | (with_reducible first | exact HB.out | apply below_alloc | apply pw_below_drewN | apply below_drew1 | refine below_set ?_ GE330.out | refine below_set ?_ GE331.out) | exact HB.out)) hb); have n5_ := Aside0.mk (hbox); have n6_ := Aside0.mk ((by rw [hg]; exact (below_size (by repeat (first | (with_reducible first | exact HB.out | apply below_alloc | apply pw_below_drewN | apply below_drew1 | refine below_set ?_ GE330.out | refine below_set ?_ GE331.out) | exact HB.out))) : w.heap.size ≤ gb332)); have n7_ := Aside0.mk ((by rw [hg]; exact (below_size (by repeat (first | (with_reducible first | exact HB.out | apply below_alloc | apply pw_below_drewN | apply below_drew1 | refine below_set ?_ GE330.out | refine below_set ?_ GE331.out) | exact HB.out))) : w.heap.size ≤ gb332)); have n8_ := Aside0.mk ((by rw [hg]; exact Nat.ne_of_lt (blk_lt (g := gb330) (o := .cells #[.bool a0_0, .slice A0_1 l0_1.length c0_1, .int .i64 a0_2] 36 (0, 0)) (S.b BK330.out)) : gb330 ≠ gb332)); have n9_ := Aside0.mk ((by rw [hg]; exact Nat.ne_of_gt (blk_lt (g := gb330) (o := .cells #[.bool a0_0, .slice A0_1 l0_1.length c0_1, .int .i64 a0_2] 36 (0, 0)) (S.b BK330.out)) : gb332 ≠ gb330)); have n10_ := Aside0.mk ((by rw [hg]; exact Nat.ne_of_lt (blk_lt (g := gb331) (o := .cells #[.bool a1_0, .slice A1_1 l1_1.length c1_1, .int .i64 a1_2] 36 (0, 0)) (S.b BK331.out)) : gb331 ≠ gb332)); have n11_ := Aside0.mk ((by rw [hg]; exact Nat.ne_of_gt (blk_lt (g := gb331) (o := .cells #[.bool a1_0, .slice A1_1 l1_1.length c1_1, .int .i64 a1_2] 36 (0, 0)) (S.b BK331.out)) : gb332 ≠ gb331)); clear HO0_1; clear HO1_1; clear BK330; clear BK331; clear HB; have HO0_1 := n0_; have HO1_1 := n1_; have BK330 := n2_; have BK331 := n3_; have HB := n4_; have BK332 := n5_; have GW332 := n6_; have GE332 := n7_; have NB330_332 := n8_; have NB332_330 := n9_; have NB331_332 := n10_; have NB332_331 := n11_; clear n0_ n1_ n2_ n3_ n4_ n5_ n6_ n7_ n8_ n9_ n10_ n11_; clear hb hbox hg; have hnb11 := NB330_331.out; have hnc11 := NB331_330.out; have hnb12 := NB330_332.out; have hnc12 := NB332_330.out; have hcz13_0 : w10.cell? ⟨gb330, 0, none⟩ = some (.bool a0_0) := (blk_cell BK330.out 0).trans rfl; have hcz13_1 : w10.cell? ⟨gb330, 1, none⟩ = some (.slice A0_1 l0_1.length c0_1) := (blk_cell BK330.out 1).trans rfl; have hcz13_2 : w10.cell? ⟨gb330, 2, none⟩ = some (.int .i64 a0_2) := (blk_cell BK330.out 2).trans rfl; have hfz13_0 := blk_frozen BK330.out 0; have hfz13_1 := blk_frozen BK330.out 1; have hfz13_2 := blk_frozen BK330.out 2; have hnb14 := NB331_332.out; have hnc14 := NB332_331.out; have hcz15_0 : w10.cell? ⟨gb331, 0, none⟩ = some (.bool a1_0) := (blk_cell BK331.out 0).trans rfl; have hcz15_1 : w10.cell? ⟨gb331, 1, none⟩ = some (.slice A1_1 l1_1.length c1_1) := (blk_cell BK331.out 1).trans rfl; have hcz15_2 : w10.cell? ⟨gb331, 2, none⟩ = some (.int .i64 a1_2) := (blk_cell BK331.out 2).trans rfl; have hfz15_0 := blk_frozen BK331.out 0; have hfz15_1 := blk_frozen BK331.out 1; have hfz15_2 := blk_frozen BK331.out 2) | ((with_reducible refine gate_callee (f := 30) rfl ?_); refine goesL_ (some 21) rfl rfl Try.func30 (by kernel_rfl) rfl #[.agg #[.bool a0_0, .slice A0_1 l0_1.length c0_1, .int .i64 a0_2], .agg #[.bool a1_0, .slice A1_1 l1_1.length c1_1, .int .i64 a1_2]] rfl (by (try simp only [List.map_toArray, List.map_cons, List.map_nil]); first | done | rfl | (simp only [List.length_drop, List.length_take]; rfl)) ?_; (with_reducible refine (rubricref5_high.calls a0_0 _ _ l0_1 a0_2 a1_0 _ _ l1_1 a1_2 t333 t334 _ ?side1 ?side2 ?side3 ?side4 A3.out).mono ?_); (case side1 => repeat (first | exact (Kd.V_reads' HO0_1.out).2.2 | (with_reducible refine Kd.C_alloc ?_ _) | (with_reducible refine Kd.C_drewN ?_ _) | (with_reducible refine Kd.C_drew ?_))); (case side2 => exact (Kd.V_reads' HO0_1.out).2.1); (case side3 => repeat (first | exact (Kd.V_reads' HO1_1.out).2.2 | (with_reducible refine Kd.C_alloc ?_ _) | (with_reducible refine Kd.C_drewN ?_ _) | (with_reducible refine Kd.C_drew ?_))); (case side4 => exact (Kd.V_reads' HO1_1.out).2.1); rintro e w16 ⟨rfl, hb⟩; refine ⟨_, rfl, ?_⟩; have n0_ := Aside0.mk (Kd.V_below (S.v HO0_1.out) hb); have n1_ := Aside0.mk (Kd.V_below (S.v HO1_1.out) hb); have n2_ := Aside0.mk (blk_below (g := gb330) (o := .cells #[.bool a0_0, .slice A0_1 l0_1.length c0_1, .int .i64 a0_2] 36 (0, 0)) (S.b BK330.out) hb); have n3_ := Aside0.mk (blk_below (g := gb331) (o := .cells #[.bool a1_0, .slice A1_1 l1_1.length c1_1, .int .i64 a1_2] 36 (0, 0)) (S.b BK331.out) hb); have n4_ := Aside0.mk (blk_below (g := gb332) (o := .cells #[.bool false, .slice none 0 0, .int .i64 0] 36 (0, 0)) (S.b BK332.out) hb); have n5_ := Aside0.mk (below_step (by repeat (first | (with_reducible first | exact HB.out | apply below_alloc | apply pw_below_drewN | apply below_drew1 | refine below_set ?_ GE330.out | refine below_set ?_ GE331.out | refine below_set ?_ GE332.out) | exact HB.out)) hb); clear HO0_1; clear HO1_1; clear BK330; clear BK331; clear BK332; clear HB; have HO0_1 := n0_; have HO1_1 := n1_; have BK330 := n2_; have BK331 := n3_; have BK332 := n4_; have HB := n5_; clear n0_ n1_ n2_ n3_ n4_ n5_; (try clear hb); (try clear hb2); (try clear hk); (try clear hi)) | ((with_reducible refine gate_dst (N := 28) rfl ?_); refine Kd.R_make (Kd.int .u8) _ 5 rfl (N := 28) rfl 22 _ _ rfl ji4 rfl rfl Try.underlying22 (.int .u8 0) 1 info5 rfl (by decide) (by omega) 0 (ok := fun _ => True) (okp := fun _ => True) rfl (fun _ hk => hk) trivial (of_decide_eq_true (by first | (with_reducible assumption) | assumption)) (Nat.le_trans (Nat.mul_le_mul_right _ (of_decide_eq_true (by first | (with_reducible assumption) | assumption) : ji4.toNat ≤ 281474976710656)) (by omega)) (Below.refl _ _) (Nat.le_refl _) ?_; intro v336 w17 ho18 hb hg_ hnew_; clear hg_ hnew_; (first | rw [← Ny335.out] at ho18 | (simp only [Int.reduceToNat] at ho18; rw [← Ny335.out] at ho18)); have n0_ := Aside0.mk (Kd.V_elder' (S.v HO0_1.out) (Kd.R_base ho18) hb); have n1_ := Aside0.mk (Kd.V_elder' (S.v HO1_1.out) (Kd.R_base ho18) hb); have n2_ := Aside0.mk (Kd.R_lower (Kd.R_newM (M := fun k_ => (w.heap.size ≤ k_)) ho18 (below_size (by repeat (first | (with_reducible first | exact HB.out | apply below_alloc | apply pw_below_drewN | apply below_drew1 | refine below_set ?_ GE330.out | refine below_set ?_ GE331.out | refine below_set ?_ GE332.out) | exact HB.out))) (fun k_ h_ => h_)) (below_size (by repeat (first | (with_reducible first | exact HB.out | apply below_alloc | apply pw_below_drewN | apply below_drew1 | refine below_set ?_ GE330.out | refine below_set ?_ GE331.out | refine below_set ?_ GE332.out) | exact HB.out)))); have n3_ := Aside0.mk (blk_below (g := gb330) (o := .cells #[.bool a0_0, .slice A0_1 l0_1.length c0_1, .int .i64 a0_2] 36 (0, 0)) (S.b BK330.out) hb); have n4_ := Aside0.mk (blk_below (g := gb331) (o := .cells #[.bool a1_0, .slice A1_1 l1_1.length c1_1, .int .i64 a1_2] 36 (0, 0)) (S.b BK331.out) hb); have n5_ := Aside0.mk (blk_below (g := gb332) (o := .cells #[.bool false, .slice none 0 0, .int .i64 0] 36 (0, 0)) (S.b BK332.out) hb); have n6_ := Aside0.mk (below_step (by repeat (first | (with_reducible first | exact HB.out | apply below_alloc | apply pw_below_drewN | apply below_drew1 | refine below_set ?_ GE330.out | refine below_set ?_ GE331.out | refine below_set ?_ GE332.out) | exact HB.out)) hb); clear HO0_1; clear HO1_1; clear BK330; clear BK331; clear BK332; clear HB; have HO0_1 := n0_; have HO1_1 := n1_; have HO337 := n2_; have BK330 := n3_; have BK331 := n4_; have BK332 := n5_; have HB := n6_; clear n0_ n1_ n2_ n3_ n4_ n5_ n6_; clear hb ho18; have hcz19_0 : w17.cell? ⟨gb330, 0, none⟩ = some (.bool a0_0) := (blk_cell BK330.out 0).trans rfl; have hcz19_1 : w17.cell? ⟨gb330, 1, none⟩ = some (.slice A0_1 l0_1.length c0_1) := (blk_cell BK330.out 1).trans rfl; have hcz19_2 : w17.cell? ⟨gb330, 2, none⟩ = some (.int .i64 a0_2) := (blk_cell BK330.out 2).trans rfl; have hfz19_0 := blk_frozen BK330.out 0; have hfz19_1 := blk_frozen BK330.out 1; have hfz19_2 := blk_frozen BK330.out 2; have hcz20_0 : w17.cell? ⟨gb331, 0, none⟩ = some (.bool a1_0) := (blk_cell BK331.out 0).trans rfl; have hcz20_1 : w17.cell? ⟨gb331, 1, none⟩ = some (.slice A1_1 l1_1.length c1_1) := (blk_cell BK331.out 1).trans rfl; have hcz20_2 : w17.cell? ⟨gb331, 2, none⟩ = some (.int .i64 a1_2) := (blk_cell BK331.out 2).trans rfl; have hfz20_0 := blk_frozen BK331.out 0; have hfz20_1 := blk_frozen BK331.out 1; have hfz20_2 := blk_frozen BK331.out 2))
    go_loopg [10, 11] k (fun kq v10 v11 w' => ∃ (x8_1 : List Int) (x10_1 : Int) (x11_1 : Int), v10 = .int .i64 x10_1 ∧ v11 = .int .i64 x11_1 ∧ Aside0 (rubricref5_Add.l0 kq t333 t334 x8_1 a0_0 x10_1 x11_1 a0_0 l0_1 a0_2 a1_0 l1_1 a1_2 = some (r1, r2, r3, r4)) ∧ Aside0 (kq ≤ k) ∧ Aside0 (Kd.R (Kd.int .u8) 5 w' w.heap.size (fun k_ => (w.heap.size ≤ k_)) v336 x8_1) ∧ Aside0 (Kd.V (Kd.int .u8) 5 w' w.heap.size (fun k_ => ((P0_1_ k_ ∨ P1_1_ k_) ∨ w.heap.size ≤ k_) ∧ some k_ ≠ (v336 : Value).ownBlock ∧ k_ ≠ gb330 ∧ k_ ≠ gb331 ∧ k_ ≠ gb332) (.slice A0_1 l0_1.length c0_1) l0_1) ∧ Aside0 (Kd.V (Kd.int .u8) 5 w' w.heap.size (fun k_ => ((P0_1_ k_ ∨ P1_1_ k_) ∨ w.heap.size ≤ k_) ∧ some k_ ≠ (v336 : Value).ownBlock ∧ k_ ≠ gb330 ∧ k_ ≠ gb331 ∧ k_ ≠ gb332) (.slice A1_1 l1_1.length c1_1) l1_1) ∧ Aside0 (w'.heap[gb330]? = some (.cells #[.bool a0_0, (.slice A0_1 l0_1.length c0_1), .int .i64 a0_2] 36 (0, 0))) ∧ Aside0 (w'.heap[gb331]? = some (.cells #[.bool a1_0, (.slice A1_1 l1_1.length c1_1), .int .i64 a1_2] 36 (0, 0))) ∧ Aside0 (w'.heap[gb332]? = some (.cells #[.bool false, (.slice none 0 0), .int .i64 0] 36 (0, 0))) ∧ Aside0 (Below w.heap.size w w'))
    case atStart => exact ⟨(y335), (0), (wrap64 (-t334)), (by first | rfl | (simp; done) | (simp [*]; done)), (by first | rfl | (simp; done) | (simp [*]; done)), H', ⟨Nat.le_refl _⟩, ⟨by (with_reducible repeat (first | apply Kd.R_alloc | apply Kd.R_drewN | apply Kd.R_drew)); exact Kd.R_mono HO337.out (fun _ hk => hk.1)⟩, ⟨by (with_reducible repeat (first | apply Kd.V_alloc | apply Kd.V_drewN | apply Kd.V_drew)); exact Kd.V_mono HO0_1.out (fun _ hk => ⟨hk.1.1.1.1, ⟨hk.2, ⟨hk.1.1.1.2, ⟨hk.1.1.2, hk.1.2⟩⟩⟩⟩)⟩, ⟨by (with_reducible repeat (first | apply Kd.V_alloc | apply Kd.V_drewN | apply Kd.V_drew)); exact Kd.V_mono HO1_1.out (fun _ hk => ⟨hk.1.1.1.1, ⟨hk.2, ⟨hk.1.1.1.2, ⟨hk.1.1.2, hk.1.2⟩⟩⟩⟩)⟩, ⟨S.b BK330.out⟩, ⟨S.b BK331.out⟩, ⟨S.b BK332.out⟩, ⟨by repeat (first | (with_reducible first | exact HB.out | apply below_alloc | apply pw_below_drewN | apply below_drew1 | refine below_set ?_ GE330.out | refine below_set ?_ GE331.out | refine below_set ?_ GE332.out) | exact HB.out)⟩⟩
    case round =>
     clear H'
     try clear c1
     try clear p2
     try clear c3
     try clear c5
     try clear c5b0
     try clear c5b1
     try clear c6
     try clear c6b0
     try clear c6b1
     try clear p6
     try clear c7
     try clear c7b0
     try clear c7b1
     try clear c7b2
     try clear c11
     try clear c12
     try clear c14
     try clear hcz13_0
     try clear hcz13_1
     try clear hcz13_2
     try clear hcz15_0
     try clear hcz15_1
     try clear hcz15_2
     try clear hcz19_0
     try clear hcz19_1
     try clear hcz19_2
     try clear hcz20_0
     try clear hcz20_1
     try clear hcz20_2
     try clear hfz13_0
     try clear hfz13_1
     try clear hfz13_2
     try clear hfz15_0
     try clear hfz15_1
     try clear hfz15_2
     try clear hfz19_0
     try clear hfz19_1
     try clear hfz19_2
     try clear hfz20_0
     try clear hfz20_1
     try clear hfz20_2
     obtain ⟨x8_1, x10_1, x11_1, rfl, rfl, HA, HK1, HO_8, HO_331001, HO_332001, BK330, BK331, BK332, HB⟩ := hrel
     cases gk with
     | zero => exact absurd HA.out (by simp [rubricref5_Add.l0])
     | succ k1 =>
      have H := HA.out
      clear HA
      simp only [rubricref5_Add.l0] at H
      by_cases c21 : x11_1 ≤ t333
      ·rw [if_pos c21] at H
       have c21b0 : decide (x11_1 ≤ t333) = true := decide_eq_true c21
       clear c21
       replace H := Option.bind_eq_some_iff.mp H
       obtain ⟨t338, A220, H⟩ := H
       replace H : ((rubricref5_Dec_digit.f a1_0 l1_1 a1_2 x11_1).bind fun t339 => (if 0 ≤ (wrap64 (t333 - x11_1)) then (if (wrap64 (t333 - x11_1)) < (x8_1.length : Int) then (rubricref5_Add.l0 k1 t333 t334 (x8_1.set ((wrap64 (t333 - x11_1)) : Int).toNat ((Int.tmod (wrap64 ((wrap64 (t338 + t339)) + x10_1)) 10) % 256)) a0_0 (wrap64 (Int.tdiv (wrap64 ((wrap64 (t338 + t339)) + x10_1)) 10)) (wrap64 (x11_1 + 1)) a0_0 l0_1 a0_2 a1_0 l1_1 a1_2) else (none)) else (none))) = some (r1, r2, r3, r4) := H
       have A22 := Aside0.mk A220
       clear A220
       replace H := Option.bind_eq_some_iff.mp H
       obtain ⟨t339, A230, H⟩ := H
       replace H : (if 0 ≤ (wrap64 (t333 - x11_1)) then (if (wrap64 (t333 - x11_1)) < (x8_1.length : Int) then (rubricref5_Add.l0 k1 t333 t334 (x8_1.set ((wrap64 (t333 - x11_1)) : Int).toNat ((Int.tmod (wrap64 ((wrap64 (t338 + t339)) + x10_1)) 10) % 256)) a0_0 (wrap64 (Int.tdiv (wrap64 ((wrap64 (t338 + t339)) + x10_1)) 10)) (wrap64 (x11_1 + 1)) a0_0 l0_1 a0_2 a1_0 l1_1 a1_2) else (none)) else (none)) = some (r1, r2, r3, r4) := H
       have A23 := Aside0.mk A230
       clear A230
       obtain ⟨ji24, hji24⟩ : ∃ j_ : Int, (wrap64 (t333 - x11_1)) = j_ := ⟨_, rfl⟩
       replace H : (if 0 ≤ (ji24) then (if (ji24) < (x8_1.length : Int) then (rubricref5_Add.l0 k1 t333 t334 (x8_1.set ((ji24) : Int).toNat ((Int.tmod (wrap64 ((wrap64 (t338 + t339)) + x10_1)) 10) % 256)) a0_0 (wrap64 (Int.tdiv (wrap64 ((wrap64 (t338 + t339)) + x10_1)) 10)) (wrap64 (x11_1 + 1)) a0_0 l0_1 a0_2 a1_0 l1_1 a1_2) else (none)) else (none)) = some (r1, r2, r3, r4) := by first | (rw [hji24] at H; exact H) | (simp only [hji24] at H ⊢; exact H)
       (try rw [hji24] at A22)
       (try rw [hji24] at A23)
       have hji24w : (IntKind.i64.wrap (t333 - x11_1)) = ji24 := (i64_w _).trans hji24
       by_cases c25 : 0 ≤ (ji24)
       ·rw [if_pos c25] at H
        have c25b0 : decide (0 ≤ (ji24)) = true := decide_eq_true c25
        clear c25
        by_cases c26 : (ji24) < (x8_1.length : Int)
        ·rw [if_pos c26] at H
         have c26b0 : decide ((ji24) < (x8_1.length : Int)) = true := decide_eq_true c26
         clear c26
         obtain ⟨y340, hy340⟩ : ∃ y_ : List Int, y_ = (x8_1.set ((ji24) : Int).toNat ((Int.tmod (wrap64 ((wrap64 (t338 + t339)) + x10_1)) 10) % 256)) := ⟨_, rfl⟩
         replace H : (rubricref5_Add.l0 k1 t333 t334 y340 a0_0 (wrap64 (Int.tdiv (wrap64 ((wrap64 (t338 + t339)) + x10_1)) 10)) (wrap64 (x11_1 + 1)) a0_0 l0_1 a0_2 a1_0 l1_1 a1_2) = some (r1, r2, r3, r4) := by first | (rw [hy340]; with_reducible exact H) | (have H2_ := (Option.bind_some _ _).symm.trans H; rw [hy340]; with_reducible exact H2_) | (have H2_ := (Option.bind_some _ _).symm.trans H; with_reducible exact H2_) | with_reducible exact H | (rw [hy340]; exact H) | exact H
         have Ny340 := Aside0.mk hy340
         clear hy340
         have H' := Aside0.mk H
         clear H
         try go_wp2
         have n0_ := Aside0.mk (Kd.R_drew HO_8.out)
         have n1_ := Aside0.mk (Kd.V_drew HO_331001.out)
         have n2_ := Aside0.mk (Kd.V_drew HO_332001.out)
         have n3_ := Aside0.mk (blk_drew BK330.out)
         have n4_ := Aside0.mk (blk_drew BK331.out)
         have n5_ := Aside0.mk (blk_drew BK332.out)
         have n6_ := Aside0.mk (below_drew1 HB.out)
         clear HO_8
         clear HO_331001
         clear HO_332001
         clear BK330
         clear BK331
         clear BK332
         clear HB
         have HO_8 := n0_
         have HO_331001 := n1_
         have HO_332001 := n2_
         have BK330 := n3_
         have BK331 := n4_
         have BK332 := n5_
         have HB := n6_
         clear n0_ n1_ n2_ n3_ n4_ n5_ n6_
         refine start_ (n := 10) (S := fun w' => w'.cell? ⟨gb330, 0, none⟩ = some (.bool a0_0) ∧ w'.cell? ⟨gb330, 1, none⟩ = some (.slice A0_1 l0_1.length c0_1) ∧ w'.cell? ⟨gb330, 2, none⟩ = some (.int .i64 a0_2) ∧ w'.cell? ⟨gb331, 0, none⟩ = some (.bool a1_0) ∧ w'.cell? ⟨gb331, 1, none⟩ = some (.slice A1_1 l1_1.length c1_1) ∧ w'.cell? ⟨gb331, 2, none⟩ = some (.int .i64 a1_2)) (ds := []) #[false, false, false, false, false, false, false, false, false, false] (by kernel_rfl) rfl rfl ⟨(blk_cell BK330.out 0).trans rfl, (blk_cell BK330.out 1).trans rfl, (blk_cell BK330.out 2).trans rfl, (blk_cell BK331.out 0).trans rfl, (blk_cell BK331.out 1).trans rfl, (blk_cell BK331.out 2).trans rfl⟩ (fun hHeld => ?_); refine with_tabW rubricref5_Add.tab9 rubricref5_Add.bits9 (fun HT_ HW_ => ?_)
         generalize wr.drew = w28 at HO_8 HO_331001 HO_332001 BK330 BK331 BK332 HB hHeld ⊢
         refine pure_ (i := 1) (N := some 44) (v := ?_) (a' := ?_) #[false, true, false, false, false, false, false, false, false, false] rfl rfl (any_of HT_.out (by kernel_rfl)) (fun _ _ _ h => h) (Or.inl ⟨by rfl, ?_⟩) ?_ ?_
         rotate_left
         ·intro w'
          go_simp
          with_reducible rfl
         rotate_left
         ·simp only [Act.put, List.setIfInBounds_toArray, List.set_cons_zero, List.set_cons_succ, i64_w, i32_w]
          rfl
         refine pure_ (i := 4) (N := some 47) (v := ?_) (a' := ?_) #[false, true, false, false, true, false, false, false, false, false] rfl rfl (any_of HT_.out (by kernel_rfl)) (fun _ _ _ h => h) (Or.inl ⟨by rfl, ?_⟩) ?_ ?_
         rotate_left
         ·intro w'
          go_simp
          with_reducible rfl
         rotate_left
         ·simp only [Act.put, List.setIfInBounds_toArray, List.set_cons_zero, List.set_cons_succ, i64_w, i32_w]
          rfl
         refine pure_ (i := 7) (N := some 50) (v := ?_) (a' := ?_) #[false, true, false, false, true, false, false, true, false, false] rfl rfl (any_of HT_.out (by kernel_rfl)) (fun _ _ _ h => h) (Or.inl ⟨by rfl, ?_⟩) ?_ ?_
         rotate_left
         ·intro w'
          go_simp
          with_reducible rfl
         rotate_left
         ·simp only [Act.put, List.setIfInBounds_toArray, List.set_cons_zero, List.set_cons_succ, i64_w, i32_w]
          rfl
         refine take_ (i := 0) (N := some 43) (v := ?_) (a' := ?_) #[true, true, false, false, true, false, false, true, false, false] rfl rfl (take_ofW HT_.out HW_.out (by kernel_rfl)) (fun _ _ _ h => h) (Or.inl ⟨by rfl, ?_⟩) hHeld ?_ ?_
         rotate_left
         ·rintro w' ⟨s0, s1, s2, s3, s4, s5⟩
          go_simp
          with_reducible rfl
         rotate_left
         ·simp only [Act.put, List.setIfInBounds_toArray, List.set_cons_zero, List.set_cons_succ, i64_w, i32_w]
          rfl
         refine take_ (i := 3) (N := some 46) (v := ?_) (a' := ?_) #[true, true, false, true, true, false, false, true, false, false] rfl rfl (take_ofW HT_.out HW_.out (by kernel_rfl)) (fun _ _ _ h => h) (Or.inl ⟨by rfl, ?_⟩) hHeld ?_ ?_
         rotate_left
         ·rintro w' ⟨s0, s1, s2, s3, s4, s5⟩
          go_simp
          with_reducible rfl
         rotate_left
         ·simp only [Act.put, List.setIfInBounds_toArray, List.set_cons_zero, List.set_cons_succ, i64_w, i32_w]
          rfl
         refine one_ (i := 2) (N := some 45) #[true, true, true, true, true, false, false, true, false, false] rfl rfl (one_of HT_.out (by kernel_rfl)) (by decide) (fun K hK => ?_)
         refine goes_ Try.func31 (by kernel_rfl) rfl #[.agg #[.bool a0_0, .slice A0_1 l0_1.length c0_1, .int .i64 a0_2], .int .i64 x11_1] (by rfl) rfl rfl (by (try simp only [List.map_toArray, List.map_cons, List.map_nil]); first | done | rfl | (simp only [List.length_drop, List.length_take]; rfl)) ?_
         with_reducible refine (rubricref5_Dec_digit.calls a0_0 _ _ l0_1 a0_2 x11_1 t338 _ ?side1 ?side2 A22.out).mono ?_
         (case side1 => repeat (first | exact (Kd.V_reads' HO_331001.out).2.2 | (with_reducible refine Kd.C_alloc ?_ _) | (with_reducible refine Kd.C_drewN ?_ _) | (with_reducible refine Kd.C_drew ?_)))
         (case side2 => exact (Kd.V_reads' HO_331001.out).2.1)
         rintro e w29 ⟨rfl, hb⟩
         refine ⟨_, rfl, ?_⟩
         have n0_ := Aside0.mk (Kd.R_below (S.r HO_8.out) hb)
         have n1_ := Aside0.mk (Kd.V_below (S.v HO_331001.out) hb)
         have n2_ := Aside0.mk (Kd.V_below (S.v HO_332001.out) hb)
         have n3_ := Aside0.mk (blk_below (g := gb330) (o := .cells #[.bool a0_0, .slice A0_1 l0_1.length c0_1, .int .i64 a0_2] 36 (0, 0)) (S.b BK330.out) hb)
         have n4_ := Aside0.mk (blk_below (g := gb331) (o := .cells #[.bool a1_0, .slice A1_1 l1_1.length c1_1, .int .i64 a1_2] 36 (0, 0)) (S.b BK331.out) hb)
         have n5_ := Aside0.mk (blk_below (g := gb332) (o := .cells #[.bool false, .slice none 0 0, .int .i64 0] 36 (0, 0)) (S.b BK332.out) hb)
         have n6_ := Aside0.mk (below_step (by repeat (first | (with_reducible first | exact HB.out | apply below_alloc | apply pw_below_drewN | apply below_drew1 | refine below_set ?_ GE330.out | refine below_set ?_ GE331.out | refine below_set ?_ GE332.out) | exact HB.out)) hb)
         clear HO_8
         clear HO_331001
         clear HO_332001
         clear BK330
         clear BK331
         clear BK332
         clear HB
         have HO_8 := n0_
         have HO_331001 := n1_
         have HO_332001 := n2_
         have BK330 := n3_
         have BK331 := n4_
         have BK332 := n5_
         have HB := n6_
         clear n0_ n1_ n2_ n3_ n4_ n5_ n6_
         (try clear hb)
         (try clear hb2)
         (try clear hk)
         (try clear hi)
         refine hK.out _ _ ⟨(blk_cell BK330.out 0).trans rfl, (blk_cell BK330.out 1).trans rfl, (blk_cell BK330.out 2).trans rfl, (blk_cell BK331.out 0).trans rfl, (blk_cell BK331.out 1).trans rfl, (blk_cell BK331.out 2).trans rfl⟩ (fun hHeld => ?_)
         clear hK K
         refine norm_ (a' := ?_) ?_ ?_
         rotate_left
         ·show Act.put _ (some 45) _ = _
          simp only [Act.put, List.setIfInBounds_toArray, List.set_cons_zero, List.set_cons_succ, i64_w, i32_w]
          rfl
         refine one_ (i := 5) (N := some 48) #[true, true, true, true, true, true, false, true, false, false] rfl rfl (one_of HT_.out (by kernel_rfl)) (by decide) (fun K hK => ?_)
         refine goes_ Try.func31 (by kernel_rfl) rfl #[.agg #[.bool a1_0, .slice A1_1 l1_1.length c1_1, .int .i64 a1_2], .int .i64 x11_1] (by rfl) rfl rfl (by (try simp only [List.map_toArray, List.map_cons, List.map_nil]); first | done | rfl | (simp only [List.length_drop, List.length_take]; rfl)) ?_
         with_reducible refine (rubricref5_Dec_digit.calls a1_0 _ _ l1_1 a1_2 x11_1 t339 _ ?side1 ?side2 A23.out).mono ?_
         (case side1 => repeat (first | exact (Kd.V_reads' HO_332001.out).2.2 | (with_reducible refine Kd.C_alloc ?_ _) | (with_reducible refine Kd.C_drewN ?_ _) | (with_reducible refine Kd.C_drew ?_)))
         (case side2 => exact (Kd.V_reads' HO_332001.out).2.1)
         rintro e w30 ⟨rfl, hb⟩
         refine ⟨_, rfl, ?_⟩
         have n0_ := Aside0.mk (Kd.R_below (S.r HO_8.out) hb)
         have n1_ := Aside0.mk (Kd.V_below (S.v HO_331001.out) hb)
         have n2_ := Aside0.mk (Kd.V_below (S.v HO_332001.out) hb)
         have n3_ := Aside0.mk (blk_below (g := gb330) (o := .cells #[.bool a0_0, .slice A0_1 l0_1.length c0_1, .int .i64 a0_2] 36 (0, 0)) (S.b BK330.out) hb)
         have n4_ := Aside0.mk (blk_below (g := gb331) (o := .cells #[.bool a1_0, .slice A1_1 l1_1.length c1_1, .int .i64 a1_2] 36 (0, 0)) (S.b BK331.out) hb)
         have n5_ := Aside0.mk (blk_below (g := gb332) (o := .cells #[.bool false, .slice none 0 0, .int .i64 0] 36 (0, 0)) (S.b BK332.out) hb)
         have n6_ := Aside0.mk (below_step (by repeat (first | (with_reducible first | exact HB.out | apply below_alloc | apply pw_below_drewN | apply below_drew1 | refine below_set ?_ GE330.out | refine below_set ?_ GE331.out | refine below_set ?_ GE332.out) | exact HB.out)) hb)
         clear HO_8
         clear HO_331001
         clear HO_332001
         clear BK330
         clear BK331
         clear BK332
         clear HB
         have HO_8 := n0_
         have HO_331001 := n1_
         have HO_332001 := n2_
         have BK330 := n3_
         have BK331 := n4_
         have BK332 := n5_
         have HB := n6_
         clear n0_ n1_ n2_ n3_ n4_ n5_ n6_
         (try clear hb)
         (try clear hb2)
         (try clear hk)
         (try clear hi)
         refine hK.out _ _ ⟨(blk_cell BK330.out 0).trans rfl, (blk_cell BK330.out 1).trans rfl, (blk_cell BK330.out 2).trans rfl, (blk_cell BK331.out 0).trans rfl, (blk_cell BK331.out 1).trans rfl, (blk_cell BK331.out 2).trans rfl⟩ (fun hHeld => ?_)
         clear hK K
         refine norm_ (a' := ?_) ?_ ?_
         rotate_left
         ·show Act.put _ (some 48) _ = _
          simp only [Act.put, List.setIfInBounds_toArray, List.set_cons_zero, List.set_cons_succ, i64_w, i32_w]
          rfl
         refine pure_ (i := 6) (N := some 49) (v := ?_) (a' := ?_) #[true, true, true, true, true, true, true, true, false, false] rfl rfl (any_of HT_.out (by kernel_rfl)) (fun _ _ _ h => h) (Or.inl ⟨by rfl, ?_⟩) ?_ ?_
         rotate_left
         ·intro w'
          go_simp
          with_reducible rfl
         rotate_left
         ·simp only [Act.put, List.setIfInBounds_toArray, List.set_cons_zero, List.set_cons_succ, i64_w, i32_w]
          rfl
         refine pure_ (i := 8) (N := some 51) (v := ?_) (a' := ?_) #[true, true, true, true, true, true, true, true, true, false] rfl rfl (any_of HT_.out (by kernel_rfl)) (fun _ _ _ h => h) (Or.inl ⟨by rfl, ?_⟩) ?_ ?_
         rotate_left
         ·intro w'
          go_simp
          with_reducible rfl
         rotate_left
         ·simp only [Act.put, List.setIfInBounds_toArray, List.set_cons_zero, List.set_cons_succ, i64_w, i32_w]
          rfl
         refine pure_ (i := 9) (N := some 12) (v := ?_) (a' := ?_) #[true, true, true, true, true, true, true, true, true, true] rfl rfl (any_of HT_.out (by kernel_rfl)) (fun _ _ _ h => h) (Or.inl ⟨by rfl, ?_⟩) ?_ ?_
         rotate_left
         ·intro w'
          go_simp
          with_reducible rfl
         rotate_left
         ·simp only [Act.put, List.setIfInBounds_toArray, List.set_cons_zero, List.set_cons_succ, i64_w, i32_w]
          rfl
         refine done_ (done_of HT_.out (by kernel_rfl)) ?_
         have p27 : 0 ≤ ((ji24) : Int) := of_decide_eq_true (by first | (with_reducible assumption) | assumption)
         have q27 : ((ji24) : Int) < ((x8_1.length : Int) : Int) := of_decide_eq_true (by first | (with_reducible assumption) | assumption)
         obtain ⟨go27, co27, eo27, gb27, gl27, cl27, HG27⟩ := Kd.R_form HO_8.out (by omega)
         (first | cases eo27 | (injection eo27 with ea_ en_ ec_; (first | subst ea_ | (injection ea_ with ea_; subst ea_)); subst ec_; clear en_))
         have GB27 := Aside0.mk gb27
         have GG27 := Aside0.mk HG27
         clear gb27 gl27 HG27
         obtain ⟨hx27_0, hf27_0⟩ := Kd.R_celln 0 HO_8.out ((ji24) : Int) p27 q27
         replace p27 := eq_true p27
         replace q27 := eq_true q27
         obtain ⟨hy31_, hz31_⟩ := Kd.R_celln 0 HO_8.out ((ji24) : Int) (of_decide_eq_true (by first | (with_reducible assumption) | assumption)) (of_decide_eq_true (by first | (with_reducible assumption) | assumption))
         have HP31 := Kd.R_putg HO_8.out ((ji24) : Int) ((Int.tmod (wrap64 ((wrap64 (t338 + t339)) + x10_1)) 10) % 256)
         try go_wp2_with (first | ((with_reducible refine gate_store (t := 5) (p := 59) rfl ?_); refine store_event (t := 5) (p := 59) (v := ?vo_w32) (w1 := (w30.setCell ⟨go27, ((ji24) : Int).toNat, none⟩ (.int .u8 ((Int.tmod (wrap64 ((wrap64 (t338 + t339)) + x10_1)) 10) % 256)))) ?hg ?ho ?hn ?hr ?_; (case ho => rfl); (case hg => rfl); (case hn => rfl); (case hr => first | (go_simp; done) | (go_simp; rfl)); intro w32 hw; have hg : w30.grownBy w32 (some go27) := (by rw [hw]; exact HP31.2); have hp_ : Kd.R (Kd.int .u8) 5 w32 w.heap.size (fun k_ => (w.heap.size ≤ k_)) (.slice (some ⟨go27, 0, none⟩) x8_1.length co27) y340 := (by rw [hw, Ny340.out]; exact HP31.1); clear HP31; have n0_ := Aside0.mk (hp_); have n1_ := Aside0.mk (Kd.V_afterv (v := (.slice (some ⟨go27, 0, none⟩) x8_1.length co27)) (v1 := (.slice (some ⟨go27, 0, none⟩) x8_1.length co27)) (ok := (fun k_ => ((P0_1_ k_ ∨ P1_1_ k_) ∨ w.heap.size ≤ k_) ∧ k_ ≠ gb330 ∧ k_ ≠ gb331 ∧ k_ ≠ gb332)) (by (with_reducible repeat (first | apply Kd.V_alloc | apply Kd.V_drewN | apply Kd.V_drew)); exact Kd.V_mono HO_331001.out (fun _ hk => ⟨⟨hk.1, ⟨hk.2.2.1, ⟨hk.2.2.2.1, hk.2.2.2.2⟩⟩⟩, hk.2.1⟩)) hg (.inl rfl)); have n2_ := Aside0.mk (Kd.V_afterv (v := (.slice (some ⟨go27, 0, none⟩) x8_1.length co27)) (v1 := (.slice (some ⟨go27, 0, none⟩) x8_1.length co27)) (ok := (fun k_ => ((P0_1_ k_ ∨ P1_1_ k_) ∨ w.heap.size ≤ k_) ∧ k_ ≠ gb330 ∧ k_ ≠ gb331 ∧ k_ ≠ gb332)) (by (with_reducible repeat (first | apply Kd.V_alloc | apply Kd.V_drewN | apply Kd.V_drew)); exact Kd.V_mono HO_332001.out (fun _ hk => ⟨⟨hk.1, ⟨hk.2.2.1, ⟨hk.2.2.2.1, hk.2.2.2.2⟩⟩⟩, hk.2.1⟩)) hg (.inl rfl)); have n3_ := Aside0.mk (blk_grown (g := gb330) (o := .cells #[.bool a0_0, .slice A0_1 l0_1.length c0_1, .int .i64 a0_2] 36 (0, 0)) (S.b BK330.out) hg (Kd.R_ne HO_8.out BK330.out (by decide))); have n4_ := Aside0.mk (blk_grown (g := gb331) (o := .cells #[.bool a1_0, .slice A1_1 l1_1.length c1_1, .int .i64 a1_2] 36 (0, 0)) (S.b BK331.out) hg (Kd.R_ne HO_8.out BK331.out (by decide))); have n5_ := Aside0.mk (blk_grown (g := gb332) (o := .cells #[.bool false, .slice none 0 0, .int .i64 0] 36 (0, 0)) (S.b BK332.out) hg (Kd.R_ne HO_8.out BK332.out (by decide))); have n6_ := Aside0.mk ((by rw [hw]; exact below_set (HB.out) GB27.out : Below w.heap.size w w32)); clear HO_8; clear HO_331001; clear HO_332001; clear BK330; clear BK331; clear BK332; clear HB; have HO_8 := n0_; have HO_331001 := n1_; have HO_332001 := n2_; have BK330 := n3_; have BK331 := n4_; have BK332 := n5_; have HB := n6_; clear n0_ n1_ n2_ n3_ n4_ n5_ n6_; clear hg hw hp_))
         go_roundg k1
         case measure => have := HK1.out; omega
         case rel => exact ⟨(y340), (wrap64 (Int.tdiv (wrap64 ((wrap64 (t338 + t339)) + x10_1)) 10)), (wrap64 (x11_1 + 1)), (by first | rfl | (simp; done) | (simp [*]; done)), (by first | rfl | (simp; done) | (simp [*]; done)), H', ⟨by have := HK1.out; omega⟩, ⟨S.r HO_8.out⟩, ⟨by (with_reducible repeat (first | apply Kd.V_alloc | apply Kd.V_drewN | apply Kd.V_drew)); exact Kd.V_mono HO_331001.out (fun _ hk => ⟨hk.1.1, ⟨hk.2, ⟨hk.1.2.1, ⟨hk.1.2.2.1, hk.1.2.2.2⟩⟩⟩⟩)⟩, ⟨by (with_reducible repeat (first | apply Kd.V_alloc | apply Kd.V_drewN | apply Kd.V_drew)); exact Kd.V_mono HO_332001.out (fun _ hk => ⟨hk.1.1, ⟨hk.2, ⟨hk.1.2.1, ⟨hk.1.2.2.1, hk.1.2.2.2⟩⟩⟩⟩)⟩, ⟨S.b BK330.out⟩, ⟨S.b BK331.out⟩, ⟨S.b BK332.out⟩, ⟨by repeat (first | (with_reducible first | exact HB.out | apply below_alloc | apply pw_below_drewN | apply below_drew1 | refine below_set ?_ GE330.out | refine below_set ?_ GE331.out | refine below_set ?_ GE332.out) | exact HB.out)⟩⟩
        ·rw [if_neg c26] at H
         exact absurd H (by simp)
       ·rw [if_neg c25] at H
        exact absurd H (by simp)
      ·rw [if_neg c21] at H
       have c21b0 : decide (x11_1 ≤ t333) = false := decide_eq_false c21
       clear c21
       replace H := Option.bind_eq_some_iff.mp H
       obtain ⟨⟨t341, t342, t345⟩, A330, H⟩ := H
       replace H : (if (t342.length : Int) > 4096 then (some (false, ([] : List Int), 0, 3)) else (some (t341, t342, t345, 0))) = some (r1, r2, r3, r4) := H
       have A33 := Aside0.mk A330
       clear A330
       by_cases c34 : (t342.length : Int) > 4096
       ·rw [if_pos c34] at H
        have c34b0 : decide (4096 < (t342.length : Int)) = true := decide_eq_true c34
        have c34b1 : decide (4096 < t342.length) = true := decide_eq_true (by omega)
        clear c34
        simp only [Option.some.injEq, Prod.mk.injEq] at H
        obtain ⟨rfl, rfl, rfl, rfl⟩ := H
        obtain ⟨Ao35, co35, eo35⟩ := Kd.R_slice HO_8.out
        subst eo35
        go_wp2_with (first | ((with_reducible refine gate_callee (f := 33) rfl ?_); refine goesL_ (some 101) rfl rfl Try.func33 (by kernel_rfl) rfl #[.bool a0_0, .slice Ao35 x8_1.length co35, .int .i64 t334] rfl (by (try simp only [List.map_toArray, List.map_cons, List.map_nil]); first | done | rfl | (simp only [List.length_drop, List.length_take]; rfl)) ?_; (with_reducible refine (rubricref5_canon.calls k1 a0_0 (fun k_ => some k_ = (.slice Ao35 x8_1.length co35 : Value).ownBlock) _ _ x8_1 t334 t341 t342 t345 _ ?side1 A33.out).mono ?_); (case side1 => exact Kd.R_V (Kd.R_tight rfl (Kd.R_types (Kd.R_types (Kd.R_types (HO_8.out) BK330.out (by decide)) BK331.out (by decide)) BK332.out (by decide)))); rintro e w36 ⟨v343, rfl, ho0, hb⟩; refine ⟨_, rfl, ?_⟩; have n0_ := Aside0.mk (Kd.R_elder' (S.r HO_8.out) (Kd.R_base ho0) hb); have n1_ := Aside0.mk (Kd.V_elder' (S.v HO_331001.out) (Kd.R_base ho0) hb); have n2_ := Aside0.mk (Kd.V_elder' (S.v HO_332001.out) (Kd.R_base ho0) hb); have n3_ := Aside0.mk (Kd.R_lower (Kd.R_new' (Kd.R_newM (M := fun k_ => (w.heap.size ≤ k_)) (Kd.R_mono (ok' := fun k_ => True) ho0 (fun _ hk_ => trivial)) (below_size (by repeat (first | (with_reducible first | exact HB.out | apply below_alloc | apply pw_below_drewN | apply below_drew1 | refine below_set ?_ GE330.out | refine below_set ?_ GE331.out | refine below_set ?_ GE332.out) | exact HB.out))) (fun k_ h_ => h_)) (Kd.R_lt (S.r HO_8.out))) (below_size (by repeat (first | (with_reducible first | exact HB.out | apply below_alloc | apply pw_below_drewN | apply below_drew1 | refine below_set ?_ GE330.out | refine below_set ?_ GE331.out | refine below_set ?_ GE332.out) | exact HB.out)))); have n4_ := Aside0.mk (blk_below (g := gb330) (o := .cells #[.bool a0_0, .slice A0_1 l0_1.length c0_1, .int .i64 a0_2] 36 (0, 0)) (S.b BK330.out) hb); have n5_ := Aside0.mk (blk_below (g := gb331) (o := .cells #[.bool a1_0, .slice A1_1 l1_1.length c1_1, .int .i64 a1_2] 36 (0, 0)) (S.b BK331.out) hb); have n6_ := Aside0.mk (blk_below (g := gb332) (o := .cells #[.bool false, .slice none 0 0, .int .i64 0] 36 (0, 0)) (S.b BK332.out) hb); have n7_ := Aside0.mk (below_step (by repeat (first | (with_reducible first | exact HB.out | apply below_alloc | apply pw_below_drewN | apply below_drew1 | refine below_set ?_ GE330.out | refine below_set ?_ GE331.out | refine below_set ?_ GE332.out) | exact HB.out)) hb); clear HO_8; clear HO_331001; clear HO_332001; clear BK330; clear BK331; clear BK332; clear HB; have HO_8 := n0_; have HO_331001 := n1_; have HO_332001 := n2_; have HO344 := n3_; have BK330 := n4_; have BK331 := n5_; have BK332 := n6_; have HB := n7_; clear n0_ n1_ n2_ n3_ n4_ n5_ n6_ n7_; (try clear hb); (try clear hb2); (try clear hk); (try clear hi); (try clear ho0)) | ((with_reducible refine gate_dst (N := 17) rfl ?_); refine box_event ?hg (N := 17) ?hd (cs := #[.bool false, .slice none 0 0, .int .i64 0]) (t := 36) ?hr ?_; (case hd => rfl); (case hg => rfl); (case hr => first | (go_simp; done) | (go_simp; rfl)); intro gb346 hg w37 hbox hb; have n0_ := Aside0.mk (Kd.R_below (S.r HO_8.out) hb); have n1_ := Aside0.mk (Kd.V_below (Kd.V_elderB (S.v HO_331001.out) gb346 (Nat.le_of_eq hg.symm)) hb); have n2_ := Aside0.mk (Kd.V_below (Kd.V_elderB (S.v HO_332001.out) gb346 (Nat.le_of_eq hg.symm)) hb); have n3_ := Aside0.mk (Kd.R_below (S.r HO344.out) hb); have n4_ := Aside0.mk (blk_below (g := gb330) (o := .cells #[.bool a0_0, .slice A0_1 l0_1.length c0_1, .int .i64 a0_2] 36 (0, 0)) (S.b BK330.out) hb); have n5_ := Aside0.mk (blk_below (g := gb331) (o := .cells #[.bool a1_0, .slice A1_1 l1_1.length c1_1, .int .i64 a1_2] 36 (0, 0)) (S.b BK331.out) hb); have n6_ := Aside0.mk (blk_below (g := gb332) (o := .cells #[.bool false, .slice none 0 0, .int .i64 0] 36 (0, 0)) (S.b BK332.out) hb); have n7_ := Aside0.mk (below_step (by repeat (first | (with_reducible first | exact HB.out | apply below_alloc | apply pw_below_drewN | apply below_drew1 | refine below_set ?_ GE330.out | refine below_set ?_ GE331.out | refine below_set ?_ GE332.out) | exact HB.out)) hb); have n8_ := Aside0.mk (hbox); have n9_ := Aside0.mk ((by rw [hg]; exact (below_size (by repeat (first | (with_reducible first | exact HB.out | apply below_alloc | apply pw_below_drewN | apply below_drew1 | refine below_set ?_ GE330.out | refine below_set ?_ GE331.out | refine below_set ?_ GE332.out) | exact HB.out))) : w.heap.size ≤ gb346)); have n10_ := Aside0.mk ((by rw [hg]; exact (below_size (by repeat (first | (with_reducible first | exact HB.out | apply below_alloc | apply pw_below_drewN | apply below_drew1 | refine below_set ?_ GE330.out | refine below_set ?_ GE331.out | refine below_set ?_ GE332.out) | exact HB.out))) : w.heap.size ≤ gb346)); have n11_ := Aside0.mk ((by rw [hg]; exact Nat.ne_of_lt (blk_lt (g := gb330) (o := .cells #[.bool a0_0, .slice A0_1 l0_1.length c0_1, .int .i64 a0_2] 36 (0, 0)) (S.b BK330.out)) : gb330 ≠ gb346)); have n12_ := Aside0.mk ((by rw [hg]; exact Nat.ne_of_gt (blk_lt (g := gb330) (o := .cells #[.bool a0_0, .slice A0_1 l0_1.length c0_1, .int .i64 a0_2] 36 (0, 0)) (S.b BK330.out)) : gb346 ≠ gb330)); have n13_ := Aside0.mk ((by rw [hg]; exact Nat.ne_of_lt (blk_lt (g := gb331) (o := .cells #[.bool a1_0, .slice A1_1 l1_1.length c1_1, .int .i64 a1_2] 36 (0, 0)) (S.b BK331.out)) : gb331 ≠ gb346)); have n14_ := Aside0.mk ((by rw [hg]; exact Nat.ne_of_gt (blk_lt (g := gb331) (o := .cells #[.bool a1_0, .slice A1_1 l1_1.length c1_1, .int .i64 a1_2] 36 (0, 0)) (S.b BK331.out)) : gb346 ≠ gb331)); have n15_ := Aside0.mk ((by rw [hg]; exact Nat.ne_of_lt (blk_lt (g := gb332) (o := .cells #[.bool false, .slice none 0 0, .int .i64 0] 36 (0, 0)) (S.b BK332.out)) : gb332 ≠ gb346)); have n16_ := Aside0.mk ((by rw [hg]; exact Nat.ne_of_gt (blk_lt (g := gb332) (o := .cells #[.bool false, .slice none 0 0, .int .i64 0] 36 (0, 0)) (S.b BK332.out)) : gb346 ≠ gb332)); clear HO_8; clear HO_331001; clear HO_332001; clear HO344; clear BK330; clear BK331; clear BK332; clear HB; have HO_8 := n0_; have HO_331001 := n1_; have HO_332001 := n2_; have HO344 := n3_; have BK330 := n4_; have BK331 := n5_; have BK332 := n6_; have HB := n7_; have BK346 := n8_; have GW346 := n9_; have GE346 := n10_; have NB330_346 := n11_; have NB346_330 := n12_; have NB331_346 := n13_; have NB346_331 := n14_; have NB332_346 := n15_; have NB346_332 := n16_; clear n0_ n1_ n2_ n3_ n4_ n5_ n6_ n7_ n8_ n9_ n10_ n11_ n12_ n13_ n14_ n15_ n16_; clear hb hbox hg; have hnb38 := NB346_330.out; have hnc38 := NB330_346.out; have hnb39 := NB346_331.out; have hnc39 := NB331_346.out; have hnb40 := NB346_332.out; have hnc40 := NB332_346.out; have hcz41_0 : w37.cell? ⟨gb346, 0, none⟩ = some (.bool false) := (blk_cell BK346.out 0).trans rfl; have hcz41_1 : w37.cell? ⟨gb346, 1, none⟩ = some (.slice none 0 0) := (blk_cell BK346.out 1).trans rfl; have hcz41_2 : w37.cell? ⟨gb346, 2, none⟩ = some (.int .i64 0) := (blk_cell BK346.out 2).trans rfl; have hfz41_0 := blk_frozen BK346.out 0; have hfz41_1 := blk_frozen BK346.out 1; have hfz41_2 := blk_frozen BK346.out 2; obtain ⟨Ao42, co42, eo42⟩ := Kd.R_slice HO344.out; subst eo42; have hnb43 := NB332_330.out; have hnc43 := NB330_332.out; have hnb44 := NB332_331.out; have hnc44 := NB331_332.out; have hcz45_0 : w37.cell? ⟨gb332, 0, none⟩ = some (.bool false) := (blk_cell BK332.out 0).trans rfl; have hcz45_1 : w37.cell? ⟨gb332, 1, none⟩ = some (.slice none 0 0) := (blk_cell BK332.out 1).trans rfl; have hcz45_2 : w37.cell? ⟨gb332, 2, none⟩ = some (.int .i64 0) := (blk_cell BK332.out 2).trans rfl; have hfz45_0 := blk_frozen BK332.out 0; have hfz45_1 := blk_frozen BK332.out 1; have hfz45_2 := blk_frozen BK332.out 2))
        refine bodyPost_ret (results_ct rfl _ _ gb332 36 #[.bool false, .slice none 0 0, .int .i64 0] (0, 0) _ rfl (by (with_reducible repeat (first | refine blk_drewN ?_ _ | refine blk_drew ?_ | refine blk_alloc ?_ _)); refine blk_put (cs := #[.bool false, .slice none 0 0, .int .i64 0]) ?_ 2 _ rfl; (with_reducible repeat (first | refine blk_drewN ?_ _ | refine blk_drew ?_ | refine blk_alloc ?_ _)); refine blk_put (cs := #[.bool false, .slice none 0 0, .int .i64 0]) ?_ 1 _ rfl; (with_reducible repeat (first | refine blk_drewN ?_ _ | refine blk_drew ?_ | refine blk_alloc ?_ _)); refine blk_put (cs := #[.bool false, .slice none 0 0, .int .i64 0]) ?_ 0 _ rfl; (with_reducible repeat (first | refine blk_drewN ?_ _ | refine blk_drew ?_ | refine blk_alloc ?_ _)); refine blk_far ?_ NB332_346.out _; (with_reducible repeat (first | refine blk_drewN ?_ _ | refine blk_drew ?_ | refine blk_alloc ?_ _)); refine blk_far ?_ NB332_346.out _; (with_reducible repeat (first | refine blk_drewN ?_ _ | refine blk_drew ?_ | refine blk_alloc ?_ _)); refine blk_far ?_ NB332_346.out _; (with_reducible repeat (first | refine blk_drewN ?_ _ | refine blk_drew ?_ | refine blk_alloc ?_ _)); exact BK332.out) Try.underlying36 rfl (by kernel_rfl)) rfl ?_
        exact ⟨_, by first | rfl | (simp [errW_none, errW_some] <;> rfl) | (simp only [← hji4]; first | rfl | (simp [errW_none, errW_some] <;> rfl)) | (simp [*, errW_none, errW_some] <;> rfl), by first | exact Kd.R_nil _ _ _ _ _ | exact Kd.N_nil _ _ _ _ _ | exact Kd.V_nil _ _ _ _ _ | exact Kd.Q_nil _ _ _ _ _ | exact Kd.S_nil _ _ _ _ _, by repeat (first | (with_reducible first | exact HB.out | apply below_alloc | apply pw_below_drewN | apply below_drew1 | refine below_set ?_ GE330.out | refine below_set ?_ GE331.out | refine below_set ?_ GE332.out | refine below_set ?_ GE346.out) | exact HB.out)⟩
       ·rw [if_neg c34] at H
        have c34b0 : decide (4096 < (t342.length : Int)) = false := decide_eq_false c34
        have c34b1 : decide (4096 < t342.length) = false := decide_eq_false (by omega)
        clear c34
        simp only [Option.some.injEq, Prod.mk.injEq] at H
        obtain ⟨rfl, rfl, rfl, rfl⟩ := H
        obtain ⟨Ao46, co46, eo46⟩ := Kd.R_slice HO_8.out
        subst eo46
        go_wp2_with (first | ((with_reducible refine gate_callee (f := 33) rfl ?_); refine goesL_ (some 101) rfl rfl Try.func33 (by kernel_rfl) rfl #[.bool a0_0, .slice Ao46 x8_1.length co46, .int .i64 t334] rfl (by (try simp only [List.map_toArray, List.map_cons, List.map_nil]); first | done | rfl | (simp only [List.length_drop, List.length_take]; rfl)) ?_; (with_reducible refine (rubricref5_canon.calls k1 a0_0 (fun k_ => some k_ = (.slice Ao46 x8_1.length co46 : Value).ownBlock) _ _ x8_1 t334 t341 t342 t345 _ ?side1 A33.out).mono ?_); (case side1 => exact Kd.R_V (Kd.R_tight rfl (Kd.R_types (Kd.R_types (Kd.R_types (HO_8.out) BK330.out (by decide)) BK331.out (by decide)) BK332.out (by decide)))); rintro e w47 ⟨v343, rfl, ho0, hb⟩; refine ⟨_, rfl, ?_⟩; have n0_ := Aside0.mk (Kd.R_elder' (S.r HO_8.out) (Kd.R_base ho0) hb); have n1_ := Aside0.mk (Kd.V_elder' (S.v HO_331001.out) (Kd.R_base ho0) hb); have n2_ := Aside0.mk (Kd.V_elder' (S.v HO_332001.out) (Kd.R_base ho0) hb); have n3_ := Aside0.mk (Kd.R_lower (Kd.R_new' (Kd.R_newM (M := fun k_ => (w.heap.size ≤ k_)) (Kd.R_mono (ok' := fun k_ => True) ho0 (fun _ hk_ => trivial)) (below_size (by repeat (first | (with_reducible first | exact HB.out | apply below_alloc | apply pw_below_drewN | apply below_drew1 | refine below_set ?_ GE330.out | refine below_set ?_ GE331.out | refine below_set ?_ GE332.out) | exact HB.out))) (fun k_ h_ => h_)) (Kd.R_lt (S.r HO_8.out))) (below_size (by repeat (first | (with_reducible first | exact HB.out | apply below_alloc | apply pw_below_drewN | apply below_drew1 | refine below_set ?_ GE330.out | refine below_set ?_ GE331.out | refine below_set ?_ GE332.out) | exact HB.out)))); have n4_ := Aside0.mk (blk_below (g := gb330) (o := .cells #[.bool a0_0, .slice A0_1 l0_1.length c0_1, .int .i64 a0_2] 36 (0, 0)) (S.b BK330.out) hb); have n5_ := Aside0.mk (blk_below (g := gb331) (o := .cells #[.bool a1_0, .slice A1_1 l1_1.length c1_1, .int .i64 a1_2] 36 (0, 0)) (S.b BK331.out) hb); have n6_ := Aside0.mk (blk_below (g := gb332) (o := .cells #[.bool false, .slice none 0 0, .int .i64 0] 36 (0, 0)) (S.b BK332.out) hb); have n7_ := Aside0.mk (below_step (by repeat (first | (with_reducible first | exact HB.out | apply below_alloc | apply pw_below_drewN | apply below_drew1 | refine below_set ?_ GE330.out | refine below_set ?_ GE331.out | refine below_set ?_ GE332.out) | exact HB.out)) hb); clear HO_8; clear HO_331001; clear HO_332001; clear BK330; clear BK331; clear BK332; clear HB; have HO_8 := n0_; have HO_331001 := n1_; have HO_332001 := n2_; have HO344 := n3_; have BK330 := n4_; have BK331 := n5_; have BK332 := n6_; have HB := n7_; clear n0_ n1_ n2_ n3_ n4_ n5_ n6_ n7_; (try clear hb); (try clear hb2); (try clear hk); (try clear hi); (try clear ho0)) | ((with_reducible refine gate_dst (N := 17) rfl ?_); refine box_event ?hg (N := 17) ?hd (cs := #[.bool false, .slice none 0 0, .int .i64 0]) (t := 36) ?hr ?_; (case hd => rfl); (case hg => rfl); (case hr => first | (go_simp; done) | (go_simp; rfl)); intro gb346 hg w48 hbox hb; have n0_ := Aside0.mk (Kd.R_below (S.r HO_8.out) hb); have n1_ := Aside0.mk (Kd.V_below (Kd.V_elderB (S.v HO_331001.out) gb346 (Nat.le_of_eq hg.symm)) hb); have n2_ := Aside0.mk (Kd.V_below (Kd.V_elderB (S.v HO_332001.out) gb346 (Nat.le_of_eq hg.symm)) hb); have n3_ := Aside0.mk (Kd.R_below (S.r HO344.out) hb); have n4_ := Aside0.mk (blk_below (g := gb330) (o := .cells #[.bool a0_0, .slice A0_1 l0_1.length c0_1, .int .i64 a0_2] 36 (0, 0)) (S.b BK330.out) hb); have n5_ := Aside0.mk (blk_below (g := gb331) (o := .cells #[.bool a1_0, .slice A1_1 l1_1.length c1_1, .int .i64 a1_2] 36 (0, 0)) (S.b BK331.out) hb); have n6_ := Aside0.mk (blk_below (g := gb332) (o := .cells #[.bool false, .slice none 0 0, .int .i64 0] 36 (0, 0)) (S.b BK332.out) hb); have n7_ := Aside0.mk (below_step (by repeat (first | (with_reducible first | exact HB.out | apply below_alloc | apply pw_below_drewN | apply below_drew1 | refine below_set ?_ GE330.out | refine below_set ?_ GE331.out | refine below_set ?_ GE332.out) | exact HB.out)) hb); have n8_ := Aside0.mk (hbox); have n9_ := Aside0.mk ((by rw [hg]; exact (below_size (by repeat (first | (with_reducible first | exact HB.out | apply below_alloc | apply pw_below_drewN | apply below_drew1 | refine below_set ?_ GE330.out | refine below_set ?_ GE331.out | refine below_set ?_ GE332.out) | exact HB.out))) : w.heap.size ≤ gb346)); have n10_ := Aside0.mk ((by rw [hg]; exact (below_size (by repeat (first | (with_reducible first | exact HB.out | apply below_alloc | apply pw_below_drewN | apply below_drew1 | refine below_set ?_ GE330.out | refine below_set ?_ GE331.out | refine below_set ?_ GE332.out) | exact HB.out))) : w.heap.size ≤ gb346)); have n11_ := Aside0.mk ((by rw [hg]; exact Nat.ne_of_lt (blk_lt (g := gb330) (o := .cells #[.bool a0_0, .slice A0_1 l0_1.length c0_1, .int .i64 a0_2] 36 (0, 0)) (S.b BK330.out)) : gb330 ≠ gb346)); have n12_ := Aside0.mk ((by rw [hg]; exact Nat.ne_of_gt (blk_lt (g := gb330) (o := .cells #[.bool a0_0, .slice A0_1 l0_1.length c0_1, .int .i64 a0_2] 36 (0, 0)) (S.b BK330.out)) : gb346 ≠ gb330)); have n13_ := Aside0.mk ((by rw [hg]; exact Nat.ne_of_lt (blk_lt (g := gb331) (o := .cells #[.bool a1_0, .slice A1_1 l1_1.length c1_1, .int .i64 a1_2] 36 (0, 0)) (S.b BK331.out)) : gb331 ≠ gb346)); have n14_ := Aside0.mk ((by rw [hg]; exact Nat.ne_of_gt (blk_lt (g := gb331) (o := .cells #[.bool a1_0, .slice A1_1 l1_1.length c1_1, .int .i64 a1_2] 36 (0, 0)) (S.b BK331.out)) : gb346 ≠ gb331)); have n15_ := Aside0.mk ((by rw [hg]; exact Nat.ne_of_lt (blk_lt (g := gb332) (o := .cells #[.bool false, .slice none 0 0, .int .i64 0] 36 (0, 0)) (S.b BK332.out)) : gb332 ≠ gb346)); have n16_ := Aside0.mk ((by rw [hg]; exact Nat.ne_of_gt (blk_lt (g := gb332) (o := .cells #[.bool false, .slice none 0 0, .int .i64 0] 36 (0, 0)) (S.b BK332.out)) : gb346 ≠ gb332)); clear HO_8; clear HO_331001; clear HO_332001; clear HO344; clear BK330; clear BK331; clear BK332; clear HB; have HO_8 := n0_; have HO_331001 := n1_; have HO_332001 := n2_; have HO344 := n3_; have BK330 := n4_; have BK331 := n5_; have BK332 := n6_; have HB := n7_; have BK346 := n8_; have GW346 := n9_; have GE346 := n10_; have NB330_346 := n11_; have NB346_330 := n12_; have NB331_346 := n13_; have NB346_331 := n14_; have NB332_346 := n15_; have NB346_332 := n16_; clear n0_ n1_ n2_ n3_ n4_ n5_ n6_ n7_ n8_ n9_ n10_ n11_ n12_ n13_ n14_ n15_ n16_; clear hb hbox hg; have hnb49 := NB346_330.out; have hnc49 := NB330_346.out; have hnb50 := NB346_331.out; have hnc50 := NB331_346.out; have hnb51 := NB346_332.out; have hnc51 := NB332_346.out; have hcz52_0 : w48.cell? ⟨gb346, 0, none⟩ = some (.bool false) := (blk_cell BK346.out 0).trans rfl; have hcz52_1 : w48.cell? ⟨gb346, 1, none⟩ = some (.slice none 0 0) := (blk_cell BK346.out 1).trans rfl; have hcz52_2 : w48.cell? ⟨gb346, 2, none⟩ = some (.int .i64 0) := (blk_cell BK346.out 2).trans rfl; have hfz52_0 := blk_frozen BK346.out 0; have hfz52_1 := blk_frozen BK346.out 1; have hfz52_2 := blk_frozen BK346.out 2; obtain ⟨Ao53, co53, eo53⟩ := Kd.R_slice HO344.out; subst eo53; have hnb54 := NB332_330.out; have hnc54 := NB330_332.out; have hnb55 := NB332_331.out; have hnc55 := NB331_332.out; have hcz56_0 : w48.cell? ⟨gb332, 0, none⟩ = some (.bool false) := (blk_cell BK332.out 0).trans rfl; have hcz56_1 : w48.cell? ⟨gb332, 1, none⟩ = some (.slice none 0 0) := (blk_cell BK332.out 1).trans rfl; have hcz56_2 : w48.cell? ⟨gb332, 2, none⟩ = some (.int .i64 0) := (blk_cell BK332.out 2).trans rfl; have hfz56_0 := blk_frozen BK332.out 0; have hfz56_1 := blk_frozen BK332.out 1; have hfz56_2 := blk_frozen BK332.out 2))
        refine bodyPost_ret (results_ct rfl _ _ gb332 36 #[.bool t341, .slice Ao53 t342.length co53, .int .i64 t345] (0, 0) _ rfl (by (with_reducible repeat (first | refine blk_drewN ?_ _ | refine blk_drew ?_ | refine blk_alloc ?_ _)); refine blk_put (cs := #[.bool t341, .slice Ao53 t342.length co53, .int .i64 0]) ?_ 2 _ rfl; (with_reducible repeat (first | refine blk_drewN ?_ _ | refine blk_drew ?_ | refine blk_alloc ?_ _)); refine blk_put (cs := #[.bool t341, .slice none 0 0, .int .i64 0]) ?_ 1 _ rfl; (with_reducible repeat (first | refine blk_drewN ?_ _ | refine blk_drew ?_ | refine blk_alloc ?_ _)); refine blk_put (cs := #[.bool false, .slice none 0 0, .int .i64 0]) ?_ 0 _ rfl; (with_reducible repeat (first | refine blk_drewN ?_ _ | refine blk_drew ?_ | refine blk_alloc ?_ _)); refine blk_far ?_ NB332_346.out _; (with_reducible repeat (first | refine blk_drewN ?_ _ | refine blk_drew ?_ | refine blk_alloc ?_ _)); refine blk_far ?_ NB332_346.out _; (with_reducible repeat (first | refine blk_drewN ?_ _ | refine blk_drew ?_ | refine blk_alloc ?_ _)); refine blk_far ?_ NB332_346.out _; (with_reducible repeat (first | refine blk_drewN ?_ _ | refine blk_drew ?_ | refine blk_alloc ?_ _)); exact BK332.out) Try.underlying36 rfl (by kernel_rfl)) rfl ?_
        exact ⟨_, by first | rfl | (simp [errW_none, errW_some] <;> rfl) | (simp only [← hji4]; first | rfl | (simp [errW_none, errW_some] <;> rfl)) | (simp [*, errW_none, errW_some] <;> rfl), by (with_reducible repeat (first | apply Kd.R_alloc | apply Kd.R_drewN | apply Kd.R_drew)); exact Kd.R_mono (Kd.R_far (p := ⟨gb332, 2, none⟩) (Kd.R_far (p := ⟨gb332, 1, none⟩) (Kd.R_far (p := ⟨gb332, 0, none⟩) (Kd.R_far (p := ⟨gb346, 2, none⟩) (Kd.R_far (p := ⟨gb346, 1, none⟩) (Kd.R_far (p := ⟨gb346, 0, none⟩) (Kd.R_types (Kd.R_types HO344.out BK346.out (by decide)) BK332.out (by decide)) (fun _ hk => hk.1.2) (.bool t341)) (fun _ hk => hk.1.2) (.slice Ao53 t342.length co53)) (fun _ hk => hk.1.2) (.int .i64 t345)) (fun _ hk => hk.2) (.bool t341)) (fun _ hk => hk.2) (.slice Ao53 t342.length co53)) (fun _ hk => hk.2) (.int .i64 t345)) (fun _ hk => hk.1.1.1.1), by repeat (first | (with_reducible first | exact HB.out | apply below_alloc | apply pw_below_drewN | apply below_drew1 | refine below_set ?_ GE330.out | refine below_set ?_ GE331.out | refine below_set ?_ GE332.out | refine below_set ?_ GE346.out) | exact HB.out)⟩
   ·rw [if_neg c7] at H
    have c7b0 : (a0_0 == a1_0) = false := by simpa using c7
    (try (have c7b1 : decide (a0_0 = a1_0) = false := by simpa using c7))
    (try (have c7b2 : (a0_0 == a1_0) = false := by simpa using c7))
    (try (have c7b3 : ¬ (a0_0 = a1_0) := by simpa using c7))
    clear c7
    replace H := Option.bind_eq_some_iff.mp H
    obtain ⟨t347, A570, H⟩ := H
    replace H : (if t347 < 0 then (rubricref5_Add.j1 k t333 t334 y335 a1_0 a1_0 l1_1 a1_2 a0_0 l0_1 a0_2) else (rubricref5_Add.j1 k t333 t334 y335 a0_0 a0_0 l0_1 a0_2 a1_0 l1_1 a1_2)) = some (r1, r2, r3, r4) := H
    have A57 := Aside0.mk A570
    clear A570
    have HC58 := Aside0.mk H
    clear H
    go_enter Try.func14, Try.ntmps14
    go_upto_if 65 with (first | ((with_reducible refine gate_dst (N := 2) rfl ?_); refine box_event ?hg (N := 2) ?hd (cs := #[.bool a0_0, .slice A0_1 l0_1.length c0_1, .int .i64 a0_2]) (t := 36) ?hr ?_; (case hd => rfl); (case hg => rfl); (case hr => first | (go_simp; done) | (go_simp; rfl)); intro gb330 hg w59 hbox hb; have n0_ := Aside0.mk (Kd.V_below (Kd.V_elderB (S.v HO0_1.out) gb330 (Nat.le_of_eq hg.symm)) hb); have n1_ := Aside0.mk (Kd.V_below (Kd.V_elderB (S.v HO1_1.out) gb330 (Nat.le_of_eq hg.symm)) hb); have n2_ := Aside0.mk (below_step (by repeat (first | (with_reducible first | exact HB.out | apply below_alloc | apply pw_below_drewN | apply below_drew1) | exact HB.out)) hb); have n3_ := Aside0.mk (hbox); have n4_ := Aside0.mk ((by rw [hg]; exact (below_size (by repeat (first | (with_reducible first | exact HB.out | apply below_alloc | apply pw_below_drewN | apply below_drew1) | exact HB.out))) : w.heap.size ≤ gb330)); have n5_ := Aside0.mk ((by rw [hg]; exact (below_size (by repeat (first | (with_reducible first | exact HB.out | apply below_alloc | apply pw_below_drewN | apply below_drew1) | exact HB.out))) : w.heap.size ≤ gb330)); clear HO0_1; clear HO1_1; clear HB; have HO0_1 := n0_; have HO1_1 := n1_; have HB := n2_; have BK330 := n3_; have GW330 := n4_; have GE330 := n5_; clear n0_ n1_ n2_ n3_ n4_ n5_; clear hb hbox hg) | ((with_reducible refine gate_dst (N := 3) rfl ?_); refine box_event ?hg (N := 3) ?hd (cs := #[.bool a1_0, .slice A1_1 l1_1.length c1_1, .int .i64 a1_2]) (t := 36) ?hr ?_; (case hd => rfl); (case hg => rfl); (case hr => first | (go_simp; done) | (go_simp; rfl)); intro gb331 hg w60 hbox hb; have n0_ := Aside0.mk (Kd.V_below (Kd.V_elderB (S.v HO0_1.out) gb331 (Nat.le_of_eq hg.symm)) hb); have n1_ := Aside0.mk (Kd.V_below (Kd.V_elderB (S.v HO1_1.out) gb331 (Nat.le_of_eq hg.symm)) hb); have n2_ := Aside0.mk (blk_below (g := gb330) (o := .cells #[.bool a0_0, .slice A0_1 l0_1.length c0_1, .int .i64 a0_2] 36 (0, 0)) (S.b BK330.out) hb); have n3_ := Aside0.mk (below_step (by repeat (first | (with_reducible first | exact HB.out | apply below_alloc | apply pw_below_drewN | apply below_drew1 | refine below_set ?_ GE330.out) | exact HB.out)) hb); have n4_ := Aside0.mk (hbox); have n5_ := Aside0.mk ((by rw [hg]; exact (below_size (by repeat (first | (with_reducible first | exact HB.out | apply below_alloc | apply pw_below_drewN | apply below_drew1 | refine below_set ?_ GE330.out) | exact HB.out))) : w.heap.size ≤ gb331)); have n6_ := Aside0.mk ((by rw [hg]; exact (below_size (by repeat (first | (with_reducible first | exact HB.out | apply below_alloc | apply pw_below_drewN | apply below_drew1 | refine below_set ?_ GE330.out) | exact HB.out))) : w.heap.size ≤ gb331)); have n7_ := Aside0.mk ((by rw [hg]; exact Nat.ne_of_lt (blk_lt (g := gb330) (o := .cells #[.bool a0_0, .slice A0_1 l0_1.length c0_1, .int .i64 a0_2] 36 (0, 0)) (S.b BK330.out)) : gb330 ≠ gb331)); have n8_ := Aside0.mk ((by rw [hg]; exact Nat.ne_of_gt (blk_lt (g := gb330) (o := .cells #[.bool a0_0, .slice A0_1 l0_1.length c0_1, .int .i64 a0_2] 36 (0, 0)) (S.b BK330.out)) : gb331 ≠ gb330)); clear HO0_1; clear HO1_1; clear BK330; clear HB; have HO0_1 := n0_; have HO1_1 := n1_; have BK330 := n2_; have HB := n3_; have BK331 := n4_; have GW331 := n5_; have GE331 := n6_; have NB330_331 := n7_; have NB331_330 := n8_; clear n0_ n1_ n2_ n3_ n4_ n5_ n6_ n7_ n8_; clear hb hbox hg) | ((with_reducible refine gate_dst (N := 4) rfl ?_); refine box_event ?hg (N := 4) ?hd (cs := #[.bool false, .slice none 0 0, .int .i64 0]) (t := 36) ?hr ?_; (case hd => rfl); (case hg => rfl); (case hr => first | (go_simp; done) | (go_simp; rfl)); intro gb332 hg w61 hbox hb; have n0_ := Aside0.mk (Kd.V_below (Kd.V_elderB (S.v HO0_1.out) gb332 (Nat.le_of_eq hg.symm)) hb); have n1_ := Aside0.mk (Kd.V_below (Kd.V_elderB (S.v HO1_1.out) gb332 (Nat.le_of_eq hg.symm)) hb); have n2_ := Aside0.mk (blk_below (g := gb330) (o := .cells #[.bool a0_0, .slice A0_1 l0_1.length c0_1, .int .i64 a0_2] 36 (0, 0)) (S.b BK330.out) hb); have n3_ := Aside0.mk (blk_below (g := gb331) (o := .cells #[.bool a1_0, .slice A1_1 l1_1.length c1_1, .int .i64 a1_2] 36 (0, 0)) (S.b BK331.out) hb); have n4_ := Aside0.mk (below_step (by repeat (first | (with_reducible first | exact HB.out | apply below_alloc | apply pw_below_drewN | apply below_drew1 | refine below_set ?_ GE330.out | refine below_set ?_ GE331.out) | exact HB.out)) hb); have n5_ := Aside0.mk (hbox); have n6_ := Aside0.mk ((by rw [hg]; exact (below_size (by repeat (first | (with_reducible first | exact HB.out | apply below_alloc | apply pw_below_drewN | apply below_drew1 | refine below_set ?_ GE330.out | refine below_set ?_ GE331.out) | exact HB.out))) : w.heap.size ≤ gb332)); have n7_ := Aside0.mk ((by rw [hg]; exact (below_size (by repeat (first | (with_reducible first | exact HB.out | apply below_alloc | apply pw_below_drewN | apply below_drew1 | refine below_set ?_ GE330.out | refine below_set ?_ GE331.out) | exact HB.out))) : w.heap.size ≤ gb332)); have n8_ := Aside0.mk ((by rw [hg]; exact Nat.ne_of_lt (blk_lt (g := gb330) (o := .cells #[.bool a0_0, .slice A0_1 l0_1.length c0_1, .int .i64 a0_2] 36 (0, 0)) (S.b BK330.out)) : gb330 ≠ gb332)); have n9_ := Aside0.mk ((by rw [hg]; exact Nat.ne_of_gt (blk_lt (g := gb330) (o := .cells #[.bool a0_0, .slice A0_1 l0_1.length c0_1, .int .i64 a0_2] 36 (0, 0)) (S.b BK330.out)) : gb332 ≠ gb330)); have n10_ := Aside0.mk ((by rw [hg]; exact Nat.ne_of_lt (blk_lt (g := gb331) (o := .cells #[.bool a1_0, .slice A1_1 l1_1.length c1_1, .int .i64 a1_2] 36 (0, 0)) (S.b BK331.out)) : gb331 ≠ gb332)); have n11_ := Aside0.mk ((by rw [hg]; exact Nat.ne_of_gt (blk_lt (g := gb331) (o := .cells #[.bool a1_0, .slice A1_1 l1_1.length c1_1, .int .i64 a1_2] 36 (0, 0)) (S.b BK331.out)) : gb332 ≠ gb331)); clear HO0_1; clear HO1_1; clear BK330; clear BK331; clear HB; have HO0_1 := n0_; have HO1_1 := n1_; have BK330 := n2_; have BK331 := n3_; have HB := n4_; have BK332 := n5_; have GW332 := n6_; have GE332 := n7_; have NB330_332 := n8_; have NB332_330 := n9_; have NB331_332 := n10_; have NB332_331 := n11_; clear n0_ n1_ n2_ n3_ n4_ n5_ n6_ n7_ n8_ n9_ n10_ n11_; clear hb hbox hg; have hnb62 := NB330_331.out; have hnc62 := NB331_330.out; have hnb63 := NB330_332.out; have hnc63 := NB332_330.out; have hcz64_0 : w61.cell? ⟨gb330, 0, none⟩ = some (.bool a0_0) := (blk_cell BK330.out 0).trans rfl; have hcz64_1 : w61.cell? ⟨gb330, 1, none⟩ = some (.slice A0_1 l0_1.length c0_1) := (blk_cell BK330.out 1).trans rfl; have hcz64_2 : w61.cell? ⟨gb330, 2, none⟩ = some (.int .i64 a0_2) := (blk_cell BK330.out 2).trans rfl; have hfz64_0 := blk_frozen BK330.out 0; have hfz64_1 := blk_frozen BK330.out 1; have hfz64_2 := blk_frozen BK330.out 2; have hnb65 := NB331_332.out; have hnc65 := NB332_331.out; have hcz66_0 : w61.cell? ⟨gb331, 0, none⟩ = some (.bool a1_0) := (blk_cell BK331.out 0).trans rfl; have hcz66_1 : w61.cell? ⟨gb331, 1, none⟩ = some (.slice A1_1 l1_1.length c1_1) := (blk_cell BK331.out 1).trans rfl; have hcz66_2 : w61.cell? ⟨gb331, 2, none⟩ = some (.int .i64 a1_2) := (blk_cell BK331.out 2).trans rfl; have hfz66_0 := blk_frozen BK331.out 0; have hfz66_1 := blk_frozen BK331.out 1; have hfz66_2 := blk_frozen BK331.out 2) | ((with_reducible refine gate_callee (f := 30) rfl ?_); refine goesL_ (some 21) rfl rfl Try.func30 (by kernel_rfl) rfl #[.agg #[.bool a0_0, .slice A0_1 l0_1.length c0_1, .int .i64 a0_2], .agg #[.bool a1_0, .slice A1_1 l1_1.length c1_1, .int .i64 a1_2]] rfl (by (try simp only [List.map_toArray, List.map_cons, List.map_nil]); first | done | rfl | (simp only [List.length_drop, List.length_take]; rfl)) ?_; (with_reducible refine (rubricref5_high.calls a0_0 _ _ l0_1 a0_2 a1_0 _ _ l1_1 a1_2 t333 t334 _ ?side1 ?side2 ?side3 ?side4 A3.out).mono ?_); (case side1 => repeat (first | exact (Kd.V_reads' HO0_1.out).2.2 | (with_reducible refine Kd.C_alloc ?_ _) | (with_reducible refine Kd.C_drewN ?_ _) | (with_reducible refine Kd.C_drew ?_))); (case side2 => exact (Kd.V_reads' HO0_1.out).2.1); (case side3 => repeat (first | exact (Kd.V_reads' HO1_1.out).2.2 | (with_reducible refine Kd.C_alloc ?_ _) | (with_reducible refine Kd.C_drewN ?_ _) | (with_reducible refine Kd.C_drew ?_))); (case side4 => exact (Kd.V_reads' HO1_1.out).2.1); rintro e w67 ⟨rfl, hb⟩; refine ⟨_, rfl, ?_⟩; have n0_ := Aside0.mk (Kd.V_below (S.v HO0_1.out) hb); have n1_ := Aside0.mk (Kd.V_below (S.v HO1_1.out) hb); have n2_ := Aside0.mk (blk_below (g := gb330) (o := .cells #[.bool a0_0, .slice A0_1 l0_1.length c0_1, .int .i64 a0_2] 36 (0, 0)) (S.b BK330.out) hb); have n3_ := Aside0.mk (blk_below (g := gb331) (o := .cells #[.bool a1_0, .slice A1_1 l1_1.length c1_1, .int .i64 a1_2] 36 (0, 0)) (S.b BK331.out) hb); have n4_ := Aside0.mk (blk_below (g := gb332) (o := .cells #[.bool false, .slice none 0 0, .int .i64 0] 36 (0, 0)) (S.b BK332.out) hb); have n5_ := Aside0.mk (below_step (by repeat (first | (with_reducible first | exact HB.out | apply below_alloc | apply pw_below_drewN | apply below_drew1 | refine below_set ?_ GE330.out | refine below_set ?_ GE331.out | refine below_set ?_ GE332.out) | exact HB.out)) hb); clear HO0_1; clear HO1_1; clear BK330; clear BK331; clear BK332; clear HB; have HO0_1 := n0_; have HO1_1 := n1_; have BK330 := n2_; have BK331 := n3_; have BK332 := n4_; have HB := n5_; clear n0_ n1_ n2_ n3_ n4_ n5_; (try clear hb); (try clear hb2); (try clear hk); (try clear hi)) | ((with_reducible refine gate_dst (N := 28) rfl ?_); refine Kd.R_make (Kd.int .u8) _ 5 rfl (N := 28) rfl 22 _ _ rfl ji4 rfl rfl Try.underlying22 (.int .u8 0) 1 info5 rfl (by decide) (by omega) 0 (ok := fun _ => True) (okp := fun _ => True) rfl (fun _ hk => hk) trivial (of_decide_eq_true (by first | (with_reducible assumption) | assumption)) (Nat.le_trans (Nat.mul_le_mul_right _ (of_decide_eq_true (by first | (with_reducible assumption) | assumption) : ji4.toNat ≤ 281474976710656)) (by omega)) (Below.refl _ _) (Nat.le_refl _) ?_; intro v336 w68 ho69 hb hg_ hnew_; clear hg_ hnew_; (first | rw [← Ny335.out] at ho69 | (simp only [Int.reduceToNat] at ho69; rw [← Ny335.out] at ho69)); have n0_ := Aside0.mk (Kd.V_elder' (S.v HO0_1.out) (Kd.R_base ho69) hb); have n1_ := Aside0.mk (Kd.V_elder' (S.v HO1_1.out) (Kd.R_base ho69) hb); have n2_ := Aside0.mk (Kd.R_lower (Kd.R_newM (M := fun k_ => (w.heap.size ≤ k_)) ho69 (below_size (by repeat (first | (with_reducible first | exact HB.out | apply below_alloc | apply pw_below_drewN | apply below_drew1 | refine below_set ?_ GE330.out | refine below_set ?_ GE331.out | refine below_set ?_ GE332.out) | exact HB.out))) (fun k_ h_ => h_)) (below_size (by repeat (first | (with_reducible first | exact HB.out | apply below_alloc | apply pw_below_drewN | apply below_drew1 | refine below_set ?_ GE330.out | refine below_set ?_ GE331.out | refine below_set ?_ GE332.out) | exact HB.out)))); have n3_ := Aside0.mk (blk_below (g := gb330) (o := .cells #[.bool a0_0, .slice A0_1 l0_1.length c0_1, .int .i64 a0_2] 36 (0, 0)) (S.b BK330.out) hb); have n4_ := Aside0.mk (blk_below (g := gb331) (o := .cells #[.bool a1_0, .slice A1_1 l1_1.length c1_1, .int .i64 a1_2] 36 (0, 0)) (S.b BK331.out) hb); have n5_ := Aside0.mk (blk_below (g := gb332) (o := .cells #[.bool false, .slice none 0 0, .int .i64 0] 36 (0, 0)) (S.b BK332.out) hb); have n6_ := Aside0.mk (below_step (by repeat (first | (with_reducible first | exact HB.out | apply below_alloc | apply pw_below_drewN | apply below_drew1 | refine below_set ?_ GE330.out | refine below_set ?_ GE331.out | refine below_set ?_ GE332.out) | exact HB.out)) hb); clear HO0_1; clear HO1_1; clear BK330; clear BK331; clear BK332; clear HB; have HO0_1 := n0_; have HO1_1 := n1_; have HO337 := n2_; have BK330 := n3_; have BK331 := n4_; have BK332 := n5_; have HB := n6_; clear n0_ n1_ n2_ n3_ n4_ n5_ n6_; clear hb ho69; have hcz70_0 : w68.cell? ⟨gb330, 0, none⟩ = some (.bool a0_0) := (blk_cell BK330.out 0).trans rfl; have hcz70_1 : w68.cell? ⟨gb330, 1, none⟩ = some (.slice A0_1 l0_1.length c0_1) := (blk_cell BK330.out 1).trans rfl; have hcz70_2 : w68.cell? ⟨gb330, 2, none⟩ = some (.int .i64 a0_2) := (blk_cell BK330.out 2).trans rfl; have hfz70_0 := blk_frozen BK330.out 0; have hfz70_1 := blk_frozen BK330.out 1; have hfz70_2 := blk_frozen BK330.out 2; have hcz71_0 : w68.cell? ⟨gb331, 0, none⟩ = some (.bool a1_0) := (blk_cell BK331.out 0).trans rfl; have hcz71_1 : w68.cell? ⟨gb331, 1, none⟩ = some (.slice A1_1 l1_1.length c1_1) := (blk_cell BK331.out 1).trans rfl; have hcz71_2 : w68.cell? ⟨gb331, 2, none⟩ = some (.int .i64 a1_2) := (blk_cell BK331.out 2).trans rfl; have hfz71_0 := blk_frozen BK331.out 0; have hfz71_1 := blk_frozen BK331.out 1; have hfz71_2 := blk_frozen BK331.out 2) | ((with_reducible refine gate_callee (f := 32) rfl ?_); refine goesL_ (some 64) rfl rfl Try.func32 (by kernel_rfl) rfl #[.agg #[.bool a0_0, .slice A0_1 l0_1.length c0_1, .int .i64 a0_2], .agg #[.bool a1_0, .slice A1_1 l1_1.length c1_1, .int .i64 a1_2]] rfl (by (try simp only [List.map_toArray, List.map_cons, List.map_nil]); first | done | rfl | (simp only [List.length_drop, List.length_take]; rfl)) ?_; (with_reducible refine (rubricref5_size.calls k a0_0 _ _ l0_1 a0_2 a1_0 _ _ l1_1 a1_2 t347 _ ?side1 ?side2 ?side3 ?side4 A57.out).mono ?_); (case side1 => repeat (first | exact (Kd.V_reads' HO0_1.out).2.2 | (with_reducible refine Kd.C_alloc ?_ _) | (with_reducible refine Kd.C_drewN ?_ _) | (with_reducible refine Kd.C_drew ?_))); (case side2 => exact (Kd.V_reads' HO0_1.out).2.1); (case side3 => repeat (first | exact (Kd.V_reads' HO1_1.out).2.2 | (with_reducible refine Kd.C_alloc ?_ _) | (with_reducible refine Kd.C_drewN ?_ _) | (with_reducible refine Kd.C_drew ?_))); (case side4 => exact (Kd.V_reads' HO1_1.out).2.1); rintro e w72 ⟨rfl, hb⟩; refine ⟨_, rfl, ?_⟩; have n0_ := Aside0.mk (Kd.V_below (S.v HO0_1.out) hb); have n1_ := Aside0.mk (Kd.V_below (S.v HO1_1.out) hb); have n2_ := Aside0.mk (Kd.R_below (S.r HO337.out) hb); have n3_ := Aside0.mk (blk_below (g := gb330) (o := .cells #[.bool a0_0, .slice A0_1 l0_1.length c0_1, .int .i64 a0_2] 36 (0, 0)) (S.b BK330.out) hb); have n4_ := Aside0.mk (blk_below (g := gb331) (o := .cells #[.bool a1_0, .slice A1_1 l1_1.length c1_1, .int .i64 a1_2] 36 (0, 0)) (S.b BK331.out) hb); have n5_ := Aside0.mk (blk_below (g := gb332) (o := .cells #[.bool false, .slice none 0 0, .int .i64 0] 36 (0, 0)) (S.b BK332.out) hb); have n6_ := Aside0.mk (below_step (by repeat (first | (with_reducible first | exact HB.out | apply below_alloc | apply pw_below_drewN | apply below_drew1 | refine below_set ?_ GE330.out | refine below_set ?_ GE331.out | refine below_set ?_ GE332.out) | exact HB.out)) hb); clear HO0_1; clear HO1_1; clear HO337; clear BK330; clear BK331; clear BK332; clear HB; have HO0_1 := n0_; have HO1_1 := n1_; have HO337 := n2_; have BK330 := n3_; have BK331 := n4_; have BK332 := n5_; have HB := n6_; clear n0_ n1_ n2_ n3_ n4_ n5_ n6_; (try clear hb); (try clear hb2); (try clear hk); (try clear hi)))
    (try simp only [Act.put, List.setIfInBounds_toArray, List.set_cons_zero, List.set_cons_succ])
    go_cut [9] (fun v9 wc => ∃ (kq : Nat) (x9_57 : Bool) (x331000_57 : Bool) (x331001_57 : List Int) (x331002_57 : Int) (x332000_57 : Bool) (x332001_57 : List Int) (x332002_57 : Int) (u331001 : Value) (u332001 : Value), v9 = .bool x9_57 ∧ Aside0 (rubricref5_Add.j1 kq t333 t334 y335 x9_57 x331000_57 x331001_57 x331002_57 x332000_57 x332001_57 x332002_57 = some (r1, r2, r3, r4)) ∧ Aside0 (kq ≤ k) ∧ Aside0 (Kd.R (Kd.int .u8) 5 wc w.heap.size (fun k_ => (w.heap.size ≤ k_)) v336 y335) ∧ Aside0 (Kd.V (Kd.int .u8) 5 wc w.heap.size (fun k_ => ((P0_1_ k_ ∨ P1_1_ k_) ∨ w.heap.size ≤ k_) ∧ some k_ ≠ (v336 : Value).ownBlock ∧ k_ ≠ gb330 ∧ k_ ≠ gb331 ∧ k_ ≠ gb332) u331001 x331001_57) ∧ Aside0 (Kd.V (Kd.int .u8) 5 wc w.heap.size (fun k_ => ((P0_1_ k_ ∨ P1_1_ k_) ∨ w.heap.size ≤ k_) ∧ some k_ ≠ (v336 : Value).ownBlock ∧ k_ ≠ gb330 ∧ k_ ≠ gb331 ∧ k_ ≠ gb332) u332001 x332001_57) ∧ Aside0 (wc.heap[gb330]? = some (.cells #[.bool x331000_57, u331001, .int .i64 x331002_57] 36 (0, 0))) ∧ Aside0 (wc.heap[gb331]? = some (.cells #[.bool x332000_57, u332001, .int .i64 x332002_57] 36 (0, 0))) ∧ Aside0 (wc.heap[gb332]? = some (.cells #[.bool false, (.slice none 0 0), .int .i64 0] 36 (0, 0))) ∧ Aside0 (Below w.heap.size w wc))
    case first =>
     have H := HC58.out
     clear HC58
     by_cases c73 : t347 < 0
     ·rw [if_pos c73] at H
      have c73b0 : decide (t347 < 0) = true := decide_eq_true c73
      clear c73
      (first | rw [c73b0] | (simp only [i64_w, i32_w]; rw [c73b0]) | skip)
      have H' := Aside0.mk H
      clear H
      have hnb74 := NB331_330.out
      have hnc74 := NB330_331.out
      have hnb75 := NB331_332.out
      have hnc75 := NB332_331.out
      have hcz76_0 : w72.cell? ⟨gb331, 0, none⟩ = some (.bool a1_0) := (blk_cell BK331.out 0).trans rfl
      have hcz76_1 : w72.cell? ⟨gb331, 1, none⟩ = some (.slice A1_1 l1_1.length c1_1) := (blk_cell BK331.out 1).trans rfl
      have hcz76_2 : w72.cell? ⟨gb331, 2, none⟩ = some (.int .i64 a1_2) := (blk_cell BK331.out 2).trans rfl
      have hfz76_0 := blk_frozen BK331.out 0
      have hfz76_1 := blk_frozen BK331.out 1
      have hfz76_2 := blk_frozen BK331.out 2
      have hnb77 := NB330_332.out
      have hnc77 := NB332_330.out
      have hcz78_0 : w72.cell? ⟨gb330, 0, none⟩ = some (.bool a0_0) := (blk_cell BK330.out 0).trans rfl
      have hcz78_1 : w72.cell? ⟨gb330, 1, none⟩ = some (.slice A0_1 l0_1.length c0_1) := (blk_cell BK330.out 1).trans rfl
      have hcz78_2 : w72.cell? ⟨gb330, 2, none⟩ = some (.int .i64 a0_2) := (blk_cell BK330.out 2).trans rfl
      have hfz78_0 := blk_frozen BK330.out 0
      have hfz78_1 := blk_frozen BK330.out 1
      have hfz78_2 := blk_frozen BK330.out 2
      go_wp2_with (first | ((with_reducible refine gate_dst (N := 13) rfl ?_); refine box_event ?hg (N := 13) ?hd (cs := #[.bool false, .slice none 0 0, .int .i64 0]) (t := 36) ?hr ?_; (case hd => rfl); (case hg => rfl); (case hr => first | (go_simp; done) | (go_simp; rfl)); intro gb348 hg w79 hbox hb; have n0_ := Aside0.mk (Kd.V_below (Kd.V_elderB (S.v HO0_1.out) gb348 (Nat.le_of_eq hg.symm)) hb); have n1_ := Aside0.mk (Kd.V_below (Kd.V_elderB (S.v HO1_1.out) gb348 (Nat.le_of_eq hg.symm)) hb); have n2_ := Aside0.mk (Kd.R_below (S.r HO337.out) hb); have n3_ := Aside0.mk (blk_below (g := gb330) (o := .cells #[.bool a0_0, .slice A0_1 l0_1.length c0_1, .int .i64 a0_2] 36 (0, 0)) (S.b BK330.out) hb); have n4_ := Aside0.mk (blk_below (g := gb331) (o := .cells #[.bool a1_0, .slice A1_1 l1_1.length c1_1, .int .i64 a1_2] 36 (0, 0)) (S.b BK331.out) hb); have n5_ := Aside0.mk (blk_below (g := gb332) (o := .cells #[.bool false, .slice none 0 0, .int .i64 0] 36 (0, 0)) (S.b BK332.out) hb); have n6_ := Aside0.mk (below_step (by repeat (first | (with_reducible first | exact HB.out | apply below_alloc | apply pw_below_drewN | apply below_drew1 | refine below_set ?_ GE330.out | refine below_set ?_ GE331.out | refine below_set ?_ GE332.out) | exact HB.out)) hb); have n7_ := Aside0.mk (hbox); have n8_ := Aside0.mk ((by rw [hg]; exact (below_size (by repeat (first | (with_reducible first | exact HB.out | apply below_alloc | apply pw_below_drewN | apply below_drew1 | refine below_set ?_ GE330.out | refine below_set ?_ GE331.out | refine below_set ?_ GE332.out) | exact HB.out))) : w.heap.size ≤ gb348)); have n9_ := Aside0.mk ((by rw [hg]; exact (below_size (by repeat (first | (with_reducible first | exact HB.out | apply below_alloc | apply pw_below_drewN | apply below_drew1 | refine below_set ?_ GE330.out | refine below_set ?_ GE331.out | refine below_set ?_ GE332.out) | exact HB.out))) : w.heap.size ≤ gb348)); have n10_ := Aside0.mk ((by rw [hg]; exact Nat.ne_of_lt (blk_lt (g := gb330) (o := .cells #[.bool a0_0, .slice A0_1 l0_1.length c0_1, .int .i64 a0_2] 36 (0, 0)) (S.b BK330.out)) : gb330 ≠ gb348)); have n11_ := Aside0.mk ((by rw [hg]; exact Nat.ne_of_gt (blk_lt (g := gb330) (o := .cells #[.bool a0_0, .slice A0_1 l0_1.length c0_1, .int .i64 a0_2] 36 (0, 0)) (S.b BK330.out)) : gb348 ≠ gb330)); have n12_ := Aside0.mk ((by rw [hg]; exact Nat.ne_of_lt (blk_lt (g := gb331) (o := .cells #[.bool a1_0, .slice A1_1 l1_1.length c1_1, .int .i64 a1_2] 36 (0, 0)) (S.b BK331.out)) : gb331 ≠ gb348)); have n13_ := Aside0.mk ((by rw [hg]; exact Nat.ne_of_gt (blk_lt (g := gb331) (o := .cells #[.bool a1_0, .slice A1_1 l1_1.length c1_1, .int .i64 a1_2] 36 (0, 0)) (S.b BK331.out)) : gb348 ≠ gb331)); have n14_ := Aside0.mk ((by rw [hg]; exact Nat.ne_of_lt (blk_lt (g := gb332) (o := .cells #[.bool false, .slice none 0 0, .int .i64 0] 36 (0, 0)) (S.b BK332.out)) : gb332 ≠ gb348)); have n15_ := Aside0.mk ((by rw [hg]; exact Nat.ne_of_gt (blk_lt (g := gb332) (o := .cells #[.bool false, .slice none 0 0, .int .i64 0] 36 (0, 0)) (S.b BK332.out)) : gb348 ≠ gb332)); clear HO0_1; clear HO1_1; clear HO337; clear BK330; clear BK331; clear BK332; clear HB; have HO0_1 := n0_; have HO1_1 := n1_; have HO337 := n2_; have BK330 := n3_; have BK331 := n4_; have BK332 := n5_; have HB := n6_; have BK348 := n7_; have GW348 := n8_; have GE348 := n9_; have NB330_348 := n10_; have NB348_330 := n11_; have NB331_348 := n12_; have NB348_331 := n13_; have NB332_348 := n14_; have NB348_332 := n15_; clear n0_ n1_ n2_ n3_ n4_ n5_ n6_ n7_ n8_ n9_ n10_ n11_ n12_ n13_ n14_ n15_; clear hb hbox hg; have hnb80 := NB348_330.out; have hnc80 := NB330_348.out; have hnb81 := NB348_331.out; have hnc81 := NB331_348.out; have hnb82 := NB348_332.out; have hnc82 := NB332_348.out; have hcz83_0 : w79.cell? ⟨gb348, 0, none⟩ = some (.bool false) := (blk_cell BK348.out 0).trans rfl; have hcz83_1 : w79.cell? ⟨gb348, 1, none⟩ = some (.slice none 0 0) := (blk_cell BK348.out 1).trans rfl; have hcz83_2 : w79.cell? ⟨gb348, 2, none⟩ = some (.int .i64 0) := (blk_cell BK348.out 2).trans rfl; have hfz83_0 := blk_frozen BK348.out 0; have hfz83_1 := blk_frozen BK348.out 1; have hfz83_2 := blk_frozen BK348.out 2; have hcz84_0 : w79.cell? ⟨gb331, 0, none⟩ = some (.bool a1_0) := (blk_cell BK331.out 0).trans rfl; have hcz84_1 : w79.cell? ⟨gb331, 1, none⟩ = some (.slice A1_1 l1_1.length c1_1) := (blk_cell BK331.out 1).trans rfl; have hcz84_2 : w79.cell? ⟨gb331, 2, none⟩ = some (.int .i64 a1_2) := (blk_cell BK331.out 2).trans rfl; have hfz84_0 := blk_frozen BK331.out 0; have hfz84_1 := blk_frozen BK331.out 1; have hfz84_2 := blk_frozen BK331.out 2; have hcz85_0 : w79.cell? ⟨gb330, 0, none⟩ = some (.bool a0_0) := (blk_cell BK330.out 0).trans rfl; have hcz85_1 : w79.cell? ⟨gb330, 1, none⟩ = some (.slice A0_1 l0_1.length c0_1) := (blk_cell BK330.out 1).trans rfl; have hcz85_2 : w79.cell? ⟨gb330, 2, none⟩ = some (.int .i64 a0_2) := (blk_cell BK330.out 2).trans rfl; have hfz85_0 := blk_frozen BK330.out 0; have hfz85_1 := blk_frozen BK330.out 1; have hfz85_2 := blk_frozen BK330.out 2))
      go_meet
      case rel => exact ⟨_, (a1_0), (a1_0), (l1_1), (a1_2), (a0_0), (l0_1), (a0_2), (.slice A1_1 l1_1.length c1_1), (.slice A0_1 l0_1.length c0_1), (by first | rfl | (simp; done) | (simp [*]; done)), H', ⟨by first | omega | exact Nat.le_refl _⟩, ⟨by (with_reducible repeat (first | apply Kd.R_alloc | apply Kd.R_drewN | apply Kd.R_drew)); exact Kd.R_mono (Kd.R_far (p := ⟨gb331, 2, none⟩) (Kd.R_far (p := ⟨gb331, 1, none⟩) (Kd.R_far (p := ⟨gb331, 0, none⟩) (Kd.R_far (p := ⟨gb330, 2, none⟩) (Kd.R_far (p := ⟨gb330, 1, none⟩) (Kd.R_far (p := ⟨gb330, 0, none⟩) (Kd.R_far (p := ⟨gb348, 2, none⟩) (Kd.R_far (p := ⟨gb348, 1, none⟩) (Kd.R_far (p := ⟨gb348, 0, none⟩) (Kd.R_types (Kd.R_types (Kd.R_types HO337.out BK348.out (by decide)) BK330.out (by decide)) BK331.out (by decide)) (fun _ hk => hk.1.1.2) (.bool a0_0)) (fun _ hk => hk.1.1.2) (.slice A0_1 l0_1.length c0_1)) (fun _ hk => hk.1.1.2) (.int .i64 a0_2)) (fun _ hk => hk.1.2) (.bool a1_0)) (fun _ hk => hk.1.2) (.slice A1_1 l1_1.length c1_1)) (fun _ hk => hk.1.2) (.int .i64 a1_2)) (fun _ hk => hk.2) (.bool a0_0)) (fun _ hk => hk.2) (.slice A0_1 l0_1.length c0_1)) (fun _ hk => hk.2) (.int .i64 a0_2)) (fun _ hk => hk.1.1.1.1)⟩, ⟨by (with_reducible repeat (first | apply Kd.V_alloc | apply Kd.V_drewN | apply Kd.V_drew)); exact Kd.V_mono (Kd.V_far (p := ⟨gb331, 2, none⟩) (Kd.V_far (p := ⟨gb331, 1, none⟩) (Kd.V_far (p := ⟨gb331, 0, none⟩) (Kd.V_far (p := ⟨gb330, 2, none⟩) (Kd.V_far (p := ⟨gb330, 1, none⟩) (Kd.V_far (p := ⟨gb330, 0, none⟩) (Kd.V_far (p := ⟨gb348, 2, none⟩) (Kd.V_far (p := ⟨gb348, 1, none⟩) (Kd.V_far (p := ⟨gb348, 0, none⟩) (Kd.V_mono (Kd.V_mono (Kd.V_mono HO1_1.out (fun k_ hk => (⟨hk, hk.2⟩ : _ ∧ k_ ≠ gb348))) (fun k_ hk => (⟨hk, hk.1.1.1.1.1.2⟩ : _ ∧ k_ ≠ gb330))) (fun k_ hk => (⟨hk, hk.1.1.1.1.1.2⟩ : _ ∧ k_ ≠ gb331))) (fun _ hk => hk.1.1.2) (.bool a0_0)) (fun _ hk => hk.1.1.2) (.slice A0_1 l0_1.length c0_1)) (fun _ hk => hk.1.1.2) (.int .i64 a0_2)) (fun _ hk => hk.1.2) (.bool a1_0)) (fun _ hk => hk.1.2) (.slice A1_1 l1_1.length c1_1)) (fun _ hk => hk.1.2) (.int .i64 a1_2)) (fun _ hk => hk.2) (.bool a0_0)) (fun _ hk => hk.2) (.slice A0_1 l0_1.length c0_1)) (fun _ hk => hk.2) (.int .i64 a0_2)) (fun _ hk => ⟨hk.1.1.1.1.1.1.1.1, ⟨hk.1.1.1.1.2, ⟨hk.1.1.1.1.1.1.1.2, ⟨hk.1.1.1.1.1.1.2, hk.1.1.1.1.1.2⟩⟩⟩⟩)⟩, ⟨by (with_reducible repeat (first | apply Kd.V_alloc | apply Kd.V_drewN | apply Kd.V_drew)); exact Kd.V_mono (Kd.V_far (p := ⟨gb331, 2, none⟩) (Kd.V_far (p := ⟨gb331, 1, none⟩) (Kd.V_far (p := ⟨gb331, 0, none⟩) (Kd.V_far (p := ⟨gb330, 2, none⟩) (Kd.V_far (p := ⟨gb330, 1, none⟩) (Kd.V_far (p := ⟨gb330, 0, none⟩) (Kd.V_far (p := ⟨gb348, 2, none⟩) (Kd.V_far (p := ⟨gb348, 1, none⟩) (Kd.V_far (p := ⟨gb348, 0, none⟩) (Kd.V_mono (Kd.V_mono (Kd.V_mono HO0_1.out (fun k_ hk => (⟨hk, hk.2⟩ : _ ∧ k_ ≠ gb348))) (fun k_ hk => (⟨hk, hk.1.1.1.1.1.2⟩ : _ ∧ k_ ≠ gb330))) (fun k_ hk => (⟨hk, hk.1.1.1.1.1.2⟩ : _ ∧ k_ ≠ gb331))) (fun _ hk => hk.1.1.2) (.bool a0_0)) (fun _ hk => hk.1.1.2) (.slice A0_1 l0_1.length c0_1)) (fun _ hk => hk.1.1.2) (.int .i64 a0_2)) (fun _ hk => hk.1.2) (.bool a1_0)) (fun _ hk => hk.1.2) (.slice A1_1 l1_1.length c1_1)) (fun _ hk => hk.1.2) (.int .i64 a1_2)) (fun _ hk => hk.2) (.bool a0_0)) (fun _ hk => hk.2) (.slice A0_1 l0_1.length c0_1)) (fun _ hk => hk.2) (.int .i64 a0_2)) (fun _ hk => ⟨hk.1.1.1.1.1.1.1.1, ⟨hk.1.1.1.1.2, ⟨hk.1.1.1.1.1.1.1.2, ⟨hk.1.1.1.1.1.1.2, hk.1.1.1.1.1.2⟩⟩⟩⟩)⟩, ⟨by (with_reducible repeat (first | refine blk_drewN ?_ _ | refine blk_drew ?_ | refine blk_alloc ?_ _)); refine blk_far ?_ NB330_331.out _; (with_reducible repeat (first | refine blk_drewN ?_ _ | refine blk_drew ?_ | refine blk_alloc ?_ _)); refine blk_far ?_ NB330_331.out _; (with_reducible repeat (first | refine blk_drewN ?_ _ | refine blk_drew ?_ | refine blk_alloc ?_ _)); refine blk_far ?_ NB330_331.out _; (with_reducible repeat (first | refine blk_drewN ?_ _ | refine blk_drew ?_ | refine blk_alloc ?_ _)); refine blk_put (cs := #[.bool a1_0, .slice A1_1 l1_1.length c1_1, .int .i64 a0_2]) ?_ 2 _ rfl; (with_reducible repeat (first | refine blk_drewN ?_ _ | refine blk_drew ?_ | refine blk_alloc ?_ _)); refine blk_put (cs := #[.bool a1_0, .slice A0_1 l0_1.length c0_1, .int .i64 a0_2]) ?_ 1 _ rfl; (with_reducible repeat (first | refine blk_drewN ?_ _ | refine blk_drew ?_ | refine blk_alloc ?_ _)); refine blk_put (cs := #[.bool a0_0, .slice A0_1 l0_1.length c0_1, .int .i64 a0_2]) ?_ 0 _ rfl; (with_reducible repeat (first | refine blk_drewN ?_ _ | refine blk_drew ?_ | refine blk_alloc ?_ _)); refine blk_far ?_ NB330_348.out _; (with_reducible repeat (first | refine blk_drewN ?_ _ | refine blk_drew ?_ | refine blk_alloc ?_ _)); refine blk_far ?_ NB330_348.out _; (with_reducible repeat (first | refine blk_drewN ?_ _ | refine blk_drew ?_ | refine blk_alloc ?_ _)); refine blk_far ?_ NB330_348.out _; (with_reducible repeat (first | refine blk_drewN ?_ _ | refine blk_drew ?_ | refine blk_alloc ?_ _)); exact BK330.out⟩, ⟨by (with_reducible repeat (first | refine blk_drewN ?_ _ | refine blk_drew ?_ | refine blk_alloc ?_ _)); refine blk_put (cs := #[.bool a0_0, .slice A0_1 l0_1.length c0_1, .int .i64 a1_2]) ?_ 2 _ rfl; (with_reducible repeat (first | refine blk_drewN ?_ _ | refine blk_drew ?_ | refine blk_alloc ?_ _)); refine blk_put (cs := #[.bool a0_0, .slice A1_1 l1_1.length c1_1, .int .i64 a1_2]) ?_ 1 _ rfl; (with_reducible repeat (first | refine blk_drewN ?_ _ | refine blk_drew ?_ | refine blk_alloc ?_ _)); refine blk_put (cs := #[.bool a1_0, .slice A1_1 l1_1.length c1_1, .int .i64 a1_2]) ?_ 0 _ rfl; (with_reducible repeat (first | refine blk_drewN ?_ _ | refine blk_drew ?_ | refine blk_alloc ?_ _)); refine blk_far ?_ NB331_330.out _; (with_reducible repeat (first | refine blk_drewN ?_ _ | refine blk_drew ?_ | refine blk_alloc ?_ _)); refine blk_far ?_ NB331_330.out _; (with_reducible repeat (first | refine blk_drewN ?_ _ | refine blk_drew ?_ | refine blk_alloc ?_ _)); refine blk_far ?_ NB331_330.out _; (with_reducible repeat (first | refine blk_drewN ?_ _ | refine blk_drew ?_ | refine blk_alloc ?_ _)); refine blk_far ?_ NB331_348.out _; (with_reducible repeat (first | refine blk_drewN ?_ _ | refine blk_drew ?_ | refine blk_alloc ?_ _)); refine blk_far ?_ NB331_348.out _; (with_reducible repeat (first | refine blk_drewN ?_ _ | refine blk_drew ?_ | refine blk_alloc ?_ _)); refine blk_far ?_ NB331_348.out _; (with_reducible repeat (first | refine blk_drewN ?_ _ | refine blk_drew ?_ | refine blk_alloc ?_ _)); exact BK331.out⟩, ⟨by (with_reducible repeat (first | refine blk_drewN ?_ _ | refine blk_drew ?_ | refine blk_alloc ?_ _)); refine blk_far ?_ NB332_331.out _; (with_reducible repeat (first | refine blk_drewN ?_ _ | refine blk_drew ?_ | refine blk_alloc ?_ _)); refine blk_far ?_ NB332_331.out _; (with_reducible repeat (first | refine blk_drewN ?_ _ | refine blk_drew ?_ | refine blk_alloc ?_ _)); refine blk_far ?_ NB332_331.out _; (with_reducible repeat (first | refine blk_drewN ?_ _ | refine blk_drew ?_ | refine blk_alloc ?_ _)); refine blk_far ?_ NB332_330.out _; (with_reducible repeat (first | refine blk_drewN ?_ _ | refine blk_drew ?_ | refine blk_alloc ?_ _)); refine blk_far ?_ NB332_330.out _; (with_reducible repeat (first | refine blk_drewN ?_ _ | refine blk_drew ?_ | refine blk_alloc ?_ _)); refine blk_far ?_ NB332_330.out _; (with_reducible repeat (first | refine blk_drewN ?_ _ | refine blk_drew ?_ | refine blk_alloc ?_ _)); refine blk_far ?_ NB332_348.out _; (with_reducible repeat (first | refine blk_drewN ?_ _ | refine blk_drew ?_ | refine blk_alloc ?_ _)); refine blk_far ?_ NB332_348.out _; (with_reducible repeat (first | refine blk_drewN ?_ _ | refine blk_drew ?_ | refine blk_alloc ?_ _)); refine blk_far ?_ NB332_348.out _; (with_reducible repeat (first | refine blk_drewN ?_ _ | refine blk_drew ?_ | refine blk_alloc ?_ _)); exact BK332.out⟩, ⟨by repeat (first | (with_reducible first | exact HB.out | apply below_alloc | apply pw_below_drewN | apply below_drew1 | refine below_set ?_ GE330.out | refine below_set ?_ GE331.out | refine below_set ?_ GE332.out | refine below_set ?_ GE348.out) | exact HB.out)⟩⟩
     ·rw [if_neg c73] at H
      have c73b0 : decide (t347 < 0) = false := decide_eq_false c73
      clear c73
      (first | rw [c73b0] | (simp only [i64_w, i32_w]; rw [c73b0]) | skip)
      have H' := Aside0.mk H
      clear H
      go_wp2
      go_meet
      case rel => exact ⟨_, (a0_0), (a0_0), (l0_1), (a0_2), (a1_0), (l1_1), (a1_2), (.slice A0_1 l0_1.length c0_1), (.slice A1_1 l1_1.length c1_1), (by first | rfl | (simp; done) | (simp [*]; done)), H', ⟨by first | omega | exact Nat.le_refl _⟩, ⟨by (with_reducible repeat (first | apply Kd.R_alloc | apply Kd.R_drewN | apply Kd.R_drew)); exact Kd.R_mono HO337.out (fun _ hk => hk.1)⟩, ⟨by (with_reducible repeat (first | apply Kd.V_alloc | apply Kd.V_drewN | apply Kd.V_drew)); exact Kd.V_mono HO0_1.out (fun _ hk => ⟨hk.1.1.1.1, ⟨hk.2, ⟨hk.1.1.1.2, ⟨hk.1.1.2, hk.1.2⟩⟩⟩⟩)⟩, ⟨by (with_reducible repeat (first | apply Kd.V_alloc | apply Kd.V_drewN | apply Kd.V_drew)); exact Kd.V_mono HO1_1.out (fun _ hk => ⟨hk.1.1.1.1, ⟨hk.2, ⟨hk.1.1.1.2, ⟨hk.1.1.2, hk.1.2⟩⟩⟩⟩)⟩, ⟨S.b BK330.out⟩, ⟨S.b BK331.out⟩, ⟨S.b BK332.out⟩, ⟨by repeat (first | (with_reducible first | exact HB.out | apply below_alloc | apply pw_below_drewN | apply below_drew1 | refine below_set ?_ GE330.out | refine below_set ?_ GE331.out | refine below_set ?_ GE332.out) | exact HB.out)⟩⟩
    case rest =>
     clear HC58
     try clear c1
     try clear c2
     try clear p2
     try clear q2
     try clear hx2
     try clear hf2
     try clear c3
     try clear c4
     try clear c5
     try clear c5b0
     try clear c5b1
     try clear c6
     try clear c6b0
     try clear c6b1
     try clear p6
     try clear c7
     try clear c7b0
     try clear c7b1
     try clear c7b2
     try clear c8
     try clear c11
     try clear c12
     try clear c14
     try clear c21
     try clear c21b0
     try clear c25
     try clear c25b0
     try clear c26
     try clear c26b0
     try clear p27
     try clear q27
     try clear hx27
     try clear hf27
     try clear c30
     try clear c31
     try clear c32
     try clear c33
     try clear c34
     try clear c34b0
     try clear c34b1
     try clear c38
     try clear c39
     try clear c40
     try clear c43
     try clear c44
     try clear c49
     try clear c50
     try clear c51
     try clear c54
     try clear c55
     try clear c62
     try clear c63
     try clear p64
     try clear c65
     try clear c73
     try clear c73b0
     try clear c74
     try clear c75
     try clear c77
     try clear c80
     try clear c81
     try clear c82
     try clear hcz13_0
     try clear hcz13_1
     try clear hcz13_2
     try clear hcz15_0
     try clear hcz15_1
     try clear hcz15_2
     try clear hcz19_0
     try clear hcz19_1
     try clear hcz19_2
     try clear hcz20_0
     try clear hcz20_1
     try clear hcz20_2
     try clear hcz41_0
     try clear hcz41_1
     try clear hcz41_2
     try clear hcz45_0
     try clear hcz45_1
     try clear hcz45_2
     try clear hcz52_0
     try clear hcz52_1
     try clear hcz52_2
     try clear hcz56_0
     try clear hcz56_1
     try clear hcz56_2
     try clear hcz64_0
     try clear hcz64_1
     try clear hcz64_2
     try clear hcz66_0
     try clear hcz66_1
     try clear hcz66_2
     try clear hcz70_0
     try clear hcz70_1
     try clear hcz70_2
     try clear hcz71_0
     try clear hcz71_1
     try clear hcz71_2
     try clear hcz76_0
     try clear hcz76_1
     try clear hcz76_2
     try clear hcz78_0
     try clear hcz78_1
     try clear hcz78_2
     try clear hcz83_0
     try clear hcz83_1
     try clear hcz83_2
     try clear hcz84_0
     try clear hcz84_1
     try clear hcz84_2
     try clear hcz85_0
     try clear hcz85_1
     try clear hcz85_2
     try clear hfz13_0
     try clear hfz13_1
     try clear hfz13_2
     try clear hfz15_0
     try clear hfz15_1
     try clear hfz15_2
     try clear hfz19_0
     try clear hfz19_1
     try clear hfz19_2
     try clear hfz20_0
     try clear hfz20_1
     try clear hfz20_2
     try clear hfz41_0
     try clear hfz41_1
     try clear hfz41_2
     try clear hfz45_0
     try clear hfz45_1
     try clear hfz45_2
     try clear hfz52_0
     try clear hfz52_1
     try clear hfz52_2
     try clear hfz56_0
     try clear hfz56_1
     try clear hfz56_2
     try clear hfz64_0
     try clear hfz64_1
     try clear hfz64_2
     try clear hfz66_0
     try clear hfz66_1
     try clear hfz66_2
     try clear hfz70_0
     try clear hfz70_1
     try clear hfz70_2
     try clear hfz71_0
     try clear hfz71_1
     try clear hfz71_2
     try clear hfz76_0
     try clear hfz76_1
     try clear hfz76_2
     try clear hfz78_0
     try clear hfz78_1
     try clear hfz78_2
     try clear hfz83_0
     try clear hfz83_1
     try clear hfz83_2
     try clear hfz84_0
     try clear hfz84_1
     try clear hfz84_2
     try clear hfz85_0
     try clear hfz85_1
     try clear hfz85_2
     try clear hx27_0
     try clear p2
     try clear p27
     try clear p6
     try clear q27
     obtain ⟨kq, x9_57, x331000_57, x331001_57, x331002_57, x332000_57, x332001_57, x332002_57, u331001, u332001, rfl, HA, HJ57, HO_8, HO_331001, HO_332001, BK330, BK331, BK332, HB⟩ := hcut
     cases kq with
     | zero => exact absurd HA.out (by simp [rubricref5_Add.j1])
     | succ kj57 =>
      have H := HA.out
      clear HA
      simp only [rubricref5_Add.j1] at H
      have H' := Aside0.mk H
      clear H
      go_wp2
      go_loopg [14, 15] kj57 (fun kq v14 v15 w' => ∃ (x8_2 : List Int) (x14_2 : Int) (x15_2 : Int), v14 = .int .i64 x14_2 ∧ v15 = .int .i64 x15_2 ∧ Aside0 (rubricref5_Add.l1 kq t333 t334 x8_2 x9_57 x14_2 x15_2 x331000_57 x331001_57 x331002_57 x332000_57 x332001_57 x332002_57 = some (r1, r2, r3, r4)) ∧ Aside0 (kq ≤ kj57) ∧ Aside0 (Kd.R (Kd.int .u8) 5 w' w.heap.size (fun k_ => (w.heap.size ≤ k_)) v336 x8_2) ∧ Aside0 (Kd.V (Kd.int .u8) 5 w' w.heap.size (fun k_ => ((P0_1_ k_ ∨ P1_1_ k_) ∨ w.heap.size ≤ k_) ∧ some k_ ≠ (v336 : Value).ownBlock ∧ k_ ≠ gb330 ∧ k_ ≠ gb331 ∧ k_ ≠ gb332) u331001 x331001_57) ∧ Aside0 (Kd.V (Kd.int .u8) 5 w' w.heap.size (fun k_ => ((P0_1_ k_ ∨ P1_1_ k_) ∨ w.heap.size ≤ k_) ∧ some k_ ≠ (v336 : Value).ownBlock ∧ k_ ≠ gb330 ∧ k_ ≠ gb331 ∧ k_ ≠ gb332) u332001 x332001_57) ∧ Aside0 (w'.heap[gb330]? = some (.cells #[.bool x331000_57, u331001, .int .i64 x331002_57] 36 (0, 0))) ∧ Aside0 (w'.heap[gb331]? = some (.cells #[.bool x332000_57, u332001, .int .i64 x332002_57] 36 (0, 0))) ∧ Aside0 (w'.heap[gb332]? = some (.cells #[.bool false, (.slice none 0 0), .int .i64 0] 36 (0, 0))) ∧ Aside0 (Below w.heap.size w w'))
      case atStart => exact ⟨(y335), (0), (wrap64 (-t334)), (by first | rfl | (simp; done) | (simp [*]; done)), (by first | rfl | (simp; done) | (simp [*]; done)), H', ⟨Nat.le_refl _⟩, ⟨S.r HO_8.out⟩, ⟨S.v HO_331001.out⟩, ⟨S.v HO_332001.out⟩, ⟨S.b BK330.out⟩, ⟨S.b BK331.out⟩, ⟨S.b BK332.out⟩, ⟨by repeat (first | (with_reducible first | exact HB.out | apply below_alloc | apply pw_below_drewN | apply below_drew1 | refine below_set ?_ GE330.out | refine below_set ?_ GE331.out | refine below_set ?_ GE332.out) | exact HB.out)⟩⟩
      case round =>
       clear H'
       try clear c1
       try clear c2
       try clear p2
       try clear q2
       try clear hx2
       try clear hf2
       try clear c3
       try clear c4
       try clear c5
       try clear c5b0
       try clear c5b1
       try clear c6
       try clear c6b0
       try clear c6b1
       try clear p6
       try clear c7
       try clear c7b0
       try clear c7b1
       try clear c7b2
       try clear c8
       try clear c11
       try clear c12
       try clear c14
       try clear c21
       try clear c21b0
       try clear c25
       try clear c25b0
       try clear c26
       try clear c26b0
       try clear p27
       try clear q27
       try clear hx27
       try clear hf27
       try clear c30
       try clear c31
       try clear c32
       try clear c33
       try clear c34
       try clear c34b0
       try clear c34b1
       try clear c38
       try clear c39
       try clear c40
       try clear c43
       try clear c44
       try clear c49
       try clear c50
       try clear c51
       try clear c54
       try clear c55
       try clear c62
       try clear c63
       try clear p64
       try clear c65
       try clear c73
       try clear c73b0
       try clear c74
       try clear c75
       try clear c77
       try clear c80
       try clear c81
       try clear c82
       try clear hcz13_0
       try clear hcz13_1
       try clear hcz13_2
       try clear hcz15_0
       try clear hcz15_1
       try clear hcz15_2
       try clear hcz19_0
       try clear hcz19_1
       try clear hcz19_2
       try clear hcz20_0
       try clear hcz20_1
       try clear hcz20_2
       try clear hcz41_0
       try clear hcz41_1
       try clear hcz41_2
       try clear hcz45_0
       try clear hcz45_1
       try clear hcz45_2
       try clear hcz52_0
       try clear hcz52_1
       try clear hcz52_2
       try clear hcz56_0
       try clear hcz56_1
       try clear hcz56_2
       try clear hcz64_0
       try clear hcz64_1
       try clear hcz64_2
       try clear hcz66_0
       try clear hcz66_1
       try clear hcz66_2
       try clear hcz70_0
       try clear hcz70_1
       try clear hcz70_2
       try clear hcz71_0
       try clear hcz71_1
       try clear hcz71_2
       try clear hcz76_0
       try clear hcz76_1
       try clear hcz76_2
       try clear hcz78_0
       try clear hcz78_1
       try clear hcz78_2
       try clear hcz83_0
       try clear hcz83_1
       try clear hcz83_2
       try clear hcz84_0
       try clear hcz84_1
       try clear hcz84_2
       try clear hcz85_0
       try clear hcz85_1
       try clear hcz85_2
       try clear hfz13_0
       try clear hfz13_1
       try clear hfz13_2
       try clear hfz15_0
       try clear hfz15_1
       try clear hfz15_2
       try clear hfz19_0
       try clear hfz19_1
       try clear hfz19_2
       try clear hfz20_0
       try clear hfz20_1
       try clear hfz20_2
       try clear hfz41_0
       try clear hfz41_1
       try clear hfz41_2
       try clear hfz45_0
       try clear hfz45_1
       try clear hfz45_2
       try clear hfz52_0
       try clear hfz52_1
       try clear hfz52_2
       try clear hfz56_0
       try clear hfz56_1
       try clear hfz56_2
       try clear hfz64_0
       try clear hfz64_1
       try clear hfz64_2
       try clear hfz66_0
       try clear hfz66_1
       try clear hfz66_2
       try clear hfz70_0
       try clear hfz70_1
       try clear hfz70_2
       try clear hfz71_0
       try clear hfz71_1
       try clear hfz71_2
       try clear hfz76_0
       try clear hfz76_1
       try clear hfz76_2
       try clear hfz78_0
       try clear hfz78_1
       try clear hfz78_2
       try clear hfz83_0
       try clear hfz83_1
       try clear hfz83_2
       try clear hfz84_0
       try clear hfz84_1
       try clear hfz84_2
       try clear hfz85_0
       try clear hfz85_1
       try clear hfz85_2
       try clear hx27_0
       try clear p2
       try clear p27
       try clear p6
       try clear p64
       try clear q2
       try clear q27
       obtain ⟨x8_2, x14_2, x15_2, rfl, rfl, HA, HK2, HO_8, HO_331001, HO_332001, BK330, BK331, BK332, HB⟩ := hrel
       cases gk with
       | zero => exact absurd HA.out (by simp [rubricref5_Add.l1])
       | succ k2 =>
        have H := HA.out
        clear HA
        simp only [rubricref5_Add.l1] at H
        by_cases c86 : x15_2 ≤ t333
        ·rw [if_pos c86] at H
         have c86b0 : decide (x15_2 ≤ t333) = true := decide_eq_true c86
         clear c86
         replace H := Option.bind_eq_some_iff.mp H
         obtain ⟨t355, A870, H⟩ := H
         replace H : ((rubricref5_Dec_digit.f x332000_57 x332001_57 x332002_57 x15_2).bind fun t356 => (if (wrap64 ((wrap64 (t355 - t356)) - x14_2)) < 0 then (if 0 ≤ (wrap64 (t333 - x15_2)) then (if (wrap64 (t333 - x15_2)) < (x8_2.length : Int) then (rubricref5_Add.l1 k2 t333 t334 (x8_2.set ((wrap64 (t333 - x15_2)) : Int).toNat ((wrap64 ((wrap64 ((wrap64 (t355 - t356)) - x14_2)) + 10)) % 256)) x9_57 1 (wrap64 (x15_2 + 1)) x331000_57 x331001_57 x331002_57 x332000_57 x332001_57 x332002_57) else (none)) else (none)) else (if 0 ≤ (wrap64 (t333 - x15_2)) then (if (wrap64 (t333 - x15_2)) < (x8_2.length : Int) then (rubricref5_Add.l1 k2 t333 t334 (x8_2.set ((wrap64 (t333 - x15_2)) : Int).toNat ((wrap64 ((wrap64 (t355 - t356)) - x14_2)) % 256)) x9_57 0 (wrap64 (x15_2 + 1)) x331000_57 x331001_57 x331002_57 x332000_57 x332001_57 x332002_57) else (none)) else (none)))) = some (r1, r2, r3, r4) := H
         have A87 := Aside0.mk A870
         clear A870
         replace H := Option.bind_eq_some_iff.mp H
         obtain ⟨t356, A880, H⟩ := H
         replace H : (if (wrap64 ((wrap64 (t355 - t356)) - x14_2)) < 0 then (if 0 ≤ (wrap64 (t333 - x15_2)) then (if (wrap64 (t333 - x15_2)) < (x8_2.length : Int) then (rubricref5_Add.l1 k2 t333 t334 (x8_2.set ((wrap64 (t333 - x15_2)) : Int).toNat ((wrap64 ((wrap64 ((wrap64 (t355 - t356)) - x14_2)) + 10)) % 256)) x9_57 1 (wrap64 (x15_2 + 1)) x331000_57 x331001_57 x331002_57 x332000_57 x332001_57 x332002_57) else (none)) else (none)) else (if 0 ≤ (wrap64 (t333 - x15_2)) then (if (wrap64 (t333 - x15_2)) < (x8_2.length : Int) then (rubricref5_Add.l1 k2 t333 t334 (x8_2.set ((wrap64 (t333 - x15_2)) : Int).toNat ((wrap64 ((wrap64 (t355 - t356)) - x14_2)) % 256)) x9_57 0 (wrap64 (x15_2 + 1)) x331000_57 x331001_57 x331002_57 x332000_57 x332001_57 x332002_57) else (none)) else (none))) = some (r1, r2, r3, r4) := H
         have A88 := Aside0.mk A880
         clear A880
         by_cases c89 : (wrap64 ((wrap64 (t355 - t356)) - x14_2)) < 0
         ·rw [if_pos c89] at H
          have c89b0 : decide ((wrap64 ((wrap64 (t355 - t356)) - x14_2)) < 0) = true := decide_eq_true c89
          clear c89
          obtain ⟨ji90, hji90⟩ : ∃ j_ : Int, (wrap64 (t333 - x15_2)) = j_ := ⟨_, rfl⟩
          replace H : (if 0 ≤ (ji90) then (if (ji90) < (x8_2.length : Int) then (rubricref5_Add.l1 k2 t333 t334 (x8_2.set ((ji90) : Int).toNat ((wrap64 ((wrap64 ((wrap64 (t355 - t356)) - x14_2)) + 10)) % 256)) x9_57 1 (wrap64 (x15_2 + 1)) x331000_57 x331001_57 x331002_57 x332000_57 x332001_57 x332002_57) else (none)) else (none)) = some (r1, r2, r3, r4) := by first | (rw [hji90] at H; exact H) | (simp only [hji90] at H ⊢; exact H)
          (try rw [hji90] at A87)
          (try rw [hji90] at A88)
          have hji90w : (IntKind.i64.wrap (t333 - x15_2)) = ji90 := (i64_w _).trans hji90
          by_cases c91 : 0 ≤ (ji90)
          ·rw [if_pos c91] at H
           have c91b0 : decide (0 ≤ (ji90)) = true := decide_eq_true c91
           clear c91
           by_cases c92 : (ji90) < (x8_2.length : Int)
           ·rw [if_pos c92] at H
            have c92b0 : decide ((ji90) < (x8_2.length : Int)) = true := decide_eq_true c92
            clear c92
            obtain ⟨y357, hy357⟩ : ∃ y_ : List Int, y_ = (x8_2.set ((ji90) : Int).toNat ((wrap64 ((wrap64 ((wrap64 (t355 - t356)) - x14_2)) + 10)) % 256)) := ⟨_, rfl⟩
            replace H : (rubricref5_Add.l1 k2 t333 t334 y357 x9_57 1 (wrap64 (x15_2 + 1)) x331000_57 x331001_57 x331002_57 x332000_57 x332001_57 x332002_57) = some (r1, r2, r3, r4) := by first | (rw [hy357]; with_reducible exact H) | (have H2_ := (Option.bind_some _ _).symm.trans H; rw [hy357]; with_reducible exact H2_) | (have H2_ := (Option.bind_some _ _).symm.trans H; with_reducible exact H2_) | with_reducible exact H | (rw [hy357]; exact H) | exact H
            have Ny357 := Aside0.mk hy357
            clear hy357
            have H' := Aside0.mk H
            clear H
            try go_wp2
            have n0_ := Aside0.mk (Kd.R_drew HO_8.out)
            have n1_ := Aside0.mk (Kd.V_drew HO_331001.out)
            have n2_ := Aside0.mk (Kd.V_drew HO_332001.out)
            have n3_ := Aside0.mk (blk_drew BK330.out)
            have n4_ := Aside0.mk (blk_drew BK331.out)
            have n5_ := Aside0.mk (blk_drew BK332.out)
            have n6_ := Aside0.mk (below_drew1 HB.out)
            clear HO_8
            clear HO_331001
            clear HO_332001
            clear BK330
            clear BK331
            clear BK332
            clear HB
            have HO_8 := n0_
            have HO_331001 := n1_
            have HO_332001 := n2_
            have BK330 := n3_
            have BK331 := n4_
            have BK332 := n5_
            have HB := n6_
            clear n0_ n1_ n2_ n3_ n4_ n5_ n6_
            obtain ⟨Ao95, co95, eo95⟩ := Kd.V_slice HO_331001.out
            (first | subst eo95 | (injection eo95 with f1_ f2_ f3_; have f4_ := f1_.symm; have f5_ := f3_.symm; clear f1_ f2_ f3_; subst f4_; subst f5_))
            refine start_ (n := 10) (S := fun w' => w'.cell? ⟨gb330, 0, none⟩ = some (.bool x331000_57) ∧ w'.cell? ⟨gb330, 1, none⟩ = some (.slice Ao95 x331001_57.length co95) ∧ w'.cell? ⟨gb330, 2, none⟩ = some (.int .i64 x331002_57) ∧ w'.cell? ⟨gb331, 0, none⟩ = some (.bool x332000_57) ∧ w'.cell? ⟨gb331, 1, none⟩ = some (u332001) ∧ w'.cell? ⟨gb331, 2, none⟩ = some (.int .i64 x332002_57)) (ds := []) #[false, false, false, false, false, false, false, false, false, false] (by kernel_rfl) rfl rfl ⟨(blk_cell BK330.out 0).trans rfl, (blk_cell BK330.out 1).trans rfl, (blk_cell BK330.out 2).trans rfl, (blk_cell BK331.out 0).trans rfl, (blk_cell BK331.out 1).trans rfl, (blk_cell BK331.out 2).trans rfl⟩ (fun hHeld => ?_); refine with_tabW rubricref5_Add.tab21 rubricref5_Add.bits21 (fun HT_ HW_ => ?_)
            generalize wr.drew = w94 at HO_8 HO_331001 HO_332001 BK330 BK331 BK332 HB hHeld ⊢
            refine pure_ (i := 1) (N := some 79) (v := ?_) (a' := ?_) #[false, true, false, false, false, false, false, false, false, false] rfl rfl (any_of HT_.out (by kernel_rfl)) (fun _ _ _ h => h) (Or.inl ⟨by rfl, ?_⟩) ?_ ?_
            rotate_left
            ·intro w'
             go_simp
             with_reducible rfl
            rotate_left
            ·simp only [Act.put, List.setIfInBounds_toArray, List.set_cons_zero, List.set_cons_succ, i64_w, i32_w]
             rfl
            refine pure_ (i := 4) (N := some 82) (v := ?_) (a' := ?_) #[false, true, false, false, true, false, false, false, false, false] rfl rfl (any_of HT_.out (by kernel_rfl)) (fun _ _ _ h => h) (Or.inl ⟨by rfl, ?_⟩) ?_ ?_
            rotate_left
            ·intro w'
             go_simp
             with_reducible rfl
            rotate_left
            ·simp only [Act.put, List.setIfInBounds_toArray, List.set_cons_zero, List.set_cons_succ, i64_w, i32_w]
             rfl
            refine pure_ (i := 7) (N := some 85) (v := ?_) (a' := ?_) #[false, true, false, false, true, false, false, true, false, false] rfl rfl (any_of HT_.out (by kernel_rfl)) (fun _ _ _ h => h) (Or.inl ⟨by rfl, ?_⟩) ?_ ?_
            rotate_left
            ·intro w'
             go_simp
             with_reducible rfl
            rotate_left
            ·simp only [Act.put, List.setIfInBounds_toArray, List.set_cons_zero, List.set_cons_succ, i64_w, i32_w]
             rfl
            refine take_ (i := 0) (N := some 78) (v := ?_) (a' := ?_) #[true, true, false, false, true, false, false, true, false, false] rfl rfl (take_ofW HT_.out HW_.out (by kernel_rfl)) (fun _ _ _ h => h) (Or.inl ⟨by rfl, ?_⟩) hHeld ?_ ?_
            rotate_left
            ·rintro w' ⟨s0, s1, s2, s3, s4, s5⟩
             go_simp
             with_reducible rfl
            rotate_left
            ·simp only [Act.put, List.setIfInBounds_toArray, List.set_cons_zero, List.set_cons_succ, i64_w, i32_w]
             rfl
            refine take_ (i := 3) (N := some 81) (v := ?_) (a' := ?_) #[true, true, false, true, true, false, false, true, false, false] rfl rfl (take_ofW HT_.out HW_.out (by kernel_rfl)) (fun _ _ _ h => h) (Or.inl ⟨by rfl, ?_⟩) hHeld ?_ ?_
            rotate_left
            ·rintro w' ⟨s0, s1, s2, s3, s4, s5⟩
             go_simp
             with_reducible rfl
            rotate_left
            ·simp only [Act.put, List.setIfInBounds_toArray, List.set_cons_zero, List.set_cons_succ, i64_w, i32_w]
             rfl
            refine one_ (i := 2) (N := some 80) #[true, true, true, true, true, false, false, true, false, false] rfl rfl (one_of HT_.out (by kernel_rfl)) (by decide) (fun K hK => ?_)
            refine goes_ Try.func31 (by kernel_rfl) rfl #[.agg #[.bool x331000_57, .slice Ao95 x331001_57.length co95, .int .i64 x331002_57], .int .i64 x15_2] (by rfl) rfl rfl (by (try simp only [List.map_toArray, List.map_cons, List.map_nil]); first | done | rfl | (simp only [List.length_drop, List.length_take]; rfl)) ?_
            with_reducible refine (rubricref5_Dec_digit.calls x331000_57 _ _ x331001_57 x331002_57 x15_2 t355 _ ?side1 ?side2 A87.out).mono ?_
            (case side1 => repeat (first | exact (Kd.V_reads' HO_331001.out).2.2 | (with_reducible refine Kd.C_alloc ?_ _) | (with_reducible refine Kd.C_drewN ?_ _) | (with_reducible refine Kd.C_drew ?_)))
            (case side2 => exact (Kd.V_reads' HO_331001.out).2.1)
            rintro e w96 ⟨rfl, hb⟩
            refine ⟨_, rfl, ?_⟩
            have n0_ := Aside0.mk (Kd.R_below (S.r HO_8.out) hb)
            have n1_ := Aside0.mk (Kd.V_below (S.v HO_331001.out) hb)
            have n2_ := Aside0.mk (Kd.V_below (S.v HO_332001.out) hb)
            have n3_ := Aside0.mk (blk_below (g := gb330) (o := .cells #[.bool x331000_57, .slice Ao95 x331001_57.length co95, .int .i64 x331002_57] 36 (0, 0)) (S.b BK330.out) hb)
            have n4_ := Aside0.mk (blk_below (g := gb331) (o := .cells #[.bool x332000_57, u332001, .int .i64 x332002_57] 36 (0, 0)) (S.b BK331.out) hb)
            have n5_ := Aside0.mk (blk_below (g := gb332) (o := .cells #[.bool false, .slice none 0 0, .int .i64 0] 36 (0, 0)) (S.b BK332.out) hb)
            have n6_ := Aside0.mk (below_step (by repeat (first | (with_reducible first | exact HB.out | apply below_alloc | apply pw_below_drewN | apply below_drew1 | refine below_set ?_ GE330.out | refine below_set ?_ GE331.out | refine below_set ?_ GE332.out) | exact HB.out)) hb)
            clear HO_8
            clear HO_331001
            clear HO_332001
            clear BK330
            clear BK331
            clear BK332
            clear HB
            have HO_8 := n0_
            have HO_331001 := n1_
            have HO_332001 := n2_
            have BK330 := n3_
            have BK331 := n4_
            have BK332 := n5_
            have HB := n6_
            clear n0_ n1_ n2_ n3_ n4_ n5_ n6_
            (try clear hb)
            (try clear hb2)
            (try clear hk)
            (try clear hi)
            obtain ⟨Ao97, co97, eo97⟩ := Kd.V_slice HO_332001.out
            (first | subst eo97 | (injection eo97 with f1_ f2_ f3_; have f4_ := f1_.symm; have f5_ := f3_.symm; clear f1_ f2_ f3_; subst f4_; subst f5_))
            refine hK.out _ _ ⟨(blk_cell BK330.out 0).trans rfl, (blk_cell BK330.out 1).trans rfl, (blk_cell BK330.out 2).trans rfl, (blk_cell BK331.out 0).trans rfl, (blk_cell BK331.out 1).trans rfl, (blk_cell BK331.out 2).trans rfl⟩ (fun hHeld => ?_)
            clear hK K
            refine norm_ (a' := ?_) ?_ ?_
            rotate_left
            ·show Act.put _ (some 80) _ = _
             simp only [Act.put, List.setIfInBounds_toArray, List.set_cons_zero, List.set_cons_succ, i64_w, i32_w]
             rfl
            refine one_ (i := 5) (N := some 83) #[true, true, true, true, true, true, false, true, false, false] rfl rfl (one_of HT_.out (by kernel_rfl)) (by decide) (fun K hK => ?_)
            refine goes_ Try.func31 (by kernel_rfl) rfl #[.agg #[.bool x332000_57, .slice Ao97 x332001_57.length co97, .int .i64 x332002_57], .int .i64 x15_2] (by rfl) rfl rfl (by (try simp only [List.map_toArray, List.map_cons, List.map_nil]); first | done | rfl | (simp only [List.length_drop, List.length_take]; rfl)) ?_
            with_reducible refine (rubricref5_Dec_digit.calls x332000_57 _ _ x332001_57 x332002_57 x15_2 t356 _ ?side1 ?side2 A88.out).mono ?_
            (case side1 => repeat (first | exact (Kd.V_reads' HO_332001.out).2.2 | (with_reducible refine Kd.C_alloc ?_ _) | (with_reducible refine Kd.C_drewN ?_ _) | (with_reducible refine Kd.C_drew ?_)))
            (case side2 => exact (Kd.V_reads' HO_332001.out).2.1)
            rintro e w98 ⟨rfl, hb⟩
            refine ⟨_, rfl, ?_⟩
            have n0_ := Aside0.mk (Kd.R_below (S.r HO_8.out) hb)
            have n1_ := Aside0.mk (Kd.V_below (S.v HO_331001.out) hb)
            have n2_ := Aside0.mk (Kd.V_below (S.v HO_332001.out) hb)
            have n3_ := Aside0.mk (blk_below (g := gb330) (o := .cells #[.bool x331000_57, .slice Ao95 x331001_57.length co95, .int .i64 x331002_57] 36 (0, 0)) (S.b BK330.out) hb)
            have n4_ := Aside0.mk (blk_below (g := gb331) (o := .cells #[.bool x332000_57, .slice Ao97 x332001_57.length co97, .int .i64 x332002_57] 36 (0, 0)) (S.b BK331.out) hb)
            have n5_ := Aside0.mk (blk_below (g := gb332) (o := .cells #[.bool false, .slice none 0 0, .int .i64 0] 36 (0, 0)) (S.b BK332.out) hb)
            have n6_ := Aside0.mk (below_step (by repeat (first | (with_reducible first | exact HB.out | apply below_alloc | apply pw_below_drewN | apply below_drew1 | refine below_set ?_ GE330.out | refine below_set ?_ GE331.out | refine below_set ?_ GE332.out) | exact HB.out)) hb)
            clear HO_8
            clear HO_331001
            clear HO_332001
            clear BK330
            clear BK331
            clear BK332
            clear HB
            have HO_8 := n0_
            have HO_331001 := n1_
            have HO_332001 := n2_
            have BK330 := n3_
            have BK331 := n4_
            have BK332 := n5_
            have HB := n6_
            clear n0_ n1_ n2_ n3_ n4_ n5_ n6_
            (try clear hb)
            (try clear hb2)
            (try clear hk)
            (try clear hi)
            refine hK.out _ _ ⟨(blk_cell BK330.out 0).trans rfl, (blk_cell BK330.out 1).trans rfl, (blk_cell BK330.out 2).trans rfl, (blk_cell BK331.out 0).trans rfl, (blk_cell BK331.out 1).trans rfl, (blk_cell BK331.out 2).trans rfl⟩ (fun hHeld => ?_)
            clear hK K
            refine norm_ (a' := ?_) ?_ ?_
            rotate_left
            ·show Act.put _ (some 83) _ = _
             simp only [Act.put, List.setIfInBounds_toArray, List.set_cons_zero, List.set_cons_succ, i64_w, i32_w]
             rfl
            refine pure_ (i := 6) (N := some 84) (v := ?_) (a' := ?_) #[true, true, true, true, true, true, true, true, false, false] rfl rfl (any_of HT_.out (by kernel_rfl)) (fun _ _ _ h => h) (Or.inl ⟨by rfl, ?_⟩) ?_ ?_
            rotate_left
            ·intro w'
             go_simp
             with_reducible rfl
            rotate_left
            ·simp only [Act.put, List.setIfInBounds_toArray, List.set_cons_zero, List.set_cons_succ, i64_w, i32_w]
             rfl
            refine pure_ (i := 8) (N := some 86) (v := ?_) (a' := ?_) #[true, true, true, true, true, true, true, true, true, false] rfl rfl (any_of HT_.out (by kernel_rfl)) (fun _ _ _ h => h) (Or.inl ⟨by rfl, ?_⟩) ?_ ?_
            rotate_left
            ·intro w'
             go_simp
             with_reducible rfl
            rotate_left
            ·simp only [Act.put, List.setIfInBounds_toArray, List.set_cons_zero, List.set_cons_succ, i64_w, i32_w]
             rfl
            refine pure_ (i := 9) (N := some 16) (v := ?_) (a' := ?_) #[true, true, true, true, true, true, true, true, true, true] rfl rfl (any_of HT_.out (by kernel_rfl)) (fun _ _ _ h => h) (Or.inl ⟨by rfl, ?_⟩) ?_ ?_
            rotate_left
            ·intro w'
             go_simp
             with_reducible rfl
            rotate_left
            ·simp only [Act.put, List.setIfInBounds_toArray, List.set_cons_zero, List.set_cons_succ, i64_w, i32_w]
             rfl
            refine done_ (done_of HT_.out (by kernel_rfl)) ?_
            have p93 : 0 ≤ ((ji90) : Int) := of_decide_eq_true (by first | (with_reducible assumption) | assumption)
            have q93 : ((ji90) : Int) < ((x8_2.length : Int) : Int) := of_decide_eq_true (by first | (with_reducible assumption) | assumption)
            obtain ⟨go93, co93, eo93, gb93, gl93, cl93, HG93⟩ := Kd.R_form HO_8.out (by omega)
            (first | cases eo93 | (injection eo93 with ea_ en_ ec_; (first | subst ea_ | (injection ea_ with ea_; subst ea_)); subst ec_; clear en_))
            have GB93 := Aside0.mk gb93
            have GG93 := Aside0.mk HG93
            clear gb93 gl93 HG93
            obtain ⟨hx93_0, hf93_0⟩ := Kd.R_celln 0 HO_8.out ((ji90) : Int) p93 q93
            replace p93 := eq_true p93
            replace q93 := eq_true q93
            obtain ⟨hy99_, hz99_⟩ := Kd.R_celln 0 HO_8.out ((ji90) : Int) (of_decide_eq_true (by first | (with_reducible assumption) | assumption)) (of_decide_eq_true (by first | (with_reducible assumption) | assumption))
            have HP99 := Kd.R_putg HO_8.out ((ji90) : Int) ((wrap64 ((wrap64 ((wrap64 (t355 - t356)) - x14_2)) + 10)) % 256)
            try go_wp2_with (first | ((with_reducible refine gate_store (t := 5) (p := 97) rfl ?_); refine store_event (t := 5) (p := 97) (v := ?vo_w100) (w1 := (w98.setCell ⟨go93, ((ji90) : Int).toNat, none⟩ (.int .u8 ((wrap64 ((wrap64 ((wrap64 (t355 - t356)) - x14_2)) + 10)) % 256)))) ?hg ?ho ?hn ?hr ?_; (case ho => rfl); (case hg => rfl); (case hn => rfl); (case hr => first | (go_simp; done) | (go_simp; rfl)); intro w100 hw; have hg : w98.grownBy w100 (some go93) := (by rw [hw]; exact HP99.2); have hp_ : Kd.R (Kd.int .u8) 5 w100 w.heap.size (fun k_ => (w.heap.size ≤ k_)) (.slice (some ⟨go93, 0, none⟩) x8_2.length co93) y357 := (by rw [hw, Ny357.out]; exact HP99.1); clear HP99; have n0_ := Aside0.mk (hp_); have n1_ := Aside0.mk (Kd.V_afterv (v := (.slice (some ⟨go93, 0, none⟩) x8_2.length co93)) (v1 := (.slice (some ⟨go93, 0, none⟩) x8_2.length co93)) (ok := (fun k_ => ((P0_1_ k_ ∨ P1_1_ k_) ∨ w.heap.size ≤ k_) ∧ k_ ≠ gb330 ∧ k_ ≠ gb331 ∧ k_ ≠ gb332)) (by (with_reducible repeat (first | apply Kd.V_alloc | apply Kd.V_drewN | apply Kd.V_drew)); exact Kd.V_mono HO_331001.out (fun _ hk => ⟨⟨hk.1, ⟨hk.2.2.1, ⟨hk.2.2.2.1, hk.2.2.2.2⟩⟩⟩, hk.2.1⟩)) hg (.inl rfl)); have n2_ := Aside0.mk (Kd.V_afterv (v := (.slice (some ⟨go93, 0, none⟩) x8_2.length co93)) (v1 := (.slice (some ⟨go93, 0, none⟩) x8_2.length co93)) (ok := (fun k_ => ((P0_1_ k_ ∨ P1_1_ k_) ∨ w.heap.size ≤ k_) ∧ k_ ≠ gb330 ∧ k_ ≠ gb331 ∧ k_ ≠ gb332)) (by (with_reducible repeat (first | apply Kd.V_alloc | apply Kd.V_drewN | apply Kd.V_drew)); exact Kd.V_mono HO_332001.out (fun _ hk => ⟨⟨hk.1, ⟨hk.2.2.1, ⟨hk.2.2.2.1, hk.2.2.2.2⟩⟩⟩, hk.2.1⟩)) hg (.inl rfl)); have n3_ := Aside0.mk (blk_grown (g := gb330) (o := .cells #[.bool x331000_57, .slice Ao95 x331001_57.length co95, .int .i64 x331002_57] 36 (0, 0)) (S.b BK330.out) hg (Kd.R_ne HO_8.out BK330.out (by decide))); have n4_ := Aside0.mk (blk_grown (g := gb331) (o := .cells #[.bool x332000_57, .slice Ao97 x332001_57.length co97, .int .i64 x332002_57] 36 (0, 0)) (S.b BK331.out) hg (Kd.R_ne HO_8.out BK331.out (by decide))); have n5_ := Aside0.mk (blk_grown (g := gb332) (o := .cells #[.bool false, .slice none 0 0, .int .i64 0] 36 (0, 0)) (S.b BK332.out) hg (Kd.R_ne HO_8.out BK332.out (by decide))); have n6_ := Aside0.mk ((by rw [hw]; exact below_set (HB.out) GB93.out : Below w.heap.size w w100)); clear HO_8; clear HO_331001; clear HO_332001; clear BK330; clear BK331; clear BK332; clear HB; have HO_8 := n0_; have HO_331001 := n1_; have HO_332001 := n2_; have BK330 := n3_; have BK331 := n4_; have BK332 := n5_; have HB := n6_; clear n0_ n1_ n2_ n3_ n4_ n5_ n6_; clear hg hw hp_))
            go_roundg k2
            case measure => have := HJ57.out; have := HK2.out; omega
            case rel => exact ⟨(y357), (1), (wrap64 (x15_2 + 1)), (by first | rfl | (simp; done) | (simp [*]; done)), (by first | rfl | (simp; done) | (simp [*]; done)), H', ⟨by have := HJ57.out; have := HK2.out; omega⟩, ⟨S.r HO_8.out⟩, ⟨by (with_reducible repeat (first | apply Kd.V_alloc | apply Kd.V_drewN | apply Kd.V_drew)); exact Kd.V_mono HO_331001.out (fun _ hk => ⟨hk.1.1, ⟨hk.2, ⟨hk.1.2.1, ⟨hk.1.2.2.1, hk.1.2.2.2⟩⟩⟩⟩)⟩, ⟨by (with_reducible repeat (first | apply Kd.V_alloc | apply Kd.V_drewN | apply Kd.V_drew)); exact Kd.V_mono HO_332001.out (fun _ hk => ⟨hk.1.1, ⟨hk.2, ⟨hk.1.2.1, ⟨hk.1.2.2.1, hk.1.2.2.2⟩⟩⟩⟩)⟩, ⟨S.b BK330.out⟩, ⟨S.b BK331.out⟩, ⟨S.b BK332.out⟩, ⟨by repeat (first | (with_reducible first | exact HB.out | apply below_alloc | apply pw_below_drewN | apply below_drew1 | refine below_set ?_ GE330.out | refine below_set ?_ GE331.out | refine below_set ?_ GE332.out) | exact HB.out)⟩⟩
           ·rw [if_neg c92] at H
            exact absurd H (by simp)
          ·rw [if_neg c91] at H
           exact absurd H (by simp)
         ·rw [if_neg c89] at H
          have c89b0 : decide ((wrap64 ((wrap64 (t355 - t356)) - x14_2)) < 0) = false := decide_eq_false c89
          clear c89
          obtain ⟨ji101, hji101⟩ : ∃ j_ : Int, (wrap64 (t333 - x15_2)) = j_ := ⟨_, rfl⟩
          replace H : (if 0 ≤ (ji101) then (if (ji101) < (x8_2.length : Int) then (rubricref5_Add.l1 k2 t333 t334 (x8_2.set ((ji101) : Int).toNat ((wrap64 ((wrap64 (t355 - t356)) - x14_2)) % 256)) x9_57 0 (wrap64 (x15_2 + 1)) x331000_57 x331001_57 x331002_57 x332000_57 x332001_57 x332002_57) else (none)) else (none)) = some (r1, r2, r3, r4) := by first | (rw [hji101] at H; exact H) | (simp only [hji101] at H ⊢; exact H)
          (try rw [hji101] at A87)
          (try rw [hji101] at A88)
          have hji101w : (IntKind.i64.wrap (t333 - x15_2)) = ji101 := (i64_w _).trans hji101
          by_cases c102 : 0 ≤ (ji101)
          ·rw [if_pos c102] at H
           have c102b0 : decide (0 ≤ (ji101)) = true := decide_eq_true c102
           clear c102
           by_cases c103 : (ji101) < (x8_2.length : Int)
           ·rw [if_pos c103] at H
            have c103b0 : decide ((ji101) < (x8_2.length : Int)) = true := decide_eq_true c103
            clear c103
            obtain ⟨y358, hy358⟩ : ∃ y_ : List Int, y_ = (x8_2.set ((ji101) : Int).toNat ((wrap64 ((wrap64 (t355 - t356)) - x14_2)) % 256)) := ⟨_, rfl⟩
            replace H : (rubricref5_Add.l1 k2 t333 t334 y358 x9_57 0 (wrap64 (x15_2 + 1)) x331000_57 x331001_57 x331002_57 x332000_57 x332001_57 x332002_57) = some (r1, r2, r3, r4) := by first | (rw [hy358]; with_reducible exact H) | (have H2_ := (Option.bind_some _ _).symm.trans H; rw [hy358]; with_reducible exact H2_) | (have H2_ := (Option.bind_some _ _).symm.trans H; with_reducible exact H2_) | with_reducible exact H | (rw [hy358]; exact H) | exact H
            have Ny358 := Aside0.mk hy358
            clear hy358
            have H' := Aside0.mk H
            clear H
            try go_wp2
            have n0_ := Aside0.mk (Kd.R_drew HO_8.out)
            have n1_ := Aside0.mk (Kd.V_drew HO_331001.out)
            have n2_ := Aside0.mk (Kd.V_drew HO_332001.out)
            have n3_ := Aside0.mk (blk_drew BK330.out)
            have n4_ := Aside0.mk (blk_drew BK331.out)
            have n5_ := Aside0.mk (blk_drew BK332.out)
            have n6_ := Aside0.mk (below_drew1 HB.out)
            clear HO_8
            clear HO_331001
            clear HO_332001
            clear BK330
            clear BK331
            clear BK332
            clear HB
            have HO_8 := n0_
            have HO_331001 := n1_
            have HO_332001 := n2_
            have BK330 := n3_
            have BK331 := n4_
            have BK332 := n5_
            have HB := n6_
            clear n0_ n1_ n2_ n3_ n4_ n5_ n6_
            obtain ⟨Ao106, co106, eo106⟩ := Kd.V_slice HO_331001.out
            (first | subst eo106 | (injection eo106 with f1_ f2_ f3_; have f4_ := f1_.symm; have f5_ := f3_.symm; clear f1_ f2_ f3_; subst f4_; subst f5_))
            refine start_ (n := 10) (S := fun w' => w'.cell? ⟨gb330, 0, none⟩ = some (.bool x331000_57) ∧ w'.cell? ⟨gb330, 1, none⟩ = some (.slice Ao106 x331001_57.length co106) ∧ w'.cell? ⟨gb330, 2, none⟩ = some (.int .i64 x331002_57) ∧ w'.cell? ⟨gb331, 0, none⟩ = some (.bool x332000_57) ∧ w'.cell? ⟨gb331, 1, none⟩ = some (u332001) ∧ w'.cell? ⟨gb331, 2, none⟩ = some (.int .i64 x332002_57)) (ds := []) #[false, false, false, false, false, false, false, false, false, false] (by kernel_rfl) rfl rfl ⟨(blk_cell BK330.out 0).trans rfl, (blk_cell BK330.out 1).trans rfl, (blk_cell BK330.out 2).trans rfl, (blk_cell BK331.out 0).trans rfl, (blk_cell BK331.out 1).trans rfl, (blk_cell BK331.out 2).trans rfl⟩ (fun hHeld => ?_); refine with_tabW rubricref5_Add.tab21 rubricref5_Add.bits21 (fun HT_ HW_ => ?_)
            generalize wr.drew = w105 at HO_8 HO_331001 HO_332001 BK330 BK331 BK332 HB hHeld ⊢
            refine pure_ (i := 1) (N := some 79) (v := ?_) (a' := ?_) #[false, true, false, false, false, false, false, false, false, false] rfl rfl (any_of HT_.out (by kernel_rfl)) (fun _ _ _ h => h) (Or.inl ⟨by rfl, ?_⟩) ?_ ?_
            rotate_left
            ·intro w'
             go_simp
             with_reducible rfl
            rotate_left
            ·simp only [Act.put, List.setIfInBounds_toArray, List.set_cons_zero, List.set_cons_succ, i64_w, i32_w]
             rfl
            refine pure_ (i := 4) (N := some 82) (v := ?_) (a' := ?_) #[false, true, false, false, true, false, false, false, false, false] rfl rfl (any_of HT_.out (by kernel_rfl)) (fun _ _ _ h => h) (Or.inl ⟨by rfl, ?_⟩) ?_ ?_
            rotate_left
            ·intro w'
             go_simp
             with_reducible rfl
            rotate_left
            ·simp only [Act.put, List.setIfInBounds_toArray, List.set_cons_zero, List.set_cons_succ, i64_w, i32_w]
             rfl
            refine pure_ (i := 7) (N := some 85) (v := ?_) (a' := ?_) #[false, true, false, false, true, false, false, true, false, false] rfl rfl (any_of HT_.out (by kernel_rfl)) (fun _ _ _ h => h) (Or.inl ⟨by rfl, ?_⟩) ?_ ?_
            rotate_left
            ·intro w'
             go_simp
             with_reducible rfl
            rotate_left
            ·simp only [Act.put, List.setIfInBounds_toArray, List.set_cons_zero, List.set_cons_succ, i64_w, i32_w]
             rfl
            refine take_ (i := 0) (N := some 78) (v := ?_) (a' := ?_) #[true, true, false, false, true, false, false, true, false, false] rfl rfl (take_ofW HT_.out HW_.out (by kernel_rfl)) (fun _ _ _ h => h) (Or.inl ⟨by rfl, ?_⟩) hHeld ?_ ?_
            rotate_left
            ·rintro w' ⟨s0, s1, s2, s3, s4, s5⟩
             go_simp
             with_reducible rfl
            rotate_left
            ·simp only [Act.put, List.setIfInBounds_toArray, List.set_cons_zero, List.set_cons_succ, i64_w, i32_w]
             rfl
            refine take_ (i := 3) (N := some 81) (v := ?_) (a' := ?_) #[true, true, false, true, true, false, false, true, false, false] rfl rfl (take_ofW HT_.out HW_.out (by kernel_rfl)) (fun _ _ _ h => h) (Or.inl ⟨by rfl, ?_⟩) hHeld ?_ ?_
            rotate_left
            ·rintro w' ⟨s0, s1, s2, s3, s4, s5⟩
             go_simp
             with_reducible rfl
            rotate_left
            ·simp only [Act.put, List.setIfInBounds_toArray, List.set_cons_zero, List.set_cons_succ, i64_w, i32_w]
             rfl
            refine one_ (i := 2) (N := some 80) #[true, true, true, true, true, false, false, true, false, false] rfl rfl (one_of HT_.out (by kernel_rfl)) (by decide) (fun K hK => ?_)
            refine goes_ Try.func31 (by kernel_rfl) rfl #[.agg #[.bool x331000_57, .slice Ao106 x331001_57.length co106, .int .i64 x331002_57], .int .i64 x15_2] (by rfl) rfl rfl (by (try simp only [List.map_toArray, List.map_cons, List.map_nil]); first | done | rfl | (simp only [List.length_drop, List.length_take]; rfl)) ?_
            with_reducible refine (rubricref5_Dec_digit.calls x331000_57 _ _ x331001_57 x331002_57 x15_2 t355 _ ?side1 ?side2 A87.out).mono ?_
            (case side1 => repeat (first | exact (Kd.V_reads' HO_331001.out).2.2 | (with_reducible refine Kd.C_alloc ?_ _) | (with_reducible refine Kd.C_drewN ?_ _) | (with_reducible refine Kd.C_drew ?_)))
            (case side2 => exact (Kd.V_reads' HO_331001.out).2.1)
            rintro e w107 ⟨rfl, hb⟩
            refine ⟨_, rfl, ?_⟩
            have n0_ := Aside0.mk (Kd.R_below (S.r HO_8.out) hb)
            have n1_ := Aside0.mk (Kd.V_below (S.v HO_331001.out) hb)
            have n2_ := Aside0.mk (Kd.V_below (S.v HO_332001.out) hb)
            have n3_ := Aside0.mk (blk_below (g := gb330) (o := .cells #[.bool x331000_57, .slice Ao106 x331001_57.length co106, .int .i64 x331002_57] 36 (0, 0)) (S.b BK330.out) hb)
            have n4_ := Aside0.mk (blk_below (g := gb331) (o := .cells #[.bool x332000_57, u332001, .int .i64 x332002_57] 36 (0, 0)) (S.b BK331.out) hb)
            have n5_ := Aside0.mk (blk_below (g := gb332) (o := .cells #[.bool false, .slice none 0 0, .int .i64 0] 36 (0, 0)) (S.b BK332.out) hb)
            have n6_ := Aside0.mk (below_step (by repeat (first | (with_reducible first | exact HB.out | apply below_alloc | apply pw_below_drewN | apply below_drew1 | refine below_set ?_ GE330.out | refine below_set ?_ GE331.out | refine below_set ?_ GE332.out) | exact HB.out)) hb)
            clear HO_8
            clear HO_331001
            clear HO_332001
            clear BK330
            clear BK331
            clear BK332
            clear HB
            have HO_8 := n0_
            have HO_331001 := n1_
            have HO_332001 := n2_
            have BK330 := n3_
            have BK331 := n4_
            have BK332 := n5_
            have HB := n6_
            clear n0_ n1_ n2_ n3_ n4_ n5_ n6_
            (try clear hb)
            (try clear hb2)
            (try clear hk)
            (try clear hi)
            obtain ⟨Ao108, co108, eo108⟩ := Kd.V_slice HO_332001.out
            (first | subst eo108 | (injection eo108 with f1_ f2_ f3_; have f4_ := f1_.symm; have f5_ := f3_.symm; clear f1_ f2_ f3_; subst f4_; subst f5_))
            refine hK.out _ _ ⟨(blk_cell BK330.out 0).trans rfl, (blk_cell BK330.out 1).trans rfl, (blk_cell BK330.out 2).trans rfl, (blk_cell BK331.out 0).trans rfl, (blk_cell BK331.out 1).trans rfl, (blk_cell BK331.out 2).trans rfl⟩ (fun hHeld => ?_)
            clear hK K
            refine norm_ (a' := ?_) ?_ ?_
            rotate_left
            ·show Act.put _ (some 80) _ = _
             simp only [Act.put, List.setIfInBounds_toArray, List.set_cons_zero, List.set_cons_succ, i64_w, i32_w]
             rfl
            refine one_ (i := 5) (N := some 83) #[true, true, true, true, true, true, false, true, false, false] rfl rfl (one_of HT_.out (by kernel_rfl)) (by decide) (fun K hK => ?_)
            refine goes_ Try.func31 (by kernel_rfl) rfl #[.agg #[.bool x332000_57, .slice Ao108 x332001_57.length co108, .int .i64 x332002_57], .int .i64 x15_2] (by rfl) rfl rfl (by (try simp only [List.map_toArray, List.map_cons, List.map_nil]); first | done | rfl | (simp only [List.length_drop, List.length_take]; rfl)) ?_
            with_reducible refine (rubricref5_Dec_digit.calls x332000_57 _ _ x332001_57 x332002_57 x15_2 t356 _ ?side1 ?side2 A88.out).mono ?_
            (case side1 => repeat (first | exact (Kd.V_reads' HO_332001.out).2.2 | (with_reducible refine Kd.C_alloc ?_ _) | (with_reducible refine Kd.C_drewN ?_ _) | (with_reducible refine Kd.C_drew ?_)))
            (case side2 => exact (Kd.V_reads' HO_332001.out).2.1)
            rintro e w109 ⟨rfl, hb⟩
            refine ⟨_, rfl, ?_⟩
            have n0_ := Aside0.mk (Kd.R_below (S.r HO_8.out) hb)
            have n1_ := Aside0.mk (Kd.V_below (S.v HO_331001.out) hb)
            have n2_ := Aside0.mk (Kd.V_below (S.v HO_332001.out) hb)
            have n3_ := Aside0.mk (blk_below (g := gb330) (o := .cells #[.bool x331000_57, .slice Ao106 x331001_57.length co106, .int .i64 x331002_57] 36 (0, 0)) (S.b BK330.out) hb)
            have n4_ := Aside0.mk (blk_below (g := gb331) (o := .cells #[.bool x332000_57, .slice Ao108 x332001_57.length co108, .int .i64 x332002_57] 36 (0, 0)) (S.b BK331.out) hb)
            have n5_ := Aside0.mk (blk_below (g := gb332) (o := .cells #[.bool false, .slice none 0 0, .int .i64 0] 36 (0, 0)) (S.b BK332.out) hb)
            have n6_ := Aside0.mk (below_step (by repeat (first | (with_reducible first | exact HB.out | apply below_alloc | apply pw_below_drewN | apply below_drew1 | refine below_set ?_ GE330.out | refine below_set ?_ GE331.out | refine below_set ?_ GE332.out) | exact HB.out)) hb)
            clear HO_8
            clear HO_331001
            clear HO_332001
            clear BK330
            clear BK331
            clear BK332
            clear HB
            have HO_8 := n0_
            have HO_331001 := n1_
            have HO_332001 := n2_
            have BK330 := n3_
            have BK331 := n4_
            have BK332 := n5_
            have HB := n6_
            clear n0_ n1_ n2_ n3_ n4_ n5_ n6_
            (try clear hb)
            (try clear hb2)
            (try clear hk)
            (try clear hi)
            refine hK.out _ _ ⟨(blk_cell BK330.out 0).trans rfl, (blk_cell BK330.out 1).trans rfl, (blk_cell BK330.out 2).trans rfl, (blk_cell BK331.out 0).trans rfl, (blk_cell BK331.out 1).trans rfl, (blk_cell BK331.out 2).trans rfl⟩ (fun hHeld => ?_)
            clear hK K
            refine norm_ (a' := ?_) ?_ ?_
            rotate_left
            ·show Act.put _ (some 83) _ = _
             simp only [Act.put, List.setIfInBounds_toArray, List.set_cons_zero, List.set_cons_succ, i64_w, i32_w]
             rfl
            refine pure_ (i := 6) (N := some 84) (v := ?_) (a' := ?_) #[true, true, true, true, true, true, true, true, false, false] rfl rfl (any_of HT_.out (by kernel_rfl)) (fun _ _ _ h => h) (Or.inl ⟨by rfl, ?_⟩) ?_ ?_
            rotate_left
            ·intro w'
             go_simp
             with_reducible rfl
            rotate_left
            ·simp only [Act.put, List.setIfInBounds_toArray, List.set_cons_zero, List.set_cons_succ, i64_w, i32_w]
             rfl
            refine pure_ (i := 8) (N := some 86) (v := ?_) (a' := ?_) #[true, true, true, true, true, true, true, true, true, false] rfl rfl (any_of HT_.out (by kernel_rfl)) (fun _ _ _ h => h) (Or.inl ⟨by rfl, ?_⟩) ?_ ?_
            rotate_left
            ·intro w'
             go_simp
             with_reducible rfl
            rotate_left
            ·simp only [Act.put, List.setIfInBounds_toArray, List.set_cons_zero, List.set_cons_succ, i64_w, i32_w]
             rfl
            refine pure_ (i := 9) (N := some 16) (v := ?_) (a' := ?_) #[true, true, true, true, true, true, true, true, true, true] rfl rfl (any_of HT_.out (by kernel_rfl)) (fun _ _ _ h => h) (Or.inl ⟨by rfl, ?_⟩) ?_ ?_
            rotate_left
            ·intro w'
             go_simp
             with_reducible rfl
            rotate_left
            ·simp only [Act.put, List.setIfInBounds_toArray, List.set_cons_zero, List.set_cons_succ, i64_w, i32_w]
             rfl
            refine done_ (done_of HT_.out (by kernel_rfl)) ?_
            have p104 : 0 ≤ ((ji101) : Int) := of_decide_eq_true (by first | (with_reducible assumption) | assumption)
            have q104 : ((ji101) : Int) < ((x8_2.length : Int) : Int) := of_decide_eq_true (by first | (with_reducible assumption) | assumption)
            obtain ⟨go104, co104, eo104, gb104, gl104, cl104, HG104⟩ := Kd.R_form HO_8.out (by omega)
            (first | cases eo104 | (injection eo104 with ea_ en_ ec_; (first | subst ea_ | (injection ea_ with ea_; subst ea_)); subst ec_; clear en_))
            have GB104 := Aside0.mk gb104
            have GG104 := Aside0.mk HG104
            clear gb104 gl104 HG104
            obtain ⟨hx104_0, hf104_0⟩ := Kd.R_celln 0 HO_8.out ((ji101) : Int) p104 q104
            replace p104 := eq_true p104
            replace q104 := eq_true q104
            obtain ⟨hy110_, hz110_⟩ := Kd.R_celln 0 HO_8.out ((ji101) : Int) (of_decide_eq_true (by first | (with_reducible assumption) | assumption)) (of_decide_eq_true (by first | (with_reducible assumption) | assumption))
            have HP110 := Kd.R_putg HO_8.out ((ji101) : Int) ((wrap64 ((wrap64 (t355 - t356)) - x14_2)) % 256)
            try go_wp2_with (first | ((with_reducible refine gate_store (t := 5) (p := 97) rfl ?_); refine store_event (t := 5) (p := 97) (v := ?vo_w111) (w1 := (w109.setCell ⟨go104, ((ji101) : Int).toNat, none⟩ (.int .u8 ((wrap64 ((wrap64 (t355 - t356)) - x14_2)) % 256)))) ?hg ?ho ?hn ?hr ?_; (case ho => rfl); (case hg => rfl); (case hn => rfl); (case hr => first | (go_simp; done) | (go_simp; rfl)); intro w111 hw; have hg : w109.grownBy w111 (some go104) := (by rw [hw]; exact HP110.2); have hp_ : Kd.R (Kd.int .u8) 5 w111 w.heap.size (fun k_ => (w.heap.size ≤ k_)) (.slice (some ⟨go104, 0, none⟩) x8_2.length co104) y358 := (by rw [hw, Ny358.out]; exact HP110.1); clear HP110; have n0_ := Aside0.mk (hp_); have n1_ := Aside0.mk (Kd.V_afterv (v := (.slice (some ⟨go104, 0, none⟩) x8_2.length co104)) (v1 := (.slice (some ⟨go104, 0, none⟩) x8_2.length co104)) (ok := (fun k_ => ((P0_1_ k_ ∨ P1_1_ k_) ∨ w.heap.size ≤ k_) ∧ k_ ≠ gb330 ∧ k_ ≠ gb331 ∧ k_ ≠ gb332)) (by (with_reducible repeat (first | apply Kd.V_alloc | apply Kd.V_drewN | apply Kd.V_drew)); exact Kd.V_mono HO_331001.out (fun _ hk => ⟨⟨hk.1, ⟨hk.2.2.1, ⟨hk.2.2.2.1, hk.2.2.2.2⟩⟩⟩, hk.2.1⟩)) hg (.inl rfl)); have n2_ := Aside0.mk (Kd.V_afterv (v := (.slice (some ⟨go104, 0, none⟩) x8_2.length co104)) (v1 := (.slice (some ⟨go104, 0, none⟩) x8_2.length co104)) (ok := (fun k_ => ((P0_1_ k_ ∨ P1_1_ k_) ∨ w.heap.size ≤ k_) ∧ k_ ≠ gb330 ∧ k_ ≠ gb331 ∧ k_ ≠ gb332)) (by (with_reducible repeat (first | apply Kd.V_alloc | apply Kd.V_drewN | apply Kd.V_drew)); exact Kd.V_mono HO_332001.out (fun _ hk => ⟨⟨hk.1, ⟨hk.2.2.1, ⟨hk.2.2.2.1, hk.2.2.2.2⟩⟩⟩, hk.2.1⟩)) hg (.inl rfl)); have n3_ := Aside0.mk (blk_grown (g := gb330) (o := .cells #[.bool x331000_57, .slice Ao106 x331001_57.length co106, .int .i64 x331002_57] 36 (0, 0)) (S.b BK330.out) hg (Kd.R_ne HO_8.out BK330.out (by decide))); have n4_ := Aside0.mk (blk_grown (g := gb331) (o := .cells #[.bool x332000_57, .slice Ao108 x332001_57.length co108, .int .i64 x332002_57] 36 (0, 0)) (S.b BK331.out) hg (Kd.R_ne HO_8.out BK331.out (by decide))); have n5_ := Aside0.mk (blk_grown (g := gb332) (o := .cells #[.bool false, .slice none 0 0, .int .i64 0] 36 (0, 0)) (S.b BK332.out) hg (Kd.R_ne HO_8.out BK332.out (by decide))); have n6_ := Aside0.mk ((by rw [hw]; exact below_set (HB.out) GB104.out : Below w.heap.size w w111)); clear HO_8; clear HO_331001; clear HO_332001; clear BK330; clear BK331; clear BK332; clear HB; have HO_8 := n0_; have HO_331001 := n1_; have HO_332001 := n2_; have BK330 := n3_; have BK331 := n4_; have BK332 := n5_; have HB := n6_; clear n0_ n1_ n2_ n3_ n4_ n5_ n6_; clear hg hw hp_))
            go_roundg k2
            case measure => have := HJ57.out; have := HK2.out; omega
            case rel => exact ⟨(y358), (0), (wrap64 (x15_2 + 1)), (by first | rfl | (simp; done) | (simp [*]; done)), (by first | rfl | (simp; done) | (simp [*]; done)), H', ⟨by have := HJ57.out; have := HK2.out; omega⟩, ⟨S.r HO_8.out⟩, ⟨by (with_reducible repeat (first | apply Kd.V_alloc | apply Kd.V_drewN | apply Kd.V_drew)); exact Kd.V_mono HO_331001.out (fun _ hk => ⟨hk.1.1, ⟨hk.2, ⟨hk.1.2.1, ⟨hk.1.2.2.1, hk.1.2.2.2⟩⟩⟩⟩)⟩, ⟨by (with_reducible repeat (first | apply Kd.V_alloc | apply Kd.V_drewN | apply Kd.V_drew)); exact Kd.V_mono HO_332001.out (fun _ hk => ⟨hk.1.1, ⟨hk.2, ⟨hk.1.2.1, ⟨hk.1.2.2.1, hk.1.2.2.2⟩⟩⟩⟩)⟩, ⟨S.b BK330.out⟩, ⟨S.b BK331.out⟩, ⟨S.b BK332.out⟩, ⟨by repeat (first | (with_reducible first | exact HB.out | apply below_alloc | apply pw_below_drewN | apply below_drew1 | refine below_set ?_ GE330.out | refine below_set ?_ GE331.out | refine below_set ?_ GE332.out) | exact HB.out)⟩⟩
           ·rw [if_neg c103] at H
            exact absurd H (by simp)
          ·rw [if_neg c102] at H
           exact absurd H (by simp)
        ·rw [if_neg c86] at H
         have c86b0 : decide (x15_2 ≤ t333) = false := decide_eq_false c86
         clear c86
         replace H := Option.bind_eq_some_iff.mp H
         obtain ⟨⟨t349, t350, t353⟩, A1120, H⟩ := H
         replace H : (if (t350.length : Int) > 4096 then (some (false, ([] : List Int), 0, 3)) else (some (t349, t350, t353, 0))) = some (r1, r2, r3, r4) := H
         have A112 := Aside0.mk A1120
         clear A1120
         by_cases c113 : (t350.length : Int) > 4096
         ·rw [if_pos c113] at H
          have c113b0 : decide (4096 < (t350.length : Int)) = true := decide_eq_true c113
          have c113b1 : decide (4096 < t350.length) = true := decide_eq_true (by omega)
          clear c113
          simp only [Option.some.injEq, Prod.mk.injEq] at H
          obtain ⟨rfl, rfl, rfl, rfl⟩ := H
          obtain ⟨Ao114, co114, eo114⟩ := Kd.R_slice HO_8.out
          subst eo114
          go_wp2_with (first | ((with_reducible refine gate_callee (f := 33) rfl ?_); refine goesL_ (some 101) rfl rfl Try.func33 (by kernel_rfl) rfl #[.bool x9_57, .slice Ao114 x8_2.length co114, .int .i64 t334] rfl (by (try simp only [List.map_toArray, List.map_cons, List.map_nil]); first | done | rfl | (simp only [List.length_drop, List.length_take]; rfl)) ?_; (with_reducible refine (rubricref5_canon.calls k2 x9_57 (fun k_ => some k_ = (.slice Ao114 x8_2.length co114 : Value).ownBlock) _ _ x8_2 t334 t349 t350 t353 _ ?side1 A112.out).mono ?_); (case side1 => exact Kd.R_V (Kd.R_tight rfl (Kd.R_types (Kd.R_types (Kd.R_types (HO_8.out) BK330.out (by decide)) BK331.out (by decide)) BK332.out (by decide)))); rintro e w115 ⟨v351, rfl, ho0, hb⟩; refine ⟨_, rfl, ?_⟩; have n0_ := Aside0.mk (Kd.R_elder' (S.r HO_8.out) (Kd.R_base ho0) hb); have n1_ := Aside0.mk (Kd.V_elder' (S.v HO_331001.out) (Kd.R_base ho0) hb); have n2_ := Aside0.mk (Kd.V_elder' (S.v HO_332001.out) (Kd.R_base ho0) hb); have n3_ := Aside0.mk (Kd.R_lower (Kd.R_new' (Kd.R_newM (M := fun k_ => (w.heap.size ≤ k_)) (Kd.R_mono (ok' := fun k_ => True) ho0 (fun _ hk_ => trivial)) (below_size (by repeat (first | (with_reducible first | exact HB.out | apply below_alloc | apply pw_below_drewN | apply below_drew1 | refine below_set ?_ GE330.out | refine below_set ?_ GE331.out | refine below_set ?_ GE332.out) | exact HB.out))) (fun k_ h_ => h_)) (Kd.R_lt (S.r HO_8.out))) (below_size (by repeat (first | (with_reducible first | exact HB.out | apply below_alloc | apply pw_below_drewN | apply below_drew1 | refine below_set ?_ GE330.out | refine below_set ?_ GE331.out | refine below_set ?_ GE332.out) | exact HB.out)))); have n4_ := Aside0.mk (blk_below (g := gb330) (o := .cells #[.bool x331000_57, u331001, .int .i64 x331002_57] 36 (0, 0)) (S.b BK330.out) hb); have n5_ := Aside0.mk (blk_below (g := gb331) (o := .cells #[.bool x332000_57, u332001, .int .i64 x332002_57] 36 (0, 0)) (S.b BK331.out) hb); have n6_ := Aside0.mk (blk_below (g := gb332) (o := .cells #[.bool false, .slice none 0 0, .int .i64 0] 36 (0, 0)) (S.b BK332.out) hb); have n7_ := Aside0.mk (below_step (by repeat (first | (with_reducible first | exact HB.out | apply below_alloc | apply pw_below_drewN | apply below_drew1 | refine below_set ?_ GE330.out | refine below_set ?_ GE331.out | refine below_set ?_ GE332.out) | exact HB.out)) hb); clear HO_8; clear HO_331001; clear HO_332001; clear BK330; clear BK331; clear BK332; clear HB; have HO_8 := n0_; have HO_331001 := n1_; have HO_332001 := n2_; have HO352 := n3_; have BK330 := n4_; have BK331 := n5_; have BK332 := n6_; have HB := n7_; clear n0_ n1_ n2_ n3_ n4_ n5_ n6_ n7_; (try clear hb); (try clear hb2); (try clear hk); (try clear hi); (try clear ho0)) | ((with_reducible refine gate_dst (N := 17) rfl ?_); refine box_event ?hg (N := 17) ?hd (cs := #[.bool false, .slice none 0 0, .int .i64 0]) (t := 36) ?hr ?_; (case hd => rfl); (case hg => rfl); (case hr => first | (go_simp; done) | (go_simp; rfl)); intro gb354 hg w116 hbox hb; have n0_ := Aside0.mk (Kd.R_below (S.r HO_8.out) hb); have n1_ := Aside0.mk (Kd.V_below (Kd.V_elderB (S.v HO_331001.out) gb354 (Nat.le_of_eq hg.symm)) hb); have n2_ := Aside0.mk (Kd.V_below (Kd.V_elderB (S.v HO_332001.out) gb354 (Nat.le_of_eq hg.symm)) hb); have n3_ := Aside0.mk (Kd.R_below (S.r HO352.out) hb); have n4_ := Aside0.mk (blk_below (g := gb330) (o := .cells #[.bool x331000_57, u331001, .int .i64 x331002_57] 36 (0, 0)) (S.b BK330.out) hb); have n5_ := Aside0.mk (blk_below (g := gb331) (o := .cells #[.bool x332000_57, u332001, .int .i64 x332002_57] 36 (0, 0)) (S.b BK331.out) hb); have n6_ := Aside0.mk (blk_below (g := gb332) (o := .cells #[.bool false, .slice none 0 0, .int .i64 0] 36 (0, 0)) (S.b BK332.out) hb); have n7_ := Aside0.mk (below_step (by repeat (first | (with_reducible first | exact HB.out | apply below_alloc | apply pw_below_drewN | apply below_drew1 | refine below_set ?_ GE330.out | refine below_set ?_ GE331.out | refine below_set ?_ GE332.out) | exact HB.out)) hb); have n8_ := Aside0.mk (hbox); have n9_ := Aside0.mk ((by rw [hg]; exact (below_size (by repeat (first | (with_reducible first | exact HB.out | apply below_alloc | apply pw_below_drewN | apply below_drew1 | refine below_set ?_ GE330.out | refine below_set ?_ GE331.out | refine below_set ?_ GE332.out) | exact HB.out))) : w.heap.size ≤ gb354)); have n10_ := Aside0.mk ((by rw [hg]; exact (below_size (by repeat (first | (with_reducible first | exact HB.out | apply below_alloc | apply pw_below_drewN | apply below_drew1 | refine below_set ?_ GE330.out | refine below_set ?_ GE331.out | refine below_set ?_ GE332.out) | exact HB.out))) : w.heap.size ≤ gb354)); have n11_ := Aside0.mk ((by rw [hg]; exact Nat.ne_of_lt (blk_lt (g := gb330) (o := .cells #[.bool x331000_57, u331001, .int .i64 x331002_57] 36 (0, 0)) (S.b BK330.out)) : gb330 ≠ gb354)); have n12_ := Aside0.mk ((by rw [hg]; exact Nat.ne_of_gt (blk_lt (g := gb330) (o := .cells #[.bool x331000_57, u331001, .int .i64 x331002_57] 36 (0, 0)) (S.b BK330.out)) : gb354 ≠ gb330)); have n13_ := Aside0.mk ((by rw [hg]; exact Nat.ne_of_lt (blk_lt (g := gb331) (o := .cells #[.bool x332000_57, u332001, .int .i64 x332002_57] 36 (0, 0)) (S.b BK331.out)) : gb331 ≠ gb354)); have n14_ := Aside0.mk ((by rw [hg]; exact Nat.ne_of_gt (blk_lt (g := gb331) (o := .cells #[.bool x332000_57, u332001, .int .i64 x332002_57] 36 (0, 0)) (S.b BK331.out)) : gb354 ≠ gb331)); have n15_ := Aside0.mk ((by rw [hg]; exact Nat.ne_of_lt (blk_lt (g := gb332) (o := .cells #[.bool false, .slice none 0 0, .int .i64 0] 36 (0, 0)) (S.b BK332.out)) : gb332 ≠ gb354)); have n16_ := Aside0.mk ((by rw [hg]; exact Nat.ne_of_gt (blk_lt (g := gb332) (o := .cells #[.bool false, .slice none 0 0, .int .i64 0] 36 (0, 0)) (S.b BK332.out)) : gb354 ≠ gb332)); clear HO_8; clear HO_331001; clear HO_332001; clear HO352; clear BK330; clear BK331; clear BK332; clear HB; have HO_8 := n0_; have HO_331001 := n1_; have HO_332001 := n2_; have HO352 := n3_; have BK330 := n4_; have BK331 := n5_; have BK332 := n6_; have HB := n7_; have BK354 := n8_; have GW354 := n9_; have GE354 := n10_; have NB330_354 := n11_; have NB354_330 := n12_; have NB331_354 := n13_; have NB354_331 := n14_; have NB332_354 := n15_; have NB354_332 := n16_; clear n0_ n1_ n2_ n3_ n4_ n5_ n6_ n7_ n8_ n9_ n10_ n11_ n12_ n13_ n14_ n15_ n16_; clear hb hbox hg; have hnb117 := NB354_330.out; have hnc117 := NB330_354.out; have hnb118 := NB354_331.out; have hnc118 := NB331_354.out; have hnb119 := NB354_332.out; have hnc119 := NB332_354.out; have hcz120_0 : w116.cell? ⟨gb354, 0, none⟩ = some (.bool false) := (blk_cell BK354.out 0).trans rfl; have hcz120_1 : w116.cell? ⟨gb354, 1, none⟩ = some (.slice none 0 0) := (blk_cell BK354.out 1).trans rfl; have hcz120_2 : w116.cell? ⟨gb354, 2, none⟩ = some (.int .i64 0) := (blk_cell BK354.out 2).trans rfl; have hfz120_0 := blk_frozen BK354.out 0; have hfz120_1 := blk_frozen BK354.out 1; have hfz120_2 := blk_frozen BK354.out 2; obtain ⟨Ao121, co121, eo121⟩ := Kd.R_slice HO352.out; subst eo121; have hnb122 := NB332_330.out; have hnc122 := NB330_332.out; have hnb123 := NB332_331.out; have hnc123 := NB331_332.out; have hcz124_0 : w116.cell? ⟨gb332, 0, none⟩ = some (.bool false) := (blk_cell BK332.out 0).trans rfl; have hcz124_1 : w116.cell? ⟨gb332, 1, none⟩ = some (.slice none 0 0) := (blk_cell BK332.out 1).trans rfl; have hcz124_2 : w116.cell? ⟨gb332, 2, none⟩ = some (.int .i64 0) := (blk_cell BK332.out 2).trans rfl; have hfz124_0 := blk_frozen BK332.out 0; have hfz124_1 := blk_frozen BK332.out 1; have hfz124_2 := blk_frozen BK332.out 2))
          refine bodyPost_ret (results_ct rfl _ _ gb332 36 #[.bool false, .slice none 0 0, .int .i64 0] (0, 0) _ rfl (by (with_reducible repeat (first | refine blk_drewN ?_ _ | refine blk_drew ?_ | refine blk_alloc ?_ _)); refine blk_put (cs := #[.bool false, .slice none 0 0, .int .i64 0]) ?_ 2 _ rfl; (with_reducible repeat (first | refine blk_drewN ?_ _ | refine blk_drew ?_ | refine blk_alloc ?_ _)); refine blk_put (cs := #[.bool false, .slice none 0 0, .int .i64 0]) ?_ 1 _ rfl; (with_reducible repeat (first | refine blk_drewN ?_ _ | refine blk_drew ?_ | refine blk_alloc ?_ _)); refine blk_put (cs := #[.bool false, .slice none 0 0, .int .i64 0]) ?_ 0 _ rfl; (with_reducible repeat (first | refine blk_drewN ?_ _ | refine blk_drew ?_ | refine blk_alloc ?_ _)); refine blk_far ?_ NB332_354.out _; (with_reducible repeat (first | refine blk_drewN ?_ _ | refine blk_drew ?_ | refine blk_alloc ?_ _)); refine blk_far ?_ NB332_354.out _; (with_reducible repeat (first | refine blk_drewN ?_ _ | refine blk_drew ?_ | refine blk_alloc ?_ _)); refine blk_far ?_ NB332_354.out _; (with_reducible repeat (first | refine blk_drewN ?_ _ | refine blk_drew ?_ | refine blk_alloc ?_ _)); exact BK332.out) Try.underlying36 rfl (by kernel_rfl)) rfl ?_
          exact ⟨_, by first | rfl | (simp [errW_none, errW_some] <;> rfl) | (simp only [← hji4]; first | rfl | (simp [errW_none, errW_some] <;> rfl)) | (simp [*, errW_none, errW_some] <;> rfl), by first | exact Kd.R_nil _ _ _ _ _ | exact Kd.N_nil _ _ _ _ _ | exact Kd.V_nil _ _ _ _ _ | exact Kd.Q_nil _ _ _ _ _ | exact Kd.S_nil _ _ _ _ _, by repeat (first | (with_reducible first | exact HB.out | apply below_alloc | apply pw_below_drewN | apply below_drew1 | refine below_set ?_ GE330.out | refine below_set ?_ GE331.out | refine below_set ?_ GE332.out | refine below_set ?_ GE354.out) | exact HB.out)⟩
         ·rw [if_neg c113] at H
          have c113b0 : decide (4096 < (t350.length : Int)) = false := decide_eq_false c113
          have c113b1 : decide (4096 < t350.length) = false := decide_eq_false (by omega)
          clear c113
          simp only [Option.some.injEq, Prod.mk.injEq] at H
          obtain ⟨rfl, rfl, rfl, rfl⟩ := H
          obtain ⟨Ao125, co125, eo125⟩ := Kd.R_slice HO_8.out
          subst eo125
          go_wp2_with (first | ((with_reducible refine gate_callee (f := 33) rfl ?_); refine goesL_ (some 101) rfl rfl Try.func33 (by kernel_rfl) rfl #[.bool x9_57, .slice Ao125 x8_2.length co125, .int .i64 t334] rfl (by (try simp only [List.map_toArray, List.map_cons, List.map_nil]); first | done | rfl | (simp only [List.length_drop, List.length_take]; rfl)) ?_; (with_reducible refine (rubricref5_canon.calls k2 x9_57 (fun k_ => some k_ = (.slice Ao125 x8_2.length co125 : Value).ownBlock) _ _ x8_2 t334 t349 t350 t353 _ ?side1 A112.out).mono ?_); (case side1 => exact Kd.R_V (Kd.R_tight rfl (Kd.R_types (Kd.R_types (Kd.R_types (HO_8.out) BK330.out (by decide)) BK331.out (by decide)) BK332.out (by decide)))); rintro e w126 ⟨v351, rfl, ho0, hb⟩; refine ⟨_, rfl, ?_⟩; have n0_ := Aside0.mk (Kd.R_elder' (S.r HO_8.out) (Kd.R_base ho0) hb); have n1_ := Aside0.mk (Kd.V_elder' (S.v HO_331001.out) (Kd.R_base ho0) hb); have n2_ := Aside0.mk (Kd.V_elder' (S.v HO_332001.out) (Kd.R_base ho0) hb); have n3_ := Aside0.mk (Kd.R_lower (Kd.R_new' (Kd.R_newM (M := fun k_ => (w.heap.size ≤ k_)) (Kd.R_mono (ok' := fun k_ => True) ho0 (fun _ hk_ => trivial)) (below_size (by repeat (first | (with_reducible first | exact HB.out | apply below_alloc | apply pw_below_drewN | apply below_drew1 | refine below_set ?_ GE330.out | refine below_set ?_ GE331.out | refine below_set ?_ GE332.out) | exact HB.out))) (fun k_ h_ => h_)) (Kd.R_lt (S.r HO_8.out))) (below_size (by repeat (first | (with_reducible first | exact HB.out | apply below_alloc | apply pw_below_drewN | apply below_drew1 | refine below_set ?_ GE330.out | refine below_set ?_ GE331.out | refine below_set ?_ GE332.out) | exact HB.out)))); have n4_ := Aside0.mk (blk_below (g := gb330) (o := .cells #[.bool x331000_57, u331001, .int .i64 x331002_57] 36 (0, 0)) (S.b BK330.out) hb); have n5_ := Aside0.mk (blk_below (g := gb331) (o := .cells #[.bool x332000_57, u332001, .int .i64 x332002_57] 36 (0, 0)) (S.b BK331.out) hb); have n6_ := Aside0.mk (blk_below (g := gb332) (o := .cells #[.bool false, .slice none 0 0, .int .i64 0] 36 (0, 0)) (S.b BK332.out) hb); have n7_ := Aside0.mk (below_step (by repeat (first | (with_reducible first | exact HB.out | apply below_alloc | apply pw_below_drewN | apply below_drew1 | refine below_set ?_ GE330.out | refine below_set ?_ GE331.out | refine below_set ?_ GE332.out) | exact HB.out)) hb); clear HO_8; clear HO_331001; clear HO_332001; clear BK330; clear BK331; clear BK332; clear HB; have HO_8 := n0_; have HO_331001 := n1_; have HO_332001 := n2_; have HO352 := n3_; have BK330 := n4_; have BK331 := n5_; have BK332 := n6_; have HB := n7_; clear n0_ n1_ n2_ n3_ n4_ n5_ n6_ n7_; (try clear hb); (try clear hb2); (try clear hk); (try clear hi); (try clear ho0)) | ((with_reducible refine gate_dst (N := 17) rfl ?_); refine box_event ?hg (N := 17) ?hd (cs := #[.bool false, .slice none 0 0, .int .i64 0]) (t := 36) ?hr ?_; (case hd => rfl); (case hg => rfl); (case hr => first | (go_simp; done) | (go_simp; rfl)); intro gb354 hg w127 hbox hb; have n0_ := Aside0.mk (Kd.R_below (S.r HO_8.out) hb); have n1_ := Aside0.mk (Kd.V_below (Kd.V_elderB (S.v HO_331001.out) gb354 (Nat.le_of_eq hg.symm)) hb); have n2_ := Aside0.mk (Kd.V_below (Kd.V_elderB (S.v HO_332001.out) gb354 (Nat.le_of_eq hg.symm)) hb); have n3_ := Aside0.mk (Kd.R_below (S.r HO352.out) hb); have n4_ := Aside0.mk (blk_below (g := gb330) (o := .cells #[.bool x331000_57, u331001, .int .i64 x331002_57] 36 (0, 0)) (S.b BK330.out) hb); have n5_ := Aside0.mk (blk_below (g := gb331) (o := .cells #[.bool x332000_57, u332001, .int .i64 x332002_57] 36 (0, 0)) (S.b BK331.out) hb); have n6_ := Aside0.mk (blk_below (g := gb332) (o := .cells #[.bool false, .slice none 0 0, .int .i64 0] 36 (0, 0)) (S.b BK332.out) hb); have n7_ := Aside0.mk (below_step (by repeat (first | (with_reducible first | exact HB.out | apply below_alloc | apply pw_below_drewN | apply below_drew1 | refine below_set ?_ GE330.out | refine below_set ?_ GE331.out | refine below_set ?_ GE332.out) | exact HB.out)) hb); have n8_ := Aside0.mk (hbox); have n9_ := Aside0.mk ((by rw [hg]; exact (below_size (by repeat (first | (with_reducible first | exact HB.out | apply below_alloc | apply pw_below_drewN | apply below_drew1 | refine below_set ?_ GE330.out | refine below_set ?_ GE331.out | refine below_set ?_ GE332.out) | exact HB.out))) : w.heap.size ≤ gb354)); have n10_ := Aside0.mk ((by rw [hg]; exact (below_size (by repeat (first | (with_reducible first | exact HB.out | apply below_alloc | apply pw_below_drewN | apply below_drew1 | refine below_set ?_ GE330.out | refine below_set ?_ GE331.out | refine below_set ?_ GE332.out) | exact HB.out))) : w.heap.size ≤ gb354)); have n11_ := Aside0.mk ((by rw [hg]; exact Nat.ne_of_lt (blk_lt (g := gb330) (o := .cells #[.bool x331000_57, u331001, .int .i64 x331002_57] 36 (0, 0)) (S.b BK330.out)) : gb330 ≠ gb354)); have n12_ := Aside0.mk ((by rw [hg]; exact Nat.ne_of_gt (blk_lt (g := gb330) (o := .cells #[.bool x331000_57, u331001, .int .i64 x331002_57] 36 (0, 0)) (S.b BK330.out)) : gb354 ≠ gb330)); have n13_ := Aside0.mk ((by rw [hg]; exact Nat.ne_of_lt (blk_lt (g := gb331) (o := .cells #[.bool x332000_57, u332001, .int .i64 x332002_57] 36 (0, 0)) (S.b BK331.out)) : gb331 ≠ gb354)); have n14_ := Aside0.mk ((by rw [hg]; exact Nat.ne_of_gt (blk_lt (g := gb331) (o := .cells #[.bool x332000_57, u332001, .int .i64 x332002_57] 36 (0, 0)) (S.b BK331.out)) : gb354 ≠ gb331)); have n15_ := Aside0.mk ((by rw [hg]; exact Nat.ne_of_lt (blk_lt (g := gb332) (o := .cells #[.bool false, .slice none 0 0, .int .i64 0] 36 (0, 0)) (S.b BK332.out)) : gb332 ≠ gb354)); have n16_ := Aside0.mk ((by rw [hg]; exact Nat.ne_of_gt (blk_lt (g := gb332) (o := .cells #[.bool false, .slice none 0 0, .int .i64 0] 36 (0, 0)) (S.b BK332.out)) : gb354 ≠ gb332)); clear HO_8; clear HO_331001; clear HO_332001; clear HO352; clear BK330; clear BK331; clear BK332; clear HB; have HO_8 := n0_; have HO_331001 := n1_; have HO_332001 := n2_; have HO352 := n3_; have BK330 := n4_; have BK331 := n5_; have BK332 := n6_; have HB := n7_; have BK354 := n8_; have GW354 := n9_; have GE354 := n10_; have NB330_354 := n11_; have NB354_330 := n12_; have NB331_354 := n13_; have NB354_331 := n14_; have NB332_354 := n15_; have NB354_332 := n16_; clear n0_ n1_ n2_ n3_ n4_ n5_ n6_ n7_ n8_ n9_ n10_ n11_ n12_ n13_ n14_ n15_ n16_; clear hb hbox hg; have hnb128 := NB354_330.out; have hnc128 := NB330_354.out; have hnb129 := NB354_331.out; have hnc129 := NB331_354.out; have hnb130 := NB354_332.out; have hnc130 := NB332_354.out; have hcz131_0 : w127.cell? ⟨gb354, 0, none⟩ = some (.bool false) := (blk_cell BK354.out 0).trans rfl; have hcz131_1 : w127.cell? ⟨gb354, 1, none⟩ = some (.slice none 0 0) := (blk_cell BK354.out 1).trans rfl; have hcz131_2 : w127.cell? ⟨gb354, 2, none⟩ = some (.int .i64 0) := (blk_cell BK354.out 2).trans rfl; have hfz131_0 := blk_frozen BK354.out 0; have hfz131_1 := blk_frozen BK354.out 1; have hfz131_2 := blk_frozen BK354.out 2; obtain ⟨Ao132, co132, eo132⟩ := Kd.R_slice HO352.out; subst eo132; have hnb133 := NB332_330.out; have hnc133 := NB330_332.out; have hnb134 := NB332_331.out; have hnc134 := NB331_332.out; have hcz135_0 : w127.cell? ⟨gb332, 0, none⟩ = some (.bool false) := (blk_cell BK332.out 0).trans rfl; have hcz135_1 : w127.cell? ⟨gb332, 1, none⟩ = some (.slice none 0 0) := (blk_cell BK332.out 1).trans rfl; have hcz135_2 : w127.cell? ⟨gb332, 2, none⟩ = some (.int .i64 0) := (blk_cell BK332.out 2).trans rfl; have hfz135_0 := blk_frozen BK332.out 0; have hfz135_1 := blk_frozen BK332.out 1; have hfz135_2 := blk_frozen BK332.out 2))
          refine bodyPost_ret (results_ct rfl _ _ gb332 36 #[.bool t349, .slice Ao132 t350.length co132, .int .i64 t353] (0, 0) _ rfl (by (with_reducible repeat (first | refine blk_drewN ?_ _ | refine blk_drew ?_ | refine blk_alloc ?_ _)); refine blk_put (cs := #[.bool t349, .slice Ao132 t350.length co132, .int .i64 0]) ?_ 2 _ rfl; (with_reducible repeat (first | refine blk_drewN ?_ _ | refine blk_drew ?_ | refine blk_alloc ?_ _)); refine blk_put (cs := #[.bool t349, .slice none 0 0, .int .i64 0]) ?_ 1 _ rfl; (with_reducible repeat (first | refine blk_drewN ?_ _ | refine blk_drew ?_ | refine blk_alloc ?_ _)); refine blk_put (cs := #[.bool false, .slice none 0 0, .int .i64 0]) ?_ 0 _ rfl; (with_reducible repeat (first | refine blk_drewN ?_ _ | refine blk_drew ?_ | refine blk_alloc ?_ _)); refine blk_far ?_ NB332_354.out _; (with_reducible repeat (first | refine blk_drewN ?_ _ | refine blk_drew ?_ | refine blk_alloc ?_ _)); refine blk_far ?_ NB332_354.out _; (with_reducible repeat (first | refine blk_drewN ?_ _ | refine blk_drew ?_ | refine blk_alloc ?_ _)); refine blk_far ?_ NB332_354.out _; (with_reducible repeat (first | refine blk_drewN ?_ _ | refine blk_drew ?_ | refine blk_alloc ?_ _)); exact BK332.out) Try.underlying36 rfl (by kernel_rfl)) rfl ?_
          exact ⟨_, by first | rfl | (simp [errW_none, errW_some] <;> rfl) | (simp only [← hji4]; first | rfl | (simp [errW_none, errW_some] <;> rfl)) | (simp [*, errW_none, errW_some] <;> rfl), by (with_reducible repeat (first | apply Kd.R_alloc | apply Kd.R_drewN | apply Kd.R_drew)); exact Kd.R_mono (Kd.R_far (p := ⟨gb332, 2, none⟩) (Kd.R_far (p := ⟨gb332, 1, none⟩) (Kd.R_far (p := ⟨gb332, 0, none⟩) (Kd.R_far (p := ⟨gb354, 2, none⟩) (Kd.R_far (p := ⟨gb354, 1, none⟩) (Kd.R_far (p := ⟨gb354, 0, none⟩) (Kd.R_types (Kd.R_types HO352.out BK354.out (by decide)) BK332.out (by decide)) (fun _ hk => hk.1.2) (.bool t349)) (fun _ hk => hk.1.2) (.slice Ao132 t350.length co132)) (fun _ hk => hk.1.2) (.int .i64 t353)) (fun _ hk => hk.2) (.bool t349)) (fun _ hk => hk.2) (.slice Ao132 t350.length co132)) (fun _ hk => hk.2) (.int .i64 t353)) (fun _ hk => hk.1.1.1.1), by repeat (first | (with_reducible first | exact HB.out | apply below_alloc | apply pw_below_drewN | apply below_drew1 | refine below_set ?_ GE330.out | refine below_set ?_ GE331.out | refine below_set ?_ GE332.out | refine below_set ?_ GE354.out) | exact HB.out)⟩
  ·rw [if_neg c6] at H
   exact absurd H (by simp)
 ·rw [if_neg c5] at H
  exact absurd H (by simp)

end Go.Proofs.Ytnafjabpkbahdaa.Pr
