-- printed by wip/gprint.py (ours) out of the translation, by the kit's print program with given contracts
import Derived.Test.YtdjgiphipjejlaaGreatDoorG16
import Derived.Test.YtdjgiphipjejlaaGreatDoorG11
import Derived.Test.YtdjgiphipjejlaaGreatDoorG10
import Derived.Test.YtdjgiphipjejlaaGreatDoorPrx0
import Derived.Test.YtdjgiphipjejlaaGreatDoorPrx1
import Derived.Test.YtdjgiphipjejlaaGreatDoorPrx4
namespace Go.Proofs.YtdjgiphipjejlaaGreatDoor.Pr
open Go.RowKit Go.Proofs.YtdjgiphipjejlaaGreatDoorW.PrintWords Go.Proofs.YtdjgiphipjejlaaGreatDoorW.PrintLast Go.Proofs.YtdjgiphipjejlaaGreatDoorW.PrintMore
attribute [local go_sem] max2_int min2_int max_two min_two max_three min_three max_four min_four   -- for this text's walks alone
set_option linter.unusedVariables false
set_option linter.unusedSimpArgs false

/-! ### rubricref11_Prim: function 13 -/
def rubricref11_Prim.l0 : Nat → Int → Option (Int)
 | 0, _ => none
 | k + 1, x0 => (rubricref11_Base.f x0).bind fun t210 => (if t210 = 0 then ((rubricref11_Is.f x0).bind fun t211 => (if t211 = true then (some x0) else (some 0))) else ((rubricref11_Base.f x0).bind fun t212 => (rubricref11_Prim.l0 k t212)))
def rubricref11_Prim.f (k : Nat) (a0 : Int) : Option (Int) := rubricref11_Prim.l0 k a0
theorem rubricref11_Prim.mono_l : ∀ k, (∀ y0, LeO (rubricref11_Prim.l0 k y0) (rubricref11_Prim.l0 (k + 1) y0))
 | 0 => fun _ r h => by simp [rubricref11_Prim.l0] at h
 | k + 1 => by
  have ih0 := rubricref11_Prim.mono_l k
  ·intro y0
   unfold rubricref11_Prim.l0
   repeat' first
   | (with_reducible exact ih0 _)
   | (with_reducible exact LeO.refl _)
   | (with_reducible exact LeO.none _)
   | (with_reducible refine LeO.ite ?_ ?_)
   | (with_reducible refine LeO.bind ?_ (fun _ => ?_))
   | exact ih0 _
   | exact LeO.none _
   | refine LeO.ite ?_ ?_
   | refine LeO.bind ?_ (fun _ => ?_)
theorem rubricref11_Prim.mono : ∀ a0 k, LeO (rubricref11_Prim.f k a0) (rubricref11_Prim.f (k + 1) a0) := by
 intro a0 k; have ih0 := rubricref11_Prim.mono_l k
 unfold rubricref11_Prim.f
 repeat' first
   | (with_reducible exact ih0 _)
   | (with_reducible exact LeO.refl _)
   | (with_reducible exact LeO.none _)
   | (with_reducible refine LeO.ite ?_ ?_)
   | (with_reducible refine LeO.bind ?_ (fun _ => ?_))
   | exact ih0 _
   | exact LeO.none _
   | refine LeO.ite ?_ ?_
   | refine LeO.bind ?_ (fun _ => ?_)
set_option maxHeartbeats 8000000 in
set_option maxRecDepth 100000 in
theorem rubricref11_Prim.calls (k : Nat) (a0 : Int) (r : Int) (w : World) (h : rubricref11_Prim.f k a0 = some r) :
  Calls Tryz.prog 13 #[.int .i64 a0] w fun e w' => e = .returned (.int .i64 r) ∧ Below w.heap.size w w' := by
 have HB := Aside0.mk (Below.refl w.heap.size w); have H : (rubricref11_Prim.l0 k a0) = some r := h; clear h; have H' := Aside0.mk H; clear H
 go_enter Tryz.func13, Tryz.ntmps13
 go_wp2
 go_loopg [0] k (fun kq v0 w' => ∃ (x0_1 : Int), v0 = .int .i64 x0_1 ∧ Aside0 (rubricref11_Prim.l0 kq x0_1 = some r) ∧ Aside0 (kq ≤ k) ∧ Aside0 (Below w.heap.size w w'))
 case atStart => exact ⟨(a0), (by first | rfl | (simp; done) | (simp [*]; done)), H', ⟨Nat.le_refl _⟩, ⟨by repeat (first | (with_reducible first | exact HB.out | apply below_alloc | apply pw_below_drewN | apply below_drew1) | exact HB.out)⟩⟩
 case round =>
  clear H'; (try clear c1); obtain ⟨x0_1, rfl, HA, HK1, HB⟩ := hrel
  cases gk with
  | zero => exact absurd HA.out (by simp [rubricref11_Prim.l0])
  | succ k1 =>
   have H := HA.out; clear HA; simp only [rubricref11_Prim.l0] at H; replace H := Option.bind_eq_some_iff.mp H; obtain ⟨t210, A20, H⟩ := H; (try dsimp only at H); have A2 := Aside0.mk A20; clear A20
   by_cases c3 : t210 = 0
   ·rw [if_pos c3] at H; have c3b0 : (t210 == 0) = true := beq_iff_eq.mpr c3; have c3b1 : (t210 != 0) = false := bne_eq_false_iff_eq.mpr c3; clear c3; replace H := Option.bind_eq_some_iff.mp H; obtain ⟨t211, A40, H⟩ := H; (try dsimp only at H); have A4 := Aside0.mk A40; clear A40
    by_cases c5 : t211 = true
    ·subst c5; rw [if_pos rfl] at H; (try dsimp only at H); obtain rfl := Option.some.inj H
     go_wp2_with (first | ((with_reducible refine gate_callee (f := 11) rfl ?_); refine goesL_ (some 4) rfl rfl Tryz.func11 (by kernel_rfl) rfl #[.int .i64 x0_1] rfl (by (try simp only [List.map_toArray, List.map_cons, List.map_nil]); first | done | rfl | (simp only [List.length_drop, List.length_take]; rfl)) ?_; (with_reducible refine (rubricref11_Base.calls x0_1 t210 _ A2.out).mono ?_); rintro e w6 ⟨rfl, hb⟩; refine ⟨_, rfl, ?_⟩; have n0_ := Aside0.mk (below_step (by repeat (first | (with_reducible first | exact HB.out | apply below_alloc | apply pw_below_drewN | apply below_drew1) | exact HB.out)) hb); clear HB; have HB := n0_; clear n0_; (try clear hb); (try clear hb2); (try clear hk); (try clear hi)) | ((with_reducible refine gate_callee (f := 25) rfl ?_); refine goesL_ (some 9) rfl rfl Tryz.func25 (by kernel_rfl) rfl #[.int .i64 x0_1] rfl (by (try simp only [List.map_toArray, List.map_cons, List.map_nil]); first | done | rfl | (simp only [List.length_drop, List.length_take]; rfl)) ?_; (with_reducible refine (rubricref11_Is.calls x0_1 true _ A4.out).mono ?_); rintro e w' ⟨rfl, ⟨nd, rfl⟩⟩; refine ⟨_, rfl, ?_⟩))
     go_ret; exact ⟨by first | rfl | (simp [errW_none, errW_some] <;> rfl) | (simp [*, errW_none, errW_some] <;> rfl), by repeat (first | (with_reducible first | exact HB.out | apply below_alloc | apply pw_below_drewN | apply below_drew1) | exact HB.out)⟩
    ·replace c5 := Bool.eq_false_iff.mpr c5; subst c5; rw [if_neg (show ¬ (false = true) by decide)] at H; (try dsimp only at H); obtain rfl := Option.some.inj H
     go_wp2_with (first | ((with_reducible refine gate_callee (f := 11) rfl ?_); refine goesL_ (some 4) rfl rfl Tryz.func11 (by kernel_rfl) rfl #[.int .i64 x0_1] rfl (by (try simp only [List.map_toArray, List.map_cons, List.map_nil]); first | done | rfl | (simp only [List.length_drop, List.length_take]; rfl)) ?_; (with_reducible refine (rubricref11_Base.calls x0_1 t210 _ A2.out).mono ?_); rintro e w7 ⟨rfl, hb⟩; refine ⟨_, rfl, ?_⟩; have n0_ := Aside0.mk (below_step (by repeat (first | (with_reducible first | exact HB.out | apply below_alloc | apply pw_below_drewN | apply below_drew1) | exact HB.out)) hb); clear HB; have HB := n0_; clear n0_; (try clear hb); (try clear hb2); (try clear hk); (try clear hi)) | ((with_reducible refine gate_callee (f := 25) rfl ?_); refine goesL_ (some 9) rfl rfl Tryz.func25 (by kernel_rfl) rfl #[.int .i64 x0_1] rfl (by (try simp only [List.map_toArray, List.map_cons, List.map_nil]); first | done | rfl | (simp only [List.length_drop, List.length_take]; rfl)) ?_; (with_reducible refine (rubricref11_Is.calls x0_1 false _ A4.out).mono ?_); rintro e w' ⟨rfl, ⟨nd, rfl⟩⟩; refine ⟨_, rfl, ?_⟩))
     go_ret; exact ⟨by first | rfl | (simp [errW_none, errW_some] <;> rfl) | (simp [*, errW_none, errW_some] <;> rfl), by repeat (first | (with_reducible first | exact HB.out | apply below_alloc | apply pw_below_drewN | apply below_drew1) | exact HB.out)⟩
   ·rw [if_neg c3] at H; have c3b0 : (t210 == 0) = false := beq_eq_false_iff_ne.mpr c3; have c3b1 : (t210 != 0) = true := bne_iff_ne.mpr c3; replace H := Option.bind_eq_some_iff.mp H; obtain ⟨t212, A80, H⟩ := H; (try dsimp only at H); have A8 := Aside0.mk A80; clear A80; have H' := Aside0.mk H; clear H
    go_wp2_with (first | ((with_reducible refine gate_callee (f := 11) rfl ?_); refine goesL_ (some 4) rfl rfl Tryz.func11 (by kernel_rfl) rfl #[.int .i64 x0_1] rfl (by (try simp only [List.map_toArray, List.map_cons, List.map_nil]); first | done | rfl | (simp only [List.length_drop, List.length_take]; rfl)) ?_; (with_reducible refine (rubricref11_Base.calls x0_1 t210 _ A2.out).mono ?_); rintro e w9 ⟨rfl, hb⟩; refine ⟨_, rfl, ?_⟩; have n0_ := Aside0.mk (below_step (by repeat (first | (with_reducible first | exact HB.out | apply below_alloc | apply pw_below_drewN | apply below_drew1) | exact HB.out)) hb); clear HB; have HB := n0_; clear n0_; (try clear hb); (try clear hb2); (try clear hk); (try clear hi)) | ((with_reducible refine gate_callee (f := 11) rfl ?_); refine goesL_ (some 7) rfl rfl Tryz.func11 (by kernel_rfl) rfl #[.int .i64 x0_1] rfl (by (try simp only [List.map_toArray, List.map_cons, List.map_nil]); first | done | rfl | (simp only [List.length_drop, List.length_take]; rfl)) ?_; (with_reducible refine (rubricref11_Base.calls x0_1 t212 _ A8.out).mono ?_); rintro e w10 ⟨rfl, hb⟩; refine ⟨_, rfl, ?_⟩; have n0_ := Aside0.mk (below_step (by repeat (first | (with_reducible first | exact HB.out | apply below_alloc | apply pw_below_drewN | apply below_drew1) | exact HB.out)) hb); clear HB; have HB := n0_; clear n0_; (try clear hb); (try clear hb2); (try clear hk); (try clear hi)))
    go_roundg k1
    case measure => have := HK1.out; omega
    case rel => exact ⟨(t212), (by first | rfl | (simp; done) | (simp [*]; done)), H', ⟨by have := HK1.out; omega⟩, ⟨by repeat (first | (with_reducible first | exact HB.out | apply below_alloc | apply pw_below_drewN | apply below_drew1) | exact HB.out)⟩⟩

/-! ### rubricref11_White: function 15 -/
def rubricref11_White.f (a0 : Int) : Option (Int) := (rubricref11_Is.f a0).bind fun t213 => (if t213 = true then (if a0 = 1 then (some 1) else (if a0 = 2 then (some 2) else (some 3))) else (some 0))
set_option maxHeartbeats 8000000 in
set_option maxRecDepth 100000 in
theorem rubricref11_White.calls (a0 : Int) (r : Int) (w : World) (h : rubricref11_White.f a0 = some r) :
  Calls Tryz.prog 15 #[.int .i64 a0] w fun e w' => e = .returned (.int .i64 r) ∧ Drawn0 w w' := by
 have H : ((rubricref11_Is.f a0).bind fun t213 => (if t213 = true then (if a0 = 1 then (some 1) else (if a0 = 2 then (some 2) else (some 3))) else (some 0))) = some r := h; clear h; replace H := Option.bind_eq_some_iff.mp H; obtain ⟨t213, A20, H⟩ := H; (try dsimp only at H); have A2 := Aside0.mk A20; clear A20
 by_cases c3 : t213 = true
 ·subst c3; rw [if_pos rfl] at H; (try dsimp only at H)
  by_cases c4 : a0 = 1
  ·rw [if_pos c4] at H; have c4b0 : (a0 == 1) = true := beq_iff_eq.mpr c4; have c4b1 : (a0 != 1) = false := bne_eq_false_iff_eq.mpr c4; clear c4; obtain rfl := Option.some.inj H
   go_enter Tryz.func15, Tryz.ntmps15
   go_wp2_with (first | ((with_reducible refine gate_callee (f := 25) rfl ?_); refine goesL_ (some 5) rfl rfl Tryz.func25 (by kernel_rfl) rfl #[.int .i64 a0] rfl (by (try simp only [List.map_toArray, List.map_cons, List.map_nil]); first | done | rfl | (simp only [List.length_drop, List.length_take]; rfl)) ?_; (with_reducible refine (rubricref11_Is.calls a0 true _ A2.out).mono ?_); rintro e w' ⟨rfl, ⟨nd, rfl⟩⟩; refine ⟨_, rfl, ?_⟩))
   go_ret; exact ⟨by first | rfl | (simp; done) | (simp [*]; done), by repeat (first | exact Drawn0.refl _ | apply Drawn0.step)⟩
  ·rw [if_neg c4] at H; have c4b0 : (a0 == 1) = false := beq_eq_false_iff_ne.mpr c4; have c4b1 : (a0 != 1) = true := bne_iff_ne.mpr c4
   by_cases c5 : a0 = 2
   ·rw [if_pos c5] at H; have c5b0 : (a0 == 2) = true := beq_iff_eq.mpr c5; have c5b1 : (a0 != 2) = false := bne_eq_false_iff_eq.mpr c5; clear c5; obtain rfl := Option.some.inj H
    go_enter Tryz.func15, Tryz.ntmps15
    go_wp2_with (first | ((with_reducible refine gate_callee (f := 25) rfl ?_); refine goesL_ (some 5) rfl rfl Tryz.func25 (by kernel_rfl) rfl #[.int .i64 a0] rfl (by (try simp only [List.map_toArray, List.map_cons, List.map_nil]); first | done | rfl | (simp only [List.length_drop, List.length_take]; rfl)) ?_; (with_reducible refine (rubricref11_Is.calls a0 true _ A2.out).mono ?_); rintro e w' ⟨rfl, ⟨nd, rfl⟩⟩; refine ⟨_, rfl, ?_⟩))
    go_ret; exact ⟨by first | rfl | (simp; done) | (simp [*]; done), by repeat (first | exact Drawn0.refl _ | apply Drawn0.step)⟩
   ·rw [if_neg c5] at H; have c5b0 : (a0 == 2) = false := beq_eq_false_iff_ne.mpr c5; have c5b1 : (a0 != 2) = true := bne_iff_ne.mpr c5; obtain rfl := Option.some.inj H
    go_enter Tryz.func15, Tryz.ntmps15
    go_wp2_with (first | ((with_reducible refine gate_callee (f := 25) rfl ?_); refine goesL_ (some 5) rfl rfl Tryz.func25 (by kernel_rfl) rfl #[.int .i64 a0] rfl (by (try simp only [List.map_toArray, List.map_cons, List.map_nil]); first | done | rfl | (simp only [List.length_drop, List.length_take]; rfl)) ?_; (with_reducible refine (rubricref11_Is.calls a0 true _ A2.out).mono ?_); rintro e w' ⟨rfl, ⟨nd, rfl⟩⟩; refine ⟨_, rfl, ?_⟩))
    go_ret; exact ⟨by first | rfl | (simp; done) | (simp [*]; done), by repeat (first | exact Drawn0.refl _ | apply Drawn0.step)⟩
 ·replace c3 := Bool.eq_false_iff.mpr c3; subst c3; rw [if_neg (show ¬ (false = true) by decide)] at H; (try dsimp only at H); obtain rfl := Option.some.inj H
  go_enter Tryz.func15, Tryz.ntmps15
  go_wp2_with (first | ((with_reducible refine gate_callee (f := 25) rfl ?_); refine goesL_ (some 5) rfl rfl Tryz.func25 (by kernel_rfl) rfl #[.int .i64 a0] rfl (by (try simp only [List.map_toArray, List.map_cons, List.map_nil]); first | done | rfl | (simp only [List.length_drop, List.length_take]; rfl)) ?_; (with_reducible refine (rubricref11_Is.calls a0 false _ A2.out).mono ?_); rintro e w' ⟨rfl, ⟨nd, rfl⟩⟩; refine ⟨_, rfl, ?_⟩))
  go_ret; exact ⟨by first | rfl | (simp; done) | (simp [*]; done), by repeat (first | exact Drawn0.refl _ | apply Drawn0.step)⟩

/-! ### rubricref11_Derived: function 17 -/
def rubricref11_Derived.l0 : Nat → Int → Int → Option (Bool)
 | 0, _, _ => none
 | k + 1, x0, x1 => (rubricref11_Is.f x0).bind fun t214 => (if t214 = true then (if x0 = x1 then (some true) else ((rubricref11_Base.f x0).bind fun t215 => (rubricref11_Derived.l0 k t215 x1))) else (some false))
def rubricref11_Derived.f (k : Nat) (a0 : Int) (a1 : Int) : Option (Bool) := rubricref11_Derived.l0 k a0 a1
theorem rubricref11_Derived.mono_l : ∀ k, (∀ y0 y1, LeO (rubricref11_Derived.l0 k y0 y1) (rubricref11_Derived.l0 (k + 1) y0 y1))
 | 0 => fun _ _ r h => by simp [rubricref11_Derived.l0] at h
 | k + 1 => by
  have ih0 := rubricref11_Derived.mono_l k
  ·intro y0 y1
   unfold rubricref11_Derived.l0
   repeat' first
   | (with_reducible exact ih0 _ _)
   | (with_reducible exact LeO.refl _)
   | (with_reducible exact LeO.none _)
   | (with_reducible refine LeO.ite ?_ ?_)
   | (with_reducible refine LeO.bind ?_ (fun _ => ?_))
   | exact ih0 _ _
   | exact LeO.none _
   | refine LeO.ite ?_ ?_
   | refine LeO.bind ?_ (fun _ => ?_)
theorem rubricref11_Derived.mono : ∀ a0 a1 k, LeO (rubricref11_Derived.f k a0 a1) (rubricref11_Derived.f (k + 1) a0 a1) := by
 intro a0 a1 k; have ih0 := rubricref11_Derived.mono_l k
 unfold rubricref11_Derived.f
 repeat' first
   | (with_reducible exact ih0 _ _)
   | (with_reducible exact LeO.refl _)
   | (with_reducible exact LeO.none _)
   | (with_reducible refine LeO.ite ?_ ?_)
   | (with_reducible refine LeO.bind ?_ (fun _ => ?_))
   | exact ih0 _ _
   | exact LeO.none _
   | refine LeO.ite ?_ ?_
   | refine LeO.bind ?_ (fun _ => ?_)
set_option maxHeartbeats 8000000 in
set_option maxRecDepth 100000 in
theorem rubricref11_Derived.calls (k : Nat) (a0 : Int) (a1 : Int) (r : Bool) (w : World) (h : rubricref11_Derived.f k a0 a1 = some r) :
  Calls Tryz.prog 17 #[.int .i64 a0, .int .i64 a1] w fun e w' => e = .returned (.bool r) ∧ Below w.heap.size w w' := by
 have HB := Aside0.mk (Below.refl w.heap.size w); have H : (rubricref11_Derived.l0 k a0 a1) = some r := h; clear h; have H' := Aside0.mk H; clear H
 go_enter Tryz.func17, Tryz.ntmps17
 go_wp2
 go_loopg [0] k (fun kq v0 w' => ∃ (x0_1 : Int), v0 = .int .i64 x0_1 ∧ Aside0 (rubricref11_Derived.l0 kq x0_1 a1 = some r) ∧ Aside0 (kq ≤ k) ∧ Aside0 (Below w.heap.size w w'))
 case atStart => exact ⟨(a0), (by first | rfl | (simp; done) | (simp [*]; done)), H', ⟨Nat.le_refl _⟩, ⟨by repeat (first | (with_reducible first | exact HB.out | apply below_alloc | apply pw_below_drewN | apply below_drew1) | exact HB.out)⟩⟩
 case round =>
  clear H'; (try clear c1); (try clear p2); obtain ⟨x0_1, rfl, HA, HK1, HB⟩ := hrel
  cases gk with
  | zero => exact absurd HA.out (by simp [rubricref11_Derived.l0])
  | succ k1 =>
   have H := HA.out; clear HA; simp only [rubricref11_Derived.l0] at H; replace H := Option.bind_eq_some_iff.mp H; obtain ⟨t214, A30, H⟩ := H; (try dsimp only at H); have A3 := Aside0.mk A30; clear A30
   by_cases c4 : t214 = true
   ·subst c4; rw [if_pos rfl] at H; (try dsimp only at H)
    by_cases c5 : x0_1 = a1
    ·rw [if_pos c5] at H; have c5b0 : (x0_1 == a1) = true := beq_iff_eq.mpr c5; have c5b1 : (x0_1 != a1) = false := bne_eq_false_iff_eq.mpr c5; clear c5; obtain rfl := Option.some.inj H
     go_wp2_with (first | ((with_reducible refine gate_callee (f := 25) rfl ?_); refine goesL_ (some 6) rfl rfl Tryz.func25 (by kernel_rfl) rfl #[.int .i64 x0_1] rfl (by (try simp only [List.map_toArray, List.map_cons, List.map_nil]); first | done | rfl | (simp only [List.length_drop, List.length_take]; rfl)) ?_; (with_reducible refine (rubricref11_Is.calls x0_1 true _ A3.out).mono ?_); rintro e w' ⟨rfl, ⟨nd, rfl⟩⟩; refine ⟨_, rfl, ?_⟩))
     go_ret; exact ⟨by first | rfl | (simp [errW_none, errW_some] <;> rfl) | (simp [*, errW_none, errW_some] <;> rfl), by repeat (first | (with_reducible first | exact HB.out | apply below_alloc | apply pw_below_drewN | apply below_drew1) | exact HB.out)⟩
    ·rw [if_neg c5] at H; have c5b0 : (x0_1 == a1) = false := beq_eq_false_iff_ne.mpr c5; have c5b1 : (x0_1 != a1) = true := bne_iff_ne.mpr c5; replace H := Option.bind_eq_some_iff.mp H; obtain ⟨t215, A60, H⟩ := H; (try dsimp only at H); have A6 := Aside0.mk A60; clear A60; have H' := Aside0.mk H; clear H
     go_wp2_with (first | ((with_reducible refine gate_callee (f := 25) rfl ?_); refine goesL_ (some 6) rfl rfl Tryz.func25 (by kernel_rfl) rfl #[.int .i64 x0_1] rfl (by (try simp only [List.map_toArray, List.map_cons, List.map_nil]); first | done | rfl | (simp only [List.length_drop, List.length_take]; rfl)) ?_; (with_reducible refine (rubricref11_Is.calls x0_1 true _ A3.out).mono ?_); rintro e w' ⟨rfl, ⟨nd, rfl⟩⟩; refine ⟨_, rfl, ?_⟩) | ((with_reducible refine gate_callee (f := 11) rfl ?_); refine goesL_ (some 11) rfl rfl Tryz.func11 (by kernel_rfl) rfl #[.int .i64 x0_1] rfl (by (try simp only [List.map_toArray, List.map_cons, List.map_nil]); first | done | rfl | (simp only [List.length_drop, List.length_take]; rfl)) ?_; (with_reducible refine (rubricref11_Base.calls x0_1 t215 _ A6.out).mono ?_); rintro e w7 ⟨rfl, hb⟩; refine ⟨_, rfl, ?_⟩; have n0_ := Aside0.mk (below_step (by repeat (first | (with_reducible first | exact HB.out | apply below_alloc | apply pw_below_drewN | apply below_drew1) | exact HB.out)) hb); clear HB; have HB := n0_; clear n0_; (try clear hb); (try clear hb2); (try clear hk); (try clear hi)))
     go_roundg k1
     case measure => have := HK1.out; omega
     case rel => exact ⟨(t215), (by first | rfl | (simp; done) | (simp [*]; done)), H', ⟨by have := HK1.out; omega⟩, ⟨by repeat (first | (with_reducible first | exact HB.out | apply below_alloc | apply pw_below_drewN | apply below_drew1) | exact HB.out)⟩⟩
   ·replace c4 := Bool.eq_false_iff.mpr c4; subst c4; rw [if_neg (show ¬ (false = true) by decide)] at H; (try dsimp only at H); obtain rfl := Option.some.inj H
    go_wp2_with (first | ((with_reducible refine gate_callee (f := 25) rfl ?_); refine goesL_ (some 6) rfl rfl Tryz.func25 (by kernel_rfl) rfl #[.int .i64 x0_1] rfl (by (try simp only [List.map_toArray, List.map_cons, List.map_nil]); first | done | rfl | (simp only [List.length_drop, List.length_take]; rfl)) ?_; (with_reducible refine (rubricref11_Is.calls x0_1 false _ A3.out).mono ?_); rintro e w' ⟨rfl, ⟨nd, rfl⟩⟩; refine ⟨_, rfl, ?_⟩))
    go_ret; exact ⟨by first | rfl | (simp [errW_none, errW_some] <;> rfl) | (simp [*, errW_none, errW_some] <;> rfl), by repeat (first | (with_reducible first | exact HB.out | apply below_alloc | apply pw_below_drewN | apply below_drew1) | exact HB.out)⟩

/-! ### rubriclaw11_KindTables: function 3 -/
def rubriclaw11_KindTables.f (k : Nat) (a0 : Int) (a1 : Int) (a2 : ByteArray) : Option (Bool) := (G.known.f k).bind fun t216 => (if t216 = true then (if (a2.size : Int) > 400 then (some true) else ((G.kind_Find.f a2).bind fun bt217 => ((rubricref11_Find.f k a2).bind fun bt219 => (if bt217.1 = bt219.1 then (if bt217.2 = bt219.2 then ((G.kind_Name.f a0).bind fun t221 => ((rubricref11_Name.f a0).bind fun t222 => (if t221.toList = t222.toList then ((G.kind_Base.f a0).bind fun t223 => ((rubricref11_Base.f a0).bind fun t224 => (if t223 = t224 then ((kind_Prim.f k a0).bind fun t225 => ((rubricref11_Prim.f k a0).bind fun t226 => (if t225 = t226 then ((kind_White.f a0).bind fun t227 => ((rubricref11_White.f a0).bind fun t228 => (if t227 = t228 then ((kind_Derived.f k a0 a1).bind fun t229 => ((rubricref11_Derived.f k a0 a1).bind fun t230 => (some (t229 == t230)))) else (some false)))) else (some false)))) else (some false)))) else (some false)))) else (some false)) else (some false))))) else (some false))
theorem rubriclaw11_KindTables.mono : ∀ a0 a1 a2 k, LeO (rubriclaw11_KindTables.f k a0 a1 a2) (rubriclaw11_KindTables.f (k + 1) a0 a1 a2) := by
 intro a0 a1 a2 k
 unfold rubriclaw11_KindTables.f
 repeat' first
   | (with_reducible exact G.known.mono _)
   | (with_reducible exact kind_Derived.mono _ _ _)
   | (with_reducible exact kind_Prim.mono _ _)
   | (with_reducible exact rubricref11_Derived.mono _ _ _)
   | (with_reducible exact rubricref11_Find.mono _ _)
   | (with_reducible exact rubricref11_Prim.mono _ _)
   | (with_reducible exact LeO.refl _)
   | (with_reducible exact LeO.none _)
   | (with_reducible refine LeO.ite ?_ ?_)
   | (with_reducible refine LeO.bind ?_ (fun _ => ?_))
   | exact G.known.mono _
   | exact kind_Derived.mono _ _ _
   | exact kind_Prim.mono _ _
   | exact rubricref11_Derived.mono _ _ _
   | exact rubricref11_Find.mono _ _
   | exact rubricref11_Prim.mono _ _
   | exact LeO.none _
   | refine LeO.ite ?_ ?_
   | refine LeO.bind ?_ (fun _ => ?_)
set_option maxHeartbeats 8000000 in
set_option maxRecDepth 100000 in
theorem rubriclaw11_KindTables.calls (k : Nat) (a0 : Int) (a1 : Int) (a2 : ByteArray) (r : Bool) (w : World) (h : rubriclaw11_KindTables.f k a0 a1 a2 = some r) (hrt : r = true) :
  Calls Tryz.prog 3 #[.int .i64 a0, .int .i64 a1, .string a2] w fun e w' => e = .returned (.bool r) ∧ Below w.heap.size w w' := by
 have HB := Aside0.mk (Below.refl w.heap.size w); have HRT := Aside0.mk hrt; clear hrt; have H : ((G.known.f k).bind fun t216 => (if t216 = true then (if (a2.size : Int) > 400 then (some true) else ((G.kind_Find.f a2).bind fun bt217 => ((rubricref11_Find.f k a2).bind fun bt219 => (if bt217.1 = bt219.1 then (if bt217.2 = bt219.2 then ((G.kind_Name.f a0).bind fun t221 => ((rubricref11_Name.f a0).bind fun t222 => (if t221.toList = t222.toList then ((G.kind_Base.f a0).bind fun t223 => ((rubricref11_Base.f a0).bind fun t224 => (if t223 = t224 then ((kind_Prim.f k a0).bind fun t225 => ((rubricref11_Prim.f k a0).bind fun t226 => (if t225 = t226 then ((kind_White.f a0).bind fun t227 => ((rubricref11_White.f a0).bind fun t228 => (if t227 = t228 then ((kind_Derived.f k a0 a1).bind fun t229 => ((rubricref11_Derived.f k a0 a1).bind fun t230 => (some (t229 == t230)))) else (some false)))) else (some false)))) else (some false)))) else (some false)))) else (some false)) else (some false))))) else (some false))) = some r := h; clear h; replace H := Option.bind_eq_some_iff.mp H; obtain ⟨t216, A40, H⟩ := H; (try dsimp only at H); have A4 := Aside0.mk A40; clear A40
 by_cases c5 : t216 = true
 ·subst c5; rw [if_pos rfl] at H; (try dsimp only at H)
  by_cases c6 : (a2.size : Int) > 400
  ·rw [if_pos c6] at H; have c6b0 : decide (400 < (a2.size : Int)) = true := decide_eq_true c6; have c6b1 : decide (400 < a2.size) = true := decide_eq_true (by omega); clear c6; obtain rfl := Option.some.inj H
   go_enter Tryz.func3, Tryz.ntmps3
   go_wp2_with (first | ((with_reducible refine gate_callee (f := 5) rfl ?_); refine goesL_ (some 11) rfl rfl Tryz.func5 (by kernel_rfl) rfl #[] rfl (by (try simp only [List.map_toArray, List.map_cons, List.map_nil]); first | done | rfl | (simp only [List.length_drop, List.length_take]; rfl)) ?_; (with_reducible refine (G.known.calls k  true _ A4.out).mono ?_); rintro e w7 ⟨rfl, hb⟩; refine ⟨_, rfl, ?_⟩; have n0_ := Aside0.mk (below_step (by repeat (first | (with_reducible first | exact HB.out | apply below_alloc | apply pw_below_drewN | apply below_drew1) | exact HB.out)) hb); clear HB; have HB := n0_; clear n0_; (try clear hb); (try clear hb2); (try clear hk); (try clear hi)))
   go_ret; exact ⟨by first | rfl | (simp [errW_none, errW_some] <;> rfl) | (simp [*, errW_none, errW_some] <;> rfl), by repeat (first | (with_reducible first | exact HB.out | apply below_alloc | apply pw_below_drewN | apply below_drew1) | exact HB.out)⟩
  ·rw [if_neg c6] at H; have c6b0 : decide (400 < (a2.size : Int)) = false := decide_eq_false c6; have c6b1 : decide (400 < a2.size) = false := decide_eq_false (by omega); clear c6; replace H := Option.bind_eq_some_iff.mp H; obtain ⟨⟨t217, t218⟩, A80, H⟩ := H; (try dsimp only at H); have A8 := Aside0.mk A80; clear A80; replace H := Option.bind_eq_some_iff.mp H; obtain ⟨⟨t219, t220⟩, A90, H⟩ := H; (try dsimp only at H); have A9 := Aside0.mk A90; clear A90
   by_cases c10 : t217 = t219
   ·rw [if_pos c10] at H; have c10b0 : (t217 == t219) = true := beq_iff_eq.mpr c10; have c10b1 : (t217 != t219) = false := bne_eq_false_iff_eq.mpr c10; clear c10
    by_cases c11 : t218 = t220
    ·rw [if_pos c11] at H; have c11b0 : (t218 == t220) = true := beq_iff_eq.mpr c11; have c11b1 : (t218 != t220) = false := bne_eq_false_iff_eq.mpr c11; clear c11; replace H := Option.bind_eq_some_iff.mp H; obtain ⟨t221, A120, H⟩ := H; (try dsimp only at H); have A12 := Aside0.mk A120; clear A120; replace H := Option.bind_eq_some_iff.mp H; obtain ⟨t222, A130, H⟩ := H; (try dsimp only at H); have A13 := Aside0.mk A130; clear A130
     by_cases c14 : t221.toList = t222.toList
     ·rw [if_pos c14] at H; have c14b0 : (t221.toList == t222.toList) = true := beq_iff_eq.mpr c14; have c14b1 : (t221.toList != t222.toList) = false := bne_eq_false_iff_eq.mpr c14; clear c14; replace H := Option.bind_eq_some_iff.mp H; obtain ⟨t223, A150, H⟩ := H; (try dsimp only at H); have A15 := Aside0.mk A150; clear A150; replace H := Option.bind_eq_some_iff.mp H; obtain ⟨t224, A160, H⟩ := H; (try dsimp only at H); have A16 := Aside0.mk A160; clear A160
      by_cases c17 : t223 = t224
      ·rw [if_pos c17] at H; have c17b0 : (t223 == t224) = true := beq_iff_eq.mpr c17; have c17b1 : (t223 != t224) = false := bne_eq_false_iff_eq.mpr c17; clear c17; replace H := Option.bind_eq_some_iff.mp H; obtain ⟨t225, A180, H⟩ := H; (try dsimp only at H); have A18 := Aside0.mk A180; clear A180; replace H := Option.bind_eq_some_iff.mp H; obtain ⟨t226, A190, H⟩ := H; (try dsimp only at H); have A19 := Aside0.mk A190; clear A190
       by_cases c20 : t225 = t226
       ·rw [if_pos c20] at H; have c20b0 : (t225 == t226) = true := beq_iff_eq.mpr c20; have c20b1 : (t225 != t226) = false := bne_eq_false_iff_eq.mpr c20; clear c20; replace H := Option.bind_eq_some_iff.mp H; obtain ⟨t227, A210, H⟩ := H; (try dsimp only at H); have A21 := Aside0.mk A210; clear A210; replace H := Option.bind_eq_some_iff.mp H; obtain ⟨t228, A220, H⟩ := H; (try dsimp only at H); have A22 := Aside0.mk A220; clear A220
        by_cases c23 : t227 = t228
        ·rw [if_pos c23] at H; have c23b0 : (t227 == t228) = true := beq_iff_eq.mpr c23; have c23b1 : (t227 != t228) = false := bne_eq_false_iff_eq.mpr c23; clear c23; replace H := Option.bind_eq_some_iff.mp H; obtain ⟨t229, A240, H⟩ := H; (try dsimp only at H); have A24 := Aside0.mk A240; clear A240; replace H := Option.bind_eq_some_iff.mp H; obtain ⟨t230, A250, H⟩ := H; (try dsimp only at H); have A25 := Aside0.mk A250; clear A250; obtain rfl := Option.some.inj H
         go_enter Tryz.func3, Tryz.ntmps3
         go_wp2_with (first | ((with_reducible refine gate_callee (f := 5) rfl ?_); refine goesL_ (some 11) rfl rfl Tryz.func5 (by kernel_rfl) rfl #[] rfl (by (try simp only [List.map_toArray, List.map_cons, List.map_nil]); first | done | rfl | (simp only [List.length_drop, List.length_take]; rfl)) ?_; (with_reducible refine (G.known.calls k  true _ A4.out).mono ?_); rintro e w26 ⟨rfl, hb⟩; refine ⟨_, rfl, ?_⟩; have n0_ := Aside0.mk (below_step (by repeat (first | (with_reducible first | exact HB.out | apply below_alloc | apply pw_below_drewN | apply below_drew1) | exact HB.out)) hb); clear HB; have HB := n0_; clear n0_; (try clear hb); (try clear hb2); (try clear hk); (try clear hi)) | ((with_reducible refine gate_callee (f := 6) rfl ?_); refine goesL_ (some 18) rfl rfl Tryz.func6 (by kernel_rfl) rfl #[.string a2] rfl (by (try simp only [List.map_toArray, List.map_cons, List.map_nil]); first | done | rfl | (simp only [List.length_drop, List.length_take]; rfl)) ?_; (with_reducible refine (G.kind_Find.calls a2 t217 t218 _ A8.out).mono ?_); rintro e w27 ⟨rfl, hb⟩; refine ⟨_, rfl, ?_⟩; have n0_ := Aside0.mk (below_step (by repeat (first | (with_reducible first | exact HB.out | apply below_alloc | apply pw_below_drewN | apply below_drew1) | exact HB.out)) hb); clear HB; have HB := n0_; clear n0_; (try clear hb); (try clear hb2); (try clear hk); (try clear hi)) | ((with_reducible refine gate_callee (f := 7) rfl ?_); refine goesL_ (some 23) rfl rfl Tryz.func7 (by kernel_rfl) rfl #[.string a2] rfl (by (try simp only [List.map_toArray, List.map_cons, List.map_nil]); first | done | rfl | (simp only [List.length_drop, List.length_take]; rfl)) ?_; (with_reducible refine (rubricref11_Find.calls k a2 t219 t220 _ A9.out).mono ?_); rintro e w28 ⟨rfl, hb⟩; refine ⟨_, rfl, ?_⟩; have n0_ := Aside0.mk (below_step (by repeat (first | (with_reducible first | exact HB.out | apply below_alloc | apply pw_below_drewN | apply below_drew1) | exact HB.out)) hb); clear HB; have HB := n0_; clear n0_; (try clear hb); (try clear hb2); (try clear hk); (try clear hi)) | (go_at_call 8; (with_reducible refine (G.kind_Name.calls a0 t221 _ A12.out).mono ?_); rintro e w29 ⟨rfl, hb⟩; have n0_ := Aside0.mk (below_step (by repeat (first | (with_reducible first | exact HB.out | apply below_alloc | apply pw_below_drewN | apply below_drew1) | exact HB.out)) hb); clear HB; have HB := n0_; clear n0_; (try clear hb); (try clear hb2); (try clear hk); (try clear hi)) | (go_at_call 9; (with_reducible refine (rubricref11_Name.calls a0 t222 _ A13.out).mono ?_); rintro e w30 ⟨rfl, hb⟩; have n0_ := Aside0.mk (below_step (by repeat (first | (with_reducible first | exact HB.out | apply below_alloc | apply pw_below_drewN | apply below_drew1) | exact HB.out)) hb); clear HB; have HB := n0_; clear n0_; (try clear hb); (try clear hb2); (try clear hk); (try clear hi)) | (go_at_call 10; (with_reducible refine (G.kind_Base.calls a0 t223 _ A15.out).mono ?_); rintro e w31 ⟨rfl, hb⟩; have n0_ := Aside0.mk (below_step (by repeat (first | (with_reducible first | exact HB.out | apply below_alloc | apply pw_below_drewN | apply below_drew1) | exact HB.out)) hb); clear HB; have HB := n0_; clear n0_; (try clear hb); (try clear hb2); (try clear hk); (try clear hi)) | (go_at_call 11; (with_reducible refine (rubricref11_Base.calls a0 t224 _ A16.out).mono ?_); rintro e w32 ⟨rfl, hb⟩; have n0_ := Aside0.mk (below_step (by repeat (first | (with_reducible first | exact HB.out | apply below_alloc | apply pw_below_drewN | apply below_drew1) | exact HB.out)) hb); clear HB; have HB := n0_; clear n0_; (try clear hb); (try clear hb2); (try clear hk); (try clear hi)) | (go_at_call 12; (with_reducible refine (kind_Prim.calls k a0 t225 _ A18.out).mono ?_); rintro e w33 ⟨rfl, hb⟩; have n0_ := Aside0.mk (below_step (by repeat (first | (with_reducible first | exact HB.out | apply below_alloc | apply pw_below_drewN | apply below_drew1) | exact HB.out)) hb); clear HB; have HB := n0_; clear n0_; (try clear hb); (try clear hb2); (try clear hk); (try clear hi)) | (go_at_call 13; (with_reducible refine (rubricref11_Prim.calls k a0 t226 _ A19.out).mono ?_); rintro e w34 ⟨rfl, hb⟩; have n0_ := Aside0.mk (below_step (by repeat (first | (with_reducible first | exact HB.out | apply below_alloc | apply pw_below_drewN | apply below_drew1) | exact HB.out)) hb); clear HB; have HB := n0_; clear n0_; (try clear hb); (try clear hb2); (try clear hk); (try clear hi)) | (go_at_call 14; (with_reducible refine (kind_White.calls a0 t227 _ A21.out).mono ?_); rintro e w' ⟨rfl, ⟨nd, rfl⟩⟩) | (go_at_call 15; (with_reducible refine (rubricref11_White.calls a0 t228 _ A22.out).mono ?_); rintro e w' ⟨rfl, ⟨nd, rfl⟩⟩) | (go_at_call 16; (with_reducible refine (kind_Derived.calls k a0 a1 t229 _ A24.out).mono ?_); rintro e w35 ⟨rfl, hb⟩; have n0_ := Aside0.mk (below_step (by repeat (first | (with_reducible first | exact HB.out | apply below_alloc | apply pw_below_drewN | apply below_drew1) | exact HB.out)) hb); clear HB; have HB := n0_; clear n0_; (try clear hb); (try clear hb2); (try clear hk); (try clear hi)) | (go_at_call 17; (with_reducible refine (rubricref11_Derived.calls k a0 a1 t230 _ A25.out).mono ?_); rintro e w36 ⟨rfl, hb⟩; have n0_ := Aside0.mk (below_step (by repeat (first | (with_reducible first | exact HB.out | apply below_alloc | apply pw_below_drewN | apply below_drew1) | exact HB.out)) hb); clear HB; have HB := n0_; clear n0_; (try clear hb); (try clear hb2); (try clear hk); (try clear hi)))
         go_ret; exact ⟨by first | rfl | (simp [errW_none, errW_some] <;> rfl) | (simp [*, errW_none, errW_some] <;> rfl), by repeat (first | (with_reducible first | exact HB.out | apply below_alloc | apply pw_below_drewN | apply below_drew1) | exact HB.out)⟩
        ·rw [if_neg c23] at H; have c23b0 : (t227 == t228) = false := beq_eq_false_iff_ne.mpr c23; have c23b1 : (t227 != t228) = true := bne_iff_ne.mpr c23; exact absurd ((Option.some.inj H).trans HRT.out) (by decide)
       ·rw [if_neg c20] at H; have c20b0 : (t225 == t226) = false := beq_eq_false_iff_ne.mpr c20; have c20b1 : (t225 != t226) = true := bne_iff_ne.mpr c20; exact absurd ((Option.some.inj H).trans HRT.out) (by decide)
      ·rw [if_neg c17] at H; have c17b0 : (t223 == t224) = false := beq_eq_false_iff_ne.mpr c17; have c17b1 : (t223 != t224) = true := bne_iff_ne.mpr c17; exact absurd ((Option.some.inj H).trans HRT.out) (by decide)
     ·rw [if_neg c14] at H; have c14b0 : (t221.toList == t222.toList) = false := beq_eq_false_iff_ne.mpr c14; have c14b1 : (t221.toList != t222.toList) = true := bne_iff_ne.mpr c14; exact absurd ((Option.some.inj H).trans HRT.out) (by decide)
    ·rw [if_neg c11] at H; have c11b0 : (t218 == t220) = false := beq_eq_false_iff_ne.mpr c11; have c11b1 : (t218 != t220) = true := bne_iff_ne.mpr c11; exact absurd ((Option.some.inj H).trans HRT.out) (by decide)
   ·rw [if_neg c10] at H; have c10b0 : (t217 == t219) = false := beq_eq_false_iff_ne.mpr c10; have c10b1 : (t217 != t219) = true := bne_iff_ne.mpr c10; exact absurd ((Option.some.inj H).trans HRT.out) (by decide)
 ·replace c5 := Bool.eq_false_iff.mpr c5; subst c5; rw [if_neg (show ¬ (false = true) by decide)] at H; (try dsimp only at H); exact absurd ((Option.some.inj H).trans HRT.out) (by decide)

/-- THE ONE PURE STATEMENT of rubriclaw11_KindTables: yours. -/
def rubriclaw11_KindTables.Pure : Prop := ∀ (a0 : Int) (a1 : Int) (a2 : ByteArray), (Lit.int .i64 a0).wf = true → (Lit.int .i64 a1).wf = true → a2.size ≤ 140737488351232 → ∃ k, rubriclaw11_KindTables.f k a0 a1 a2 = some true
theorem rubriclaw11_KindTables.walk (P : rubriclaw11_KindTables.Pure) (a0 : Int) (a1 : Int) (a2 : ByteArray) (w : World) (w0 : (Lit.int .i64 a0).wf = true) (w1 : (Lit.int .i64 a1).wf = true) (w2 : a2.size ≤ 140737488351232) :
  Calls Tryz.prog 3 #[.int .i64 a0, .int .i64 a1, .string a2] w fun e w' => e = .returned (.bool true) ∧ Below w.heap.size w w' := by
 obtain ⟨k, h⟩ := P a0 a1 a2 w0 w1 w2; refine (rubriclaw11_KindTables.calls k a0 a1 a2 true w h rfl).mono ?_; rintro e w' ⟨rfl, hd⟩; exact ⟨rfl, hd⟩

end Go.Proofs.YtdjgiphipjejlaaGreatDoor.Pr
