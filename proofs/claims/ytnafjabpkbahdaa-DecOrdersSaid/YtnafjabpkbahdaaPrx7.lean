-- printed by wip/gprint.py (ours) out of the translation, by the kit's print program with given contracts
import Derived.Test.YtnafjabpkbahdaaPrx0
import Derived.Test.YtnafjabpkbahdaaPrx1
import Derived.Test.YtnafjabpkbahdaaPrx2
import Derived.Test.YtnafjabpkbahdaaPrx4
import Derived.Test.YtnafjabpkbahdaaPrx5
namespace Go.Proofs.Ytnafjabpkbahdaa.Pr
open Go.RowKit Go.Proofs.YtnafjabpkbahdaaW.PrintWords Go.Proofs.YtnafjabpkbahdaaW.PrintLast Go.Proofs.YtnafjabpkbahdaaW.PrintMore
attribute [local go_sem] max2_int min2_int max_two min_two max_three min_three max_four min_four   -- for this text's walks alone
set_option linter.unusedVariables false
set_option linter.unusedSimpArgs false

/-! ### rubriclaw5_DecOrders: function 4 -/
mutual
def rubriclaw5_DecOrders.j0 : Nat → ByteArray → ByteArray → ByteArray → Bool → Option (Bool)
 | 0, _, _, _, _ => none
 | k + 1, x0, x1, x2, x31 => if x31 = true then (some true) else ((dec_Parse.f k x0).bind fun bt237 => ((dec_Parse.f k x1).bind fun bt244 => ((dec_Parse.f k x2).bind fun bt251 => (if bt237.2.2.2 = 0 then (if bt244.2.2.2 = 0 then (rubriclaw5_DecOrders.j1 k (bt251.2.2.2 != 0) bt237.1 bt237.2.1 bt237.2.2.1 bt244.1 bt244.2.1 bt244.2.2.1 bt251.1 bt251.2.1 bt251.2.2.1) else (rubriclaw5_DecOrders.j1 k true bt237.1 bt237.2.1 bt237.2.2.1 bt244.1 bt244.2.1 bt244.2.2.1 bt251.1 bt251.2.1 bt251.2.2.1)) else (rubriclaw5_DecOrders.j1 k true bt237.1 bt237.2.1 bt237.2.2.1 bt244.1 bt244.2.1 bt244.2.2.1 bt251.1 bt251.2.1 bt251.2.2.1)))))
def rubriclaw5_DecOrders.j1 : Nat → Bool → Bool → List Int → Int → Bool → List Int → Int → Bool → List Int → Int → Option (Bool)
 | 0, _, _, _, _, _, _, _, _, _, _ => none
 | k + 1, x56, x244000, x244001, x244002, x251000, x251001, x251002, x258000, x258001, x258002 => if x56 = true then (some true) else ((dec_Add.f k x244000 x244001 x244002 x258000 x258001 x258002).bind fun bt258 => ((dec_Add.f k x251000 x251001 x251002 x258000 x258001 x258002).bind fun bt265 => (if (wrap64 (bt258.2.2.2 + bt265.2.2.2)) = 0 then ((dec_Cmp.f k bt258.1 bt258.2.1 bt258.2.2.1 bt265.1 bt265.2.1 bt265.2.2.1).bind fun t272 => ((dec_Cmp.f k x244000 x244001 x244002 x251000 x251001 x251002).bind fun t273 => (if t272 = t273 then ((dec_Neg.f x244000 x244001 x244002).bind fun bt274 => ((dec_Neg.f x251000 x251001 x251002).bind fun bt279 => ((dec_Cmp.f k bt274.1 bt274.2.1 bt274.2.2 bt279.1 bt279.2.1 bt279.2.2).bind fun t284 => ((dec_Cmp.f k x251000 x251001 x251002 x244000 x244001 x244002).bind fun t285 => (rubriclaw5_DecOrders.j2 k (t284 != t285) x244000 x244001 x244002 x251000 x251001 x251002 x258000 x258001 x258002))))) else (rubriclaw5_DecOrders.j2 k true x244000 x244001 x244002 x251000 x251001 x251002 x258000 x258001 x258002)))) else (rubriclaw5_DecOrders.j2 k true x244000 x244001 x244002 x251000 x251001 x251002 x258000 x258001 x258002))))
def rubriclaw5_DecOrders.j2 : Nat → Bool → Bool → List Int → Int → Bool → List Int → Int → Bool → List Int → Int → Option (Bool)
 | 0, _, _, _, _, _, _, _, _, _, _ => none
 | k + 1, x92, x244000, x244001, x244002, x251000, x251001, x251002, x258000, x258001, x258002 => if x92 = true then (some false) else ((dec_Cmp.f k x244000 x244001 x244002 x251000 x251001 x251002).bind fun t286 => (if t286 > 0 then (some true) else ((dec_Cmp.f k x251000 x251001 x251002 x258000 x258001 x258002).bind fun t287 => (if t287 > 0 then (some true) else ((dec_Cmp.f k x244000 x244001 x244002 x258000 x258001 x258002).bind fun t288 => (some (decide (t288 ≤ 0))))))))
end
def rubriclaw5_DecOrders.f (k : Nat) (a0 : ByteArray) (a1 : ByteArray) (a2 : ByteArray) : Option (Bool) := (rubriclaw5_known.f k).bind fun t236 => (if t236 = true then (if (a0.size : Int) > 200 then (rubriclaw5_DecOrders.j0 k a0 a1 a2 true) else (if (a1.size : Int) > 200 then (rubriclaw5_DecOrders.j0 k a0 a1 a2 true) else (rubriclaw5_DecOrders.j0 k a0 a1 a2 (decide ((a2.size : Int) > 200))))) else (some false))
theorem rubriclaw5_DecOrders.mono_l : ∀ k, (∀ y0 y1 y2 y3, LeO (rubriclaw5_DecOrders.j0 k y0 y1 y2 y3) (rubriclaw5_DecOrders.j0 (k + 1) y0 y1 y2 y3)) ∧ (∀ y0 y1 y2 y3 y4 y5 y6 y7 y8 y9, LeO (rubriclaw5_DecOrders.j1 k y0 y1 y2 y3 y4 y5 y6 y7 y8 y9) (rubriclaw5_DecOrders.j1 (k + 1) y0 y1 y2 y3 y4 y5 y6 y7 y8 y9)) ∧ (∀ y0 y1 y2 y3 y4 y5 y6 y7 y8 y9, LeO (rubriclaw5_DecOrders.j2 k y0 y1 y2 y3 y4 y5 y6 y7 y8 y9) (rubriclaw5_DecOrders.j2 (k + 1) y0 y1 y2 y3 y4 y5 y6 y7 y8 y9))
 | 0 => ⟨fun _ _ _ _ r h => by simp [rubriclaw5_DecOrders.j0] at h, fun _ _ _ _ _ _ _ _ _ _ r h => by simp [rubriclaw5_DecOrders.j1] at h, fun _ _ _ _ _ _ _ _ _ _ r h => by simp [rubriclaw5_DecOrders.j2] at h⟩
 | k + 1 => by
  obtain ⟨ih0, ih1, ih2⟩ := rubriclaw5_DecOrders.mono_l k
  refine ⟨?_, ?_, ?_⟩
  ·intro y0 y1 y2 y3
   unfold rubriclaw5_DecOrders.j0
   repeat' first
   | (with_reducible exact ih0 _ _ _ _)
   | (with_reducible exact ih1 _ _ _ _ _ _ _ _ _ _)
   | (with_reducible exact ih2 _ _ _ _ _ _ _ _ _ _)
   | (with_reducible exact dec_Add.mono _ _ _ _ _ _ _)
   | (with_reducible exact dec_Cmp.mono _ _ _ _ _ _ _)
   | (with_reducible exact dec_Parse.mono _ _)
   | (with_reducible exact rubriclaw5_known.mono _)
   | (with_reducible exact LeO.refl _)
   | (with_reducible exact LeO.none _)
   | (with_reducible refine LeO.ite ?_ ?_)
   | (with_reducible refine LeO.bind ?_ (fun _ => ?_))
   | exact ih0 _ _ _ _
   | exact ih1 _ _ _ _ _ _ _ _ _ _
   | exact ih2 _ _ _ _ _ _ _ _ _ _
   | exact dec_Add.mono _ _ _ _ _ _ _
   | exact dec_Cmp.mono _ _ _ _ _ _ _
   | exact dec_Parse.mono _ _
   | exact rubriclaw5_known.mono _
   | exact LeO.none _
   | refine LeO.ite ?_ ?_
   | refine LeO.bind ?_ (fun _ => ?_)
  ·intro y0 y1 y2 y3 y4 y5 y6 y7 y8 y9
   unfold rubriclaw5_DecOrders.j1
   repeat' first
   | (with_reducible exact ih0 _ _ _ _)
   | (with_reducible exact ih1 _ _ _ _ _ _ _ _ _ _)
   | (with_reducible exact ih2 _ _ _ _ _ _ _ _ _ _)
   | (with_reducible exact dec_Add.mono _ _ _ _ _ _ _)
   | (with_reducible exact dec_Cmp.mono _ _ _ _ _ _ _)
   | (with_reducible exact dec_Parse.mono _ _)
   | (with_reducible exact rubriclaw5_known.mono _)
   | (with_reducible exact LeO.refl _)
   | (with_reducible exact LeO.none _)
   | (with_reducible refine LeO.ite ?_ ?_)
   | (with_reducible refine LeO.bind ?_ (fun _ => ?_))
   | exact ih0 _ _ _ _
   | exact ih1 _ _ _ _ _ _ _ _ _ _
   | exact ih2 _ _ _ _ _ _ _ _ _ _
   | exact dec_Add.mono _ _ _ _ _ _ _
   | exact dec_Cmp.mono _ _ _ _ _ _ _
   | exact dec_Parse.mono _ _
   | exact rubriclaw5_known.mono _
   | exact LeO.none _
   | refine LeO.ite ?_ ?_
   | refine LeO.bind ?_ (fun _ => ?_)
  ·intro y0 y1 y2 y3 y4 y5 y6 y7 y8 y9
   unfold rubriclaw5_DecOrders.j2
   repeat' first
   | (with_reducible exact ih0 _ _ _ _)
   | (with_reducible exact ih1 _ _ _ _ _ _ _ _ _ _)
   | (with_reducible exact ih2 _ _ _ _ _ _ _ _ _ _)
   | (with_reducible exact dec_Add.mono _ _ _ _ _ _ _)
   | (with_reducible exact dec_Cmp.mono _ _ _ _ _ _ _)
   | (with_reducible exact dec_Parse.mono _ _)
   | (with_reducible exact rubriclaw5_known.mono _)
   | (with_reducible exact LeO.refl _)
   | (with_reducible exact LeO.none _)
   | (with_reducible refine LeO.ite ?_ ?_)
   | (with_reducible refine LeO.bind ?_ (fun _ => ?_))
   | exact ih0 _ _ _ _
   | exact ih1 _ _ _ _ _ _ _ _ _ _
   | exact ih2 _ _ _ _ _ _ _ _ _ _
   | exact dec_Add.mono _ _ _ _ _ _ _
   | exact dec_Cmp.mono _ _ _ _ _ _ _
   | exact dec_Parse.mono _ _
   | exact rubriclaw5_known.mono _
   | exact LeO.none _
   | refine LeO.ite ?_ ?_
   | refine LeO.bind ?_ (fun _ => ?_)
theorem rubriclaw5_DecOrders.mono : ∀ a0 a1 a2 k, LeO (rubriclaw5_DecOrders.f k a0 a1 a2) (rubriclaw5_DecOrders.f (k + 1) a0 a1 a2) := by
 intro a0 a1 a2 k
 obtain ⟨ih0, ih1, ih2⟩ := rubriclaw5_DecOrders.mono_l k
 unfold rubriclaw5_DecOrders.f
 repeat' first
   | (with_reducible exact ih0 _ _ _ _)
   | (with_reducible exact ih1 _ _ _ _ _ _ _ _ _ _)
   | (with_reducible exact ih2 _ _ _ _ _ _ _ _ _ _)
   | (with_reducible exact dec_Add.mono _ _ _ _ _ _ _)
   | (with_reducible exact dec_Cmp.mono _ _ _ _ _ _ _)
   | (with_reducible exact dec_Parse.mono _ _)
   | (with_reducible exact rubriclaw5_known.mono _)
   | (with_reducible exact LeO.refl _)
   | (with_reducible exact LeO.none _)
   | (with_reducible refine LeO.ite ?_ ?_)
   | (with_reducible refine LeO.bind ?_ (fun _ => ?_))
   | exact ih0 _ _ _ _
   | exact ih1 _ _ _ _ _ _ _ _ _ _
   | exact ih2 _ _ _ _ _ _ _ _ _ _
   | exact dec_Add.mono _ _ _ _ _ _ _
   | exact dec_Cmp.mono _ _ _ _ _ _ _
   | exact dec_Parse.mono _ _
   | exact rubriclaw5_known.mono _
   | exact LeO.none _
   | refine LeO.ite ?_ ?_
   | refine LeO.bind ?_ (fun _ => ?_)
def rubriclaw5_DecOrders.T12 : Bool × List (List Nat × List Nat) := (true, [([], []), ([], []), ([0, 1], [0, 1]), ([2], [2]), ([3], [3]), ([4], [4]), ([4], [4]), ([5, 6, 4, 4], [4, 5, 6]), ([4], [4]), ([4], [4]), ([8, 9, 7, 4], [4, 8, 9]), ([7, 10, 4], [4, 7, 10]), ([4, 11], [4, 11]), ([12, 10], [12]), ([13], [13]), ([14, 13, 13], [13, 14]), ([13], [13]), ([16, 15, 13], [13, 16]), ([15, 17, 17, 13], [13, 15, 17]), ([13], [13]), ([13], [13]), ([19, 20, 18, 13], [13, 19, 20]), ([18, 21, 13], [13, 18, 21]), ([13, 22], [13, 22])])
def rubriclaw5_DecOrders.B12 : List Nat := [0, 0, 3, 7, 15, 31, 31, 127, 31, 31, 1023, 2047, 4095, 8191, 16383, 32767, 16383, 131071, 262143, 16383, 16383, 2097151, 4194303, 8388607]
theorem rubriclaw5_DecOrders.tab12 : rtab .any (opsOf Try.f4 12) = rubriclaw5_DecOrders.T12 := by kernel_rfl
theorem rubriclaw5_DecOrders.bits12 : waitsOk rubriclaw5_DecOrders.T12.2 rubriclaw5_DecOrders.B12 = true := by kernel_rfl
set_option maxHeartbeats 8000000 in
set_option maxRecDepth 100000 in
theorem rubriclaw5_DecOrders.calls (k : Nat) (a0 : ByteArray) (a1 : ByteArray) (a2 : ByteArray) (r : Bool) (w : World) (h : rubriclaw5_DecOrders.f k a0 a1 a2 = some r) (hrt : r = true) :
  Calls Try.prog 4 #[.string a0, .string a1, .string a2] w fun e w' => e = .returned (.bool r) ∧ Below w.heap.size w w' := by
 have hu25 := Try.underlying25
 have HB := Aside0.mk (Below.refl w.heap.size w)
 have HRT := Aside0.mk hrt
 clear hrt
 have H : ((rubriclaw5_known.f k).bind fun t236 => (if t236 = true then (if (a0.size : Int) > 200 then (rubriclaw5_DecOrders.j0 k a0 a1 a2 true) else (if (a1.size : Int) > 200 then (rubriclaw5_DecOrders.j0 k a0 a1 a2 true) else (rubriclaw5_DecOrders.j0 k a0 a1 a2 (decide ((a2.size : Int) > 200))))) else (some false))) = some r := h
 clear h
 replace H := Option.bind_eq_some_iff.mp H
 obtain ⟨t236, A40, H⟩ := H
 replace H : (if t236 = true then (if (a0.size : Int) > 200 then (rubriclaw5_DecOrders.j0 k a0 a1 a2 true) else (if (a1.size : Int) > 200 then (rubriclaw5_DecOrders.j0 k a0 a1 a2 true) else (rubriclaw5_DecOrders.j0 k a0 a1 a2 (decide ((a2.size : Int) > 200))))) else (some false)) = some r := H
 have A4 := Aside0.mk A40
 clear A40
 by_cases c5 : t236 = true
 ·subst c5
  have H1 : (if (a0.size : Int) > 200 then (rubriclaw5_DecOrders.j0 k a0 a1 a2 true) else (if (a1.size : Int) > 200 then (rubriclaw5_DecOrders.j0 k a0 a1 a2 true) else (rubriclaw5_DecOrders.j0 k a0 a1 a2 (decide ((a2.size : Int) > 200))))) = some r := by rw [if_pos rfl] at H; exact H
  clear H
  have H := H1
  clear H1
  have HC6 := Aside0.mk H
  clear H
  go_enter Try.func4, Try.ntmps4
  go_upto_region 3 with (first | ((with_reducible refine gate_callee (f := 6) rfl ?_); refine goesL_ (some 17) rfl rfl Try.func6 (by kernel_rfl) rfl #[] rfl (by (try simp only [List.map_toArray, List.map_cons, List.map_nil]); first | done | rfl | (simp only [List.length_drop, List.length_take]; rfl)) ?_; (with_reducible refine (rubriclaw5_known.calls k  true _ A4.out rfl).mono ?_); rintro e w7 ⟨rfl, hb⟩; refine ⟨_, rfl, ?_⟩; have n0_ := Aside0.mk (below_step (by repeat (first | (with_reducible first | exact HB.out | apply below_alloc | apply pw_below_drewN | apply below_drew1) | exact HB.out)) hb); clear HB; have HB := n0_; clear n0_; (try clear hb); (try clear hb2); (try clear hk); (try clear hi)))
  (try simp only [Act.put, List.setIfInBounds_toArray, List.set_cons_zero, List.set_cons_succ])
  go_cut [31] (fun v31 wc => ∃ (kq : Nat) (x31_5 : Bool), v31 = .bool x31_5 ∧ Aside0 (rubriclaw5_DecOrders.j0 kq a0 a1 a2 x31_5 = some r) ∧ Aside0 (kq ≤ k) ∧ Aside0 (Below w.heap.size w wc))
  case first =>
   have H := HC6.out
   clear HC6
   by_cases c8 : (a0.size : Int) > 200
   ·rw [if_pos c8] at H
    have c8b0 : decide (200 < (a0.size : Int)) = true := decide_eq_true c8
    have c8b1 : decide (200 < a0.size) = true := decide_eq_true (by omega)
    clear c8
    (first | rw [c8b0] | (simp only [i64_w, i32_w]; rw [c8b0]) | skip)
    have H' := Aside0.mk H
    clear H
    go_wp2
    go_meet
    case rel => exact ⟨_, (true), (by first | rfl | (simp; done) | (simp [*]; done)), H', ⟨by first | omega | exact Nat.le_refl _⟩, ⟨by repeat (first | (with_reducible first | exact HB.out | apply below_alloc | apply pw_below_drewN | apply below_drew1) | exact HB.out)⟩⟩
   ·rw [if_neg c8] at H
    have c8b0 : decide (200 < (a0.size : Int)) = false := decide_eq_false c8
    have c8b1 : decide (200 < a0.size) = false := decide_eq_false (by omega)
    clear c8
    (first | rw [c8b0] | (simp only [i64_w, i32_w]; rw [c8b0]) | skip)
    by_cases c9 : (a1.size : Int) > 200
    ·rw [if_pos c9] at H
     have c9b0 : decide (200 < (a1.size : Int)) = true := decide_eq_true c9
     have c9b1 : decide (200 < a1.size) = true := decide_eq_true (by omega)
     clear c9
     have H' := Aside0.mk H
     clear H
     go_wp2
     go_meet
     case rel => exact ⟨_, (true), (by first | rfl | (simp; done) | (simp [*]; done)), H', ⟨by first | omega | exact Nat.le_refl _⟩, ⟨by repeat (first | (with_reducible first | exact HB.out | apply below_alloc | apply pw_below_drewN | apply below_drew1) | exact HB.out)⟩⟩
    ·rw [if_neg c9] at H
     have c9b0 : decide (200 < (a1.size : Int)) = false := decide_eq_false c9
     have c9b1 : decide (200 < a1.size) = false := decide_eq_false (by omega)
     clear c9
     have H' := Aside0.mk H
     clear H
     go_wp2
     go_meet
     case rel => exact ⟨_, (decide ((a2.size : Int) > 200)), (by first | rfl | (simp; done) | (simp [*]; done)), H', ⟨by first | omega | exact Nat.le_refl _⟩, ⟨by repeat (first | (with_reducible first | exact HB.out | apply below_alloc | apply pw_below_drewN | apply below_drew1) | exact HB.out)⟩⟩
  case rest =>
   clear HC6
   try clear p2
   try clear c4
   try clear c5
   try clear c6
   try clear c8
   try clear c8b0
   try clear c8b1
   try clear c9
   try clear c9b0
   try clear c9b1
   obtain ⟨kq, x31_5, rfl, HA, HJ5, HB⟩ := hcut
   cases kq with
   | zero => exact absurd HA.out (by simp [rubriclaw5_DecOrders.j0])
   | succ kj5 =>
    have H := HA.out
    clear HA
    simp only [rubriclaw5_DecOrders.j0] at H
    by_cases c10 : x31_5 = true
    ·subst c10
     have H1 : (some true) = some r := by rw [if_pos rfl] at H; exact H
     clear H
     have H := H1
     clear H1
     obtain rfl := Option.some.inj H
     go_wp2
     go_ret
     exact ⟨by first | rfl | (simp [errW_none, errW_some] <;> rfl) | (simp [*, errW_none, errW_some] <;> rfl), by repeat (first | (with_reducible first | exact HB.out | apply below_alloc | apply pw_below_drewN | apply below_drew1) | exact HB.out)⟩
    ·replace c10 := Bool.eq_false_iff.mpr c10
     subst c10
     have H1 : ((dec_Parse.f kj5 a0).bind fun bt237 => ((dec_Parse.f kj5 a1).bind fun bt244 => ((dec_Parse.f kj5 a2).bind fun bt251 => (if bt237.2.2.2 = 0 then (if bt244.2.2.2 = 0 then (rubriclaw5_DecOrders.j1 kj5 (bt251.2.2.2 != 0) bt237.1 bt237.2.1 bt237.2.2.1 bt244.1 bt244.2.1 bt244.2.2.1 bt251.1 bt251.2.1 bt251.2.2.1) else (rubriclaw5_DecOrders.j1 kj5 true bt237.1 bt237.2.1 bt237.2.2.1 bt244.1 bt244.2.1 bt244.2.2.1 bt251.1 bt251.2.1 bt251.2.2.1)) else (rubriclaw5_DecOrders.j1 kj5 true bt237.1 bt237.2.1 bt237.2.2.1 bt244.1 bt244.2.1 bt244.2.2.1 bt251.1 bt251.2.1 bt251.2.2.1))))) = some r := by rw [if_neg (show ¬ (false = true) by decide)] at H; exact H
     clear H
     have H := H1
     clear H1
     replace H := Option.bind_eq_some_iff.mp H
     obtain ⟨⟨t237, t238, t241, t242⟩, A110, H⟩ := H
     replace H : ((dec_Parse.f kj5 a1).bind fun bt244 => ((dec_Parse.f kj5 a2).bind fun bt251 => (if t242 = 0 then (if bt244.2.2.2 = 0 then (rubriclaw5_DecOrders.j1 kj5 (bt251.2.2.2 != 0) t237 t238 t241 bt244.1 bt244.2.1 bt244.2.2.1 bt251.1 bt251.2.1 bt251.2.2.1) else (rubriclaw5_DecOrders.j1 kj5 true t237 t238 t241 bt244.1 bt244.2.1 bt244.2.2.1 bt251.1 bt251.2.1 bt251.2.2.1)) else (rubriclaw5_DecOrders.j1 kj5 true t237 t238 t241 bt244.1 bt244.2.1 bt244.2.2.1 bt251.1 bt251.2.1 bt251.2.2.1)))) = some r := H
     have A11 := Aside0.mk A110
     clear A110
     replace H := Option.bind_eq_some_iff.mp H
     obtain ⟨⟨t244, t245, t248, t249⟩, A120, H⟩ := H
     replace H : ((dec_Parse.f kj5 a2).bind fun bt251 => (if t242 = 0 then (if t249 = 0 then (rubriclaw5_DecOrders.j1 kj5 (bt251.2.2.2 != 0) t237 t238 t241 t244 t245 t248 bt251.1 bt251.2.1 bt251.2.2.1) else (rubriclaw5_DecOrders.j1 kj5 true t237 t238 t241 t244 t245 t248 bt251.1 bt251.2.1 bt251.2.2.1)) else (rubriclaw5_DecOrders.j1 kj5 true t237 t238 t241 t244 t245 t248 bt251.1 bt251.2.1 bt251.2.2.1))) = some r := H
     have A12 := Aside0.mk A120
     clear A120
     replace H := Option.bind_eq_some_iff.mp H
     obtain ⟨⟨t251, t252, t255, t256⟩, A130, H⟩ := H
     replace H : (if t242 = 0 then (if t249 = 0 then (rubriclaw5_DecOrders.j1 kj5 (t256 != 0) t237 t238 t241 t244 t245 t248 t251 t252 t255) else (rubriclaw5_DecOrders.j1 kj5 true t237 t238 t241 t244 t245 t248 t251 t252 t255)) else (rubriclaw5_DecOrders.j1 kj5 true t237 t238 t241 t244 t245 t248 t251 t252 t255)) = some r := H
     have A13 := Aside0.mk A130
     clear A130
     have HC14 := Aside0.mk H
     clear H
     go_upto_region 8 with (first | ((with_reducible refine gate_callee (f := 7) rfl ?_); refine goesL_ (some 34) rfl rfl Try.func7 (by kernel_rfl) rfl #[.string a0] rfl (by (try simp only [List.map_toArray, List.map_cons, List.map_nil]); first | done | rfl | (simp only [List.length_drop, List.length_take]; rfl)) ?_; (with_reducible refine (dec_Parse.calls kj5 a0 t237 t238 t241 t242 _ A11.out).mono ?_); rintro e w15 ⟨v239, rfl, ho0, hb⟩; refine ⟨_, rfl, ?_⟩; have n0_ := Aside0.mk (Kd.V_lower (Kd.V_mono (ok' := fun k_ => True) ho0 (fun k_ hk_ => trivial)) (below_size (by repeat (first | (with_reducible first | exact HB.out | apply below_alloc | apply pw_below_drewN | apply below_drew1) | exact HB.out)))); have n1_ := Aside0.mk (below_step (by repeat (first | (with_reducible first | exact HB.out | apply below_alloc | apply pw_below_drewN | apply below_drew1) | exact HB.out)) hb); clear HB; have HO240 := n0_; have HB := n1_; clear n0_ n1_; (try clear hb); (try clear hb2); (try clear hk); (try clear hi); (try clear ho0)) | ((with_reducible refine gate_dst (N := 7) rfl ?_); (try (refine gate_guard (by rfl) ?_; dsimp only)); refine box_event ?hg (N := 7) ?hd (cs := #[.bool false, .slice none 0 0, .int .i64 0]) (t := 25) ?hr ?_; (case hd => rfl); (case hg => rfl); (case hr => first | (go_simp; done) | (go_simp; rfl)); intro gb243 hg w16 hbox hb; have n0_ := Aside0.mk (Kd.V_below (Kd.V_elderB (S.v HO240.out) gb243 (Nat.le_of_eq hg.symm)) hb); have n1_ := Aside0.mk (below_step (by repeat (first | (with_reducible first | exact HB.out | apply below_alloc | apply pw_below_drewN | apply below_drew1) | exact HB.out)) hb); have n2_ := Aside0.mk (hbox); have n3_ := Aside0.mk ((by rw [hg]; exact (below_size (by repeat (first | (with_reducible first | exact HB.out | apply below_alloc | apply pw_below_drewN | apply below_drew1) | exact HB.out))) : w.heap.size ≤ gb243)); have n4_ := Aside0.mk ((by rw [hg]; exact (below_size (by repeat (first | (with_reducible first | exact HB.out | apply below_alloc | apply pw_below_drewN | apply below_drew1) | exact HB.out))) : w.heap.size ≤ gb243)); clear HO240; clear HB; have HO240 := n0_; have HB := n1_; have BK243 := n2_; have GW243 := n3_; have GE243 := n4_; clear n0_ n1_ n2_ n3_ n4_; clear hb hbox hg; have hcz17_0 : w16.cell? ⟨gb243, 0, none⟩ = some (.bool false) := (blk_cell BK243.out 0).trans rfl; have hcz17_1 : w16.cell? ⟨gb243, 1, none⟩ = some (.slice none 0 0) := (blk_cell BK243.out 1).trans rfl; have hcz17_2 : w16.cell? ⟨gb243, 2, none⟩ = some (.int .i64 0) := (blk_cell BK243.out 2).trans rfl; have hfz17_0 := blk_frozen BK243.out 0; have hfz17_1 := blk_frozen BK243.out 1; have hfz17_2 := blk_frozen BK243.out 2; obtain ⟨Ao18, co18, eo18⟩ := Kd.V_slice HO240.out; subst eo18) | ((with_reducible refine gate_callee (f := 7) rfl ?_); refine goesL_ (some 39) rfl rfl Try.func7 (by kernel_rfl) rfl #[.string a1] rfl (by (try simp only [List.map_toArray, List.map_cons, List.map_nil]); first | done | rfl | (simp only [List.length_drop, List.length_take]; rfl)) ?_; (with_reducible refine (dec_Parse.calls kj5 a1 t244 t245 t248 t249 _ A12.out).mono ?_); rintro e w19 ⟨v246, rfl, ho0, hb⟩; refine ⟨_, rfl, ?_⟩; have n0_ := Aside0.mk (Kd.V_below (by (with_reducible repeat (first | apply Kd.V_alloc | apply Kd.V_drewN | apply Kd.V_drew)); exact (Kd.V_mono (Kd.V_far (p := ⟨gb243, 2, none⟩) (Kd.V_far (p := ⟨gb243, 1, none⟩) (Kd.V_far (p := ⟨gb243, 0, none⟩) (Kd.V_mono HO240.out (fun k_ hk => (⟨hk, hk.2⟩ : _ ∧ k_ ≠ gb243))) (fun _ hk => hk.2) (.bool t237)) (fun _ hk => hk.2) (.slice Ao18 t238.length co18)) (fun _ hk => hk.2) (.int .i64 t241)) (fun _ h_ => h_.1))) hb); have n1_ := Aside0.mk (Kd.V_lower (Kd.V_mono (ok' := fun k_ => k_ ≠ gb243) ho0 (fun k_ hk_ => (Kd.freshB (g := gb243) (o := .cells #[.bool t237, .slice Ao18 t238.length co18, .int .i64 t241] 25 (0, 0)) (by (with_reducible repeat (first | refine blk_drewN ?_ _ | refine blk_drew ?_ | refine blk_alloc ?_ _)); refine blk_put (cs := #[.bool t237, .slice Ao18 t238.length co18, .int .i64 0]) ?_ 2 _ rfl; (with_reducible repeat (first | refine blk_drewN ?_ _ | refine blk_drew ?_ | refine blk_alloc ?_ _)); refine blk_put (cs := #[.bool t237, .slice none 0 0, .int .i64 0]) ?_ 1 _ rfl; (with_reducible repeat (first | refine blk_drewN ?_ _ | refine blk_drew ?_ | refine blk_alloc ?_ _)); refine blk_put (cs := #[.bool false, .slice none 0 0, .int .i64 0]) ?_ 0 _ rfl; (with_reducible repeat (first | refine blk_drewN ?_ _ | refine blk_drew ?_ | refine blk_alloc ?_ _)); exact BK243.out) k_ hk_))) (below_size (by repeat (first | (with_reducible first | exact HB.out | apply below_alloc | apply pw_below_drewN | apply below_drew1 | refine below_set ?_ GE243.out) | exact HB.out)))); have n2_ := Aside0.mk (blk_below (g := gb243) (o := .cells #[.bool t237, .slice Ao18 t238.length co18, .int .i64 t241] 25 (0, 0)) (by (with_reducible repeat (first | refine blk_drewN ?_ _ | refine blk_drew ?_ | refine blk_alloc ?_ _)); refine blk_put (cs := #[.bool t237, .slice Ao18 t238.length co18, .int .i64 0]) ?_ 2 _ rfl; (with_reducible repeat (first | refine blk_drewN ?_ _ | refine blk_drew ?_ | refine blk_alloc ?_ _)); refine blk_put (cs := #[.bool t237, .slice none 0 0, .int .i64 0]) ?_ 1 _ rfl; (with_reducible repeat (first | refine blk_drewN ?_ _ | refine blk_drew ?_ | refine blk_alloc ?_ _)); refine blk_put (cs := #[.bool false, .slice none 0 0, .int .i64 0]) ?_ 0 _ rfl; (with_reducible repeat (first | refine blk_drewN ?_ _ | refine blk_drew ?_ | refine blk_alloc ?_ _)); exact BK243.out) hb); have n3_ := Aside0.mk (below_step (by repeat (first | (with_reducible first | exact HB.out | apply below_alloc | apply pw_below_drewN | apply below_drew1 | refine below_set ?_ GE243.out) | exact HB.out)) hb); clear HO240; clear BK243; clear HB; have HO240 := n0_; have HO247 := n1_; have BK243 := n2_; have HB := n3_; clear n0_ n1_ n2_ n3_; (try clear hb); (try clear hb2); (try clear hk); (try clear hi); (try clear ho0)) | ((with_reducible refine gate_dst (N := 9) rfl ?_); (try (refine gate_guard (by rfl) ?_; dsimp only)); refine box_event ?hg (N := 9) ?hd (cs := #[.bool false, .slice none 0 0, .int .i64 0]) (t := 25) ?hr ?_; (case hd => rfl); (case hg => rfl); (case hr => first | (go_simp; done) | (go_simp; rfl)); intro gb250 hg w20 hbox hb; have n0_ := Aside0.mk (Kd.V_below (Kd.V_elderB (S.v HO240.out) gb250 (Nat.le_of_eq hg.symm)) hb); have n1_ := Aside0.mk (Kd.V_below (Kd.V_elderB (S.v HO247.out) gb250 (Nat.le_of_eq hg.symm)) hb); have n2_ := Aside0.mk (blk_below (g := gb243) (o := .cells #[.bool t237, .slice Ao18 t238.length co18, .int .i64 t241] 25 (0, 0)) (S.b BK243.out) hb); have n3_ := Aside0.mk (below_step (by repeat (first | (with_reducible first | exact HB.out | apply below_alloc | apply pw_below_drewN | apply below_drew1 | refine below_set ?_ GE243.out) | exact HB.out)) hb); have n4_ := Aside0.mk (hbox); have n5_ := Aside0.mk ((by rw [hg]; exact (below_size (by repeat (first | (with_reducible first | exact HB.out | apply below_alloc | apply pw_below_drewN | apply below_drew1 | refine below_set ?_ GE243.out) | exact HB.out))) : w.heap.size ≤ gb250)); have n6_ := Aside0.mk ((by rw [hg]; exact (below_size (by repeat (first | (with_reducible first | exact HB.out | apply below_alloc | apply pw_below_drewN | apply below_drew1 | refine below_set ?_ GE243.out) | exact HB.out))) : w.heap.size ≤ gb250)); have n7_ := Aside0.mk ((by rw [hg]; exact Nat.ne_of_lt (blk_lt (g := gb243) (o := .cells #[.bool t237, .slice Ao18 t238.length co18, .int .i64 t241] 25 (0, 0)) (S.b BK243.out)) : gb243 ≠ gb250)); have n8_ := Aside0.mk ((by rw [hg]; exact Nat.ne_of_gt (blk_lt (g := gb243) (o := .cells #[.bool t237, .slice Ao18 t238.length co18, .int .i64 t241] 25 (0, 0)) (S.b BK243.out)) : gb250 ≠ gb243)); clear HO240; clear HO247; clear BK243; clear HB; have HO240 := n0_; have HO247 := n1_; have BK243 := n2_; have HB := n3_; have BK250 := n4_; have GW250 := n5_; have GE250 := n6_; have NB243_250 := n7_; have NB250_243 := n8_; clear n0_ n1_ n2_ n3_ n4_ n5_ n6_ n7_ n8_; clear hb hbox hg; have hnb21 := NB250_243.out; have hnc21 := NB243_250.out; have hcz22_0 : w20.cell? ⟨gb250, 0, none⟩ = some (.bool false) := (blk_cell BK250.out 0).trans rfl; have hcz22_1 : w20.cell? ⟨gb250, 1, none⟩ = some (.slice none 0 0) := (blk_cell BK250.out 1).trans rfl; have hcz22_2 : w20.cell? ⟨gb250, 2, none⟩ = some (.int .i64 0) := (blk_cell BK250.out 2).trans rfl; have hfz22_0 := blk_frozen BK250.out 0; have hfz22_1 := blk_frozen BK250.out 1; have hfz22_2 := blk_frozen BK250.out 2; obtain ⟨Ao23, co23, eo23⟩ := Kd.V_slice HO247.out; subst eo23) | ((with_reducible refine gate_callee (f := 7) rfl ?_); refine goesL_ (some 44) rfl rfl Try.func7 (by kernel_rfl) rfl #[.string a2] rfl (by (try simp only [List.map_toArray, List.map_cons, List.map_nil]); first | done | rfl | (simp only [List.length_drop, List.length_take]; rfl)) ?_; (with_reducible refine (dec_Parse.calls kj5 a2 t251 t252 t255 t256 _ A13.out).mono ?_); rintro e w24 ⟨v253, rfl, ho0, hb⟩; refine ⟨_, rfl, ?_⟩; have n0_ := Aside0.mk (Kd.V_below (by (with_reducible repeat (first | apply Kd.V_alloc | apply Kd.V_drewN | apply Kd.V_drew)); exact (Kd.V_mono (Kd.V_far (p := ⟨gb250, 2, none⟩) (Kd.V_far (p := ⟨gb250, 1, none⟩) (Kd.V_far (p := ⟨gb250, 0, none⟩) (Kd.V_mono HO240.out (fun k_ hk => (⟨hk, hk.2⟩ : _ ∧ k_ ≠ gb250))) (fun _ hk => hk.2) (.bool t244)) (fun _ hk => hk.2) (.slice Ao23 t245.length co23)) (fun _ hk => hk.2) (.int .i64 t248)) (fun _ h_ => h_.1))) hb); have n1_ := Aside0.mk (Kd.V_below (by (with_reducible repeat (first | apply Kd.V_alloc | apply Kd.V_drewN | apply Kd.V_drew)); exact (Kd.V_mono (Kd.V_far (p := ⟨gb250, 2, none⟩) (Kd.V_far (p := ⟨gb250, 1, none⟩) (Kd.V_far (p := ⟨gb250, 0, none⟩) (Kd.V_mono HO247.out (fun k_ hk => (⟨hk, hk.2⟩ : _ ∧ k_ ≠ gb250))) (fun _ hk => hk.2) (.bool t244)) (fun _ hk => hk.2) (.slice Ao23 t245.length co23)) (fun _ hk => hk.2) (.int .i64 t248)) (fun _ h_ => h_.1))) hb); have n2_ := Aside0.mk (Kd.V_lower (Kd.V_mono (ok' := fun k_ => k_ ≠ gb243 ∧ k_ ≠ gb250) ho0 (fun k_ hk_ => ⟨(Kd.freshB (g := gb243) (o := .cells #[.bool t237, .slice Ao18 t238.length co18, .int .i64 t241] 25 (0, 0)) (by (with_reducible repeat (first | refine blk_drewN ?_ _ | refine blk_drew ?_ | refine blk_alloc ?_ _)); refine blk_far ?_ NB243_250.out _; (with_reducible repeat (first | refine blk_drewN ?_ _ | refine blk_drew ?_ | refine blk_alloc ?_ _)); refine blk_far ?_ NB243_250.out _; (with_reducible repeat (first | refine blk_drewN ?_ _ | refine blk_drew ?_ | refine blk_alloc ?_ _)); refine blk_far ?_ NB243_250.out _; (with_reducible repeat (first | refine blk_drewN ?_ _ | refine blk_drew ?_ | refine blk_alloc ?_ _)); exact BK243.out) k_ hk_), (Kd.freshB (g := gb250) (o := .cells #[.bool t244, .slice Ao23 t245.length co23, .int .i64 t248] 25 (0, 0)) (by (with_reducible repeat (first | refine blk_drewN ?_ _ | refine blk_drew ?_ | refine blk_alloc ?_ _)); refine blk_put (cs := #[.bool t244, .slice Ao23 t245.length co23, .int .i64 0]) ?_ 2 _ rfl; (with_reducible repeat (first | refine blk_drewN ?_ _ | refine blk_drew ?_ | refine blk_alloc ?_ _)); refine blk_put (cs := #[.bool t244, .slice none 0 0, .int .i64 0]) ?_ 1 _ rfl; (with_reducible repeat (first | refine blk_drewN ?_ _ | refine blk_drew ?_ | refine blk_alloc ?_ _)); refine blk_put (cs := #[.bool false, .slice none 0 0, .int .i64 0]) ?_ 0 _ rfl; (with_reducible repeat (first | refine blk_drewN ?_ _ | refine blk_drew ?_ | refine blk_alloc ?_ _)); exact BK250.out) k_ hk_)⟩)) (below_size (by repeat (first | (with_reducible first | exact HB.out | apply below_alloc | apply pw_below_drewN | apply below_drew1 | refine below_set ?_ GE243.out | refine below_set ?_ GE250.out) | exact HB.out)))); have n3_ := Aside0.mk (blk_below (g := gb243) (o := .cells #[.bool t237, .slice Ao18 t238.length co18, .int .i64 t241] 25 (0, 0)) (by (with_reducible repeat (first | refine blk_drewN ?_ _ | refine blk_drew ?_ | refine blk_alloc ?_ _)); refine blk_far ?_ NB243_250.out _; (with_reducible repeat (first | refine blk_drewN ?_ _ | refine blk_drew ?_ | refine blk_alloc ?_ _)); refine blk_far ?_ NB243_250.out _; (with_reducible repeat (first | refine blk_drewN ?_ _ | refine blk_drew ?_ | refine blk_alloc ?_ _)); refine blk_far ?_ NB243_250.out _; (with_reducible repeat (first | refine blk_drewN ?_ _ | refine blk_drew ?_ | refine blk_alloc ?_ _)); exact BK243.out) hb); have n4_ := Aside0.mk (blk_below (g := gb250) (o := .cells #[.bool t244, .slice Ao23 t245.length co23, .int .i64 t248] 25 (0, 0)) (by (with_reducible repeat (first | refine blk_drewN ?_ _ | refine blk_drew ?_ | refine blk_alloc ?_ _)); refine blk_put (cs := #[.bool t244, .slice Ao23 t245.length co23, .int .i64 0]) ?_ 2 _ rfl; (with_reducible repeat (first | refine blk_drewN ?_ _ | refine blk_drew ?_ | refine blk_alloc ?_ _)); refine blk_put (cs := #[.bool t244, .slice none 0 0, .int .i64 0]) ?_ 1 _ rfl; (with_reducible repeat (first | refine blk_drewN ?_ _ | refine blk_drew ?_ | refine blk_alloc ?_ _)); refine blk_put (cs := #[.bool false, .slice none 0 0, .int .i64 0]) ?_ 0 _ rfl; (with_reducible repeat (first | refine blk_drewN ?_ _ | refine blk_drew ?_ | refine blk_alloc ?_ _)); exact BK250.out) hb); have n5_ := Aside0.mk (below_step (by repeat (first | (with_reducible first | exact HB.out | apply below_alloc | apply pw_below_drewN | apply below_drew1 | refine below_set ?_ GE243.out | refine below_set ?_ GE250.out) | exact HB.out)) hb); clear HO240; clear HO247; clear BK243; clear BK250; clear HB; have HO240 := n0_; have HO247 := n1_; have HO254 := n2_; have BK243 := n3_; have BK250 := n4_; have HB := n5_; clear n0_ n1_ n2_ n3_ n4_ n5_; (try clear hb); (try clear hb2); (try clear hk); (try clear hi); (try clear ho0)) | ((with_reducible refine gate_dst (N := 11) rfl ?_); (try (refine gate_guard (by rfl) ?_; dsimp only)); refine box_event ?hg (N := 11) ?hd (cs := #[.bool false, .slice none 0 0, .int .i64 0]) (t := 25) ?hr ?_; (case hd => rfl); (case hg => rfl); (case hr => first | (go_simp; done) | (go_simp; rfl)); intro gb257 hg w25 hbox hb; have n0_ := Aside0.mk (Kd.V_below (Kd.V_elderB (S.v HO240.out) gb257 (Nat.le_of_eq hg.symm)) hb); have n1_ := Aside0.mk (Kd.V_below (Kd.V_elderB (S.v HO247.out) gb257 (Nat.le_of_eq hg.symm)) hb); have n2_ := Aside0.mk (Kd.V_below (Kd.V_elderB (S.v HO254.out) gb257 (Nat.le_of_eq hg.symm)) hb); have n3_ := Aside0.mk (blk_below (g := gb243) (o := .cells #[.bool t237, .slice Ao18 t238.length co18, .int .i64 t241] 25 (0, 0)) (S.b BK243.out) hb); have n4_ := Aside0.mk (blk_below (g := gb250) (o := .cells #[.bool t244, .slice Ao23 t245.length co23, .int .i64 t248] 25 (0, 0)) (S.b BK250.out) hb); have n5_ := Aside0.mk (below_step (by repeat (first | (with_reducible first | exact HB.out | apply below_alloc | apply pw_below_drewN | apply below_drew1 | refine below_set ?_ GE243.out | refine below_set ?_ GE250.out) | exact HB.out)) hb); have n6_ := Aside0.mk (hbox); have n7_ := Aside0.mk ((by rw [hg]; exact (below_size (by repeat (first | (with_reducible first | exact HB.out | apply below_alloc | apply pw_below_drewN | apply below_drew1 | refine below_set ?_ GE243.out | refine below_set ?_ GE250.out) | exact HB.out))) : w.heap.size ≤ gb257)); have n8_ := Aside0.mk ((by rw [hg]; exact (below_size (by repeat (first | (with_reducible first | exact HB.out | apply below_alloc | apply pw_below_drewN | apply below_drew1 | refine below_set ?_ GE243.out | refine below_set ?_ GE250.out) | exact HB.out))) : w.heap.size ≤ gb257)); have n9_ := Aside0.mk ((by rw [hg]; exact Nat.ne_of_lt (blk_lt (g := gb243) (o := .cells #[.bool t237, .slice Ao18 t238.length co18, .int .i64 t241] 25 (0, 0)) (S.b BK243.out)) : gb243 ≠ gb257)); have n10_ := Aside0.mk ((by rw [hg]; exact Nat.ne_of_gt (blk_lt (g := gb243) (o := .cells #[.bool t237, .slice Ao18 t238.length co18, .int .i64 t241] 25 (0, 0)) (S.b BK243.out)) : gb257 ≠ gb243)); have n11_ := Aside0.mk ((by rw [hg]; exact Nat.ne_of_lt (blk_lt (g := gb250) (o := .cells #[.bool t244, .slice Ao23 t245.length co23, .int .i64 t248] 25 (0, 0)) (S.b BK250.out)) : gb250 ≠ gb257)); have n12_ := Aside0.mk ((by rw [hg]; exact Nat.ne_of_gt (blk_lt (g := gb250) (o := .cells #[.bool t244, .slice Ao23 t245.length co23, .int .i64 t248] 25 (0, 0)) (S.b BK250.out)) : gb257 ≠ gb250)); clear HO240; clear HO247; clear HO254; clear BK243; clear BK250; clear HB; have HO240 := n0_; have HO247 := n1_; have HO254 := n2_; have BK243 := n3_; have BK250 := n4_; have HB := n5_; have BK257 := n6_; have GW257 := n7_; have GE257 := n8_; have NB243_257 := n9_; have NB257_243 := n10_; have NB250_257 := n11_; have NB257_250 := n12_; clear n0_ n1_ n2_ n3_ n4_ n5_ n6_ n7_ n8_ n9_ n10_ n11_ n12_; clear hb hbox hg; have hnb26 := NB257_243.out; have hnc26 := NB243_257.out; have hnb27 := NB257_250.out; have hnc27 := NB250_257.out; have hcz28_0 : w25.cell? ⟨gb257, 0, none⟩ = some (.bool false) := (blk_cell BK257.out 0).trans rfl; have hcz28_1 : w25.cell? ⟨gb257, 1, none⟩ = some (.slice none 0 0) := (blk_cell BK257.out 1).trans rfl; have hcz28_2 : w25.cell? ⟨gb257, 2, none⟩ = some (.int .i64 0) := (blk_cell BK257.out 2).trans rfl; have hfz28_0 := blk_frozen BK257.out 0; have hfz28_1 := blk_frozen BK257.out 1; have hfz28_2 := blk_frozen BK257.out 2; obtain ⟨Ao29, co29, eo29⟩ := Kd.V_slice HO254.out; subst eo29))
     (try simp only [Act.put, List.setIfInBounds_toArray, List.set_cons_zero, List.set_cons_succ])
     go_cut [56] (fun v56 wc => ∃ (kq : Nat) (x56_13 : Bool), v56 = .bool x56_13 ∧ Aside0 (rubriclaw5_DecOrders.j1 kq x56_13 t237 t238 t241 t244 t245 t248 t251 t252 t255 = some r) ∧ Aside0 (kq ≤ kj5) ∧ Aside0 (Kd.V (Kd.int .u8) 5 wc w.heap.size (fun k_ => k_ ≠ gb243 ∧ k_ ≠ gb250 ∧ k_ ≠ gb257) (.slice Ao18 t238.length co18) t238) ∧ Aside0 (Kd.V (Kd.int .u8) 5 wc w.heap.size (fun k_ => k_ ≠ gb243 ∧ k_ ≠ gb250 ∧ k_ ≠ gb257) (.slice Ao23 t245.length co23) t245) ∧ Aside0 (Kd.V (Kd.int .u8) 5 wc w.heap.size (fun k_ => k_ ≠ gb243 ∧ k_ ≠ gb250 ∧ k_ ≠ gb257) (.slice Ao29 t252.length co29) t252) ∧ Aside0 (wc.heap[gb243]? = some (.cells #[.bool t237, (.slice Ao18 t238.length co18), .int .i64 t241] 25 (0, 0))) ∧ Aside0 (wc.heap[gb250]? = some (.cells #[.bool t244, (.slice Ao23 t245.length co23), .int .i64 t248] 25 (0, 0))) ∧ Aside0 (wc.heap[gb257]? = some (.cells #[.bool t251, (.slice Ao29 t252.length co29), .int .i64 t255] 25 (0, 0))) ∧ Aside0 (Below w.heap.size w wc))
     case first =>
      have H := HC14.out
      clear HC14
      by_cases c30 : t242 = 0
      ·rw [if_pos c30] at H
       have c30b0 : (t242 == 0) = true := beq_iff_eq.mpr c30
       have c30b1 : (t242 != 0) = false := bne_eq_false_iff_eq.mpr c30
       clear c30
       (first | rw [c30b0] | (simp only [i64_w, i32_w]; rw [c30b0]) | skip)
       by_cases c31 : t249 = 0
       ·rw [if_pos c31] at H
        have c31b0 : (t249 == 0) = true := beq_iff_eq.mpr c31
        have c31b1 : (t249 != 0) = false := bne_eq_false_iff_eq.mpr c31
        clear c31
        have H' := Aside0.mk H
        clear H
        go_wp2
        go_meet
        case rel => exact ⟨_, ((t256 != 0)), (by first | rfl | (simp; done) | (simp [*]; done)), H', ⟨by have := HJ5.out; first | omega | exact Nat.le_refl _⟩, ⟨by (with_reducible repeat (first | apply Kd.V_alloc | apply Kd.V_drewN | apply Kd.V_drew)); exact Kd.V_mono (Kd.V_far (p := ⟨gb257, 2, none⟩) (Kd.V_far (p := ⟨gb257, 1, none⟩) (Kd.V_far (p := ⟨gb257, 0, none⟩) (Kd.V_mono HO240.out (fun k_ hk => (⟨hk, hk.2⟩ : _ ∧ k_ ≠ gb257))) (fun _ hk => hk.2) (.bool t251)) (fun _ hk => hk.2) (.slice Ao29 t252.length co29)) (fun _ hk => hk.2) (.int .i64 t255)) (fun _ hk => ⟨hk.1.1.1.2, ⟨hk.1.1.2, hk.1.2⟩⟩)⟩, ⟨by (with_reducible repeat (first | apply Kd.V_alloc | apply Kd.V_drewN | apply Kd.V_drew)); exact Kd.V_mono (Kd.V_far (p := ⟨gb257, 2, none⟩) (Kd.V_far (p := ⟨gb257, 1, none⟩) (Kd.V_far (p := ⟨gb257, 0, none⟩) (Kd.V_mono HO247.out (fun k_ hk => (⟨hk, hk.2⟩ : _ ∧ k_ ≠ gb257))) (fun _ hk => hk.2) (.bool t251)) (fun _ hk => hk.2) (.slice Ao29 t252.length co29)) (fun _ hk => hk.2) (.int .i64 t255)) (fun _ hk => ⟨hk.1.1.1, ⟨hk.1.1.2, hk.1.2⟩⟩)⟩, ⟨by (with_reducible repeat (first | apply Kd.V_alloc | apply Kd.V_drewN | apply Kd.V_drew)); exact Kd.V_mono (Kd.V_far (p := ⟨gb257, 2, none⟩) (Kd.V_far (p := ⟨gb257, 1, none⟩) (Kd.V_far (p := ⟨gb257, 0, none⟩) (Kd.V_mono HO254.out (fun k_ hk => (⟨hk, hk.2⟩ : _ ∧ k_ ≠ gb257))) (fun _ hk => hk.2) (.bool t251)) (fun _ hk => hk.2) (.slice Ao29 t252.length co29)) (fun _ hk => hk.2) (.int .i64 t255)) (fun _ hk => ⟨hk.1.1.1, ⟨hk.1.1.2, hk.1.2⟩⟩)⟩, ⟨by (with_reducible repeat (first | refine blk_drewN ?_ _ | refine blk_drew ?_ | refine blk_alloc ?_ _)); refine blk_far ?_ NB243_257.out _; (with_reducible repeat (first | refine blk_drewN ?_ _ | refine blk_drew ?_ | refine blk_alloc ?_ _)); refine blk_far ?_ NB243_257.out _; (with_reducible repeat (first | refine blk_drewN ?_ _ | refine blk_drew ?_ | refine blk_alloc ?_ _)); refine blk_far ?_ NB243_257.out _; (with_reducible repeat (first | refine blk_drewN ?_ _ | refine blk_drew ?_ | refine blk_alloc ?_ _)); exact BK243.out⟩, ⟨by (with_reducible repeat (first | refine blk_drewN ?_ _ | refine blk_drew ?_ | refine blk_alloc ?_ _)); refine blk_far ?_ NB250_257.out _; (with_reducible repeat (first | refine blk_drewN ?_ _ | refine blk_drew ?_ | refine blk_alloc ?_ _)); refine blk_far ?_ NB250_257.out _; (with_reducible repeat (first | refine blk_drewN ?_ _ | refine blk_drew ?_ | refine blk_alloc ?_ _)); refine blk_far ?_ NB250_257.out _; (with_reducible repeat (first | refine blk_drewN ?_ _ | refine blk_drew ?_ | refine blk_alloc ?_ _)); exact BK250.out⟩, ⟨by (with_reducible repeat (first | refine blk_drewN ?_ _ | refine blk_drew ?_ | refine blk_alloc ?_ _)); refine blk_put (cs := #[.bool t251, .slice Ao29 t252.length co29, .int .i64 0]) ?_ 2 _ rfl; (with_reducible repeat (first | refine blk_drewN ?_ _ | refine blk_drew ?_ | refine blk_alloc ?_ _)); refine blk_put (cs := #[.bool t251, .slice none 0 0, .int .i64 0]) ?_ 1 _ rfl; (with_reducible repeat (first | refine blk_drewN ?_ _ | refine blk_drew ?_ | refine blk_alloc ?_ _)); refine blk_put (cs := #[.bool false, .slice none 0 0, .int .i64 0]) ?_ 0 _ rfl; (with_reducible repeat (first | refine blk_drewN ?_ _ | refine blk_drew ?_ | refine blk_alloc ?_ _)); exact BK257.out⟩, ⟨by repeat (first | (with_reducible first | exact HB.out | apply below_alloc | apply pw_below_drewN | apply below_drew1 | refine below_set ?_ GE243.out | refine below_set ?_ GE250.out | refine below_set ?_ GE257.out) | exact HB.out)⟩⟩
       ·rw [if_neg c31] at H
        have c31b0 : (t249 == 0) = false := beq_eq_false_iff_ne.mpr c31
        have c31b1 : (t249 != 0) = true := bne_iff_ne.mpr c31
        have H' := Aside0.mk H
        clear H
        go_wp2
        go_meet
        case rel => exact ⟨_, (true), (by first | rfl | (simp; done) | (simp [*]; done)), H', ⟨by have := HJ5.out; first | omega | exact Nat.le_refl _⟩, ⟨by (with_reducible repeat (first | apply Kd.V_alloc | apply Kd.V_drewN | apply Kd.V_drew)); exact Kd.V_mono (Kd.V_far (p := ⟨gb257, 2, none⟩) (Kd.V_far (p := ⟨gb257, 1, none⟩) (Kd.V_far (p := ⟨gb257, 0, none⟩) (Kd.V_mono HO240.out (fun k_ hk => (⟨hk, hk.2⟩ : _ ∧ k_ ≠ gb257))) (fun _ hk => hk.2) (.bool t251)) (fun _ hk => hk.2) (.slice Ao29 t252.length co29)) (fun _ hk => hk.2) (.int .i64 t255)) (fun _ hk => ⟨hk.1.1.1.2, ⟨hk.1.1.2, hk.1.2⟩⟩)⟩, ⟨by (with_reducible repeat (first | apply Kd.V_alloc | apply Kd.V_drewN | apply Kd.V_drew)); exact Kd.V_mono (Kd.V_far (p := ⟨gb257, 2, none⟩) (Kd.V_far (p := ⟨gb257, 1, none⟩) (Kd.V_far (p := ⟨gb257, 0, none⟩) (Kd.V_mono HO247.out (fun k_ hk => (⟨hk, hk.2⟩ : _ ∧ k_ ≠ gb257))) (fun _ hk => hk.2) (.bool t251)) (fun _ hk => hk.2) (.slice Ao29 t252.length co29)) (fun _ hk => hk.2) (.int .i64 t255)) (fun _ hk => ⟨hk.1.1.1, ⟨hk.1.1.2, hk.1.2⟩⟩)⟩, ⟨by (with_reducible repeat (first | apply Kd.V_alloc | apply Kd.V_drewN | apply Kd.V_drew)); exact Kd.V_mono (Kd.V_far (p := ⟨gb257, 2, none⟩) (Kd.V_far (p := ⟨gb257, 1, none⟩) (Kd.V_far (p := ⟨gb257, 0, none⟩) (Kd.V_mono HO254.out (fun k_ hk => (⟨hk, hk.2⟩ : _ ∧ k_ ≠ gb257))) (fun _ hk => hk.2) (.bool t251)) (fun _ hk => hk.2) (.slice Ao29 t252.length co29)) (fun _ hk => hk.2) (.int .i64 t255)) (fun _ hk => ⟨hk.1.1.1, ⟨hk.1.1.2, hk.1.2⟩⟩)⟩, ⟨by (with_reducible repeat (first | refine blk_drewN ?_ _ | refine blk_drew ?_ | refine blk_alloc ?_ _)); refine blk_far ?_ NB243_257.out _; (with_reducible repeat (first | refine blk_drewN ?_ _ | refine blk_drew ?_ | refine blk_alloc ?_ _)); refine blk_far ?_ NB243_257.out _; (with_reducible repeat (first | refine blk_drewN ?_ _ | refine blk_drew ?_ | refine blk_alloc ?_ _)); refine blk_far ?_ NB243_257.out _; (with_reducible repeat (first | refine blk_drewN ?_ _ | refine blk_drew ?_ | refine blk_alloc ?_ _)); exact BK243.out⟩, ⟨by (with_reducible repeat (first | refine blk_drewN ?_ _ | refine blk_drew ?_ | refine blk_alloc ?_ _)); refine blk_far ?_ NB250_257.out _; (with_reducible repeat (first | refine blk_drewN ?_ _ | refine blk_drew ?_ | refine blk_alloc ?_ _)); refine blk_far ?_ NB250_257.out _; (with_reducible repeat (first | refine blk_drewN ?_ _ | refine blk_drew ?_ | refine blk_alloc ?_ _)); refine blk_far ?_ NB250_257.out _; (with_reducible repeat (first | refine blk_drewN ?_ _ | refine blk_drew ?_ | refine blk_alloc ?_ _)); exact BK250.out⟩, ⟨by (with_reducible repeat (first | refine blk_drewN ?_ _ | refine blk_drew ?_ | refine blk_alloc ?_ _)); refine blk_put (cs := #[.bool t251, .slice Ao29 t252.length co29, .int .i64 0]) ?_ 2 _ rfl; (with_reducible repeat (first | refine blk_drewN ?_ _ | refine blk_drew ?_ | refine blk_alloc ?_ _)); refine blk_put (cs := #[.bool t251, .slice none 0 0, .int .i64 0]) ?_ 1 _ rfl; (with_reducible repeat (first | refine blk_drewN ?_ _ | refine blk_drew ?_ | refine blk_alloc ?_ _)); refine blk_put (cs := #[.bool false, .slice none 0 0, .int .i64 0]) ?_ 0 _ rfl; (with_reducible repeat (first | refine blk_drewN ?_ _ | refine blk_drew ?_ | refine blk_alloc ?_ _)); exact BK257.out⟩, ⟨by repeat (first | (with_reducible first | exact HB.out | apply below_alloc | apply pw_below_drewN | apply below_drew1 | refine below_set ?_ GE243.out | refine below_set ?_ GE250.out | refine below_set ?_ GE257.out) | exact HB.out)⟩⟩
      ·rw [if_neg c30] at H
       have c30b0 : (t242 == 0) = false := beq_eq_false_iff_ne.mpr c30
       have c30b1 : (t242 != 0) = true := bne_iff_ne.mpr c30
       (first | rw [c30b0] | (simp only [i64_w, i32_w]; rw [c30b0]) | skip)
       have H' := Aside0.mk H
       clear H
       go_wp2
       go_meet
       case rel => exact ⟨_, (true), (by first | rfl | (simp; done) | (simp [*]; done)), H', ⟨by have := HJ5.out; first | omega | exact Nat.le_refl _⟩, ⟨by (with_reducible repeat (first | apply Kd.V_alloc | apply Kd.V_drewN | apply Kd.V_drew)); exact Kd.V_mono (Kd.V_far (p := ⟨gb257, 2, none⟩) (Kd.V_far (p := ⟨gb257, 1, none⟩) (Kd.V_far (p := ⟨gb257, 0, none⟩) (Kd.V_mono HO240.out (fun k_ hk => (⟨hk, hk.2⟩ : _ ∧ k_ ≠ gb257))) (fun _ hk => hk.2) (.bool t251)) (fun _ hk => hk.2) (.slice Ao29 t252.length co29)) (fun _ hk => hk.2) (.int .i64 t255)) (fun _ hk => ⟨hk.1.1.1.2, ⟨hk.1.1.2, hk.1.2⟩⟩)⟩, ⟨by (with_reducible repeat (first | apply Kd.V_alloc | apply Kd.V_drewN | apply Kd.V_drew)); exact Kd.V_mono (Kd.V_far (p := ⟨gb257, 2, none⟩) (Kd.V_far (p := ⟨gb257, 1, none⟩) (Kd.V_far (p := ⟨gb257, 0, none⟩) (Kd.V_mono HO247.out (fun k_ hk => (⟨hk, hk.2⟩ : _ ∧ k_ ≠ gb257))) (fun _ hk => hk.2) (.bool t251)) (fun _ hk => hk.2) (.slice Ao29 t252.length co29)) (fun _ hk => hk.2) (.int .i64 t255)) (fun _ hk => ⟨hk.1.1.1, ⟨hk.1.1.2, hk.1.2⟩⟩)⟩, ⟨by (with_reducible repeat (first | apply Kd.V_alloc | apply Kd.V_drewN | apply Kd.V_drew)); exact Kd.V_mono (Kd.V_far (p := ⟨gb257, 2, none⟩) (Kd.V_far (p := ⟨gb257, 1, none⟩) (Kd.V_far (p := ⟨gb257, 0, none⟩) (Kd.V_mono HO254.out (fun k_ hk => (⟨hk, hk.2⟩ : _ ∧ k_ ≠ gb257))) (fun _ hk => hk.2) (.bool t251)) (fun _ hk => hk.2) (.slice Ao29 t252.length co29)) (fun _ hk => hk.2) (.int .i64 t255)) (fun _ hk => ⟨hk.1.1.1, ⟨hk.1.1.2, hk.1.2⟩⟩)⟩, ⟨by (with_reducible repeat (first | refine blk_drewN ?_ _ | refine blk_drew ?_ | refine blk_alloc ?_ _)); refine blk_far ?_ NB243_257.out _; (with_reducible repeat (first | refine blk_drewN ?_ _ | refine blk_drew ?_ | refine blk_alloc ?_ _)); refine blk_far ?_ NB243_257.out _; (with_reducible repeat (first | refine blk_drewN ?_ _ | refine blk_drew ?_ | refine blk_alloc ?_ _)); refine blk_far ?_ NB243_257.out _; (with_reducible repeat (first | refine blk_drewN ?_ _ | refine blk_drew ?_ | refine blk_alloc ?_ _)); exact BK243.out⟩, ⟨by (with_reducible repeat (first | refine blk_drewN ?_ _ | refine blk_drew ?_ | refine blk_alloc ?_ _)); refine blk_far ?_ NB250_257.out _; (with_reducible repeat (first | refine blk_drewN ?_ _ | refine blk_drew ?_ | refine blk_alloc ?_ _)); refine blk_far ?_ NB250_257.out _; (with_reducible repeat (first | refine blk_drewN ?_ _ | refine blk_drew ?_ | refine blk_alloc ?_ _)); refine blk_far ?_ NB250_257.out _; (with_reducible repeat (first | refine blk_drewN ?_ _ | refine blk_drew ?_ | refine blk_alloc ?_ _)); exact BK250.out⟩, ⟨by (with_reducible repeat (first | refine blk_drewN ?_ _ | refine blk_drew ?_ | refine blk_alloc ?_ _)); refine blk_put (cs := #[.bool t251, .slice Ao29 t252.length co29, .int .i64 0]) ?_ 2 _ rfl; (with_reducible repeat (first | refine blk_drewN ?_ _ | refine blk_drew ?_ | refine blk_alloc ?_ _)); refine blk_put (cs := #[.bool t251, .slice none 0 0, .int .i64 0]) ?_ 1 _ rfl; (with_reducible repeat (first | refine blk_drewN ?_ _ | refine blk_drew ?_ | refine blk_alloc ?_ _)); refine blk_put (cs := #[.bool false, .slice none 0 0, .int .i64 0]) ?_ 0 _ rfl; (with_reducible repeat (first | refine blk_drewN ?_ _ | refine blk_drew ?_ | refine blk_alloc ?_ _)); exact BK257.out⟩, ⟨by repeat (first | (with_reducible first | exact HB.out | apply below_alloc | apply pw_below_drewN | apply below_drew1 | refine below_set ?_ GE243.out | refine below_set ?_ GE250.out | refine below_set ?_ GE257.out) | exact HB.out)⟩⟩
     case rest =>
      clear HC14
      try clear c1
      try clear c2
      try clear p2
      try clear c3
      try clear c4
      try clear c5
      try clear c6
      try clear c7
      try clear c8
      try clear c8b0
      try clear c8b1
      try clear c9
      try clear c9b0
      try clear c9b1
      try clear c10
      try clear c21
      try clear c26
      try clear c27
      try clear c30
      try clear c30b0
      try clear c30b1
      try clear c31
      try clear c31b0
      try clear c31b1
      try clear hcz17_0
      try clear hcz17_1
      try clear hcz17_2
      try clear hcz22_0
      try clear hcz22_1
      try clear hcz22_2
      try clear hcz28_0
      try clear hcz28_1
      try clear hcz28_2
      try clear hfz17_0
      try clear hfz17_1
      try clear hfz17_2
      try clear hfz22_0
      try clear hfz22_1
      try clear hfz22_2
      try clear hfz28_0
      try clear hfz28_1
      try clear hfz28_2
      try clear p2
      obtain ⟨kq, x56_13, rfl, HA, HJ13, HO_244001, HO_251001, HO_258001, BK243, BK250, BK257, HB⟩ := hcut
      cases kq with
      | zero => exact absurd HA.out (by simp [rubriclaw5_DecOrders.j1])
      | succ kj13 =>
       have H := HA.out
       clear HA
       simp only [rubriclaw5_DecOrders.j1] at H
       by_cases c32 : x56_13 = true
       ·subst c32
        have H1 : (some true) = some r := by rw [if_pos rfl] at H; exact H
        clear H
        have H := H1
        clear H1
        obtain rfl := Option.some.inj H
        go_wp2
        go_ret
        exact ⟨by first | rfl | (simp [errW_none, errW_some] <;> rfl) | (simp [*, errW_none, errW_some] <;> rfl), by repeat (first | (with_reducible first | exact HB.out | apply below_alloc | apply pw_below_drewN | apply below_drew1 | refine below_set ?_ GE243.out | refine below_set ?_ GE250.out | refine below_set ?_ GE257.out) | exact HB.out)⟩
       ·replace c32 := Bool.eq_false_iff.mpr c32
        subst c32
        have H1 : ((dec_Add.f kj13 t237 t238 t241 t251 t252 t255).bind fun bt258 => ((dec_Add.f kj13 t244 t245 t248 t251 t252 t255).bind fun bt265 => (if (wrap64 (bt258.2.2.2 + bt265.2.2.2)) = 0 then ((dec_Cmp.f kj13 bt258.1 bt258.2.1 bt258.2.2.1 bt265.1 bt265.2.1 bt265.2.2.1).bind fun t272 => ((dec_Cmp.f kj13 t237 t238 t241 t244 t245 t248).bind fun t273 => (if t272 = t273 then ((dec_Neg.f t237 t238 t241).bind fun bt274 => ((dec_Neg.f t244 t245 t248).bind fun bt279 => ((dec_Cmp.f kj13 bt274.1 bt274.2.1 bt274.2.2 bt279.1 bt279.2.1 bt279.2.2).bind fun t284 => ((dec_Cmp.f kj13 t244 t245 t248 t237 t238 t241).bind fun t285 => (rubriclaw5_DecOrders.j2 kj13 (t284 != t285) t237 t238 t241 t244 t245 t248 t251 t252 t255))))) else (rubriclaw5_DecOrders.j2 kj13 true t237 t238 t241 t244 t245 t248 t251 t252 t255)))) else (rubriclaw5_DecOrders.j2 kj13 true t237 t238 t241 t244 t245 t248 t251 t252 t255)))) = some r := by rw [if_neg (show ¬ (false = true) by decide)] at H; exact H
        clear H
        have H := H1
        clear H1
        replace H := Option.bind_eq_some_iff.mp H
        obtain ⟨⟨t258, t259, t262, t263⟩, A330, H⟩ := H
        replace H : ((dec_Add.f kj13 t244 t245 t248 t251 t252 t255).bind fun bt265 => (if (wrap64 (t263 + bt265.2.2.2)) = 0 then ((dec_Cmp.f kj13 t258 t259 t262 bt265.1 bt265.2.1 bt265.2.2.1).bind fun t272 => ((dec_Cmp.f kj13 t237 t238 t241 t244 t245 t248).bind fun t273 => (if t272 = t273 then ((dec_Neg.f t237 t238 t241).bind fun bt274 => ((dec_Neg.f t244 t245 t248).bind fun bt279 => ((dec_Cmp.f kj13 bt274.1 bt274.2.1 bt274.2.2 bt279.1 bt279.2.1 bt279.2.2).bind fun t284 => ((dec_Cmp.f kj13 t244 t245 t248 t237 t238 t241).bind fun t285 => (rubriclaw5_DecOrders.j2 kj13 (t284 != t285) t237 t238 t241 t244 t245 t248 t251 t252 t255))))) else (rubriclaw5_DecOrders.j2 kj13 true t237 t238 t241 t244 t245 t248 t251 t252 t255)))) else (rubriclaw5_DecOrders.j2 kj13 true t237 t238 t241 t244 t245 t248 t251 t252 t255))) = some r := H
        have A33 := Aside0.mk A330
        clear A330
        replace H := Option.bind_eq_some_iff.mp H
        obtain ⟨⟨t265, t266, t269, t270⟩, A340, H⟩ := H
        replace H : (if (wrap64 (t263 + t270)) = 0 then ((dec_Cmp.f kj13 t258 t259 t262 t265 t266 t269).bind fun t272 => ((dec_Cmp.f kj13 t237 t238 t241 t244 t245 t248).bind fun t273 => (if t272 = t273 then ((dec_Neg.f t237 t238 t241).bind fun bt274 => ((dec_Neg.f t244 t245 t248).bind fun bt279 => ((dec_Cmp.f kj13 bt274.1 bt274.2.1 bt274.2.2 bt279.1 bt279.2.1 bt279.2.2).bind fun t284 => ((dec_Cmp.f kj13 t244 t245 t248 t237 t238 t241).bind fun t285 => (rubriclaw5_DecOrders.j2 kj13 (t284 != t285) t237 t238 t241 t244 t245 t248 t251 t252 t255))))) else (rubriclaw5_DecOrders.j2 kj13 true t237 t238 t241 t244 t245 t248 t251 t252 t255)))) else (rubriclaw5_DecOrders.j2 kj13 true t237 t238 t241 t244 t245 t248 t251 t252 t255)) = some r := H
        have A34 := Aside0.mk A340
        clear A340
        have HC35 := Aside0.mk H
        clear H
        have hnb36 := NB243_250.out
        have hnc36 := NB250_243.out
        have hnb37 := NB243_257.out
        have hnc37 := NB257_243.out
        have hcz38_0 : wc.cell? ⟨gb243, 0, none⟩ = some (.bool t237) := (blk_cell BK243.out 0).trans rfl
        have hcz38_1 : wc.cell? ⟨gb243, 1, none⟩ = some (.slice Ao18 t238.length co18) := (blk_cell BK243.out 1).trans rfl
        have hcz38_2 : wc.cell? ⟨gb243, 2, none⟩ = some (.int .i64 t241) := (blk_cell BK243.out 2).trans rfl
        have hfz38_0 := blk_frozen BK243.out 0
        have hfz38_1 := blk_frozen BK243.out 1
        have hfz38_2 := blk_frozen BK243.out 2
        have hnb39 := NB257_250.out
        have hnc39 := NB250_257.out
        have hcz40_0 : wc.cell? ⟨gb257, 0, none⟩ = some (.bool t251) := (blk_cell BK257.out 0).trans rfl
        have hcz40_1 : wc.cell? ⟨gb257, 1, none⟩ = some (.slice Ao29 t252.length co29) := (blk_cell BK257.out 1).trans rfl
        have hcz40_2 : wc.cell? ⟨gb257, 2, none⟩ = some (.int .i64 t255) := (blk_cell BK257.out 2).trans rfl
        have hfz40_0 := blk_frozen BK257.out 0
        have hfz40_1 := blk_frozen BK257.out 1
        have hfz40_2 := blk_frozen BK257.out 2
        go_upto_region 12 with (first | ((with_reducible refine gate_callee (f := 12) rfl ?_); refine goesL_ (some 60) rfl rfl Try.func12 (by kernel_rfl) rfl #[.agg #[.bool t237, .slice Ao18 t238.length co18, .int .i64 t241], .agg #[.bool t251, .slice Ao29 t252.length co29, .int .i64 t255]] rfl (by (try simp only [List.map_toArray, List.map_cons, List.map_nil]); first | done | rfl | (simp only [List.length_drop, List.length_take]; rfl)) ?_; (with_reducible refine (dec_Add.calls kj13 t237 (fun k_ => (k_ ≠ gb243 ∧ (k_ ≠ gb250 ∧ k_ ≠ gb257))) _ _ t238 t241 t251 (fun k_ => (k_ ≠ gb243 ∧ (k_ ≠ gb250 ∧ k_ ≠ gb257))) _ _ t252 t255 t258 t259 t262 t263 _ ?side1 ?side2 A33.out).mono ?_); (case side1 => exact HO_244001.out); (case side2 => exact HO_258001.out); rintro e w41 ⟨v260, rfl, ho0, hb⟩; refine ⟨_, rfl, ?_⟩; have n0_ := Aside0.mk (Kd.V_below (S.v HO_244001.out) hb); have n1_ := Aside0.mk (Kd.V_below (S.v HO_251001.out) hb); have n2_ := Aside0.mk (Kd.V_below (S.v HO_258001.out) hb); have n3_ := Aside0.mk (Kd.V_lower (Kd.V_mono (ok' := fun k_ => k_ ≠ gb243 ∧ k_ ≠ gb250 ∧ k_ ≠ gb257) ho0 (fun k_ hk_ => ⟨Or.elim hk_ (fun hs_ => Or.elim hs_ (fun hs_ => hs_.1) (fun hs_ => hs_.1)) (fun hn_ => (Kd.freshB (g := gb243) (o := .cells #[.bool t237, .slice Ao18 t238.length co18, .int .i64 t241] 25 (0, 0)) (S.b BK243.out) k_ hn_)), Or.elim hk_ (fun hs_ => Or.elim hs_ (fun hs_ => hs_.2.1) (fun hs_ => hs_.2.1)) (fun hn_ => (Kd.freshB (g := gb250) (o := .cells #[.bool t244, .slice Ao23 t245.length co23, .int .i64 t248] 25 (0, 0)) (S.b BK250.out) k_ hn_)), Or.elim hk_ (fun hs_ => Or.elim hs_ (fun hs_ => hs_.2.2) (fun hs_ => hs_.2.2)) (fun hn_ => (Kd.freshB (g := gb257) (o := .cells #[.bool t251, .slice Ao29 t252.length co29, .int .i64 t255] 25 (0, 0)) (S.b BK257.out) k_ hn_))⟩)) (below_size (by repeat (first | (with_reducible first | exact HB.out | apply below_alloc | apply pw_below_drewN | apply below_drew1 | refine below_set ?_ GE243.out | refine below_set ?_ GE250.out | refine below_set ?_ GE257.out) | exact HB.out)))); have n4_ := Aside0.mk (blk_below (g := gb243) (o := .cells #[.bool t237, .slice Ao18 t238.length co18, .int .i64 t241] 25 (0, 0)) (S.b BK243.out) hb); have n5_ := Aside0.mk (blk_below (g := gb250) (o := .cells #[.bool t244, .slice Ao23 t245.length co23, .int .i64 t248] 25 (0, 0)) (S.b BK250.out) hb); have n6_ := Aside0.mk (blk_below (g := gb257) (o := .cells #[.bool t251, .slice Ao29 t252.length co29, .int .i64 t255] 25 (0, 0)) (S.b BK257.out) hb); have n7_ := Aside0.mk (below_step (by repeat (first | (with_reducible first | exact HB.out | apply below_alloc | apply pw_below_drewN | apply below_drew1 | refine below_set ?_ GE243.out | refine below_set ?_ GE250.out | refine below_set ?_ GE257.out) | exact HB.out)) hb); clear HO_244001; clear HO_251001; clear HO_258001; clear BK243; clear BK250; clear BK257; clear HB; have HO_244001 := n0_; have HO_251001 := n1_; have HO_258001 := n2_; have HO261 := n3_; have BK243 := n4_; have BK250 := n5_; have BK257 := n6_; have HB := n7_; clear n0_ n1_ n2_ n3_ n4_ n5_ n6_ n7_; (try clear hb); (try clear hb2); (try clear hk); (try clear hi); (try clear ho0)) | ((with_reducible refine gate_dst (N := 13) rfl ?_); (try (refine gate_guard (by rfl) ?_; dsimp only)); refine box_event ?hg (N := 13) ?hd (cs := #[.bool false, .slice none 0 0, .int .i64 0]) (t := 25) ?hr ?_; (case hd => rfl); (case hg => rfl); (case hr => first | (go_simp; done) | (go_simp; rfl)); intro gb264 hg w42 hbox hb; have n0_ := Aside0.mk (Kd.V_below (Kd.V_elderB (S.v HO_244001.out) gb264 (Nat.le_of_eq hg.symm)) hb); have n1_ := Aside0.mk (Kd.V_below (Kd.V_elderB (S.v HO_251001.out) gb264 (Nat.le_of_eq hg.symm)) hb); have n2_ := Aside0.mk (Kd.V_below (Kd.V_elderB (S.v HO_258001.out) gb264 (Nat.le_of_eq hg.symm)) hb); have n3_ := Aside0.mk (Kd.V_below (Kd.V_elderB (S.v HO261.out) gb264 (Nat.le_of_eq hg.symm)) hb); have n4_ := Aside0.mk (blk_below (g := gb243) (o := .cells #[.bool t237, .slice Ao18 t238.length co18, .int .i64 t241] 25 (0, 0)) (S.b BK243.out) hb); have n5_ := Aside0.mk (blk_below (g := gb250) (o := .cells #[.bool t244, .slice Ao23 t245.length co23, .int .i64 t248] 25 (0, 0)) (S.b BK250.out) hb); have n6_ := Aside0.mk (blk_below (g := gb257) (o := .cells #[.bool t251, .slice Ao29 t252.length co29, .int .i64 t255] 25 (0, 0)) (S.b BK257.out) hb); have n7_ := Aside0.mk (below_step (by repeat (first | (with_reducible first | exact HB.out | apply below_alloc | apply pw_below_drewN | apply below_drew1 | refine below_set ?_ GE243.out | refine below_set ?_ GE250.out | refine below_set ?_ GE257.out) | exact HB.out)) hb); have n8_ := Aside0.mk (hbox); have n9_ := Aside0.mk ((by rw [hg]; exact (below_size (by repeat (first | (with_reducible first | exact HB.out | apply below_alloc | apply pw_below_drewN | apply below_drew1 | refine below_set ?_ GE243.out | refine below_set ?_ GE250.out | refine below_set ?_ GE257.out) | exact HB.out))) : w.heap.size ≤ gb264)); have n10_ := Aside0.mk ((by rw [hg]; exact (below_size (by repeat (first | (with_reducible first | exact HB.out | apply below_alloc | apply pw_below_drewN | apply below_drew1 | refine below_set ?_ GE243.out | refine below_set ?_ GE250.out | refine below_set ?_ GE257.out) | exact HB.out))) : w.heap.size ≤ gb264)); have n11_ := Aside0.mk ((by rw [hg]; exact Nat.ne_of_lt (blk_lt (g := gb243) (o := .cells #[.bool t237, .slice Ao18 t238.length co18, .int .i64 t241] 25 (0, 0)) (S.b BK243.out)) : gb243 ≠ gb264)); have n12_ := Aside0.mk ((by rw [hg]; exact Nat.ne_of_gt (blk_lt (g := gb243) (o := .cells #[.bool t237, .slice Ao18 t238.length co18, .int .i64 t241] 25 (0, 0)) (S.b BK243.out)) : gb264 ≠ gb243)); have n13_ := Aside0.mk ((by rw [hg]; exact Nat.ne_of_lt (blk_lt (g := gb250) (o := .cells #[.bool t244, .slice Ao23 t245.length co23, .int .i64 t248] 25 (0, 0)) (S.b BK250.out)) : gb250 ≠ gb264)); have n14_ := Aside0.mk ((by rw [hg]; exact Nat.ne_of_gt (blk_lt (g := gb250) (o := .cells #[.bool t244, .slice Ao23 t245.length co23, .int .i64 t248] 25 (0, 0)) (S.b BK250.out)) : gb264 ≠ gb250)); have n15_ := Aside0.mk ((by rw [hg]; exact Nat.ne_of_lt (blk_lt (g := gb257) (o := .cells #[.bool t251, .slice Ao29 t252.length co29, .int .i64 t255] 25 (0, 0)) (S.b BK257.out)) : gb257 ≠ gb264)); have n16_ := Aside0.mk ((by rw [hg]; exact Nat.ne_of_gt (blk_lt (g := gb257) (o := .cells #[.bool t251, .slice Ao29 t252.length co29, .int .i64 t255] 25 (0, 0)) (S.b BK257.out)) : gb264 ≠ gb257)); clear HO_244001; clear HO_251001; clear HO_258001; clear HO261; clear BK243; clear BK250; clear BK257; clear HB; have HO_244001 := n0_; have HO_251001 := n1_; have HO_258001 := n2_; have HO261 := n3_; have BK243 := n4_; have BK250 := n5_; have BK257 := n6_; have HB := n7_; have BK264 := n8_; have GW264 := n9_; have GE264 := n10_; have NB243_264 := n11_; have NB264_243 := n12_; have NB250_264 := n13_; have NB264_250 := n14_; have NB257_264 := n15_; have NB264_257 := n16_; clear n0_ n1_ n2_ n3_ n4_ n5_ n6_ n7_ n8_ n9_ n10_ n11_ n12_ n13_ n14_ n15_ n16_; clear hb hbox hg; have hnb43 := NB264_243.out; have hnc43 := NB243_264.out; have hnb44 := NB264_250.out; have hnc44 := NB250_264.out; have hnb45 := NB264_257.out; have hnc45 := NB257_264.out; have hcz46_0 : w42.cell? ⟨gb264, 0, none⟩ = some (.bool false) := (blk_cell BK264.out 0).trans rfl; have hcz46_1 : w42.cell? ⟨gb264, 1, none⟩ = some (.slice none 0 0) := (blk_cell BK264.out 1).trans rfl; have hcz46_2 : w42.cell? ⟨gb264, 2, none⟩ = some (.int .i64 0) := (blk_cell BK264.out 2).trans rfl; have hfz46_0 := blk_frozen BK264.out 0; have hfz46_1 := blk_frozen BK264.out 1; have hfz46_2 := blk_frozen BK264.out 2; obtain ⟨Ao47, co47, eo47⟩ := Kd.V_slice HO261.out; subst eo47) | ((with_reducible refine gate_store (t := 25) (p := 13) rfl ?_); refine store_event (t := 25) (p := 13) (v := ?vo_w48) (w1 := (((w42.setCell ⟨gb264, 0, none⟩ (.bool t258)).setCell ⟨gb264, 1, none⟩ (.slice Ao47 t259.length co47)).setCell ⟨gb264, 2, none⟩ (.int .i64 t262))) ?hg ?ho ?hn ?hr ?_; (case ho => rfl); (case hg => rfl); (case hn => rfl); (case hr => first | (go_simp; done) | (go_simp; rfl)); intro w48 hw; have n0_ : Aside0 (Kd.V (Kd.int .u8) 5 w48 w.heap.size (fun k_ => k_ ≠ gb243 ∧ k_ ≠ gb250 ∧ k_ ≠ gb257 ∧ k_ ≠ gb264) (.slice Ao18 t238.length co18) t238) := ⟨(by rw [hw]; exact (by (with_reducible repeat (first | apply Kd.V_alloc | apply Kd.V_drewN | apply Kd.V_drew)); exact Kd.V_mono (Kd.V_far (p := ⟨gb264, 2, none⟩) (Kd.V_far (p := ⟨gb264, 1, none⟩) (Kd.V_far (p := ⟨gb264, 0, none⟩) (Kd.V_mono HO_244001.out (fun k_ hk => (⟨hk, hk.2⟩ : _ ∧ k_ ≠ gb264))) (fun _ hk => hk.2) (.bool t258)) (fun _ hk => hk.2) (.slice Ao47 t259.length co47)) (fun _ hk => hk.2) (.int .i64 t262)) (fun _ hk => ⟨hk.1.1.1, ⟨hk.1.1.2.1, ⟨hk.1.1.2.2, hk.1.2⟩⟩⟩)))⟩; have n1_ : Aside0 (Kd.V (Kd.int .u8) 5 w48 w.heap.size (fun k_ => k_ ≠ gb243 ∧ k_ ≠ gb250 ∧ k_ ≠ gb257 ∧ k_ ≠ gb264) (.slice Ao23 t245.length co23) t245) := ⟨(by rw [hw]; exact (by (with_reducible repeat (first | apply Kd.V_alloc | apply Kd.V_drewN | apply Kd.V_drew)); exact Kd.V_mono (Kd.V_far (p := ⟨gb264, 2, none⟩) (Kd.V_far (p := ⟨gb264, 1, none⟩) (Kd.V_far (p := ⟨gb264, 0, none⟩) (Kd.V_mono HO_251001.out (fun k_ hk => (⟨hk, hk.2⟩ : _ ∧ k_ ≠ gb264))) (fun _ hk => hk.2) (.bool t258)) (fun _ hk => hk.2) (.slice Ao47 t259.length co47)) (fun _ hk => hk.2) (.int .i64 t262)) (fun _ hk => ⟨hk.1.1.1, ⟨hk.1.1.2.1, ⟨hk.1.1.2.2, hk.1.2⟩⟩⟩)))⟩; have n2_ : Aside0 (Kd.V (Kd.int .u8) 5 w48 w.heap.size (fun k_ => k_ ≠ gb243 ∧ k_ ≠ gb250 ∧ k_ ≠ gb257 ∧ k_ ≠ gb264) (.slice Ao29 t252.length co29) t252) := ⟨(by rw [hw]; exact (by (with_reducible repeat (first | apply Kd.V_alloc | apply Kd.V_drewN | apply Kd.V_drew)); exact Kd.V_mono (Kd.V_far (p := ⟨gb264, 2, none⟩) (Kd.V_far (p := ⟨gb264, 1, none⟩) (Kd.V_far (p := ⟨gb264, 0, none⟩) (Kd.V_mono HO_258001.out (fun k_ hk => (⟨hk, hk.2⟩ : _ ∧ k_ ≠ gb264))) (fun _ hk => hk.2) (.bool t258)) (fun _ hk => hk.2) (.slice Ao47 t259.length co47)) (fun _ hk => hk.2) (.int .i64 t262)) (fun _ hk => ⟨hk.1.1.1, ⟨hk.1.1.2.1, ⟨hk.1.1.2.2, hk.1.2⟩⟩⟩)))⟩; have n3_ : Aside0 (Kd.V (Kd.int .u8) 5 w48 w.heap.size (fun k_ => k_ ≠ gb243 ∧ k_ ≠ gb250 ∧ k_ ≠ gb257 ∧ k_ ≠ gb264) (.slice Ao47 t259.length co47) t259) := ⟨(by rw [hw]; exact (by (with_reducible repeat (first | apply Kd.V_alloc | apply Kd.V_drewN | apply Kd.V_drew)); exact Kd.V_mono (Kd.V_far (p := ⟨gb264, 2, none⟩) (Kd.V_far (p := ⟨gb264, 1, none⟩) (Kd.V_far (p := ⟨gb264, 0, none⟩) (Kd.V_mono HO261.out (fun k_ hk => (⟨hk, hk.2⟩ : _ ∧ k_ ≠ gb264))) (fun _ hk => hk.2) (.bool t258)) (fun _ hk => hk.2) (.slice Ao47 t259.length co47)) (fun _ hk => hk.2) (.int .i64 t262)) (fun _ hk => ⟨hk.1.1.1, ⟨hk.1.1.2.1, ⟨hk.1.1.2.2, hk.1.2⟩⟩⟩)))⟩; have n4_ : Aside0 (w48.heap[gb243]? = some (.cells #[.bool t237, .slice Ao18 t238.length co18, .int .i64 t241] 25 (0, 0))) := ⟨(by rw [hw]; exact (by (with_reducible repeat (first | refine blk_drewN ?_ _ | refine blk_drew ?_ | refine blk_alloc ?_ _)); refine blk_far ?_ NB243_264.out _; (with_reducible repeat (first | refine blk_drewN ?_ _ | refine blk_drew ?_ | refine blk_alloc ?_ _)); refine blk_far ?_ NB243_264.out _; (with_reducible repeat (first | refine blk_drewN ?_ _ | refine blk_drew ?_ | refine blk_alloc ?_ _)); refine blk_far ?_ NB243_264.out _; (with_reducible repeat (first | refine blk_drewN ?_ _ | refine blk_drew ?_ | refine blk_alloc ?_ _)); exact BK243.out))⟩; have n5_ : Aside0 (w48.heap[gb250]? = some (.cells #[.bool t244, .slice Ao23 t245.length co23, .int .i64 t248] 25 (0, 0))) := ⟨(by rw [hw]; exact (by (with_reducible repeat (first | refine blk_drewN ?_ _ | refine blk_drew ?_ | refine blk_alloc ?_ _)); refine blk_far ?_ NB250_264.out _; (with_reducible repeat (first | refine blk_drewN ?_ _ | refine blk_drew ?_ | refine blk_alloc ?_ _)); refine blk_far ?_ NB250_264.out _; (with_reducible repeat (first | refine blk_drewN ?_ _ | refine blk_drew ?_ | refine blk_alloc ?_ _)); refine blk_far ?_ NB250_264.out _; (with_reducible repeat (first | refine blk_drewN ?_ _ | refine blk_drew ?_ | refine blk_alloc ?_ _)); exact BK250.out))⟩; have n6_ : Aside0 (w48.heap[gb257]? = some (.cells #[.bool t251, .slice Ao29 t252.length co29, .int .i64 t255] 25 (0, 0))) := ⟨(by rw [hw]; exact (by (with_reducible repeat (first | refine blk_drewN ?_ _ | refine blk_drew ?_ | refine blk_alloc ?_ _)); refine blk_far ?_ NB257_264.out _; (with_reducible repeat (first | refine blk_drewN ?_ _ | refine blk_drew ?_ | refine blk_alloc ?_ _)); refine blk_far ?_ NB257_264.out _; (with_reducible repeat (first | refine blk_drewN ?_ _ | refine blk_drew ?_ | refine blk_alloc ?_ _)); refine blk_far ?_ NB257_264.out _; (with_reducible repeat (first | refine blk_drewN ?_ _ | refine blk_drew ?_ | refine blk_alloc ?_ _)); exact BK257.out))⟩; have n7_ : Aside0 (w48.heap[gb264]? = some (.cells #[.bool t258, .slice Ao47 t259.length co47, .int .i64 t262] 25 (0, 0))) := ⟨(by rw [hw]; exact (by (with_reducible repeat (first | refine blk_drewN ?_ _ | refine blk_drew ?_ | refine blk_alloc ?_ _)); refine blk_put (cs := #[.bool t258, .slice Ao47 t259.length co47, .int .i64 0]) ?_ 2 _ rfl; (with_reducible repeat (first | refine blk_drewN ?_ _ | refine blk_drew ?_ | refine blk_alloc ?_ _)); refine blk_put (cs := #[.bool t258, .slice none 0 0, .int .i64 0]) ?_ 1 _ rfl; (with_reducible repeat (first | refine blk_drewN ?_ _ | refine blk_drew ?_ | refine blk_alloc ?_ _)); refine blk_put (cs := #[.bool false, .slice none 0 0, .int .i64 0]) ?_ 0 _ rfl; (with_reducible repeat (first | refine blk_drewN ?_ _ | refine blk_drew ?_ | refine blk_alloc ?_ _)); exact BK264.out))⟩; have n8_ : Aside0 (Below w.heap.size w w48) := ⟨(by rw [hw]; exact (by repeat (first | (with_reducible first | exact HB.out | apply below_alloc | apply pw_below_drewN | apply below_drew1 | refine below_set ?_ GE243.out | refine below_set ?_ GE250.out | refine below_set ?_ GE257.out | refine below_set ?_ GE264.out) | exact HB.out)))⟩; clear hw; clear HO_244001; clear HO_251001; clear HO_258001; clear HO261; clear BK243; clear BK250; clear BK257; clear BK264; clear HB; have HO_244001 := n0_; have HO_251001 := n1_; have HO_258001 := n2_; have HO261 := n3_; have BK243 := n4_; have BK250 := n5_; have BK257 := n6_; have BK264 := n7_; have HB := n8_; clear n0_ n1_ n2_ n3_ n4_ n5_ n6_ n7_ n8_; have hcz49_0 : w48.cell? ⟨gb250, 0, none⟩ = some (.bool t244) := (blk_cell BK250.out 0).trans rfl; have hcz49_1 : w48.cell? ⟨gb250, 1, none⟩ = some (.slice Ao23 t245.length co23) := (blk_cell BK250.out 1).trans rfl; have hcz49_2 : w48.cell? ⟨gb250, 2, none⟩ = some (.int .i64 t248) := (blk_cell BK250.out 2).trans rfl; have hfz49_0 := blk_frozen BK250.out 0; have hfz49_1 := blk_frozen BK250.out 1; have hfz49_2 := blk_frozen BK250.out 2; have hcz50_0 : w48.cell? ⟨gb257, 0, none⟩ = some (.bool t251) := (blk_cell BK257.out 0).trans rfl; have hcz50_1 : w48.cell? ⟨gb257, 1, none⟩ = some (.slice Ao29 t252.length co29) := (blk_cell BK257.out 1).trans rfl; have hcz50_2 : w48.cell? ⟨gb257, 2, none⟩ = some (.int .i64 t255) := (blk_cell BK257.out 2).trans rfl; have hfz50_0 := blk_frozen BK257.out 0; have hfz50_1 := blk_frozen BK257.out 1; have hfz50_2 := blk_frozen BK257.out 2) | ((with_reducible refine gate_callee (f := 12) rfl ?_); refine goesL_ (some 66) rfl rfl Try.func12 (by kernel_rfl) rfl #[.agg #[.bool t244, .slice Ao23 t245.length co23, .int .i64 t248], .agg #[.bool t251, .slice Ao29 t252.length co29, .int .i64 t255]] rfl (by (try simp only [List.map_toArray, List.map_cons, List.map_nil]); first | done | rfl | (simp only [List.length_drop, List.length_take]; rfl)) ?_; (with_reducible refine (dec_Add.calls kj13 t244 (fun k_ => (k_ ≠ gb243 ∧ (k_ ≠ gb250 ∧ (k_ ≠ gb257 ∧ k_ ≠ gb264)))) _ _ t245 t248 t251 (fun k_ => (k_ ≠ gb243 ∧ (k_ ≠ gb250 ∧ (k_ ≠ gb257 ∧ k_ ≠ gb264)))) _ _ t252 t255 t265 t266 t269 t270 _ ?side1 ?side2 A34.out).mono ?_); (case side1 => exact HO_251001.out); (case side2 => exact HO_258001.out); rintro e w51 ⟨v267, rfl, ho0, hb⟩; refine ⟨_, rfl, ?_⟩; have n0_ := Aside0.mk (Kd.V_below (S.v HO_244001.out) hb); have n1_ := Aside0.mk (Kd.V_below (S.v HO_251001.out) hb); have n2_ := Aside0.mk (Kd.V_below (S.v HO_258001.out) hb); have n3_ := Aside0.mk (Kd.V_below (S.v HO261.out) hb); have n4_ := Aside0.mk (Kd.V_lower (Kd.V_mono (ok' := fun k_ => k_ ≠ gb243 ∧ k_ ≠ gb250 ∧ k_ ≠ gb257 ∧ k_ ≠ gb264) ho0 (fun k_ hk_ => ⟨Or.elim hk_ (fun hs_ => Or.elim hs_ (fun hs_ => hs_.1) (fun hs_ => hs_.1)) (fun hn_ => (Kd.freshB (g := gb243) (o := .cells #[.bool t237, .slice Ao18 t238.length co18, .int .i64 t241] 25 (0, 0)) (S.b BK243.out) k_ hn_)), Or.elim hk_ (fun hs_ => Or.elim hs_ (fun hs_ => hs_.2.1) (fun hs_ => hs_.2.1)) (fun hn_ => (Kd.freshB (g := gb250) (o := .cells #[.bool t244, .slice Ao23 t245.length co23, .int .i64 t248] 25 (0, 0)) (S.b BK250.out) k_ hn_)), Or.elim hk_ (fun hs_ => Or.elim hs_ (fun hs_ => hs_.2.2.1) (fun hs_ => hs_.2.2.1)) (fun hn_ => (Kd.freshB (g := gb257) (o := .cells #[.bool t251, .slice Ao29 t252.length co29, .int .i64 t255] 25 (0, 0)) (S.b BK257.out) k_ hn_)), Or.elim hk_ (fun hs_ => Or.elim hs_ (fun hs_ => hs_.2.2.2) (fun hs_ => hs_.2.2.2)) (fun hn_ => (Kd.freshB (g := gb264) (o := .cells #[.bool t258, .slice Ao47 t259.length co47, .int .i64 t262] 25 (0, 0)) (S.b BK264.out) k_ hn_))⟩)) (below_size (by repeat (first | (with_reducible first | exact HB.out | apply below_alloc | apply pw_below_drewN | apply below_drew1 | refine below_set ?_ GE243.out | refine below_set ?_ GE250.out | refine below_set ?_ GE257.out | refine below_set ?_ GE264.out) | exact HB.out)))); have n5_ := Aside0.mk (blk_below (g := gb243) (o := .cells #[.bool t237, .slice Ao18 t238.length co18, .int .i64 t241] 25 (0, 0)) (S.b BK243.out) hb); have n6_ := Aside0.mk (blk_below (g := gb250) (o := .cells #[.bool t244, .slice Ao23 t245.length co23, .int .i64 t248] 25 (0, 0)) (S.b BK250.out) hb); have n7_ := Aside0.mk (blk_below (g := gb257) (o := .cells #[.bool t251, .slice Ao29 t252.length co29, .int .i64 t255] 25 (0, 0)) (S.b BK257.out) hb); have n8_ := Aside0.mk (blk_below (g := gb264) (o := .cells #[.bool t258, .slice Ao47 t259.length co47, .int .i64 t262] 25 (0, 0)) (S.b BK264.out) hb); have n9_ := Aside0.mk (below_step (by repeat (first | (with_reducible first | exact HB.out | apply below_alloc | apply pw_below_drewN | apply below_drew1 | refine below_set ?_ GE243.out | refine below_set ?_ GE250.out | refine below_set ?_ GE257.out | refine below_set ?_ GE264.out) | exact HB.out)) hb); clear HO_244001; clear HO_251001; clear HO_258001; clear HO261; clear BK243; clear BK250; clear BK257; clear BK264; clear HB; have HO_244001 := n0_; have HO_251001 := n1_; have HO_258001 := n2_; have HO261 := n3_; have HO268 := n4_; have BK243 := n5_; have BK250 := n6_; have BK257 := n7_; have BK264 := n8_; have HB := n9_; clear n0_ n1_ n2_ n3_ n4_ n5_ n6_ n7_ n8_ n9_; (try clear hb); (try clear hb2); (try clear hk); (try clear hi); (try clear ho0)) | ((with_reducible refine gate_dst (N := 15) rfl ?_); (try (refine gate_guard (by rfl) ?_; dsimp only)); refine box_event ?hg (N := 15) ?hd (cs := #[.bool false, .slice none 0 0, .int .i64 0]) (t := 25) ?hr ?_; (case hd => rfl); (case hg => rfl); (case hr => first | (go_simp; done) | (go_simp; rfl)); intro gb271 hg w52 hbox hb; have n0_ := Aside0.mk (Kd.V_below (Kd.V_elderB (S.v HO_244001.out) gb271 (Nat.le_of_eq hg.symm)) hb); have n1_ := Aside0.mk (Kd.V_below (Kd.V_elderB (S.v HO_251001.out) gb271 (Nat.le_of_eq hg.symm)) hb); have n2_ := Aside0.mk (Kd.V_below (Kd.V_elderB (S.v HO_258001.out) gb271 (Nat.le_of_eq hg.symm)) hb); have n3_ := Aside0.mk (Kd.V_below (Kd.V_elderB (S.v HO261.out) gb271 (Nat.le_of_eq hg.symm)) hb); have n4_ := Aside0.mk (Kd.V_below (Kd.V_elderB (S.v HO268.out) gb271 (Nat.le_of_eq hg.symm)) hb); have n5_ := Aside0.mk (blk_below (g := gb243) (o := .cells #[.bool t237, .slice Ao18 t238.length co18, .int .i64 t241] 25 (0, 0)) (S.b BK243.out) hb); have n6_ := Aside0.mk (blk_below (g := gb250) (o := .cells #[.bool t244, .slice Ao23 t245.length co23, .int .i64 t248] 25 (0, 0)) (S.b BK250.out) hb); have n7_ := Aside0.mk (blk_below (g := gb257) (o := .cells #[.bool t251, .slice Ao29 t252.length co29, .int .i64 t255] 25 (0, 0)) (S.b BK257.out) hb); have n8_ := Aside0.mk (blk_below (g := gb264) (o := .cells #[.bool t258, .slice Ao47 t259.length co47, .int .i64 t262] 25 (0, 0)) (S.b BK264.out) hb); have n9_ := Aside0.mk (below_step (by repeat (first | (with_reducible first | exact HB.out | apply below_alloc | apply pw_below_drewN | apply below_drew1 | refine below_set ?_ GE243.out | refine below_set ?_ GE250.out | refine below_set ?_ GE257.out | refine below_set ?_ GE264.out) | exact HB.out)) hb); have n10_ := Aside0.mk (hbox); have n11_ := Aside0.mk ((by rw [hg]; exact (below_size (by repeat (first | (with_reducible first | exact HB.out | apply below_alloc | apply pw_below_drewN | apply below_drew1 | refine below_set ?_ GE243.out | refine below_set ?_ GE250.out | refine below_set ?_ GE257.out | refine below_set ?_ GE264.out) | exact HB.out))) : w.heap.size ≤ gb271)); have n12_ := Aside0.mk ((by rw [hg]; exact (below_size (by repeat (first | (with_reducible first | exact HB.out | apply below_alloc | apply pw_below_drewN | apply below_drew1 | refine below_set ?_ GE243.out | refine below_set ?_ GE250.out | refine below_set ?_ GE257.out | refine below_set ?_ GE264.out) | exact HB.out))) : w.heap.size ≤ gb271)); have n13_ := Aside0.mk ((by rw [hg]; exact Nat.ne_of_lt (blk_lt (g := gb243) (o := .cells #[.bool t237, .slice Ao18 t238.length co18, .int .i64 t241] 25 (0, 0)) (S.b BK243.out)) : gb243 ≠ gb271)); have n14_ := Aside0.mk ((by rw [hg]; exact Nat.ne_of_gt (blk_lt (g := gb243) (o := .cells #[.bool t237, .slice Ao18 t238.length co18, .int .i64 t241] 25 (0, 0)) (S.b BK243.out)) : gb271 ≠ gb243)); have n15_ := Aside0.mk ((by rw [hg]; exact Nat.ne_of_lt (blk_lt (g := gb250) (o := .cells #[.bool t244, .slice Ao23 t245.length co23, .int .i64 t248] 25 (0, 0)) (S.b BK250.out)) : gb250 ≠ gb271)); have n16_ := Aside0.mk ((by rw [hg]; exact Nat.ne_of_gt (blk_lt (g := gb250) (o := .cells #[.bool t244, .slice Ao23 t245.length co23, .int .i64 t248] 25 (0, 0)) (S.b BK250.out)) : gb271 ≠ gb250)); have n17_ := Aside0.mk ((by rw [hg]; exact Nat.ne_of_lt (blk_lt (g := gb257) (o := .cells #[.bool t251, .slice Ao29 t252.length co29, .int .i64 t255] 25 (0, 0)) (S.b BK257.out)) : gb257 ≠ gb271)); have n18_ := Aside0.mk ((by rw [hg]; exact Nat.ne_of_gt (blk_lt (g := gb257) (o := .cells #[.bool t251, .slice Ao29 t252.length co29, .int .i64 t255] 25 (0, 0)) (S.b BK257.out)) : gb271 ≠ gb257)); have n19_ := Aside0.mk ((by rw [hg]; exact Nat.ne_of_lt (blk_lt (g := gb264) (o := .cells #[.bool t258, .slice Ao47 t259.length co47, .int .i64 t262] 25 (0, 0)) (S.b BK264.out)) : gb264 ≠ gb271)); have n20_ := Aside0.mk ((by rw [hg]; exact Nat.ne_of_gt (blk_lt (g := gb264) (o := .cells #[.bool t258, .slice Ao47 t259.length co47, .int .i64 t262] 25 (0, 0)) (S.b BK264.out)) : gb271 ≠ gb264)); clear HO_244001; clear HO_251001; clear HO_258001; clear HO261; clear HO268; clear BK243; clear BK250; clear BK257; clear BK264; clear HB; have HO_244001 := n0_; have HO_251001 := n1_; have HO_258001 := n2_; have HO261 := n3_; have HO268 := n4_; have BK243 := n5_; have BK250 := n6_; have BK257 := n7_; have BK264 := n8_; have HB := n9_; have BK271 := n10_; have GW271 := n11_; have GE271 := n12_; have NB243_271 := n13_; have NB271_243 := n14_; have NB250_271 := n15_; have NB271_250 := n16_; have NB257_271 := n17_; have NB271_257 := n18_; have NB264_271 := n19_; have NB271_264 := n20_; clear n0_ n1_ n2_ n3_ n4_ n5_ n6_ n7_ n8_ n9_ n10_ n11_ n12_ n13_ n14_ n15_ n16_ n17_ n18_ n19_ n20_; clear hb hbox hg; have hnb53 := NB271_243.out; have hnc53 := NB243_271.out; have hnb54 := NB271_250.out; have hnc54 := NB250_271.out; have hnb55 := NB271_257.out; have hnc55 := NB257_271.out; have hnb56 := NB271_264.out; have hnc56 := NB264_271.out; have hcz57_0 : w52.cell? ⟨gb271, 0, none⟩ = some (.bool false) := (blk_cell BK271.out 0).trans rfl; have hcz57_1 : w52.cell? ⟨gb271, 1, none⟩ = some (.slice none 0 0) := (blk_cell BK271.out 1).trans rfl; have hcz57_2 : w52.cell? ⟨gb271, 2, none⟩ = some (.int .i64 0) := (blk_cell BK271.out 2).trans rfl; have hfz57_0 := blk_frozen BK271.out 0; have hfz57_1 := blk_frozen BK271.out 1; have hfz57_2 := blk_frozen BK271.out 2; obtain ⟨Ao58, co58, eo58⟩ := Kd.V_slice HO268.out; subst eo58))
        (try simp only [Act.put, List.setIfInBounds_toArray, List.set_cons_zero, List.set_cons_succ])
        go_cut [92] (fun v92 wc => ∃ (kq : Nat) (x92_34 : Bool), v92 = .bool x92_34 ∧ Aside0 (rubriclaw5_DecOrders.j2 kq x92_34 t237 t238 t241 t244 t245 t248 t251 t252 t255 = some r) ∧ Aside0 (kq ≤ kj13) ∧ Aside0 (Kd.V (Kd.int .u8) 5 wc w.heap.size (fun k_ => k_ ≠ gb243 ∧ k_ ≠ gb250 ∧ k_ ≠ gb257 ∧ k_ ≠ gb264 ∧ k_ ≠ gb271) (.slice Ao18 t238.length co18) t238) ∧ Aside0 (Kd.V (Kd.int .u8) 5 wc w.heap.size (fun k_ => k_ ≠ gb243 ∧ k_ ≠ gb250 ∧ k_ ≠ gb257 ∧ k_ ≠ gb264 ∧ k_ ≠ gb271) (.slice Ao23 t245.length co23) t245) ∧ Aside0 (Kd.V (Kd.int .u8) 5 wc w.heap.size (fun k_ => k_ ≠ gb243 ∧ k_ ≠ gb250 ∧ k_ ≠ gb257 ∧ k_ ≠ gb264 ∧ k_ ≠ gb271) (.slice Ao29 t252.length co29) t252) ∧ Aside0 (Kd.V (Kd.int .u8) 5 wc w.heap.size (fun k_ => k_ ≠ gb243 ∧ k_ ≠ gb250 ∧ k_ ≠ gb257 ∧ k_ ≠ gb264 ∧ k_ ≠ gb271) (.slice Ao47 t259.length co47) t259) ∧ Aside0 (Kd.V (Kd.int .u8) 5 wc w.heap.size (fun k_ => k_ ≠ gb243 ∧ k_ ≠ gb250 ∧ k_ ≠ gb257 ∧ k_ ≠ gb264 ∧ k_ ≠ gb271) (.slice Ao58 t266.length co58) t266) ∧ Aside0 (wc.heap[gb243]? = some (.cells #[.bool t237, (.slice Ao18 t238.length co18), .int .i64 t241] 25 (0, 0))) ∧ Aside0 (wc.heap[gb250]? = some (.cells #[.bool t244, (.slice Ao23 t245.length co23), .int .i64 t248] 25 (0, 0))) ∧ Aside0 (wc.heap[gb257]? = some (.cells #[.bool t251, (.slice Ao29 t252.length co29), .int .i64 t255] 25 (0, 0))) ∧ Aside0 (wc.heap[gb264]? = some (.cells #[.bool t258, (.slice Ao47 t259.length co47), .int .i64 t262] 25 (0, 0))) ∧ Aside0 (wc.heap[gb271]? = some (.cells #[.bool t265, (.slice Ao58 t266.length co58), .int .i64 t269] 25 (0, 0))) ∧ Aside0 (Below w.heap.size w wc))
        case first =>
         have H := HC35.out
         clear HC35
         by_cases c59 : (wrap64 (t263 + t270)) = 0
         ·rw [if_pos c59] at H
          have c59b0 : ((wrap64 (t263 + t270)) == 0) = true := beq_iff_eq.mpr c59
          have c59b1 : ((wrap64 (t263 + t270)) != 0) = false := bne_eq_false_iff_eq.mpr c59
          clear c59
          (first | rw [c59b0] | (simp only [i64_w, i32_w]; rw [c59b0]) | skip)
          replace H := Option.bind_eq_some_iff.mp H
          obtain ⟨t272, A600, H⟩ := H
          replace H : ((dec_Cmp.f kj13 t237 t238 t241 t244 t245 t248).bind fun t273 => (if t272 = t273 then ((dec_Neg.f t237 t238 t241).bind fun bt274 => ((dec_Neg.f t244 t245 t248).bind fun bt279 => ((dec_Cmp.f kj13 bt274.1 bt274.2.1 bt274.2.2 bt279.1 bt279.2.1 bt279.2.2).bind fun t284 => ((dec_Cmp.f kj13 t244 t245 t248 t237 t238 t241).bind fun t285 => (rubriclaw5_DecOrders.j2 kj13 (t284 != t285) t237 t238 t241 t244 t245 t248 t251 t252 t255))))) else (rubriclaw5_DecOrders.j2 kj13 true t237 t238 t241 t244 t245 t248 t251 t252 t255))) = some r := H
          have A60 := Aside0.mk A600
          clear A600
          replace H := Option.bind_eq_some_iff.mp H
          obtain ⟨t273, A610, H⟩ := H
          replace H : (if t272 = t273 then ((dec_Neg.f t237 t238 t241).bind fun bt274 => ((dec_Neg.f t244 t245 t248).bind fun bt279 => ((dec_Cmp.f kj13 bt274.1 bt274.2.1 bt274.2.2 bt279.1 bt279.2.1 bt279.2.2).bind fun t284 => ((dec_Cmp.f kj13 t244 t245 t248 t237 t238 t241).bind fun t285 => (rubriclaw5_DecOrders.j2 kj13 (t284 != t285) t237 t238 t241 t244 t245 t248 t251 t252 t255))))) else (rubriclaw5_DecOrders.j2 kj13 true t237 t238 t241 t244 t245 t248 t251 t252 t255)) = some r := H
          have A61 := Aside0.mk A610
          clear A610
          by_cases c62 : t272 = t273
          ·rw [if_pos c62] at H
           have c62b0 : (t272 == t273) = true := beq_iff_eq.mpr c62
           have c62b1 : (t272 != t273) = false := bne_eq_false_iff_eq.mpr c62
           clear c62
           replace H := Option.bind_eq_some_iff.mp H
           obtain ⟨⟨t274, t275, t278⟩, A630, H⟩ := H
           replace H : ((dec_Neg.f t244 t245 t248).bind fun bt279 => ((dec_Cmp.f kj13 t274 t275 t278 bt279.1 bt279.2.1 bt279.2.2).bind fun t284 => ((dec_Cmp.f kj13 t244 t245 t248 t237 t238 t241).bind fun t285 => (rubriclaw5_DecOrders.j2 kj13 (t284 != t285) t237 t238 t241 t244 t245 t248 t251 t252 t255)))) = some r := H
           have A63 := Aside0.mk A630
           clear A630
           replace H := Option.bind_eq_some_iff.mp H
           obtain ⟨⟨t279, t280, t283⟩, A640, H⟩ := H
           replace H : ((dec_Cmp.f kj13 t274 t275 t278 t279 t280 t283).bind fun t284 => ((dec_Cmp.f kj13 t244 t245 t248 t237 t238 t241).bind fun t285 => (rubriclaw5_DecOrders.j2 kj13 (t284 != t285) t237 t238 t241 t244 t245 t248 t251 t252 t255))) = some r := H
           have A64 := Aside0.mk A640
           clear A640
           replace H := Option.bind_eq_some_iff.mp H
           obtain ⟨t284, A650, H⟩ := H
           replace H : ((dec_Cmp.f kj13 t244 t245 t248 t237 t238 t241).bind fun t285 => (rubriclaw5_DecOrders.j2 kj13 (t284 != t285) t237 t238 t241 t244 t245 t248 t251 t252 t255)) = some r := H
           have A65 := Aside0.mk A650
           clear A650
           replace H := Option.bind_eq_some_iff.mp H
           obtain ⟨t285, A660, H⟩ := H
           replace H : (rubriclaw5_DecOrders.j2 kj13 (t284 != t285) t237 t238 t241 t244 t245 t248 t251 t252 t255) = some r := H
           have A66 := Aside0.mk A660
           clear A660
           have H' := Aside0.mk H
           clear H
           try go_wp2
           have n0_ : Aside0 (Kd.V (Kd.int .u8) 5 (((w52.setCell ⟨gb271, 0, none⟩ (.bool t265)).setCell ⟨gb271, 1, none⟩ (.slice Ao58 t266.length co58)).setCell ⟨gb271, 2, none⟩ (.int .i64 t269)) w.heap.size (fun k_ => k_ ≠ gb243 ∧ k_ ≠ gb250 ∧ k_ ≠ gb257 ∧ k_ ≠ gb264 ∧ k_ ≠ gb271) (.slice Ao18 t238.length co18) t238) := ⟨by (with_reducible repeat (first | apply Kd.V_alloc | apply Kd.V_drewN | apply Kd.V_drew)); exact Kd.V_mono (Kd.V_far (p := ⟨gb271, 2, none⟩) (Kd.V_far (p := ⟨gb271, 1, none⟩) (Kd.V_far (p := ⟨gb271, 0, none⟩) (Kd.V_mono HO_244001.out (fun k_ hk => (⟨hk, hk.2⟩ : _ ∧ k_ ≠ gb271))) (fun _ hk => hk.2) (.bool t265)) (fun _ hk => hk.2) (.slice Ao58 t266.length co58)) (fun _ hk => hk.2) (.int .i64 t269)) (fun _ hk => ⟨hk.1.1.1, ⟨hk.1.1.2.1, ⟨hk.1.1.2.2.1, ⟨hk.1.1.2.2.2, hk.1.2⟩⟩⟩⟩)⟩
           have n1_ : Aside0 (Kd.V (Kd.int .u8) 5 (((w52.setCell ⟨gb271, 0, none⟩ (.bool t265)).setCell ⟨gb271, 1, none⟩ (.slice Ao58 t266.length co58)).setCell ⟨gb271, 2, none⟩ (.int .i64 t269)) w.heap.size (fun k_ => k_ ≠ gb243 ∧ k_ ≠ gb250 ∧ k_ ≠ gb257 ∧ k_ ≠ gb264 ∧ k_ ≠ gb271) (.slice Ao23 t245.length co23) t245) := ⟨by (with_reducible repeat (first | apply Kd.V_alloc | apply Kd.V_drewN | apply Kd.V_drew)); exact Kd.V_mono (Kd.V_far (p := ⟨gb271, 2, none⟩) (Kd.V_far (p := ⟨gb271, 1, none⟩) (Kd.V_far (p := ⟨gb271, 0, none⟩) (Kd.V_mono HO_251001.out (fun k_ hk => (⟨hk, hk.2⟩ : _ ∧ k_ ≠ gb271))) (fun _ hk => hk.2) (.bool t265)) (fun _ hk => hk.2) (.slice Ao58 t266.length co58)) (fun _ hk => hk.2) (.int .i64 t269)) (fun _ hk => ⟨hk.1.1.1, ⟨hk.1.1.2.1, ⟨hk.1.1.2.2.1, ⟨hk.1.1.2.2.2, hk.1.2⟩⟩⟩⟩)⟩
           have n2_ : Aside0 (Kd.V (Kd.int .u8) 5 (((w52.setCell ⟨gb271, 0, none⟩ (.bool t265)).setCell ⟨gb271, 1, none⟩ (.slice Ao58 t266.length co58)).setCell ⟨gb271, 2, none⟩ (.int .i64 t269)) w.heap.size (fun k_ => k_ ≠ gb243 ∧ k_ ≠ gb250 ∧ k_ ≠ gb257 ∧ k_ ≠ gb264 ∧ k_ ≠ gb271) (.slice Ao29 t252.length co29) t252) := ⟨by (with_reducible repeat (first | apply Kd.V_alloc | apply Kd.V_drewN | apply Kd.V_drew)); exact Kd.V_mono (Kd.V_far (p := ⟨gb271, 2, none⟩) (Kd.V_far (p := ⟨gb271, 1, none⟩) (Kd.V_far (p := ⟨gb271, 0, none⟩) (Kd.V_mono HO_258001.out (fun k_ hk => (⟨hk, hk.2⟩ : _ ∧ k_ ≠ gb271))) (fun _ hk => hk.2) (.bool t265)) (fun _ hk => hk.2) (.slice Ao58 t266.length co58)) (fun _ hk => hk.2) (.int .i64 t269)) (fun _ hk => ⟨hk.1.1.1, ⟨hk.1.1.2.1, ⟨hk.1.1.2.2.1, ⟨hk.1.1.2.2.2, hk.1.2⟩⟩⟩⟩)⟩
           have n3_ : Aside0 (Kd.V (Kd.int .u8) 5 (((w52.setCell ⟨gb271, 0, none⟩ (.bool t265)).setCell ⟨gb271, 1, none⟩ (.slice Ao58 t266.length co58)).setCell ⟨gb271, 2, none⟩ (.int .i64 t269)) w.heap.size (fun k_ => k_ ≠ gb243 ∧ k_ ≠ gb250 ∧ k_ ≠ gb257 ∧ k_ ≠ gb264 ∧ k_ ≠ gb271) (.slice Ao47 t259.length co47) t259) := ⟨by (with_reducible repeat (first | apply Kd.V_alloc | apply Kd.V_drewN | apply Kd.V_drew)); exact Kd.V_mono (Kd.V_far (p := ⟨gb271, 2, none⟩) (Kd.V_far (p := ⟨gb271, 1, none⟩) (Kd.V_far (p := ⟨gb271, 0, none⟩) (Kd.V_mono HO261.out (fun k_ hk => (⟨hk, hk.2⟩ : _ ∧ k_ ≠ gb271))) (fun _ hk => hk.2) (.bool t265)) (fun _ hk => hk.2) (.slice Ao58 t266.length co58)) (fun _ hk => hk.2) (.int .i64 t269)) (fun _ hk => ⟨hk.1.1.1, ⟨hk.1.1.2.1, ⟨hk.1.1.2.2.1, ⟨hk.1.1.2.2.2, hk.1.2⟩⟩⟩⟩)⟩
           have n4_ : Aside0 (Kd.V (Kd.int .u8) 5 (((w52.setCell ⟨gb271, 0, none⟩ (.bool t265)).setCell ⟨gb271, 1, none⟩ (.slice Ao58 t266.length co58)).setCell ⟨gb271, 2, none⟩ (.int .i64 t269)) w.heap.size (fun k_ => k_ ≠ gb243 ∧ k_ ≠ gb250 ∧ k_ ≠ gb257 ∧ k_ ≠ gb264 ∧ k_ ≠ gb271) (.slice Ao58 t266.length co58) t266) := ⟨by (with_reducible repeat (first | apply Kd.V_alloc | apply Kd.V_drewN | apply Kd.V_drew)); exact Kd.V_mono (Kd.V_far (p := ⟨gb271, 2, none⟩) (Kd.V_far (p := ⟨gb271, 1, none⟩) (Kd.V_far (p := ⟨gb271, 0, none⟩) (Kd.V_mono HO268.out (fun k_ hk => (⟨hk, hk.2⟩ : _ ∧ k_ ≠ gb271))) (fun _ hk => hk.2) (.bool t265)) (fun _ hk => hk.2) (.slice Ao58 t266.length co58)) (fun _ hk => hk.2) (.int .i64 t269)) (fun _ hk => ⟨hk.1.1.1, ⟨hk.1.1.2.1, ⟨hk.1.1.2.2.1, ⟨hk.1.1.2.2.2, hk.1.2⟩⟩⟩⟩)⟩
           have n5_ : Aside0 ((((w52.setCell ⟨gb271, 0, none⟩ (.bool t265)).setCell ⟨gb271, 1, none⟩ (.slice Ao58 t266.length co58)).setCell ⟨gb271, 2, none⟩ (.int .i64 t269)).heap[gb243]? = some (.cells #[.bool t237, .slice Ao18 t238.length co18, .int .i64 t241] 25 (0, 0))) := ⟨by (with_reducible repeat (first | refine blk_drewN ?_ _ | refine blk_drew ?_ | refine blk_alloc ?_ _)); refine blk_far ?_ NB243_271.out _; (with_reducible repeat (first | refine blk_drewN ?_ _ | refine blk_drew ?_ | refine blk_alloc ?_ _)); refine blk_far ?_ NB243_271.out _; (with_reducible repeat (first | refine blk_drewN ?_ _ | refine blk_drew ?_ | refine blk_alloc ?_ _)); refine blk_far ?_ NB243_271.out _; (with_reducible repeat (first | refine blk_drewN ?_ _ | refine blk_drew ?_ | refine blk_alloc ?_ _)); exact BK243.out⟩
           have n6_ : Aside0 ((((w52.setCell ⟨gb271, 0, none⟩ (.bool t265)).setCell ⟨gb271, 1, none⟩ (.slice Ao58 t266.length co58)).setCell ⟨gb271, 2, none⟩ (.int .i64 t269)).heap[gb250]? = some (.cells #[.bool t244, .slice Ao23 t245.length co23, .int .i64 t248] 25 (0, 0))) := ⟨by (with_reducible repeat (first | refine blk_drewN ?_ _ | refine blk_drew ?_ | refine blk_alloc ?_ _)); refine blk_far ?_ NB250_271.out _; (with_reducible repeat (first | refine blk_drewN ?_ _ | refine blk_drew ?_ | refine blk_alloc ?_ _)); refine blk_far ?_ NB250_271.out _; (with_reducible repeat (first | refine blk_drewN ?_ _ | refine blk_drew ?_ | refine blk_alloc ?_ _)); refine blk_far ?_ NB250_271.out _; (with_reducible repeat (first | refine blk_drewN ?_ _ | refine blk_drew ?_ | refine blk_alloc ?_ _)); exact BK250.out⟩
           have n7_ : Aside0 ((((w52.setCell ⟨gb271, 0, none⟩ (.bool t265)).setCell ⟨gb271, 1, none⟩ (.slice Ao58 t266.length co58)).setCell ⟨gb271, 2, none⟩ (.int .i64 t269)).heap[gb257]? = some (.cells #[.bool t251, .slice Ao29 t252.length co29, .int .i64 t255] 25 (0, 0))) := ⟨by (with_reducible repeat (first | refine blk_drewN ?_ _ | refine blk_drew ?_ | refine blk_alloc ?_ _)); refine blk_far ?_ NB257_271.out _; (with_reducible repeat (first | refine blk_drewN ?_ _ | refine blk_drew ?_ | refine blk_alloc ?_ _)); refine blk_far ?_ NB257_271.out _; (with_reducible repeat (first | refine blk_drewN ?_ _ | refine blk_drew ?_ | refine blk_alloc ?_ _)); refine blk_far ?_ NB257_271.out _; (with_reducible repeat (first | refine blk_drewN ?_ _ | refine blk_drew ?_ | refine blk_alloc ?_ _)); exact BK257.out⟩
           have n8_ : Aside0 ((((w52.setCell ⟨gb271, 0, none⟩ (.bool t265)).setCell ⟨gb271, 1, none⟩ (.slice Ao58 t266.length co58)).setCell ⟨gb271, 2, none⟩ (.int .i64 t269)).heap[gb264]? = some (.cells #[.bool t258, .slice Ao47 t259.length co47, .int .i64 t262] 25 (0, 0))) := ⟨by (with_reducible repeat (first | refine blk_drewN ?_ _ | refine blk_drew ?_ | refine blk_alloc ?_ _)); refine blk_far ?_ NB264_271.out _; (with_reducible repeat (first | refine blk_drewN ?_ _ | refine blk_drew ?_ | refine blk_alloc ?_ _)); refine blk_far ?_ NB264_271.out _; (with_reducible repeat (first | refine blk_drewN ?_ _ | refine blk_drew ?_ | refine blk_alloc ?_ _)); refine blk_far ?_ NB264_271.out _; (with_reducible repeat (first | refine blk_drewN ?_ _ | refine blk_drew ?_ | refine blk_alloc ?_ _)); exact BK264.out⟩
           have n9_ : Aside0 ((((w52.setCell ⟨gb271, 0, none⟩ (.bool t265)).setCell ⟨gb271, 1, none⟩ (.slice Ao58 t266.length co58)).setCell ⟨gb271, 2, none⟩ (.int .i64 t269)).heap[gb271]? = some (.cells #[.bool t265, .slice Ao58 t266.length co58, .int .i64 t269] 25 (0, 0))) := ⟨by (with_reducible repeat (first | refine blk_drewN ?_ _ | refine blk_drew ?_ | refine blk_alloc ?_ _)); refine blk_put (cs := #[.bool t265, .slice Ao58 t266.length co58, .int .i64 0]) ?_ 2 _ rfl; (with_reducible repeat (first | refine blk_drewN ?_ _ | refine blk_drew ?_ | refine blk_alloc ?_ _)); refine blk_put (cs := #[.bool t265, .slice none 0 0, .int .i64 0]) ?_ 1 _ rfl; (with_reducible repeat (first | refine blk_drewN ?_ _ | refine blk_drew ?_ | refine blk_alloc ?_ _)); refine blk_put (cs := #[.bool false, .slice none 0 0, .int .i64 0]) ?_ 0 _ rfl; (with_reducible repeat (first | refine blk_drewN ?_ _ | refine blk_drew ?_ | refine blk_alloc ?_ _)); exact BK271.out⟩
           have n10_ : Aside0 (Below w.heap.size w (((w52.setCell ⟨gb271, 0, none⟩ (.bool t265)).setCell ⟨gb271, 1, none⟩ (.slice Ao58 t266.length co58)).setCell ⟨gb271, 2, none⟩ (.int .i64 t269))) := ⟨by repeat (first | (with_reducible first | exact HB.out | apply below_alloc | apply pw_below_drewN | apply below_drew1 | refine below_set ?_ GE243.out | refine below_set ?_ GE250.out | refine below_set ?_ GE257.out | refine below_set ?_ GE264.out | refine below_set ?_ GE271.out) | exact HB.out)⟩
           (try clear HO_244001)
           (try clear HO_251001)
           (try clear HO_258001)
           (try clear HO261)
           (try clear HO268)
           (try clear BK243)
           (try clear BK250)
           (try clear BK257)
           (try clear BK264)
           (try clear BK271)
           (try clear HB)
           generalize (((w52.setCell ⟨gb271, 0, none⟩ (.bool t265)).setCell ⟨gb271, 1, none⟩ (.slice Ao58 t266.length co58)).setCell ⟨gb271, 2, none⟩ (.int .i64 t269)) = w67 at n0_ n1_ n2_ n3_ n4_ n5_ n6_ n7_ n8_ n9_ n10_ ⊢
           have HO_244001 := n0_
           have HO_251001 := n1_
           have HO_258001 := n2_
           have HO261 := n3_
           have HO268 := n4_
           have BK243 := n5_
           have BK250 := n6_
           have BK257 := n7_
           have BK264 := n8_
           have BK271 := n9_
           have HB := n10_
           clear n0_ n1_ n2_ n3_ n4_ n5_ n6_ n7_ n8_ n9_ n10_
           have n0_ := Aside0.mk (Kd.V_drew HO_244001.out)
           have n1_ := Aside0.mk (Kd.V_drew HO_251001.out)
           have n2_ := Aside0.mk (Kd.V_drew HO_258001.out)
           have n3_ := Aside0.mk (Kd.V_drew HO261.out)
           have n4_ := Aside0.mk (Kd.V_drew HO268.out)
           have n5_ := Aside0.mk (blk_drew BK243.out)
           have n6_ := Aside0.mk (blk_drew BK250.out)
           have n7_ := Aside0.mk (blk_drew BK257.out)
           have n8_ := Aside0.mk (blk_drew BK264.out)
           have n9_ := Aside0.mk (blk_drew BK271.out)
           have n10_ := Aside0.mk (below_drew1 HB.out)
           clear HO_244001
           clear HO_251001
           clear HO_258001
           clear HO261
           clear HO268
           clear BK243
           clear BK250
           clear BK257
           clear BK264
           clear BK271
           clear HB
           have HO_244001 := n0_
           have HO_251001 := n1_
           have HO_258001 := n2_
           have HO261 := n3_
           have HO268 := n4_
           have BK243 := n5_
           have BK250 := n6_
           have BK257 := n7_
           have BK264 := n8_
           have BK271 := n9_
           have HB := n10_
           clear n0_ n1_ n2_ n3_ n4_ n5_ n6_ n7_ n8_ n9_ n10_
           refine start_ (n := 24) (S := fun w' => w'.cell? ⟨gb264, 0, none⟩ = some (.bool t258) ∧ w'.cell? ⟨gb264, 1, none⟩ = some (.slice Ao47 t259.length co47) ∧ w'.cell? ⟨gb264, 2, none⟩ = some (.int .i64 t262) ∧ w'.cell? ⟨gb271, 0, none⟩ = some (.bool t265) ∧ w'.cell? ⟨gb271, 1, none⟩ = some (.slice Ao58 t266.length co58) ∧ w'.cell? ⟨gb271, 2, none⟩ = some (.int .i64 t269) ∧ w'.cell? ⟨gb243, 0, none⟩ = some (.bool t237) ∧ w'.cell? ⟨gb243, 1, none⟩ = some (.slice Ao18 t238.length co18) ∧ w'.cell? ⟨gb243, 2, none⟩ = some (.int .i64 t241) ∧ w'.cell? ⟨gb250, 0, none⟩ = some (.bool t244) ∧ w'.cell? ⟨gb250, 1, none⟩ = some (.slice Ao23 t245.length co23) ∧ w'.cell? ⟨gb250, 2, none⟩ = some (.int .i64 t248)) (ds := []) #[false, false, false, false, false, false, false, false, false, false, false, false, false, false, false, false, false, false, false, false, false, false, false, false] (by kernel_rfl) rfl rfl ⟨(blk_cell BK264.out 0).trans rfl, (blk_cell BK264.out 1).trans rfl, (blk_cell BK264.out 2).trans rfl, (blk_cell BK271.out 0).trans rfl, (blk_cell BK271.out 1).trans rfl, (blk_cell BK271.out 2).trans rfl, (blk_cell BK243.out 0).trans rfl, (blk_cell BK243.out 1).trans rfl, (blk_cell BK243.out 2).trans rfl, (blk_cell BK250.out 0).trans rfl, (blk_cell BK250.out 1).trans rfl, (blk_cell BK250.out 2).trans rfl⟩ (fun hHeld => ?_); refine with_tabW rubriclaw5_DecOrders.tab12 rubriclaw5_DecOrders.bits12 (fun HT_ HW_ => ?_)
           generalize w67.drew = w68 at HO_244001 HO_251001 HO_258001 HO261 HO268 BK243 BK250 BK257 BK264 BK271 HB hHeld ⊢
           refine pure_ (i := 0) (N := some 69) (v := ?_) (a' := ?_) #[true, false, false, false, false, false, false, false, false, false, false, false, false, false, false, false, false, false, false, false, false, false, false, false] rfl rfl (any_of HT_.out (by kernel_rfl)) (fun _ _ _ h => h) (Or.inl ⟨by rfl, ?_⟩) ?_ ?_
           rotate_left
           ·intro w'
            go_simp
            with_reducible rfl
           rotate_left
           ·simp only [Act.put, List.setIfInBounds_toArray, List.set_cons_zero, List.set_cons_succ, i64_w, i32_w]
            rfl
           refine pure_ (i := 1) (N := some 70) (v := ?_) (a' := ?_) #[true, true, false, false, false, false, false, false, false, false, false, false, false, false, false, false, false, false, false, false, false, false, false, false] rfl rfl (any_of HT_.out (by kernel_rfl)) (fun _ _ _ h => h) (Or.inl ⟨by rfl, ?_⟩) ?_ ?_
           rotate_left
           ·intro w'
            go_simp
            with_reducible rfl
           rotate_left
           ·simp only [Act.put, List.setIfInBounds_toArray, List.set_cons_zero, List.set_cons_succ, i64_w, i32_w]
            rfl
           refine pure_ (i := 2) (N := some 71) (v := ?_) (a' := ?_) #[true, true, true, false, false, false, false, false, false, false, false, false, false, false, false, false, false, false, false, false, false, false, false, false] rfl rfl (any_of HT_.out (by kernel_rfl)) (fun _ _ _ h => h) (Or.inl ⟨by rfl, ?_⟩) ?_ ?_
           rotate_left
           ·intro w'
            go_simp
            with_reducible rfl
           rotate_left
           ·simp only [Act.put, List.setIfInBounds_toArray, List.set_cons_zero, List.set_cons_succ, i64_w, i32_w]
            rfl
           refine pure_ (i := 3) (N := some 72) (v := ?_) (a' := ?_) #[true, true, true, true, false, false, false, false, false, false, false, false, false, false, false, false, false, false, false, false, false, false, false, false] rfl rfl (any_of HT_.out (by kernel_rfl)) (fun _ _ _ h => h) (Or.inl ⟨by rfl, ?_⟩) ?_ ?_
           rotate_left
           ·intro w'
            go_simp
            with_reducible rfl
           rotate_left
           ·simp only [Act.put, List.setIfInBounds_toArray, List.set_cons_zero, List.set_cons_succ, i64_w, i32_w]
            rfl
           refine pure_ (i := 4) (N := some 73) (v := ?_) (a' := ?_) #[true, true, true, true, true, false, false, false, false, false, false, false, false, false, false, false, false, false, false, false, false, false, false, false] rfl rfl (any_of HT_.out (by kernel_rfl)) (fun _ _ _ h => h) (Or.inl ⟨by rfl, ?_⟩) ?_ ?_
           rotate_left
           ·intro w'
            go_simp
            with_reducible rfl
           rotate_left
           ·simp only [Act.put, List.setIfInBounds_toArray, List.set_cons_zero, List.set_cons_succ, i64_w, i32_w]
            rfl
           refine take_ (i := 5) (N := some 74) (v := ?_) (a' := ?_) #[true, true, true, true, true, true, false, false, false, false, false, false, false, false, false, false, false, false, false, false, false, false, false, false] rfl rfl (take_ofW HT_.out HW_.out (by kernel_rfl)) (fun _ _ _ h => h) (Or.inl ⟨by rfl, ?_⟩) hHeld ?_ ?_
           rotate_left
           ·rintro w' ⟨s0, s1, s2, s3, s4, s5, s6, s7, s8, s9, s10, s11⟩
            go_simp
            with_reducible rfl
           rotate_left
           ·simp only [Act.put, List.setIfInBounds_toArray, List.set_cons_zero, List.set_cons_succ, i64_w, i32_w]
            rfl
           refine take_ (i := 6) (N := some 75) (v := ?_) (a' := ?_) #[true, true, true, true, true, true, true, false, false, false, false, false, false, false, false, false, false, false, false, false, false, false, false, false] rfl rfl (take_ofW HT_.out HW_.out (by kernel_rfl)) (fun _ _ _ h => h) (Or.inl ⟨by rfl, ?_⟩) hHeld ?_ ?_
           rotate_left
           ·rintro w' ⟨s0, s1, s2, s3, s4, s5, s6, s7, s8, s9, s10, s11⟩
            go_simp
            with_reducible rfl
           rotate_left
           ·simp only [Act.put, List.setIfInBounds_toArray, List.set_cons_zero, List.set_cons_succ, i64_w, i32_w]
            rfl
           refine take_ (i := 8) (N := some 77) (v := ?_) (a' := ?_) #[true, true, true, true, true, true, true, false, true, false, false, false, false, false, false, false, false, false, false, false, false, false, false, false] rfl rfl (take_ofW HT_.out HW_.out (by kernel_rfl)) (fun _ _ _ h => h) (Or.inl ⟨by rfl, ?_⟩) hHeld ?_ ?_
           rotate_left
           ·rintro w' ⟨s0, s1, s2, s3, s4, s5, s6, s7, s8, s9, s10, s11⟩
            go_simp
            with_reducible rfl
           rotate_left
           ·simp only [Act.put, List.setIfInBounds_toArray, List.set_cons_zero, List.set_cons_succ, i64_w, i32_w]
            rfl
           refine take_ (i := 9) (N := some 78) (v := ?_) (a' := ?_) #[true, true, true, true, true, true, true, false, true, true, false, false, false, false, false, false, false, false, false, false, false, false, false, false] rfl rfl (take_ofW HT_.out HW_.out (by kernel_rfl)) (fun _ _ _ h => h) (Or.inl ⟨by rfl, ?_⟩) hHeld ?_ ?_
           rotate_left
           ·rintro w' ⟨s0, s1, s2, s3, s4, s5, s6, s7, s8, s9, s10, s11⟩
            go_simp
            with_reducible rfl
           rotate_left
           ·simp only [Act.put, List.setIfInBounds_toArray, List.set_cons_zero, List.set_cons_succ, i64_w, i32_w]
            rfl
           refine one_ (i := 7) (N := some 76) #[true, true, true, true, true, true, true, true, true, true, false, false, false, false, false, false, false, false, false, false, false, false, false, false] rfl rfl (one_of HT_.out (by kernel_rfl)) (by decide) (fun K hK => ?_)
           refine goes_ Try.func8 (by kernel_rfl) rfl #[.agg #[.bool t258, .slice Ao47 t259.length co47, .int .i64 t262], .agg #[.bool t265, .slice Ao58 t266.length co58, .int .i64 t269]] (by rfl) rfl rfl (by (try simp only [List.map_toArray, List.map_cons, List.map_nil]); first | done | rfl | (simp only [List.length_drop, List.length_take]; rfl)) ?_
           with_reducible refine (dec_Cmp.calls kj13 t258 _ _ t259 t262 t265 _ _ t266 t269 t272 _ ?side1 ?side2 ?side3 ?side4 A60.out).mono ?_
           (case side1 => repeat (first | exact (Kd.V_reads' HO261.out).2.2 | (with_reducible refine Kd.C_alloc ?_ _) | (with_reducible refine Kd.C_drewN ?_ _) | (with_reducible refine Kd.C_drew ?_)))
           (case side2 => exact (Kd.V_reads' HO261.out).2.1)
           (case side3 => repeat (first | exact (Kd.V_reads' HO268.out).2.2 | (with_reducible refine Kd.C_alloc ?_ _) | (with_reducible refine Kd.C_drewN ?_ _) | (with_reducible refine Kd.C_drew ?_)))
           (case side4 => exact (Kd.V_reads' HO268.out).2.1)
           rintro e w69 ⟨rfl, hb⟩
           refine ⟨_, rfl, ?_⟩
           have n0_ := Aside0.mk (Kd.V_below (S.v HO_244001.out) hb)
           have n1_ := Aside0.mk (Kd.V_below (S.v HO_251001.out) hb)
           have n2_ := Aside0.mk (Kd.V_below (S.v HO_258001.out) hb)
           have n3_ := Aside0.mk (Kd.V_below (S.v HO261.out) hb)
           have n4_ := Aside0.mk (Kd.V_below (S.v HO268.out) hb)
           have n5_ := Aside0.mk (blk_below (g := gb243) (o := .cells #[.bool t237, .slice Ao18 t238.length co18, .int .i64 t241] 25 (0, 0)) (S.b BK243.out) hb)
           have n6_ := Aside0.mk (blk_below (g := gb250) (o := .cells #[.bool t244, .slice Ao23 t245.length co23, .int .i64 t248] 25 (0, 0)) (S.b BK250.out) hb)
           have n7_ := Aside0.mk (blk_below (g := gb257) (o := .cells #[.bool t251, .slice Ao29 t252.length co29, .int .i64 t255] 25 (0, 0)) (S.b BK257.out) hb)
           have n8_ := Aside0.mk (blk_below (g := gb264) (o := .cells #[.bool t258, .slice Ao47 t259.length co47, .int .i64 t262] 25 (0, 0)) (S.b BK264.out) hb)
           have n9_ := Aside0.mk (blk_below (g := gb271) (o := .cells #[.bool t265, .slice Ao58 t266.length co58, .int .i64 t269] 25 (0, 0)) (S.b BK271.out) hb)
           have n10_ := Aside0.mk (below_step (by repeat (first | (with_reducible first | exact HB.out | apply below_alloc | apply pw_below_drewN | apply below_drew1 | refine below_set ?_ GE243.out | refine below_set ?_ GE250.out | refine below_set ?_ GE257.out | refine below_set ?_ GE264.out | refine below_set ?_ GE271.out) | exact HB.out)) hb)
           clear HO_244001
           clear HO_251001
           clear HO_258001
           clear HO261
           clear HO268
           clear BK243
           clear BK250
           clear BK257
           clear BK264
           clear BK271
           clear HB
           have HO_244001 := n0_
           have HO_251001 := n1_
           have HO_258001 := n2_
           have HO261 := n3_
           have HO268 := n4_
           have BK243 := n5_
           have BK250 := n6_
           have BK257 := n7_
           have BK264 := n8_
           have BK271 := n9_
           have HB := n10_
           clear n0_ n1_ n2_ n3_ n4_ n5_ n6_ n7_ n8_ n9_ n10_
           (try clear hb)
           (try clear hb2)
           (try clear hk)
           (try clear hi)
           refine hK.out _ _ ⟨(blk_cell BK264.out 0).trans rfl, (blk_cell BK264.out 1).trans rfl, (blk_cell BK264.out 2).trans rfl, (blk_cell BK271.out 0).trans rfl, (blk_cell BK271.out 1).trans rfl, (blk_cell BK271.out 2).trans rfl, (blk_cell BK243.out 0).trans rfl, (blk_cell BK243.out 1).trans rfl, (blk_cell BK243.out 2).trans rfl, (blk_cell BK250.out 0).trans rfl, (blk_cell BK250.out 1).trans rfl, (blk_cell BK250.out 2).trans rfl⟩ (fun hHeld => ?_)
           clear hK K
           refine norm_ (a' := ?_) ?_ ?_
           rotate_left
           ·show Act.put _ (some 76) _ = _
            simp only [Act.put, List.setIfInBounds_toArray, List.set_cons_zero, List.set_cons_succ, i64_w, i32_w]
            rfl
           refine one_ (i := 10) (N := some 79) #[true, true, true, true, true, true, true, true, true, true, true, false, false, false, false, false, false, false, false, false, false, false, false, false] rfl rfl (one_of HT_.out (by kernel_rfl)) (by decide) (fun K hK => ?_)
           refine goes_ Try.func8 (by kernel_rfl) rfl #[.agg #[.bool t237, .slice Ao18 t238.length co18, .int .i64 t241], .agg #[.bool t244, .slice Ao23 t245.length co23, .int .i64 t248]] (by rfl) rfl rfl (by (try simp only [List.map_toArray, List.map_cons, List.map_nil]); first | done | rfl | (simp only [List.length_drop, List.length_take]; rfl)) ?_
           with_reducible refine (dec_Cmp.calls kj13 t237 _ _ t238 t241 t244 _ _ t245 t248 t273 _ ?side1 ?side2 ?side3 ?side4 A61.out).mono ?_
           (case side1 => repeat (first | exact (Kd.V_reads' HO_244001.out).2.2 | (with_reducible refine Kd.C_alloc ?_ _) | (with_reducible refine Kd.C_drewN ?_ _) | (with_reducible refine Kd.C_drew ?_)))
           (case side2 => exact (Kd.V_reads' HO_244001.out).2.1)
           (case side3 => repeat (first | exact (Kd.V_reads' HO_251001.out).2.2 | (with_reducible refine Kd.C_alloc ?_ _) | (with_reducible refine Kd.C_drewN ?_ _) | (with_reducible refine Kd.C_drew ?_)))
           (case side4 => exact (Kd.V_reads' HO_251001.out).2.1)
           rintro e w70 ⟨rfl, hb⟩
           refine ⟨_, rfl, ?_⟩
           have n0_ := Aside0.mk (Kd.V_below (S.v HO_244001.out) hb)
           have n1_ := Aside0.mk (Kd.V_below (S.v HO_251001.out) hb)
           have n2_ := Aside0.mk (Kd.V_below (S.v HO_258001.out) hb)
           have n3_ := Aside0.mk (Kd.V_below (S.v HO261.out) hb)
           have n4_ := Aside0.mk (Kd.V_below (S.v HO268.out) hb)
           have n5_ := Aside0.mk (blk_below (g := gb243) (o := .cells #[.bool t237, .slice Ao18 t238.length co18, .int .i64 t241] 25 (0, 0)) (S.b BK243.out) hb)
           have n6_ := Aside0.mk (blk_below (g := gb250) (o := .cells #[.bool t244, .slice Ao23 t245.length co23, .int .i64 t248] 25 (0, 0)) (S.b BK250.out) hb)
           have n7_ := Aside0.mk (blk_below (g := gb257) (o := .cells #[.bool t251, .slice Ao29 t252.length co29, .int .i64 t255] 25 (0, 0)) (S.b BK257.out) hb)
           have n8_ := Aside0.mk (blk_below (g := gb264) (o := .cells #[.bool t258, .slice Ao47 t259.length co47, .int .i64 t262] 25 (0, 0)) (S.b BK264.out) hb)
           have n9_ := Aside0.mk (blk_below (g := gb271) (o := .cells #[.bool t265, .slice Ao58 t266.length co58, .int .i64 t269] 25 (0, 0)) (S.b BK271.out) hb)
           have n10_ := Aside0.mk (below_step (by repeat (first | (with_reducible first | exact HB.out | apply below_alloc | apply pw_below_drewN | apply below_drew1 | refine below_set ?_ GE243.out | refine below_set ?_ GE250.out | refine below_set ?_ GE257.out | refine below_set ?_ GE264.out | refine below_set ?_ GE271.out) | exact HB.out)) hb)
           clear HO_244001
           clear HO_251001
           clear HO_258001
           clear HO261
           clear HO268
           clear BK243
           clear BK250
           clear BK257
           clear BK264
           clear BK271
           clear HB
           have HO_244001 := n0_
           have HO_251001 := n1_
           have HO_258001 := n2_
           have HO261 := n3_
           have HO268 := n4_
           have BK243 := n5_
           have BK250 := n6_
           have BK257 := n7_
           have BK264 := n8_
           have BK271 := n9_
           have HB := n10_
           clear n0_ n1_ n2_ n3_ n4_ n5_ n6_ n7_ n8_ n9_ n10_
           (try clear hb)
           (try clear hb2)
           (try clear hk)
           (try clear hi)
           refine hK.out _ _ ⟨(blk_cell BK264.out 0).trans rfl, (blk_cell BK264.out 1).trans rfl, (blk_cell BK264.out 2).trans rfl, (blk_cell BK271.out 0).trans rfl, (blk_cell BK271.out 1).trans rfl, (blk_cell BK271.out 2).trans rfl, (blk_cell BK243.out 0).trans rfl, (blk_cell BK243.out 1).trans rfl, (blk_cell BK243.out 2).trans rfl, (blk_cell BK250.out 0).trans rfl, (blk_cell BK250.out 1).trans rfl, (blk_cell BK250.out 2).trans rfl⟩ (fun hHeld => ?_)
           clear hK K
           refine norm_ (a' := ?_) ?_ ?_
           rotate_left
           ·show Act.put _ (some 79) _ = _
            simp only [Act.put, List.setIfInBounds_toArray, List.set_cons_zero, List.set_cons_succ, i64_w, i32_w]
            rfl
           refine pure_ (i := 11) (N := some 80) (v := ?_) (a' := ?_) #[true, true, true, true, true, true, true, true, true, true, true, true, false, false, false, false, false, false, false, false, false, false, false, false] rfl rfl (any_of HT_.out (by kernel_rfl)) (fun _ _ _ h => h) (Or.inl ⟨by rfl, ?_⟩) ?_ ?_
           rotate_left
           ·intro w'
            go_simp
            with_reducible rfl
           rotate_left
           ·simp only [Act.put, List.setIfInBounds_toArray, List.set_cons_zero, List.set_cons_succ, i64_w, i32_w]
            rfl
           refine pure_ (i := 12) (N := some 81) (v := ?_) (a' := ?_) #[true, true, true, true, true, true, true, true, true, true, true, true, true, false, false, false, false, false, false, false, false, false, false, false] rfl rfl (any_of HT_.out (by kernel_rfl)) (fun _ _ _ h => h) (Or.inl ⟨by rfl, ?_⟩) ?_ ?_
           rotate_left
           ·intro w'
            go_simp
            with_reducible rfl
           rotate_left
           ·simp only [Act.put, List.setIfInBounds_toArray, List.set_cons_zero, List.set_cons_succ, i64_w, i32_w]
            rfl
           refine pure_ (i := 13) (N := some 82) (v := ?_) (a' := ?_) #[true, true, true, true, true, true, true, true, true, true, true, true, true, true, false, false, false, false, false, false, false, false, false, false] rfl rfl (any_of HT_.out (by kernel_rfl)) (fun _ _ _ h => h) (Or.inl ⟨by rfl, ?_⟩) ?_ ?_
           rotate_left
           ·intro w'
            go_simp
            with_reducible rfl
           rotate_left
           ·simp only [Act.put, List.setIfInBounds_toArray, List.set_cons_zero, List.set_cons_succ, i64_w, i32_w]
            rfl
           refine take_ (i := 14) (N := some 83) (v := ?_) (a' := ?_) #[true, true, true, true, true, true, true, true, true, true, true, true, true, true, true, false, false, false, false, false, false, false, false, false] rfl rfl (take_ofW HT_.out HW_.out (by kernel_rfl)) (fun _ _ _ h => h) (Or.inl ⟨by rfl, ?_⟩) hHeld ?_ ?_
           rotate_left
           ·rintro w' ⟨s0, s1, s2, s3, s4, s5, s6, s7, s8, s9, s10, s11⟩
            go_simp
            with_reducible rfl
           rotate_left
           ·simp only [Act.put, List.setIfInBounds_toArray, List.set_cons_zero, List.set_cons_succ, i64_w, i32_w]
            rfl
           refine take_ (i := 16) (N := some 85) (v := ?_) (a' := ?_) #[true, true, true, true, true, true, true, true, true, true, true, true, true, true, true, false, true, false, false, false, false, false, false, false] rfl rfl (take_ofW HT_.out HW_.out (by kernel_rfl)) (fun _ _ _ h => h) (Or.inl ⟨by rfl, ?_⟩) hHeld ?_ ?_
           rotate_left
           ·rintro w' ⟨s0, s1, s2, s3, s4, s5, s6, s7, s8, s9, s10, s11⟩
            go_simp
            with_reducible rfl
           rotate_left
           ·simp only [Act.put, List.setIfInBounds_toArray, List.set_cons_zero, List.set_cons_succ, i64_w, i32_w]
            rfl
           refine take_ (i := 19) (N := some 88) (v := ?_) (a' := ?_) #[true, true, true, true, true, true, true, true, true, true, true, true, true, true, true, false, true, false, false, true, false, false, false, false] rfl rfl (take_ofW HT_.out HW_.out (by kernel_rfl)) (fun _ _ _ h => h) (Or.inl ⟨by rfl, ?_⟩) hHeld ?_ ?_
           rotate_left
           ·rintro w' ⟨s0, s1, s2, s3, s4, s5, s6, s7, s8, s9, s10, s11⟩
            go_simp
            with_reducible rfl
           rotate_left
           ·simp only [Act.put, List.setIfInBounds_toArray, List.set_cons_zero, List.set_cons_succ, i64_w, i32_w]
            rfl
           refine take_ (i := 20) (N := some 89) (v := ?_) (a' := ?_) #[true, true, true, true, true, true, true, true, true, true, true, true, true, true, true, false, true, false, false, true, true, false, false, false] rfl rfl (take_ofW HT_.out HW_.out (by kernel_rfl)) (fun _ _ _ h => h) (Or.inl ⟨by rfl, ?_⟩) hHeld ?_ ?_
           rotate_left
           ·rintro w' ⟨s0, s1, s2, s3, s4, s5, s6, s7, s8, s9, s10, s11⟩
            go_simp
            with_reducible rfl
           rotate_left
           ·simp only [Act.put, List.setIfInBounds_toArray, List.set_cons_zero, List.set_cons_succ, i64_w, i32_w]
            rfl
           refine one_ (i := 15) (N := some 84) #[true, true, true, true, true, true, true, true, true, true, true, true, true, true, true, true, true, false, false, true, true, false, false, false] rfl rfl (one_of HT_.out (by kernel_rfl)) (by decide) (fun K hK => ?_)
           refine goes_ Try.func13 (by kernel_rfl) rfl #[.agg #[.bool t237, .slice Ao18 t238.length co18, .int .i64 t241]] (by rfl) rfl rfl (by (try simp only [List.map_toArray, List.map_cons, List.map_nil]); first | done | rfl | (simp only [List.length_drop, List.length_take]; rfl)) ?_
           with_reducible refine (dec_Neg.calls t237 _ _ t238 t241 t274 t275 t278 _ ?side1 ?side2 A63.out).mono ?_
           (case side1 => repeat (first | exact (Kd.V_reads' HO_244001.out).2.2 | (with_reducible refine Kd.C_alloc ?_ _) | (with_reducible refine Kd.C_drewN ?_ _) | (with_reducible refine Kd.C_drew ?_)))
           (case side2 => exact (Kd.V_reads' HO_244001.out).2.1)
           rintro e w71 ⟨v276, rfl, ho0, hb⟩
           refine ⟨_, rfl, ?_⟩
           have n0_ := Aside0.mk (Kd.V_elder' (S.v HO_244001.out) (Kd.R_base ho0) hb)
           have n1_ := Aside0.mk (Kd.V_elder' (S.v HO_251001.out) (Kd.R_base ho0) hb)
           have n2_ := Aside0.mk (Kd.V_elder' (S.v HO_258001.out) (Kd.R_base ho0) hb)
           have n3_ := Aside0.mk (Kd.V_elder' (S.v HO261.out) (Kd.R_base ho0) hb)
           have n4_ := Aside0.mk (Kd.V_elder' (S.v HO268.out) (Kd.R_base ho0) hb)
           have n5_ := Aside0.mk (Kd.R_lower ho0 (below_size (by repeat (first | (with_reducible first | exact HB.out | apply below_alloc | apply pw_below_drewN | apply below_drew1 | refine below_set ?_ GE243.out | refine below_set ?_ GE250.out | refine below_set ?_ GE257.out | refine below_set ?_ GE264.out | refine below_set ?_ GE271.out) | exact HB.out))))
           have n6_ := Aside0.mk (blk_below (g := gb243) (o := .cells #[.bool t237, .slice Ao18 t238.length co18, .int .i64 t241] 25 (0, 0)) (S.b BK243.out) hb)
           have n7_ := Aside0.mk (blk_below (g := gb250) (o := .cells #[.bool t244, .slice Ao23 t245.length co23, .int .i64 t248] 25 (0, 0)) (S.b BK250.out) hb)
           have n8_ := Aside0.mk (blk_below (g := gb257) (o := .cells #[.bool t251, .slice Ao29 t252.length co29, .int .i64 t255] 25 (0, 0)) (S.b BK257.out) hb)
           have n9_ := Aside0.mk (blk_below (g := gb264) (o := .cells #[.bool t258, .slice Ao47 t259.length co47, .int .i64 t262] 25 (0, 0)) (S.b BK264.out) hb)
           have n10_ := Aside0.mk (blk_below (g := gb271) (o := .cells #[.bool t265, .slice Ao58 t266.length co58, .int .i64 t269] 25 (0, 0)) (S.b BK271.out) hb)
           have n11_ := Aside0.mk (below_step (by repeat (first | (with_reducible first | exact HB.out | apply below_alloc | apply pw_below_drewN | apply below_drew1 | refine below_set ?_ GE243.out | refine below_set ?_ GE250.out | refine below_set ?_ GE257.out | refine below_set ?_ GE264.out | refine below_set ?_ GE271.out) | exact HB.out)) hb)
           clear HO_244001
           clear HO_251001
           clear HO_258001
           clear HO261
           clear HO268
           clear BK243
           clear BK250
           clear BK257
           clear BK264
           clear BK271
           clear HB
           have HO_244001 := n0_
           have HO_251001 := n1_
           have HO_258001 := n2_
           have HO261 := n3_
           have HO268 := n4_
           have HO277 := n5_
           have BK243 := n6_
           have BK250 := n7_
           have BK257 := n8_
           have BK264 := n9_
           have BK271 := n10_
           have HB := n11_
           clear n0_ n1_ n2_ n3_ n4_ n5_ n6_ n7_ n8_ n9_ n10_ n11_
           (try clear hb)
           (try clear hb2)
           (try clear hk)
           (try clear hi)
           (try clear ho0)
           refine hK.out _ _ ⟨(blk_cell BK264.out 0).trans rfl, (blk_cell BK264.out 1).trans rfl, (blk_cell BK264.out 2).trans rfl, (blk_cell BK271.out 0).trans rfl, (blk_cell BK271.out 1).trans rfl, (blk_cell BK271.out 2).trans rfl, (blk_cell BK243.out 0).trans rfl, (blk_cell BK243.out 1).trans rfl, (blk_cell BK243.out 2).trans rfl, (blk_cell BK250.out 0).trans rfl, (blk_cell BK250.out 1).trans rfl, (blk_cell BK250.out 2).trans rfl⟩ (fun hHeld => ?_)
           clear hK K
           refine norm_ (a' := ?_) ?_ ?_
           rotate_left
           ·show Act.put _ (some 84) _ = _
            simp only [Act.put, List.setIfInBounds_toArray, List.set_cons_zero, List.set_cons_succ, i64_w, i32_w]
            rfl
           refine one_ (i := 17) (N := some 86) #[true, true, true, true, true, true, true, true, true, true, true, true, true, true, true, true, true, true, false, true, true, false, false, false] rfl rfl (one_of HT_.out (by kernel_rfl)) (by decide) (fun K hK => ?_)
           refine goes_ Try.func13 (by kernel_rfl) rfl #[.agg #[.bool t244, .slice Ao23 t245.length co23, .int .i64 t248]] (by rfl) rfl rfl (by (try simp only [List.map_toArray, List.map_cons, List.map_nil]); first | done | rfl | (simp only [List.length_drop, List.length_take]; rfl)) ?_
           with_reducible refine (dec_Neg.calls t244 _ _ t245 t248 t279 t280 t283 _ ?side1 ?side2 A64.out).mono ?_
           (case side1 => repeat (first | exact (Kd.V_reads' HO_251001.out).2.2 | (with_reducible refine Kd.C_alloc ?_ _) | (with_reducible refine Kd.C_drewN ?_ _) | (with_reducible refine Kd.C_drew ?_)))
           (case side2 => exact (Kd.V_reads' HO_251001.out).2.1)
           rintro e w72 ⟨v281, rfl, ho0, hb⟩
           refine ⟨_, rfl, ?_⟩
           have n0_ := Aside0.mk (Kd.V_elder' (S.v HO_244001.out) (Kd.R_base ho0) hb)
           have n1_ := Aside0.mk (Kd.V_elder' (S.v HO_251001.out) (Kd.R_base ho0) hb)
           have n2_ := Aside0.mk (Kd.V_elder' (S.v HO_258001.out) (Kd.R_base ho0) hb)
           have n3_ := Aside0.mk (Kd.V_elder' (S.v HO261.out) (Kd.R_base ho0) hb)
           have n4_ := Aside0.mk (Kd.V_elder' (S.v HO268.out) (Kd.R_base ho0) hb)
           have n5_ := Aside0.mk (Kd.R_elder' (S.r HO277.out) (Kd.R_base ho0) hb)
           have n6_ := Aside0.mk (Kd.R_lower (Kd.R_new' ho0 (Kd.R_lt (S.r HO277.out))) (below_size (by repeat (first | (with_reducible first | exact HB.out | apply below_alloc | apply pw_below_drewN | apply below_drew1 | refine below_set ?_ GE243.out | refine below_set ?_ GE250.out | refine below_set ?_ GE257.out | refine below_set ?_ GE264.out | refine below_set ?_ GE271.out) | exact HB.out))))
           have n7_ := Aside0.mk (blk_below (g := gb243) (o := .cells #[.bool t237, .slice Ao18 t238.length co18, .int .i64 t241] 25 (0, 0)) (S.b BK243.out) hb)
           have n8_ := Aside0.mk (blk_below (g := gb250) (o := .cells #[.bool t244, .slice Ao23 t245.length co23, .int .i64 t248] 25 (0, 0)) (S.b BK250.out) hb)
           have n9_ := Aside0.mk (blk_below (g := gb257) (o := .cells #[.bool t251, .slice Ao29 t252.length co29, .int .i64 t255] 25 (0, 0)) (S.b BK257.out) hb)
           have n10_ := Aside0.mk (blk_below (g := gb264) (o := .cells #[.bool t258, .slice Ao47 t259.length co47, .int .i64 t262] 25 (0, 0)) (S.b BK264.out) hb)
           have n11_ := Aside0.mk (blk_below (g := gb271) (o := .cells #[.bool t265, .slice Ao58 t266.length co58, .int .i64 t269] 25 (0, 0)) (S.b BK271.out) hb)
           have n12_ := Aside0.mk (below_step (by repeat (first | (with_reducible first | exact HB.out | apply below_alloc | apply pw_below_drewN | apply below_drew1 | refine below_set ?_ GE243.out | refine below_set ?_ GE250.out | refine below_set ?_ GE257.out | refine below_set ?_ GE264.out | refine below_set ?_ GE271.out) | exact HB.out)) hb)
           clear HO_244001
           clear HO_251001
           clear HO_258001
           clear HO261
           clear HO268
           clear HO277
           clear BK243
           clear BK250
           clear BK257
           clear BK264
           clear BK271
           clear HB
           have HO_244001 := n0_
           have HO_251001 := n1_
           have HO_258001 := n2_
           have HO261 := n3_
           have HO268 := n4_
           have HO277 := n5_
           have HO282 := n6_
           have BK243 := n7_
           have BK250 := n8_
           have BK257 := n9_
           have BK264 := n10_
           have BK271 := n11_
           have HB := n12_
           clear n0_ n1_ n2_ n3_ n4_ n5_ n6_ n7_ n8_ n9_ n10_ n11_ n12_
           (try clear hb)
           (try clear hb2)
           (try clear hk)
           (try clear hi)
           (try clear ho0)
           obtain ⟨Ao73, co73, eo73⟩ := Kd.R_slice HO277.out
           (first | subst eo73 | (injection eo73 with f1_ f2_ f3_; have f4_ := f1_.symm; have f5_ := f3_.symm; clear f1_ f2_ f3_; subst f4_; subst f5_))
           obtain ⟨Ao74, co74, eo74⟩ := Kd.R_slice HO282.out
           (first | subst eo74 | (injection eo74 with f1_ f2_ f3_; have f4_ := f1_.symm; have f5_ := f3_.symm; clear f1_ f2_ f3_; subst f4_; subst f5_))
           refine hK.out _ _ ⟨(blk_cell BK264.out 0).trans rfl, (blk_cell BK264.out 1).trans rfl, (blk_cell BK264.out 2).trans rfl, (blk_cell BK271.out 0).trans rfl, (blk_cell BK271.out 1).trans rfl, (blk_cell BK271.out 2).trans rfl, (blk_cell BK243.out 0).trans rfl, (blk_cell BK243.out 1).trans rfl, (blk_cell BK243.out 2).trans rfl, (blk_cell BK250.out 0).trans rfl, (blk_cell BK250.out 1).trans rfl, (blk_cell BK250.out 2).trans rfl⟩ (fun hHeld => ?_)
           clear hK K
           refine norm_ (a' := ?_) ?_ ?_
           rotate_left
           ·show Act.put _ (some 86) _ = _
            simp only [Act.put, List.setIfInBounds_toArray, List.set_cons_zero, List.set_cons_succ, i64_w, i32_w]
            rfl
           refine one_ (i := 18) (N := some 87) #[true, true, true, true, true, true, true, true, true, true, true, true, true, true, true, true, true, true, true, true, true, false, false, false] rfl rfl (one_of HT_.out (by kernel_rfl)) (by decide) (fun K hK => ?_)
           refine goes_ Try.func8 (by kernel_rfl) rfl #[.agg #[.bool t274, .slice Ao73 t275.length co73, .int .i64 t278], .agg #[.bool t279, .slice Ao74 t280.length co74, .int .i64 t283]] (by rfl) rfl rfl (by (try simp only [List.map_toArray, List.map_cons, List.map_nil]); first | done | rfl | (simp only [List.length_drop, List.length_take]; rfl)) ?_
           with_reducible refine (dec_Cmp.calls kj13 t274 _ _ t275 t278 t279 _ _ t280 t283 t284 _ ?side1 ?side2 ?side3 ?side4 A65.out).mono ?_
           (case side1 => repeat (first | exact (Kd.R_reads' HO277.out).2.2 | (with_reducible refine Kd.C_alloc ?_ _) | (with_reducible refine Kd.C_drewN ?_ _) | (with_reducible refine Kd.C_drew ?_)))
           (case side2 => exact (Kd.R_reads' HO277.out).2.1)
           (case side3 => repeat (first | exact (Kd.R_reads' HO282.out).2.2 | (with_reducible refine Kd.C_alloc ?_ _) | (with_reducible refine Kd.C_drewN ?_ _) | (with_reducible refine Kd.C_drew ?_)))
           (case side4 => exact (Kd.R_reads' HO282.out).2.1)
           rintro e w75 ⟨rfl, hb⟩
           refine ⟨_, rfl, ?_⟩
           have n0_ := Aside0.mk (Kd.V_below (S.v HO_244001.out) hb)
           have n1_ := Aside0.mk (Kd.V_below (S.v HO_251001.out) hb)
           have n2_ := Aside0.mk (Kd.V_below (S.v HO_258001.out) hb)
           have n3_ := Aside0.mk (Kd.V_below (S.v HO261.out) hb)
           have n4_ := Aside0.mk (Kd.V_below (S.v HO268.out) hb)
           have n5_ := Aside0.mk (Kd.R_below (S.r HO277.out) hb)
           have n6_ := Aside0.mk (Kd.R_below (S.r HO282.out) hb)
           have n7_ := Aside0.mk (blk_below (g := gb243) (o := .cells #[.bool t237, .slice Ao18 t238.length co18, .int .i64 t241] 25 (0, 0)) (S.b BK243.out) hb)
           have n8_ := Aside0.mk (blk_below (g := gb250) (o := .cells #[.bool t244, .slice Ao23 t245.length co23, .int .i64 t248] 25 (0, 0)) (S.b BK250.out) hb)
           have n9_ := Aside0.mk (blk_below (g := gb257) (o := .cells #[.bool t251, .slice Ao29 t252.length co29, .int .i64 t255] 25 (0, 0)) (S.b BK257.out) hb)
           have n10_ := Aside0.mk (blk_below (g := gb264) (o := .cells #[.bool t258, .slice Ao47 t259.length co47, .int .i64 t262] 25 (0, 0)) (S.b BK264.out) hb)
           have n11_ := Aside0.mk (blk_below (g := gb271) (o := .cells #[.bool t265, .slice Ao58 t266.length co58, .int .i64 t269] 25 (0, 0)) (S.b BK271.out) hb)
           have n12_ := Aside0.mk (below_step (by repeat (first | (with_reducible first | exact HB.out | apply below_alloc | apply pw_below_drewN | apply below_drew1 | refine below_set ?_ GE243.out | refine below_set ?_ GE250.out | refine below_set ?_ GE257.out | refine below_set ?_ GE264.out | refine below_set ?_ GE271.out) | exact HB.out)) hb)
           clear HO_244001
           clear HO_251001
           clear HO_258001
           clear HO261
           clear HO268
           clear HO277
           clear HO282
           clear BK243
           clear BK250
           clear BK257
           clear BK264
           clear BK271
           clear HB
           have HO_244001 := n0_
           have HO_251001 := n1_
           have HO_258001 := n2_
           have HO261 := n3_
           have HO268 := n4_
           have HO277 := n5_
           have HO282 := n6_
           have BK243 := n7_
           have BK250 := n8_
           have BK257 := n9_
           have BK264 := n10_
           have BK271 := n11_
           have HB := n12_
           clear n0_ n1_ n2_ n3_ n4_ n5_ n6_ n7_ n8_ n9_ n10_ n11_ n12_
           (try clear hb)
           (try clear hb2)
           (try clear hk)
           (try clear hi)
           refine hK.out _ _ ⟨(blk_cell BK264.out 0).trans rfl, (blk_cell BK264.out 1).trans rfl, (blk_cell BK264.out 2).trans rfl, (blk_cell BK271.out 0).trans rfl, (blk_cell BK271.out 1).trans rfl, (blk_cell BK271.out 2).trans rfl, (blk_cell BK243.out 0).trans rfl, (blk_cell BK243.out 1).trans rfl, (blk_cell BK243.out 2).trans rfl, (blk_cell BK250.out 0).trans rfl, (blk_cell BK250.out 1).trans rfl, (blk_cell BK250.out 2).trans rfl⟩ (fun hHeld => ?_)
           clear hK K
           refine norm_ (a' := ?_) ?_ ?_
           rotate_left
           ·show Act.put _ (some 87) _ = _
            simp only [Act.put, List.setIfInBounds_toArray, List.set_cons_zero, List.set_cons_succ, i64_w, i32_w]
            rfl
           refine one_ (i := 21) (N := some 90) #[true, true, true, true, true, true, true, true, true, true, true, true, true, true, true, true, true, true, true, true, true, true, false, false] rfl rfl (one_of HT_.out (by kernel_rfl)) (by decide) (fun K hK => ?_)
           refine goes_ Try.func8 (by kernel_rfl) rfl #[.agg #[.bool t244, .slice Ao23 t245.length co23, .int .i64 t248], .agg #[.bool t237, .slice Ao18 t238.length co18, .int .i64 t241]] (by rfl) rfl rfl (by (try simp only [List.map_toArray, List.map_cons, List.map_nil]); first | done | rfl | (simp only [List.length_drop, List.length_take]; rfl)) ?_
           with_reducible refine (dec_Cmp.calls kj13 t244 _ _ t245 t248 t237 _ _ t238 t241 t285 _ ?side1 ?side2 ?side3 ?side4 A66.out).mono ?_
           (case side1 => repeat (first | exact (Kd.V_reads' HO_251001.out).2.2 | (with_reducible refine Kd.C_alloc ?_ _) | (with_reducible refine Kd.C_drewN ?_ _) | (with_reducible refine Kd.C_drew ?_)))
           (case side2 => exact (Kd.V_reads' HO_251001.out).2.1)
           (case side3 => repeat (first | exact (Kd.V_reads' HO_244001.out).2.2 | (with_reducible refine Kd.C_alloc ?_ _) | (with_reducible refine Kd.C_drewN ?_ _) | (with_reducible refine Kd.C_drew ?_)))
           (case side4 => exact (Kd.V_reads' HO_244001.out).2.1)
           rintro e w76 ⟨rfl, hb⟩
           refine ⟨_, rfl, ?_⟩
           have n0_ := Aside0.mk (Kd.V_below (S.v HO_244001.out) hb)
           have n1_ := Aside0.mk (Kd.V_below (S.v HO_251001.out) hb)
           have n2_ := Aside0.mk (Kd.V_below (S.v HO_258001.out) hb)
           have n3_ := Aside0.mk (Kd.V_below (S.v HO261.out) hb)
           have n4_ := Aside0.mk (Kd.V_below (S.v HO268.out) hb)
           have n5_ := Aside0.mk (Kd.R_below (S.r HO277.out) hb)
           have n6_ := Aside0.mk (Kd.R_below (S.r HO282.out) hb)
           have n7_ := Aside0.mk (blk_below (g := gb243) (o := .cells #[.bool t237, .slice Ao18 t238.length co18, .int .i64 t241] 25 (0, 0)) (S.b BK243.out) hb)
           have n8_ := Aside0.mk (blk_below (g := gb250) (o := .cells #[.bool t244, .slice Ao23 t245.length co23, .int .i64 t248] 25 (0, 0)) (S.b BK250.out) hb)
           have n9_ := Aside0.mk (blk_below (g := gb257) (o := .cells #[.bool t251, .slice Ao29 t252.length co29, .int .i64 t255] 25 (0, 0)) (S.b BK257.out) hb)
           have n10_ := Aside0.mk (blk_below (g := gb264) (o := .cells #[.bool t258, .slice Ao47 t259.length co47, .int .i64 t262] 25 (0, 0)) (S.b BK264.out) hb)
           have n11_ := Aside0.mk (blk_below (g := gb271) (o := .cells #[.bool t265, .slice Ao58 t266.length co58, .int .i64 t269] 25 (0, 0)) (S.b BK271.out) hb)
           have n12_ := Aside0.mk (below_step (by repeat (first | (with_reducible first | exact HB.out | apply below_alloc | apply pw_below_drewN | apply below_drew1 | refine below_set ?_ GE243.out | refine below_set ?_ GE250.out | refine below_set ?_ GE257.out | refine below_set ?_ GE264.out | refine below_set ?_ GE271.out) | exact HB.out)) hb)
           clear HO_244001
           clear HO_251001
           clear HO_258001
           clear HO261
           clear HO268
           clear HO277
           clear HO282
           clear BK243
           clear BK250
           clear BK257
           clear BK264
           clear BK271
           clear HB
           have HO_244001 := n0_
           have HO_251001 := n1_
           have HO_258001 := n2_
           have HO261 := n3_
           have HO268 := n4_
           have HO277 := n5_
           have HO282 := n6_
           have BK243 := n7_
           have BK250 := n8_
           have BK257 := n9_
           have BK264 := n10_
           have BK271 := n11_
           have HB := n12_
           clear n0_ n1_ n2_ n3_ n4_ n5_ n6_ n7_ n8_ n9_ n10_ n11_ n12_
           (try clear hb)
           (try clear hb2)
           (try clear hk)
           (try clear hi)
           refine hK.out _ _ ⟨(blk_cell BK264.out 0).trans rfl, (blk_cell BK264.out 1).trans rfl, (blk_cell BK264.out 2).trans rfl, (blk_cell BK271.out 0).trans rfl, (blk_cell BK271.out 1).trans rfl, (blk_cell BK271.out 2).trans rfl, (blk_cell BK243.out 0).trans rfl, (blk_cell BK243.out 1).trans rfl, (blk_cell BK243.out 2).trans rfl, (blk_cell BK250.out 0).trans rfl, (blk_cell BK250.out 1).trans rfl, (blk_cell BK250.out 2).trans rfl⟩ (fun hHeld => ?_)
           clear hK K
           refine norm_ (a' := ?_) ?_ ?_
           rotate_left
           ·show Act.put _ (some 90) _ = _
            simp only [Act.put, List.setIfInBounds_toArray, List.set_cons_zero, List.set_cons_succ, i64_w, i32_w]
            rfl
           refine pure_ (i := 22) (N := some 91) (v := ?_) (a' := ?_) #[true, true, true, true, true, true, true, true, true, true, true, true, true, true, true, true, true, true, true, true, true, true, true, false] rfl rfl (any_of HT_.out (by kernel_rfl)) (fun _ _ _ h => h) (Or.inl ⟨by rfl, ?_⟩) ?_ ?_
           rotate_left
           ·intro w'
            go_simp
            with_reducible rfl
           rotate_left
           ·simp only [Act.put, List.setIfInBounds_toArray, List.set_cons_zero, List.set_cons_succ, i64_w, i32_w]
            rfl
           refine pure_ (i := 23) (N := some 92) (v := ?_) (a' := ?_) #[true, true, true, true, true, true, true, true, true, true, true, true, true, true, true, true, true, true, true, true, true, true, true, true] rfl rfl (any_of HT_.out (by kernel_rfl)) (fun _ _ _ h => h) (Or.inl ⟨by rfl, ?_⟩) ?_ ?_
           rotate_left
           ·intro w'
            go_simp
            with_reducible rfl
           rotate_left
           ·simp only [Act.put, List.setIfInBounds_toArray, List.set_cons_zero, List.set_cons_succ, i64_w, i32_w]
            rfl
           refine done_ (done_of HT_.out (by kernel_rfl)) ?_
           try go_wp2
           go_meet
           case rel => exact ⟨_, ((t284 != t285)), (by first | rfl | (simp; done) | (simp [*]; done)), H', ⟨by have := HJ5.out; have := HJ13.out; first | omega | exact Nat.le_refl _⟩, ⟨by (with_reducible repeat (first | apply Kd.V_alloc | apply Kd.V_drewN | apply Kd.V_drew)); exact Kd.V_mono HO_244001.out (fun _ hk => ⟨hk.1.1.1, ⟨hk.1.1.2.1, ⟨hk.1.1.2.2.1, ⟨hk.1.1.2.2.2.1, hk.1.1.2.2.2.2⟩⟩⟩⟩)⟩, ⟨by (with_reducible repeat (first | apply Kd.V_alloc | apply Kd.V_drewN | apply Kd.V_drew)); exact Kd.V_mono HO_251001.out (fun _ hk => ⟨hk.1.1.1, ⟨hk.1.1.2.1, ⟨hk.1.1.2.2.1, ⟨hk.1.1.2.2.2.1, hk.1.1.2.2.2.2⟩⟩⟩⟩)⟩, ⟨by (with_reducible repeat (first | apply Kd.V_alloc | apply Kd.V_drewN | apply Kd.V_drew)); exact Kd.V_mono HO_258001.out (fun _ hk => ⟨hk.1.1.1, ⟨hk.1.1.2.1, ⟨hk.1.1.2.2.1, ⟨hk.1.1.2.2.2.1, hk.1.1.2.2.2.2⟩⟩⟩⟩)⟩, ⟨by (with_reducible repeat (first | apply Kd.V_alloc | apply Kd.V_drewN | apply Kd.V_drew)); exact Kd.V_mono HO261.out (fun _ hk => ⟨hk.1.1.1, ⟨hk.1.1.2.1, ⟨hk.1.1.2.2.1, ⟨hk.1.1.2.2.2.1, hk.1.1.2.2.2.2⟩⟩⟩⟩)⟩, ⟨by (with_reducible repeat (first | apply Kd.V_alloc | apply Kd.V_drewN | apply Kd.V_drew)); exact Kd.V_mono HO268.out (fun _ hk => ⟨hk.1.1.1, ⟨hk.1.1.2.1, ⟨hk.1.1.2.2.1, ⟨hk.1.1.2.2.2.1, hk.1.1.2.2.2.2⟩⟩⟩⟩)⟩, ⟨S.b BK243.out⟩, ⟨S.b BK250.out⟩, ⟨S.b BK257.out⟩, ⟨S.b BK264.out⟩, ⟨S.b BK271.out⟩, ⟨by repeat (first | (with_reducible first | exact HB.out | apply below_alloc | apply pw_below_drewN | apply below_drew1 | refine below_set ?_ GE243.out | refine below_set ?_ GE250.out | refine below_set ?_ GE257.out | refine below_set ?_ GE264.out | refine below_set ?_ GE271.out) | exact HB.out)⟩⟩
          ·rw [if_neg c62] at H
           have c62b0 : (t272 == t273) = false := beq_eq_false_iff_ne.mpr c62
           have c62b1 : (t272 != t273) = true := bne_iff_ne.mpr c62
           have H' := Aside0.mk H
           clear H
           try go_wp2
           have n0_ : Aside0 (Kd.V (Kd.int .u8) 5 (((w52.setCell ⟨gb271, 0, none⟩ (.bool t265)).setCell ⟨gb271, 1, none⟩ (.slice Ao58 t266.length co58)).setCell ⟨gb271, 2, none⟩ (.int .i64 t269)) w.heap.size (fun k_ => k_ ≠ gb243 ∧ k_ ≠ gb250 ∧ k_ ≠ gb257 ∧ k_ ≠ gb264 ∧ k_ ≠ gb271) (.slice Ao18 t238.length co18) t238) := ⟨by (with_reducible repeat (first | apply Kd.V_alloc | apply Kd.V_drewN | apply Kd.V_drew)); exact Kd.V_mono (Kd.V_far (p := ⟨gb271, 2, none⟩) (Kd.V_far (p := ⟨gb271, 1, none⟩) (Kd.V_far (p := ⟨gb271, 0, none⟩) (Kd.V_mono HO_244001.out (fun k_ hk => (⟨hk, hk.2⟩ : _ ∧ k_ ≠ gb271))) (fun _ hk => hk.2) (.bool t265)) (fun _ hk => hk.2) (.slice Ao58 t266.length co58)) (fun _ hk => hk.2) (.int .i64 t269)) (fun _ hk => ⟨hk.1.1.1, ⟨hk.1.1.2.1, ⟨hk.1.1.2.2.1, ⟨hk.1.1.2.2.2, hk.1.2⟩⟩⟩⟩)⟩
           have n1_ : Aside0 (Kd.V (Kd.int .u8) 5 (((w52.setCell ⟨gb271, 0, none⟩ (.bool t265)).setCell ⟨gb271, 1, none⟩ (.slice Ao58 t266.length co58)).setCell ⟨gb271, 2, none⟩ (.int .i64 t269)) w.heap.size (fun k_ => k_ ≠ gb243 ∧ k_ ≠ gb250 ∧ k_ ≠ gb257 ∧ k_ ≠ gb264 ∧ k_ ≠ gb271) (.slice Ao23 t245.length co23) t245) := ⟨by (with_reducible repeat (first | apply Kd.V_alloc | apply Kd.V_drewN | apply Kd.V_drew)); exact Kd.V_mono (Kd.V_far (p := ⟨gb271, 2, none⟩) (Kd.V_far (p := ⟨gb271, 1, none⟩) (Kd.V_far (p := ⟨gb271, 0, none⟩) (Kd.V_mono HO_251001.out (fun k_ hk => (⟨hk, hk.2⟩ : _ ∧ k_ ≠ gb271))) (fun _ hk => hk.2) (.bool t265)) (fun _ hk => hk.2) (.slice Ao58 t266.length co58)) (fun _ hk => hk.2) (.int .i64 t269)) (fun _ hk => ⟨hk.1.1.1, ⟨hk.1.1.2.1, ⟨hk.1.1.2.2.1, ⟨hk.1.1.2.2.2, hk.1.2⟩⟩⟩⟩)⟩
           have n2_ : Aside0 (Kd.V (Kd.int .u8) 5 (((w52.setCell ⟨gb271, 0, none⟩ (.bool t265)).setCell ⟨gb271, 1, none⟩ (.slice Ao58 t266.length co58)).setCell ⟨gb271, 2, none⟩ (.int .i64 t269)) w.heap.size (fun k_ => k_ ≠ gb243 ∧ k_ ≠ gb250 ∧ k_ ≠ gb257 ∧ k_ ≠ gb264 ∧ k_ ≠ gb271) (.slice Ao29 t252.length co29) t252) := ⟨by (with_reducible repeat (first | apply Kd.V_alloc | apply Kd.V_drewN | apply Kd.V_drew)); exact Kd.V_mono (Kd.V_far (p := ⟨gb271, 2, none⟩) (Kd.V_far (p := ⟨gb271, 1, none⟩) (Kd.V_far (p := ⟨gb271, 0, none⟩) (Kd.V_mono HO_258001.out (fun k_ hk => (⟨hk, hk.2⟩ : _ ∧ k_ ≠ gb271))) (fun _ hk => hk.2) (.bool t265)) (fun _ hk => hk.2) (.slice Ao58 t266.length co58)) (fun _ hk => hk.2) (.int .i64 t269)) (fun _ hk => ⟨hk.1.1.1, ⟨hk.1.1.2.1, ⟨hk.1.1.2.2.1, ⟨hk.1.1.2.2.2, hk.1.2⟩⟩⟩⟩)⟩
           have n3_ : Aside0 (Kd.V (Kd.int .u8) 5 (((w52.setCell ⟨gb271, 0, none⟩ (.bool t265)).setCell ⟨gb271, 1, none⟩ (.slice Ao58 t266.length co58)).setCell ⟨gb271, 2, none⟩ (.int .i64 t269)) w.heap.size (fun k_ => k_ ≠ gb243 ∧ k_ ≠ gb250 ∧ k_ ≠ gb257 ∧ k_ ≠ gb264 ∧ k_ ≠ gb271) (.slice Ao47 t259.length co47) t259) := ⟨by (with_reducible repeat (first | apply Kd.V_alloc | apply Kd.V_drewN | apply Kd.V_drew)); exact Kd.V_mono (Kd.V_far (p := ⟨gb271, 2, none⟩) (Kd.V_far (p := ⟨gb271, 1, none⟩) (Kd.V_far (p := ⟨gb271, 0, none⟩) (Kd.V_mono HO261.out (fun k_ hk => (⟨hk, hk.2⟩ : _ ∧ k_ ≠ gb271))) (fun _ hk => hk.2) (.bool t265)) (fun _ hk => hk.2) (.slice Ao58 t266.length co58)) (fun _ hk => hk.2) (.int .i64 t269)) (fun _ hk => ⟨hk.1.1.1, ⟨hk.1.1.2.1, ⟨hk.1.1.2.2.1, ⟨hk.1.1.2.2.2, hk.1.2⟩⟩⟩⟩)⟩
           have n4_ : Aside0 (Kd.V (Kd.int .u8) 5 (((w52.setCell ⟨gb271, 0, none⟩ (.bool t265)).setCell ⟨gb271, 1, none⟩ (.slice Ao58 t266.length co58)).setCell ⟨gb271, 2, none⟩ (.int .i64 t269)) w.heap.size (fun k_ => k_ ≠ gb243 ∧ k_ ≠ gb250 ∧ k_ ≠ gb257 ∧ k_ ≠ gb264 ∧ k_ ≠ gb271) (.slice Ao58 t266.length co58) t266) := ⟨by (with_reducible repeat (first | apply Kd.V_alloc | apply Kd.V_drewN | apply Kd.V_drew)); exact Kd.V_mono (Kd.V_far (p := ⟨gb271, 2, none⟩) (Kd.V_far (p := ⟨gb271, 1, none⟩) (Kd.V_far (p := ⟨gb271, 0, none⟩) (Kd.V_mono HO268.out (fun k_ hk => (⟨hk, hk.2⟩ : _ ∧ k_ ≠ gb271))) (fun _ hk => hk.2) (.bool t265)) (fun _ hk => hk.2) (.slice Ao58 t266.length co58)) (fun _ hk => hk.2) (.int .i64 t269)) (fun _ hk => ⟨hk.1.1.1, ⟨hk.1.1.2.1, ⟨hk.1.1.2.2.1, ⟨hk.1.1.2.2.2, hk.1.2⟩⟩⟩⟩)⟩
           have n5_ : Aside0 ((((w52.setCell ⟨gb271, 0, none⟩ (.bool t265)).setCell ⟨gb271, 1, none⟩ (.slice Ao58 t266.length co58)).setCell ⟨gb271, 2, none⟩ (.int .i64 t269)).heap[gb243]? = some (.cells #[.bool t237, .slice Ao18 t238.length co18, .int .i64 t241] 25 (0, 0))) := ⟨by (with_reducible repeat (first | refine blk_drewN ?_ _ | refine blk_drew ?_ | refine blk_alloc ?_ _)); refine blk_far ?_ NB243_271.out _; (with_reducible repeat (first | refine blk_drewN ?_ _ | refine blk_drew ?_ | refine blk_alloc ?_ _)); refine blk_far ?_ NB243_271.out _; (with_reducible repeat (first | refine blk_drewN ?_ _ | refine blk_drew ?_ | refine blk_alloc ?_ _)); refine blk_far ?_ NB243_271.out _; (with_reducible repeat (first | refine blk_drewN ?_ _ | refine blk_drew ?_ | refine blk_alloc ?_ _)); exact BK243.out⟩
           have n6_ : Aside0 ((((w52.setCell ⟨gb271, 0, none⟩ (.bool t265)).setCell ⟨gb271, 1, none⟩ (.slice Ao58 t266.length co58)).setCell ⟨gb271, 2, none⟩ (.int .i64 t269)).heap[gb250]? = some (.cells #[.bool t244, .slice Ao23 t245.length co23, .int .i64 t248] 25 (0, 0))) := ⟨by (with_reducible repeat (first | refine blk_drewN ?_ _ | refine blk_drew ?_ | refine blk_alloc ?_ _)); refine blk_far ?_ NB250_271.out _; (with_reducible repeat (first | refine blk_drewN ?_ _ | refine blk_drew ?_ | refine blk_alloc ?_ _)); refine blk_far ?_ NB250_271.out _; (with_reducible repeat (first | refine blk_drewN ?_ _ | refine blk_drew ?_ | refine blk_alloc ?_ _)); refine blk_far ?_ NB250_271.out _; (with_reducible repeat (first | refine blk_drewN ?_ _ | refine blk_drew ?_ | refine blk_alloc ?_ _)); exact BK250.out⟩
           have n7_ : Aside0 ((((w52.setCell ⟨gb271, 0, none⟩ (.bool t265)).setCell ⟨gb271, 1, none⟩ (.slice Ao58 t266.length co58)).setCell ⟨gb271, 2, none⟩ (.int .i64 t269)).heap[gb257]? = some (.cells #[.bool t251, .slice Ao29 t252.length co29, .int .i64 t255] 25 (0, 0))) := ⟨by (with_reducible repeat (first | refine blk_drewN ?_ _ | refine blk_drew ?_ | refine blk_alloc ?_ _)); refine blk_far ?_ NB257_271.out _; (with_reducible repeat (first | refine blk_drewN ?_ _ | refine blk_drew ?_ | refine blk_alloc ?_ _)); refine blk_far ?_ NB257_271.out _; (with_reducible repeat (first | refine blk_drewN ?_ _ | refine blk_drew ?_ | refine blk_alloc ?_ _)); refine blk_far ?_ NB257_271.out _; (with_reducible repeat (first | refine blk_drewN ?_ _ | refine blk_drew ?_ | refine blk_alloc ?_ _)); exact BK257.out⟩
           have n8_ : Aside0 ((((w52.setCell ⟨gb271, 0, none⟩ (.bool t265)).setCell ⟨gb271, 1, none⟩ (.slice Ao58 t266.length co58)).setCell ⟨gb271, 2, none⟩ (.int .i64 t269)).heap[gb264]? = some (.cells #[.bool t258, .slice Ao47 t259.length co47, .int .i64 t262] 25 (0, 0))) := ⟨by (with_reducible repeat (first | refine blk_drewN ?_ _ | refine blk_drew ?_ | refine blk_alloc ?_ _)); refine blk_far ?_ NB264_271.out _; (with_reducible repeat (first | refine blk_drewN ?_ _ | refine blk_drew ?_ | refine blk_alloc ?_ _)); refine blk_far ?_ NB264_271.out _; (with_reducible repeat (first | refine blk_drewN ?_ _ | refine blk_drew ?_ | refine blk_alloc ?_ _)); refine blk_far ?_ NB264_271.out _; (with_reducible repeat (first | refine blk_drewN ?_ _ | refine blk_drew ?_ | refine blk_alloc ?_ _)); exact BK264.out⟩
           have n9_ : Aside0 ((((w52.setCell ⟨gb271, 0, none⟩ (.bool t265)).setCell ⟨gb271, 1, none⟩ (.slice Ao58 t266.length co58)).setCell ⟨gb271, 2, none⟩ (.int .i64 t269)).heap[gb271]? = some (.cells #[.bool t265, .slice Ao58 t266.length co58, .int .i64 t269] 25 (0, 0))) := ⟨by (with_reducible repeat (first | refine blk_drewN ?_ _ | refine blk_drew ?_ | refine blk_alloc ?_ _)); refine blk_put (cs := #[.bool t265, .slice Ao58 t266.length co58, .int .i64 0]) ?_ 2 _ rfl; (with_reducible repeat (first | refine blk_drewN ?_ _ | refine blk_drew ?_ | refine blk_alloc ?_ _)); refine blk_put (cs := #[.bool t265, .slice none 0 0, .int .i64 0]) ?_ 1 _ rfl; (with_reducible repeat (first | refine blk_drewN ?_ _ | refine blk_drew ?_ | refine blk_alloc ?_ _)); refine blk_put (cs := #[.bool false, .slice none 0 0, .int .i64 0]) ?_ 0 _ rfl; (with_reducible repeat (first | refine blk_drewN ?_ _ | refine blk_drew ?_ | refine blk_alloc ?_ _)); exact BK271.out⟩
           have n10_ : Aside0 (Below w.heap.size w (((w52.setCell ⟨gb271, 0, none⟩ (.bool t265)).setCell ⟨gb271, 1, none⟩ (.slice Ao58 t266.length co58)).setCell ⟨gb271, 2, none⟩ (.int .i64 t269))) := ⟨by repeat (first | (with_reducible first | exact HB.out | apply below_alloc | apply pw_below_drewN | apply below_drew1 | refine below_set ?_ GE243.out | refine below_set ?_ GE250.out | refine below_set ?_ GE257.out | refine below_set ?_ GE264.out | refine below_set ?_ GE271.out) | exact HB.out)⟩
           (try clear HO_244001)
           (try clear HO_251001)
           (try clear HO_258001)
           (try clear HO261)
           (try clear HO268)
           (try clear BK243)
           (try clear BK250)
           (try clear BK257)
           (try clear BK264)
           (try clear BK271)
           (try clear HB)
           generalize (((w52.setCell ⟨gb271, 0, none⟩ (.bool t265)).setCell ⟨gb271, 1, none⟩ (.slice Ao58 t266.length co58)).setCell ⟨gb271, 2, none⟩ (.int .i64 t269)) = w77 at n0_ n1_ n2_ n3_ n4_ n5_ n6_ n7_ n8_ n9_ n10_ ⊢
           have HO_244001 := n0_
           have HO_251001 := n1_
           have HO_258001 := n2_
           have HO261 := n3_
           have HO268 := n4_
           have BK243 := n5_
           have BK250 := n6_
           have BK257 := n7_
           have BK264 := n8_
           have BK271 := n9_
           have HB := n10_
           clear n0_ n1_ n2_ n3_ n4_ n5_ n6_ n7_ n8_ n9_ n10_
           have n0_ := Aside0.mk (Kd.V_drew HO_244001.out)
           have n1_ := Aside0.mk (Kd.V_drew HO_251001.out)
           have n2_ := Aside0.mk (Kd.V_drew HO_258001.out)
           have n3_ := Aside0.mk (Kd.V_drew HO261.out)
           have n4_ := Aside0.mk (Kd.V_drew HO268.out)
           have n5_ := Aside0.mk (blk_drew BK243.out)
           have n6_ := Aside0.mk (blk_drew BK250.out)
           have n7_ := Aside0.mk (blk_drew BK257.out)
           have n8_ := Aside0.mk (blk_drew BK264.out)
           have n9_ := Aside0.mk (blk_drew BK271.out)
           have n10_ := Aside0.mk (below_drew1 HB.out)
           clear HO_244001
           clear HO_251001
           clear HO_258001
           clear HO261
           clear HO268
           clear BK243
           clear BK250
           clear BK257
           clear BK264
           clear BK271
           clear HB
           have HO_244001 := n0_
           have HO_251001 := n1_
           have HO_258001 := n2_
           have HO261 := n3_
           have HO268 := n4_
           have BK243 := n5_
           have BK250 := n6_
           have BK257 := n7_
           have BK264 := n8_
           have BK271 := n9_
           have HB := n10_
           clear n0_ n1_ n2_ n3_ n4_ n5_ n6_ n7_ n8_ n9_ n10_
           refine start_ (n := 24) (S := fun w' => w'.cell? ⟨gb264, 0, none⟩ = some (.bool t258) ∧ w'.cell? ⟨gb264, 1, none⟩ = some (.slice Ao47 t259.length co47) ∧ w'.cell? ⟨gb264, 2, none⟩ = some (.int .i64 t262) ∧ w'.cell? ⟨gb271, 0, none⟩ = some (.bool t265) ∧ w'.cell? ⟨gb271, 1, none⟩ = some (.slice Ao58 t266.length co58) ∧ w'.cell? ⟨gb271, 2, none⟩ = some (.int .i64 t269) ∧ w'.cell? ⟨gb243, 0, none⟩ = some (.bool t237) ∧ w'.cell? ⟨gb243, 1, none⟩ = some (.slice Ao18 t238.length co18) ∧ w'.cell? ⟨gb243, 2, none⟩ = some (.int .i64 t241) ∧ w'.cell? ⟨gb250, 0, none⟩ = some (.bool t244) ∧ w'.cell? ⟨gb250, 1, none⟩ = some (.slice Ao23 t245.length co23) ∧ w'.cell? ⟨gb250, 2, none⟩ = some (.int .i64 t248)) (ds := []) #[false, false, false, false, false, false, false, false, false, false, false, false, false, false, false, false, false, false, false, false, false, false, false, false] (by kernel_rfl) rfl rfl ⟨(blk_cell BK264.out 0).trans rfl, (blk_cell BK264.out 1).trans rfl, (blk_cell BK264.out 2).trans rfl, (blk_cell BK271.out 0).trans rfl, (blk_cell BK271.out 1).trans rfl, (blk_cell BK271.out 2).trans rfl, (blk_cell BK243.out 0).trans rfl, (blk_cell BK243.out 1).trans rfl, (blk_cell BK243.out 2).trans rfl, (blk_cell BK250.out 0).trans rfl, (blk_cell BK250.out 1).trans rfl, (blk_cell BK250.out 2).trans rfl⟩ (fun hHeld => ?_); refine with_tabW rubriclaw5_DecOrders.tab12 rubriclaw5_DecOrders.bits12 (fun HT_ HW_ => ?_)
           generalize w77.drew = w78 at HO_244001 HO_251001 HO_258001 HO261 HO268 BK243 BK250 BK257 BK264 BK271 HB hHeld ⊢
           refine pure_ (i := 0) (N := some 69) (v := ?_) (a' := ?_) #[true, false, false, false, false, false, false, false, false, false, false, false, false, false, false, false, false, false, false, false, false, false, false, false] rfl rfl (any_of HT_.out (by kernel_rfl)) (fun _ _ _ h => h) (Or.inl ⟨by rfl, ?_⟩) ?_ ?_
           rotate_left
           ·intro w'
            go_simp
            with_reducible rfl
           rotate_left
           ·simp only [Act.put, List.setIfInBounds_toArray, List.set_cons_zero, List.set_cons_succ, i64_w, i32_w]
            rfl
           refine pure_ (i := 1) (N := some 70) (v := ?_) (a' := ?_) #[true, true, false, false, false, false, false, false, false, false, false, false, false, false, false, false, false, false, false, false, false, false, false, false] rfl rfl (any_of HT_.out (by kernel_rfl)) (fun _ _ _ h => h) (Or.inl ⟨by rfl, ?_⟩) ?_ ?_
           rotate_left
           ·intro w'
            go_simp
            with_reducible rfl
           rotate_left
           ·simp only [Act.put, List.setIfInBounds_toArray, List.set_cons_zero, List.set_cons_succ, i64_w, i32_w]
            rfl
           refine pure_ (i := 2) (N := some 71) (v := ?_) (a' := ?_) #[true, true, true, false, false, false, false, false, false, false, false, false, false, false, false, false, false, false, false, false, false, false, false, false] rfl rfl (any_of HT_.out (by kernel_rfl)) (fun _ _ _ h => h) (Or.inl ⟨by rfl, ?_⟩) ?_ ?_
           rotate_left
           ·intro w'
            go_simp
            with_reducible rfl
           rotate_left
           ·simp only [Act.put, List.setIfInBounds_toArray, List.set_cons_zero, List.set_cons_succ, i64_w, i32_w]
            rfl
           refine pure_ (i := 3) (N := some 72) (v := ?_) (a' := ?_) #[true, true, true, true, false, false, false, false, false, false, false, false, false, false, false, false, false, false, false, false, false, false, false, false] rfl rfl (any_of HT_.out (by kernel_rfl)) (fun _ _ _ h => h) (Or.inl ⟨by rfl, ?_⟩) ?_ ?_
           rotate_left
           ·intro w'
            go_simp
            with_reducible rfl
           rotate_left
           ·simp only [Act.put, List.setIfInBounds_toArray, List.set_cons_zero, List.set_cons_succ, i64_w, i32_w]
            rfl
           refine pure_ (i := 4) (N := some 73) (v := ?_) (a' := ?_) #[true, true, true, true, true, false, false, false, false, false, false, false, false, false, false, false, false, false, false, false, false, false, false, false] rfl rfl (any_of HT_.out (by kernel_rfl)) (fun _ _ _ h => h) (Or.inl ⟨by rfl, ?_⟩) ?_ ?_
           rotate_left
           ·intro w'
            go_simp
            with_reducible rfl
           rotate_left
           ·simp only [Act.put, List.setIfInBounds_toArray, List.set_cons_zero, List.set_cons_succ, i64_w, i32_w]
            rfl
           refine take_ (i := 5) (N := some 74) (v := ?_) (a' := ?_) #[true, true, true, true, true, true, false, false, false, false, false, false, false, false, false, false, false, false, false, false, false, false, false, false] rfl rfl (take_ofW HT_.out HW_.out (by kernel_rfl)) (fun _ _ _ h => h) (Or.inl ⟨by rfl, ?_⟩) hHeld ?_ ?_
           rotate_left
           ·rintro w' ⟨s0, s1, s2, s3, s4, s5, s6, s7, s8, s9, s10, s11⟩
            go_simp
            with_reducible rfl
           rotate_left
           ·simp only [Act.put, List.setIfInBounds_toArray, List.set_cons_zero, List.set_cons_succ, i64_w, i32_w]
            rfl
           refine take_ (i := 6) (N := some 75) (v := ?_) (a' := ?_) #[true, true, true, true, true, true, true, false, false, false, false, false, false, false, false, false, false, false, false, false, false, false, false, false] rfl rfl (take_ofW HT_.out HW_.out (by kernel_rfl)) (fun _ _ _ h => h) (Or.inl ⟨by rfl, ?_⟩) hHeld ?_ ?_
           rotate_left
           ·rintro w' ⟨s0, s1, s2, s3, s4, s5, s6, s7, s8, s9, s10, s11⟩
            go_simp
            with_reducible rfl
           rotate_left
           ·simp only [Act.put, List.setIfInBounds_toArray, List.set_cons_zero, List.set_cons_succ, i64_w, i32_w]
            rfl
           refine take_ (i := 8) (N := some 77) (v := ?_) (a' := ?_) #[true, true, true, true, true, true, true, false, true, false, false, false, false, false, false, false, false, false, false, false, false, false, false, false] rfl rfl (take_ofW HT_.out HW_.out (by kernel_rfl)) (fun _ _ _ h => h) (Or.inl ⟨by rfl, ?_⟩) hHeld ?_ ?_
           rotate_left
           ·rintro w' ⟨s0, s1, s2, s3, s4, s5, s6, s7, s8, s9, s10, s11⟩
            go_simp
            with_reducible rfl
           rotate_left
           ·simp only [Act.put, List.setIfInBounds_toArray, List.set_cons_zero, List.set_cons_succ, i64_w, i32_w]
            rfl
           refine take_ (i := 9) (N := some 78) (v := ?_) (a' := ?_) #[true, true, true, true, true, true, true, false, true, true, false, false, false, false, false, false, false, false, false, false, false, false, false, false] rfl rfl (take_ofW HT_.out HW_.out (by kernel_rfl)) (fun _ _ _ h => h) (Or.inl ⟨by rfl, ?_⟩) hHeld ?_ ?_
           rotate_left
           ·rintro w' ⟨s0, s1, s2, s3, s4, s5, s6, s7, s8, s9, s10, s11⟩
            go_simp
            with_reducible rfl
           rotate_left
           ·simp only [Act.put, List.setIfInBounds_toArray, List.set_cons_zero, List.set_cons_succ, i64_w, i32_w]
            rfl
           refine one_ (i := 7) (N := some 76) #[true, true, true, true, true, true, true, true, true, true, false, false, false, false, false, false, false, false, false, false, false, false, false, false] rfl rfl (one_of HT_.out (by kernel_rfl)) (by decide) (fun K hK => ?_)
           refine goes_ Try.func8 (by kernel_rfl) rfl #[.agg #[.bool t258, .slice Ao47 t259.length co47, .int .i64 t262], .agg #[.bool t265, .slice Ao58 t266.length co58, .int .i64 t269]] (by rfl) rfl rfl (by (try simp only [List.map_toArray, List.map_cons, List.map_nil]); first | done | rfl | (simp only [List.length_drop, List.length_take]; rfl)) ?_
           with_reducible refine (dec_Cmp.calls kj13 t258 _ _ t259 t262 t265 _ _ t266 t269 t272 _ ?side1 ?side2 ?side3 ?side4 A60.out).mono ?_
           (case side1 => repeat (first | exact (Kd.V_reads' HO261.out).2.2 | (with_reducible refine Kd.C_alloc ?_ _) | (with_reducible refine Kd.C_drewN ?_ _) | (with_reducible refine Kd.C_drew ?_)))
           (case side2 => exact (Kd.V_reads' HO261.out).2.1)
           (case side3 => repeat (first | exact (Kd.V_reads' HO268.out).2.2 | (with_reducible refine Kd.C_alloc ?_ _) | (with_reducible refine Kd.C_drewN ?_ _) | (with_reducible refine Kd.C_drew ?_)))
           (case side4 => exact (Kd.V_reads' HO268.out).2.1)
           rintro e w79 ⟨rfl, hb⟩
           refine ⟨_, rfl, ?_⟩
           have n0_ := Aside0.mk (Kd.V_below (S.v HO_244001.out) hb)
           have n1_ := Aside0.mk (Kd.V_below (S.v HO_251001.out) hb)
           have n2_ := Aside0.mk (Kd.V_below (S.v HO_258001.out) hb)
           have n3_ := Aside0.mk (Kd.V_below (S.v HO261.out) hb)
           have n4_ := Aside0.mk (Kd.V_below (S.v HO268.out) hb)
           have n5_ := Aside0.mk (blk_below (g := gb243) (o := .cells #[.bool t237, .slice Ao18 t238.length co18, .int .i64 t241] 25 (0, 0)) (S.b BK243.out) hb)
           have n6_ := Aside0.mk (blk_below (g := gb250) (o := .cells #[.bool t244, .slice Ao23 t245.length co23, .int .i64 t248] 25 (0, 0)) (S.b BK250.out) hb)
           have n7_ := Aside0.mk (blk_below (g := gb257) (o := .cells #[.bool t251, .slice Ao29 t252.length co29, .int .i64 t255] 25 (0, 0)) (S.b BK257.out) hb)
           have n8_ := Aside0.mk (blk_below (g := gb264) (o := .cells #[.bool t258, .slice Ao47 t259.length co47, .int .i64 t262] 25 (0, 0)) (S.b BK264.out) hb)
           have n9_ := Aside0.mk (blk_below (g := gb271) (o := .cells #[.bool t265, .slice Ao58 t266.length co58, .int .i64 t269] 25 (0, 0)) (S.b BK271.out) hb)
           have n10_ := Aside0.mk (below_step (by repeat (first | (with_reducible first | exact HB.out | apply below_alloc | apply pw_below_drewN | apply below_drew1 | refine below_set ?_ GE243.out | refine below_set ?_ GE250.out | refine below_set ?_ GE257.out | refine below_set ?_ GE264.out | refine below_set ?_ GE271.out) | exact HB.out)) hb)
           clear HO_244001
           clear HO_251001
           clear HO_258001
           clear HO261
           clear HO268
           clear BK243
           clear BK250
           clear BK257
           clear BK264
           clear BK271
           clear HB
           have HO_244001 := n0_
           have HO_251001 := n1_
           have HO_258001 := n2_
           have HO261 := n3_
           have HO268 := n4_
           have BK243 := n5_
           have BK250 := n6_
           have BK257 := n7_
           have BK264 := n8_
           have BK271 := n9_
           have HB := n10_
           clear n0_ n1_ n2_ n3_ n4_ n5_ n6_ n7_ n8_ n9_ n10_
           (try clear hb)
           (try clear hb2)
           (try clear hk)
           (try clear hi)
           refine hK.out _ _ ⟨(blk_cell BK264.out 0).trans rfl, (blk_cell BK264.out 1).trans rfl, (blk_cell BK264.out 2).trans rfl, (blk_cell BK271.out 0).trans rfl, (blk_cell BK271.out 1).trans rfl, (blk_cell BK271.out 2).trans rfl, (blk_cell BK243.out 0).trans rfl, (blk_cell BK243.out 1).trans rfl, (blk_cell BK243.out 2).trans rfl, (blk_cell BK250.out 0).trans rfl, (blk_cell BK250.out 1).trans rfl, (blk_cell BK250.out 2).trans rfl⟩ (fun hHeld => ?_)
           clear hK K
           refine norm_ (a' := ?_) ?_ ?_
           rotate_left
           ·show Act.put _ (some 76) _ = _
            simp only [Act.put, List.setIfInBounds_toArray, List.set_cons_zero, List.set_cons_succ, i64_w, i32_w]
            rfl
           refine one_ (i := 10) (N := some 79) #[true, true, true, true, true, true, true, true, true, true, true, false, false, false, false, false, false, false, false, false, false, false, false, false] rfl rfl (one_of HT_.out (by kernel_rfl)) (by decide) (fun K hK => ?_)
           refine goes_ Try.func8 (by kernel_rfl) rfl #[.agg #[.bool t237, .slice Ao18 t238.length co18, .int .i64 t241], .agg #[.bool t244, .slice Ao23 t245.length co23, .int .i64 t248]] (by rfl) rfl rfl (by (try simp only [List.map_toArray, List.map_cons, List.map_nil]); first | done | rfl | (simp only [List.length_drop, List.length_take]; rfl)) ?_
           with_reducible refine (dec_Cmp.calls kj13 t237 _ _ t238 t241 t244 _ _ t245 t248 t273 _ ?side1 ?side2 ?side3 ?side4 A61.out).mono ?_
           (case side1 => repeat (first | exact (Kd.V_reads' HO_244001.out).2.2 | (with_reducible refine Kd.C_alloc ?_ _) | (with_reducible refine Kd.C_drewN ?_ _) | (with_reducible refine Kd.C_drew ?_)))
           (case side2 => exact (Kd.V_reads' HO_244001.out).2.1)
           (case side3 => repeat (first | exact (Kd.V_reads' HO_251001.out).2.2 | (with_reducible refine Kd.C_alloc ?_ _) | (with_reducible refine Kd.C_drewN ?_ _) | (with_reducible refine Kd.C_drew ?_)))
           (case side4 => exact (Kd.V_reads' HO_251001.out).2.1)
           rintro e w80 ⟨rfl, hb⟩
           refine ⟨_, rfl, ?_⟩
           have n0_ := Aside0.mk (Kd.V_below (S.v HO_244001.out) hb)
           have n1_ := Aside0.mk (Kd.V_below (S.v HO_251001.out) hb)
           have n2_ := Aside0.mk (Kd.V_below (S.v HO_258001.out) hb)
           have n3_ := Aside0.mk (Kd.V_below (S.v HO261.out) hb)
           have n4_ := Aside0.mk (Kd.V_below (S.v HO268.out) hb)
           have n5_ := Aside0.mk (blk_below (g := gb243) (o := .cells #[.bool t237, .slice Ao18 t238.length co18, .int .i64 t241] 25 (0, 0)) (S.b BK243.out) hb)
           have n6_ := Aside0.mk (blk_below (g := gb250) (o := .cells #[.bool t244, .slice Ao23 t245.length co23, .int .i64 t248] 25 (0, 0)) (S.b BK250.out) hb)
           have n7_ := Aside0.mk (blk_below (g := gb257) (o := .cells #[.bool t251, .slice Ao29 t252.length co29, .int .i64 t255] 25 (0, 0)) (S.b BK257.out) hb)
           have n8_ := Aside0.mk (blk_below (g := gb264) (o := .cells #[.bool t258, .slice Ao47 t259.length co47, .int .i64 t262] 25 (0, 0)) (S.b BK264.out) hb)
           have n9_ := Aside0.mk (blk_below (g := gb271) (o := .cells #[.bool t265, .slice Ao58 t266.length co58, .int .i64 t269] 25 (0, 0)) (S.b BK271.out) hb)
           have n10_ := Aside0.mk (below_step (by repeat (first | (with_reducible first | exact HB.out | apply below_alloc | apply pw_below_drewN | apply below_drew1 | refine below_set ?_ GE243.out | refine below_set ?_ GE250.out | refine below_set ?_ GE257.out | refine below_set ?_ GE264.out | refine below_set ?_ GE271.out) | exact HB.out)) hb)
           clear HO_244001
           clear HO_251001
           clear HO_258001
           clear HO261
           clear HO268
           clear BK243
           clear BK250
           clear BK257
           clear BK264
           clear BK271
           clear HB
           have HO_244001 := n0_
           have HO_251001 := n1_
           have HO_258001 := n2_
           have HO261 := n3_
           have HO268 := n4_
           have BK243 := n5_
           have BK250 := n6_
           have BK257 := n7_
           have BK264 := n8_
           have BK271 := n9_
           have HB := n10_
           clear n0_ n1_ n2_ n3_ n4_ n5_ n6_ n7_ n8_ n9_ n10_
           (try clear hb)
           (try clear hb2)
           (try clear hk)
           (try clear hi)
           refine hK.out _ _ ⟨(blk_cell BK264.out 0).trans rfl, (blk_cell BK264.out 1).trans rfl, (blk_cell BK264.out 2).trans rfl, (blk_cell BK271.out 0).trans rfl, (blk_cell BK271.out 1).trans rfl, (blk_cell BK271.out 2).trans rfl, (blk_cell BK243.out 0).trans rfl, (blk_cell BK243.out 1).trans rfl, (blk_cell BK243.out 2).trans rfl, (blk_cell BK250.out 0).trans rfl, (blk_cell BK250.out 1).trans rfl, (blk_cell BK250.out 2).trans rfl⟩ (fun hHeld => ?_)
           clear hK K
           refine norm_ (a' := ?_) ?_ ?_
           rotate_left
           ·show Act.put _ (some 79) _ = _
            simp only [Act.put, List.setIfInBounds_toArray, List.set_cons_zero, List.set_cons_succ, i64_w, i32_w]
            rfl
           refine pure_ (i := 11) (N := some 80) (v := ?_) (a' := ?_) #[true, true, true, true, true, true, true, true, true, true, true, true, false, false, false, false, false, false, false, false, false, false, false, false] rfl rfl (any_of HT_.out (by kernel_rfl)) (fun _ _ _ h => h) (Or.inl ⟨by rfl, ?_⟩) ?_ ?_
           rotate_left
           ·intro w'
            go_simp
            with_reducible rfl
           rotate_left
           ·simp only [Act.put, List.setIfInBounds_toArray, List.set_cons_zero, List.set_cons_succ, i64_w, i32_w]
            rfl
           refine pure_ (i := 12) (N := some 81) (v := ?_) (a' := ?_) #[true, true, true, true, true, true, true, true, true, true, true, true, true, false, false, false, false, false, false, false, false, false, false, false] rfl rfl (any_of HT_.out (by kernel_rfl)) (fun _ _ _ h => h) (Or.inl ⟨by rfl, ?_⟩) ?_ ?_
           rotate_left
           ·intro w'
            go_simp
            with_reducible rfl
           rotate_left
           ·simp only [Act.put, List.setIfInBounds_toArray, List.set_cons_zero, List.set_cons_succ, i64_w, i32_w]
            rfl
           refine pure_ (i := 13) (N := some 82) (v := ?_) (a' := ?_) #[true, true, true, true, true, true, true, true, true, true, true, true, true, true, false, false, false, false, false, false, false, false, false, false] rfl rfl (any_of HT_.out (by kernel_rfl)) (fun _ _ _ h => h) (Or.inl ⟨by rfl, ?_⟩) ?_ ?_
           rotate_left
           ·intro w'
            go_simp
            with_reducible rfl
           rotate_left
           ·simp only [Act.put, List.setIfInBounds_toArray, List.set_cons_zero, List.set_cons_succ, i64_w, i32_w]
            rfl
           refine pure_ (i := 14) (N := some 83) (v := undef) (a' := ?_) #[true, true, true, true, true, true, true, true, true, true, true, true, true, true, true, false, false, false, false, false, false, false, false, false] rfl rfl (any_of HT_.out (by kernel_rfl)) (fun _ _ _ h => h) (Or.inr ⟨by rfl, rfl⟩) ?_ ?_
           rotate_left
           ·simp only [Act.put, List.setIfInBounds_toArray, List.set_cons_zero, List.set_cons_succ, i64_w, i32_w]
            rfl
           refine pure_ (i := 15) (N := some 84) (v := undef) (a' := ?_) #[true, true, true, true, true, true, true, true, true, true, true, true, true, true, true, true, false, false, false, false, false, false, false, false] rfl rfl (any_of HT_.out (by kernel_rfl)) (fun _ _ _ h => h) (Or.inr ⟨by rfl, rfl⟩) ?_ ?_
           rotate_left
           ·simp only [Act.put, List.setIfInBounds_toArray, List.set_cons_zero, List.set_cons_succ, i64_w, i32_w]
            rfl
           refine pure_ (i := 16) (N := some 85) (v := undef) (a' := ?_) #[true, true, true, true, true, true, true, true, true, true, true, true, true, true, true, true, true, false, false, false, false, false, false, false] rfl rfl (any_of HT_.out (by kernel_rfl)) (fun _ _ _ h => h) (Or.inr ⟨by rfl, rfl⟩) ?_ ?_
           rotate_left
           ·simp only [Act.put, List.setIfInBounds_toArray, List.set_cons_zero, List.set_cons_succ, i64_w, i32_w]
            rfl
           refine pure_ (i := 17) (N := some 86) (v := undef) (a' := ?_) #[true, true, true, true, true, true, true, true, true, true, true, true, true, true, true, true, true, true, false, false, false, false, false, false] rfl rfl (any_of HT_.out (by kernel_rfl)) (fun _ _ _ h => h) (Or.inr ⟨by rfl, rfl⟩) ?_ ?_
           rotate_left
           ·simp only [Act.put, List.setIfInBounds_toArray, List.set_cons_zero, List.set_cons_succ, i64_w, i32_w]
            rfl
           refine pure_ (i := 18) (N := some 87) (v := undef) (a' := ?_) #[true, true, true, true, true, true, true, true, true, true, true, true, true, true, true, true, true, true, true, false, false, false, false, false] rfl rfl (any_of HT_.out (by kernel_rfl)) (fun _ _ _ h => h) (Or.inr ⟨by rfl, rfl⟩) ?_ ?_
           rotate_left
           ·simp only [Act.put, List.setIfInBounds_toArray, List.set_cons_zero, List.set_cons_succ, i64_w, i32_w]
            rfl
           refine pure_ (i := 19) (N := some 88) (v := undef) (a' := ?_) #[true, true, true, true, true, true, true, true, true, true, true, true, true, true, true, true, true, true, true, true, false, false, false, false] rfl rfl (any_of HT_.out (by kernel_rfl)) (fun _ _ _ h => h) (Or.inr ⟨by rfl, rfl⟩) ?_ ?_
           rotate_left
           ·simp only [Act.put, List.setIfInBounds_toArray, List.set_cons_zero, List.set_cons_succ, i64_w, i32_w]
            rfl
           refine pure_ (i := 20) (N := some 89) (v := undef) (a' := ?_) #[true, true, true, true, true, true, true, true, true, true, true, true, true, true, true, true, true, true, true, true, true, false, false, false] rfl rfl (any_of HT_.out (by kernel_rfl)) (fun _ _ _ h => h) (Or.inr ⟨by rfl, rfl⟩) ?_ ?_
           rotate_left
           ·simp only [Act.put, List.setIfInBounds_toArray, List.set_cons_zero, List.set_cons_succ, i64_w, i32_w]
            rfl
           refine pure_ (i := 21) (N := some 90) (v := undef) (a' := ?_) #[true, true, true, true, true, true, true, true, true, true, true, true, true, true, true, true, true, true, true, true, true, true, false, false] rfl rfl (any_of HT_.out (by kernel_rfl)) (fun _ _ _ h => h) (Or.inr ⟨by rfl, rfl⟩) ?_ ?_
           rotate_left
           ·simp only [Act.put, List.setIfInBounds_toArray, List.set_cons_zero, List.set_cons_succ, i64_w, i32_w]
            rfl
           refine pure_ (i := 22) (N := some 91) (v := undef) (a' := ?_) #[true, true, true, true, true, true, true, true, true, true, true, true, true, true, true, true, true, true, true, true, true, true, true, false] rfl rfl (any_of HT_.out (by kernel_rfl)) (fun _ _ _ h => h) (Or.inr ⟨by rfl, rfl⟩) ?_ ?_
           rotate_left
           ·simp only [Act.put, List.setIfInBounds_toArray, List.set_cons_zero, List.set_cons_succ, i64_w, i32_w]
            rfl
           refine pure_ (i := 23) (N := some 92) (v := ?_) (a' := ?_) #[true, true, true, true, true, true, true, true, true, true, true, true, true, true, true, true, true, true, true, true, true, true, true, true] rfl rfl (any_of HT_.out (by kernel_rfl)) (fun _ _ _ h => h) (Or.inl ⟨by rfl, ?_⟩) ?_ ?_
           rotate_left
           ·intro w'
            go_simp
            with_reducible rfl
           rotate_left
           ·simp only [Act.put, List.setIfInBounds_toArray, List.set_cons_zero, List.set_cons_succ, i64_w, i32_w]
            rfl
           refine done_ (done_of HT_.out (by kernel_rfl)) ?_
           try go_wp2
           go_meet
           case rel => exact ⟨_, (true), (by first | rfl | (simp; done) | (simp [*]; done)), H', ⟨by have := HJ5.out; have := HJ13.out; first | omega | exact Nat.le_refl _⟩, ⟨S.v HO_244001.out⟩, ⟨S.v HO_251001.out⟩, ⟨S.v HO_258001.out⟩, ⟨S.v HO261.out⟩, ⟨S.v HO268.out⟩, ⟨S.b BK243.out⟩, ⟨S.b BK250.out⟩, ⟨S.b BK257.out⟩, ⟨S.b BK264.out⟩, ⟨S.b BK271.out⟩, ⟨by repeat (first | (with_reducible first | exact HB.out | apply below_alloc | apply pw_below_drewN | apply below_drew1 | refine below_set ?_ GE243.out | refine below_set ?_ GE250.out | refine below_set ?_ GE257.out | refine below_set ?_ GE264.out | refine below_set ?_ GE271.out) | exact HB.out)⟩⟩
         ·rw [if_neg c59] at H
          have c59b0 : ((wrap64 (t263 + t270)) == 0) = false := beq_eq_false_iff_ne.mpr c59
          have c59b1 : ((wrap64 (t263 + t270)) != 0) = true := bne_iff_ne.mpr c59
          (first | rw [c59b0] | (simp only [i64_w, i32_w]; rw [c59b0]) | skip)
          have H' := Aside0.mk H
          clear H
          try go_wp2
          have n0_ : Aside0 (Kd.V (Kd.int .u8) 5 (((w52.setCell ⟨gb271, 0, none⟩ (.bool t265)).setCell ⟨gb271, 1, none⟩ (.slice Ao58 t266.length co58)).setCell ⟨gb271, 2, none⟩ (.int .i64 t269)) w.heap.size (fun k_ => k_ ≠ gb243 ∧ k_ ≠ gb250 ∧ k_ ≠ gb257 ∧ k_ ≠ gb264 ∧ k_ ≠ gb271) (.slice Ao18 t238.length co18) t238) := ⟨by (with_reducible repeat (first | apply Kd.V_alloc | apply Kd.V_drewN | apply Kd.V_drew)); exact Kd.V_mono (Kd.V_far (p := ⟨gb271, 2, none⟩) (Kd.V_far (p := ⟨gb271, 1, none⟩) (Kd.V_far (p := ⟨gb271, 0, none⟩) (Kd.V_mono HO_244001.out (fun k_ hk => (⟨hk, hk.2⟩ : _ ∧ k_ ≠ gb271))) (fun _ hk => hk.2) (.bool t265)) (fun _ hk => hk.2) (.slice Ao58 t266.length co58)) (fun _ hk => hk.2) (.int .i64 t269)) (fun _ hk => ⟨hk.1.1.1, ⟨hk.1.1.2.1, ⟨hk.1.1.2.2.1, ⟨hk.1.1.2.2.2, hk.1.2⟩⟩⟩⟩)⟩
          have n1_ : Aside0 (Kd.V (Kd.int .u8) 5 (((w52.setCell ⟨gb271, 0, none⟩ (.bool t265)).setCell ⟨gb271, 1, none⟩ (.slice Ao58 t266.length co58)).setCell ⟨gb271, 2, none⟩ (.int .i64 t269)) w.heap.size (fun k_ => k_ ≠ gb243 ∧ k_ ≠ gb250 ∧ k_ ≠ gb257 ∧ k_ ≠ gb264 ∧ k_ ≠ gb271) (.slice Ao23 t245.length co23) t245) := ⟨by (with_reducible repeat (first | apply Kd.V_alloc | apply Kd.V_drewN | apply Kd.V_drew)); exact Kd.V_mono (Kd.V_far (p := ⟨gb271, 2, none⟩) (Kd.V_far (p := ⟨gb271, 1, none⟩) (Kd.V_far (p := ⟨gb271, 0, none⟩) (Kd.V_mono HO_251001.out (fun k_ hk => (⟨hk, hk.2⟩ : _ ∧ k_ ≠ gb271))) (fun _ hk => hk.2) (.bool t265)) (fun _ hk => hk.2) (.slice Ao58 t266.length co58)) (fun _ hk => hk.2) (.int .i64 t269)) (fun _ hk => ⟨hk.1.1.1, ⟨hk.1.1.2.1, ⟨hk.1.1.2.2.1, ⟨hk.1.1.2.2.2, hk.1.2⟩⟩⟩⟩)⟩
          have n2_ : Aside0 (Kd.V (Kd.int .u8) 5 (((w52.setCell ⟨gb271, 0, none⟩ (.bool t265)).setCell ⟨gb271, 1, none⟩ (.slice Ao58 t266.length co58)).setCell ⟨gb271, 2, none⟩ (.int .i64 t269)) w.heap.size (fun k_ => k_ ≠ gb243 ∧ k_ ≠ gb250 ∧ k_ ≠ gb257 ∧ k_ ≠ gb264 ∧ k_ ≠ gb271) (.slice Ao29 t252.length co29) t252) := ⟨by (with_reducible repeat (first | apply Kd.V_alloc | apply Kd.V_drewN | apply Kd.V_drew)); exact Kd.V_mono (Kd.V_far (p := ⟨gb271, 2, none⟩) (Kd.V_far (p := ⟨gb271, 1, none⟩) (Kd.V_far (p := ⟨gb271, 0, none⟩) (Kd.V_mono HO_258001.out (fun k_ hk => (⟨hk, hk.2⟩ : _ ∧ k_ ≠ gb271))) (fun _ hk => hk.2) (.bool t265)) (fun _ hk => hk.2) (.slice Ao58 t266.length co58)) (fun _ hk => hk.2) (.int .i64 t269)) (fun _ hk => ⟨hk.1.1.1, ⟨hk.1.1.2.1, ⟨hk.1.1.2.2.1, ⟨hk.1.1.2.2.2, hk.1.2⟩⟩⟩⟩)⟩
          have n3_ : Aside0 (Kd.V (Kd.int .u8) 5 (((w52.setCell ⟨gb271, 0, none⟩ (.bool t265)).setCell ⟨gb271, 1, none⟩ (.slice Ao58 t266.length co58)).setCell ⟨gb271, 2, none⟩ (.int .i64 t269)) w.heap.size (fun k_ => k_ ≠ gb243 ∧ k_ ≠ gb250 ∧ k_ ≠ gb257 ∧ k_ ≠ gb264 ∧ k_ ≠ gb271) (.slice Ao47 t259.length co47) t259) := ⟨by (with_reducible repeat (first | apply Kd.V_alloc | apply Kd.V_drewN | apply Kd.V_drew)); exact Kd.V_mono (Kd.V_far (p := ⟨gb271, 2, none⟩) (Kd.V_far (p := ⟨gb271, 1, none⟩) (Kd.V_far (p := ⟨gb271, 0, none⟩) (Kd.V_mono HO261.out (fun k_ hk => (⟨hk, hk.2⟩ : _ ∧ k_ ≠ gb271))) (fun _ hk => hk.2) (.bool t265)) (fun _ hk => hk.2) (.slice Ao58 t266.length co58)) (fun _ hk => hk.2) (.int .i64 t269)) (fun _ hk => ⟨hk.1.1.1, ⟨hk.1.1.2.1, ⟨hk.1.1.2.2.1, ⟨hk.1.1.2.2.2, hk.1.2⟩⟩⟩⟩)⟩
          have n4_ : Aside0 (Kd.V (Kd.int .u8) 5 (((w52.setCell ⟨gb271, 0, none⟩ (.bool t265)).setCell ⟨gb271, 1, none⟩ (.slice Ao58 t266.length co58)).setCell ⟨gb271, 2, none⟩ (.int .i64 t269)) w.heap.size (fun k_ => k_ ≠ gb243 ∧ k_ ≠ gb250 ∧ k_ ≠ gb257 ∧ k_ ≠ gb264 ∧ k_ ≠ gb271) (.slice Ao58 t266.length co58) t266) := ⟨by (with_reducible repeat (first | apply Kd.V_alloc | apply Kd.V_drewN | apply Kd.V_drew)); exact Kd.V_mono (Kd.V_far (p := ⟨gb271, 2, none⟩) (Kd.V_far (p := ⟨gb271, 1, none⟩) (Kd.V_far (p := ⟨gb271, 0, none⟩) (Kd.V_mono HO268.out (fun k_ hk => (⟨hk, hk.2⟩ : _ ∧ k_ ≠ gb271))) (fun _ hk => hk.2) (.bool t265)) (fun _ hk => hk.2) (.slice Ao58 t266.length co58)) (fun _ hk => hk.2) (.int .i64 t269)) (fun _ hk => ⟨hk.1.1.1, ⟨hk.1.1.2.1, ⟨hk.1.1.2.2.1, ⟨hk.1.1.2.2.2, hk.1.2⟩⟩⟩⟩)⟩
          have n5_ : Aside0 ((((w52.setCell ⟨gb271, 0, none⟩ (.bool t265)).setCell ⟨gb271, 1, none⟩ (.slice Ao58 t266.length co58)).setCell ⟨gb271, 2, none⟩ (.int .i64 t269)).heap[gb243]? = some (.cells #[.bool t237, .slice Ao18 t238.length co18, .int .i64 t241] 25 (0, 0))) := ⟨by (with_reducible repeat (first | refine blk_drewN ?_ _ | refine blk_drew ?_ | refine blk_alloc ?_ _)); refine blk_far ?_ NB243_271.out _; (with_reducible repeat (first | refine blk_drewN ?_ _ | refine blk_drew ?_ | refine blk_alloc ?_ _)); refine blk_far ?_ NB243_271.out _; (with_reducible repeat (first | refine blk_drewN ?_ _ | refine blk_drew ?_ | refine blk_alloc ?_ _)); refine blk_far ?_ NB243_271.out _; (with_reducible repeat (first | refine blk_drewN ?_ _ | refine blk_drew ?_ | refine blk_alloc ?_ _)); exact BK243.out⟩
          have n6_ : Aside0 ((((w52.setCell ⟨gb271, 0, none⟩ (.bool t265)).setCell ⟨gb271, 1, none⟩ (.slice Ao58 t266.length co58)).setCell ⟨gb271, 2, none⟩ (.int .i64 t269)).heap[gb250]? = some (.cells #[.bool t244, .slice Ao23 t245.length co23, .int .i64 t248] 25 (0, 0))) := ⟨by (with_reducible repeat (first | refine blk_drewN ?_ _ | refine blk_drew ?_ | refine blk_alloc ?_ _)); refine blk_far ?_ NB250_271.out _; (with_reducible repeat (first | refine blk_drewN ?_ _ | refine blk_drew ?_ | refine blk_alloc ?_ _)); refine blk_far ?_ NB250_271.out _; (with_reducible repeat (first | refine blk_drewN ?_ _ | refine blk_drew ?_ | refine blk_alloc ?_ _)); refine blk_far ?_ NB250_271.out _; (with_reducible repeat (first | refine blk_drewN ?_ _ | refine blk_drew ?_ | refine blk_alloc ?_ _)); exact BK250.out⟩
          have n7_ : Aside0 ((((w52.setCell ⟨gb271, 0, none⟩ (.bool t265)).setCell ⟨gb271, 1, none⟩ (.slice Ao58 t266.length co58)).setCell ⟨gb271, 2, none⟩ (.int .i64 t269)).heap[gb257]? = some (.cells #[.bool t251, .slice Ao29 t252.length co29, .int .i64 t255] 25 (0, 0))) := ⟨by (with_reducible repeat (first | refine blk_drewN ?_ _ | refine blk_drew ?_ | refine blk_alloc ?_ _)); refine blk_far ?_ NB257_271.out _; (with_reducible repeat (first | refine blk_drewN ?_ _ | refine blk_drew ?_ | refine blk_alloc ?_ _)); refine blk_far ?_ NB257_271.out _; (with_reducible repeat (first | refine blk_drewN ?_ _ | refine blk_drew ?_ | refine blk_alloc ?_ _)); refine blk_far ?_ NB257_271.out _; (with_reducible repeat (first | refine blk_drewN ?_ _ | refine blk_drew ?_ | refine blk_alloc ?_ _)); exact BK257.out⟩
          have n8_ : Aside0 ((((w52.setCell ⟨gb271, 0, none⟩ (.bool t265)).setCell ⟨gb271, 1, none⟩ (.slice Ao58 t266.length co58)).setCell ⟨gb271, 2, none⟩ (.int .i64 t269)).heap[gb264]? = some (.cells #[.bool t258, .slice Ao47 t259.length co47, .int .i64 t262] 25 (0, 0))) := ⟨by (with_reducible repeat (first | refine blk_drewN ?_ _ | refine blk_drew ?_ | refine blk_alloc ?_ _)); refine blk_far ?_ NB264_271.out _; (with_reducible repeat (first | refine blk_drewN ?_ _ | refine blk_drew ?_ | refine blk_alloc ?_ _)); refine blk_far ?_ NB264_271.out _; (with_reducible repeat (first | refine blk_drewN ?_ _ | refine blk_drew ?_ | refine blk_alloc ?_ _)); refine blk_far ?_ NB264_271.out _; (with_reducible repeat (first | refine blk_drewN ?_ _ | refine blk_drew ?_ | refine blk_alloc ?_ _)); exact BK264.out⟩
          have n9_ : Aside0 ((((w52.setCell ⟨gb271, 0, none⟩ (.bool t265)).setCell ⟨gb271, 1, none⟩ (.slice Ao58 t266.length co58)).setCell ⟨gb271, 2, none⟩ (.int .i64 t269)).heap[gb271]? = some (.cells #[.bool t265, .slice Ao58 t266.length co58, .int .i64 t269] 25 (0, 0))) := ⟨by (with_reducible repeat (first | refine blk_drewN ?_ _ | refine blk_drew ?_ | refine blk_alloc ?_ _)); refine blk_put (cs := #[.bool t265, .slice Ao58 t266.length co58, .int .i64 0]) ?_ 2 _ rfl; (with_reducible repeat (first | refine blk_drewN ?_ _ | refine blk_drew ?_ | refine blk_alloc ?_ _)); refine blk_put (cs := #[.bool t265, .slice none 0 0, .int .i64 0]) ?_ 1 _ rfl; (with_reducible repeat (first | refine blk_drewN ?_ _ | refine blk_drew ?_ | refine blk_alloc ?_ _)); refine blk_put (cs := #[.bool false, .slice none 0 0, .int .i64 0]) ?_ 0 _ rfl; (with_reducible repeat (first | refine blk_drewN ?_ _ | refine blk_drew ?_ | refine blk_alloc ?_ _)); exact BK271.out⟩
          have n10_ : Aside0 (Below w.heap.size w (((w52.setCell ⟨gb271, 0, none⟩ (.bool t265)).setCell ⟨gb271, 1, none⟩ (.slice Ao58 t266.length co58)).setCell ⟨gb271, 2, none⟩ (.int .i64 t269))) := ⟨by repeat (first | (with_reducible first | exact HB.out | apply below_alloc | apply pw_below_drewN | apply below_drew1 | refine below_set ?_ GE243.out | refine below_set ?_ GE250.out | refine below_set ?_ GE257.out | refine below_set ?_ GE264.out | refine below_set ?_ GE271.out) | exact HB.out)⟩
          (try clear HO_244001)
          (try clear HO_251001)
          (try clear HO_258001)
          (try clear HO261)
          (try clear HO268)
          (try clear BK243)
          (try clear BK250)
          (try clear BK257)
          (try clear BK264)
          (try clear BK271)
          (try clear HB)
          generalize (((w52.setCell ⟨gb271, 0, none⟩ (.bool t265)).setCell ⟨gb271, 1, none⟩ (.slice Ao58 t266.length co58)).setCell ⟨gb271, 2, none⟩ (.int .i64 t269)) = w81 at n0_ n1_ n2_ n3_ n4_ n5_ n6_ n7_ n8_ n9_ n10_ ⊢
          have HO_244001 := n0_
          have HO_251001 := n1_
          have HO_258001 := n2_
          have HO261 := n3_
          have HO268 := n4_
          have BK243 := n5_
          have BK250 := n6_
          have BK257 := n7_
          have BK264 := n8_
          have BK271 := n9_
          have HB := n10_
          clear n0_ n1_ n2_ n3_ n4_ n5_ n6_ n7_ n8_ n9_ n10_
          have n0_ := Aside0.mk (Kd.V_drew HO_244001.out)
          have n1_ := Aside0.mk (Kd.V_drew HO_251001.out)
          have n2_ := Aside0.mk (Kd.V_drew HO_258001.out)
          have n3_ := Aside0.mk (Kd.V_drew HO261.out)
          have n4_ := Aside0.mk (Kd.V_drew HO268.out)
          have n5_ := Aside0.mk (blk_drew BK243.out)
          have n6_ := Aside0.mk (blk_drew BK250.out)
          have n7_ := Aside0.mk (blk_drew BK257.out)
          have n8_ := Aside0.mk (blk_drew BK264.out)
          have n9_ := Aside0.mk (blk_drew BK271.out)
          have n10_ := Aside0.mk (below_drew1 HB.out)
          clear HO_244001
          clear HO_251001
          clear HO_258001
          clear HO261
          clear HO268
          clear BK243
          clear BK250
          clear BK257
          clear BK264
          clear BK271
          clear HB
          have HO_244001 := n0_
          have HO_251001 := n1_
          have HO_258001 := n2_
          have HO261 := n3_
          have HO268 := n4_
          have BK243 := n5_
          have BK250 := n6_
          have BK257 := n7_
          have BK264 := n8_
          have BK271 := n9_
          have HB := n10_
          clear n0_ n1_ n2_ n3_ n4_ n5_ n6_ n7_ n8_ n9_ n10_
          refine start_ (n := 24) (S := fun w' => True) (ds := []) #[false, false, false, false, false, false, false, false, false, false, false, false, false, false, false, false, false, false, false, false, false, false, false, false] (by kernel_rfl) rfl rfl trivial (fun hHeld => ?_); refine with_tabW rubriclaw5_DecOrders.tab12 rubriclaw5_DecOrders.bits12 (fun HT_ HW_ => ?_)
          generalize w81.drew = w82 at HO_244001 HO_251001 HO_258001 HO261 HO268 BK243 BK250 BK257 BK264 BK271 HB hHeld ⊢
          refine pure_ (i := 0) (N := some 69) (v := ?_) (a' := ?_) #[true, false, false, false, false, false, false, false, false, false, false, false, false, false, false, false, false, false, false, false, false, false, false, false] rfl rfl (any_of HT_.out (by kernel_rfl)) (fun _ _ _ h => h) (Or.inl ⟨by rfl, ?_⟩) ?_ ?_
          rotate_left
          ·intro w'
           go_simp
           with_reducible rfl
          rotate_left
          ·simp only [Act.put, List.setIfInBounds_toArray, List.set_cons_zero, List.set_cons_succ, i64_w, i32_w]
           rfl
          refine pure_ (i := 1) (N := some 70) (v := ?_) (a' := ?_) #[true, true, false, false, false, false, false, false, false, false, false, false, false, false, false, false, false, false, false, false, false, false, false, false] rfl rfl (any_of HT_.out (by kernel_rfl)) (fun _ _ _ h => h) (Or.inl ⟨by rfl, ?_⟩) ?_ ?_
          rotate_left
          ·intro w'
           go_simp
           with_reducible rfl
          rotate_left
          ·simp only [Act.put, List.setIfInBounds_toArray, List.set_cons_zero, List.set_cons_succ, i64_w, i32_w]
           rfl
          refine pure_ (i := 2) (N := some 71) (v := ?_) (a' := ?_) #[true, true, true, false, false, false, false, false, false, false, false, false, false, false, false, false, false, false, false, false, false, false, false, false] rfl rfl (any_of HT_.out (by kernel_rfl)) (fun _ _ _ h => h) (Or.inl ⟨by rfl, ?_⟩) ?_ ?_
          rotate_left
          ·intro w'
           go_simp
           with_reducible rfl
          rotate_left
          ·simp only [Act.put, List.setIfInBounds_toArray, List.set_cons_zero, List.set_cons_succ, i64_w, i32_w]
           rfl
          refine pure_ (i := 3) (N := some 72) (v := ?_) (a' := ?_) #[true, true, true, true, false, false, false, false, false, false, false, false, false, false, false, false, false, false, false, false, false, false, false, false] rfl rfl (any_of HT_.out (by kernel_rfl)) (fun _ _ _ h => h) (Or.inl ⟨by rfl, ?_⟩) ?_ ?_
          rotate_left
          ·intro w'
           go_simp
           with_reducible rfl
          rotate_left
          ·simp only [Act.put, List.setIfInBounds_toArray, List.set_cons_zero, List.set_cons_succ, i64_w, i32_w]
           rfl
          refine pure_ (i := 4) (N := some 73) (v := ?_) (a' := ?_) #[true, true, true, true, true, false, false, false, false, false, false, false, false, false, false, false, false, false, false, false, false, false, false, false] rfl rfl (any_of HT_.out (by kernel_rfl)) (fun _ _ _ h => h) (Or.inl ⟨by rfl, ?_⟩) ?_ ?_
          rotate_left
          ·intro w'
           go_simp
           with_reducible rfl
          rotate_left
          ·simp only [Act.put, List.setIfInBounds_toArray, List.set_cons_zero, List.set_cons_succ, i64_w, i32_w]
           rfl
          refine pure_ (i := 5) (N := some 74) (v := undef) (a' := ?_) #[true, true, true, true, true, true, false, false, false, false, false, false, false, false, false, false, false, false, false, false, false, false, false, false] rfl rfl (any_of HT_.out (by kernel_rfl)) (fun _ _ _ h => h) (Or.inr ⟨by rfl, rfl⟩) ?_ ?_
          rotate_left
          ·simp only [Act.put, List.setIfInBounds_toArray, List.set_cons_zero, List.set_cons_succ, i64_w, i32_w]
           rfl
          refine pure_ (i := 6) (N := some 75) (v := undef) (a' := ?_) #[true, true, true, true, true, true, true, false, false, false, false, false, false, false, false, false, false, false, false, false, false, false, false, false] rfl rfl (any_of HT_.out (by kernel_rfl)) (fun _ _ _ h => h) (Or.inr ⟨by rfl, rfl⟩) ?_ ?_
          rotate_left
          ·simp only [Act.put, List.setIfInBounds_toArray, List.set_cons_zero, List.set_cons_succ, i64_w, i32_w]
           rfl
          refine pure_ (i := 7) (N := some 76) (v := undef) (a' := ?_) #[true, true, true, true, true, true, true, true, false, false, false, false, false, false, false, false, false, false, false, false, false, false, false, false] rfl rfl (any_of HT_.out (by kernel_rfl)) (fun _ _ _ h => h) (Or.inr ⟨by rfl, rfl⟩) ?_ ?_
          rotate_left
          ·simp only [Act.put, List.setIfInBounds_toArray, List.set_cons_zero, List.set_cons_succ, i64_w, i32_w]
           rfl
          refine pure_ (i := 8) (N := some 77) (v := undef) (a' := ?_) #[true, true, true, true, true, true, true, true, true, false, false, false, false, false, false, false, false, false, false, false, false, false, false, false] rfl rfl (any_of HT_.out (by kernel_rfl)) (fun _ _ _ h => h) (Or.inr ⟨by rfl, rfl⟩) ?_ ?_
          rotate_left
          ·simp only [Act.put, List.setIfInBounds_toArray, List.set_cons_zero, List.set_cons_succ, i64_w, i32_w]
           rfl
          refine pure_ (i := 9) (N := some 78) (v := undef) (a' := ?_) #[true, true, true, true, true, true, true, true, true, true, false, false, false, false, false, false, false, false, false, false, false, false, false, false] rfl rfl (any_of HT_.out (by kernel_rfl)) (fun _ _ _ h => h) (Or.inr ⟨by rfl, rfl⟩) ?_ ?_
          rotate_left
          ·simp only [Act.put, List.setIfInBounds_toArray, List.set_cons_zero, List.set_cons_succ, i64_w, i32_w]
           rfl
          refine pure_ (i := 10) (N := some 79) (v := undef) (a' := ?_) #[true, true, true, true, true, true, true, true, true, true, true, false, false, false, false, false, false, false, false, false, false, false, false, false] rfl rfl (any_of HT_.out (by kernel_rfl)) (fun _ _ _ h => h) (Or.inr ⟨by rfl, rfl⟩) ?_ ?_
          rotate_left
          ·simp only [Act.put, List.setIfInBounds_toArray, List.set_cons_zero, List.set_cons_succ, i64_w, i32_w]
           rfl
          refine pure_ (i := 11) (N := some 80) (v := undef) (a' := ?_) #[true, true, true, true, true, true, true, true, true, true, true, true, false, false, false, false, false, false, false, false, false, false, false, false] rfl rfl (any_of HT_.out (by kernel_rfl)) (fun _ _ _ h => h) (Or.inr ⟨by rfl, rfl⟩) ?_ ?_
          rotate_left
          ·simp only [Act.put, List.setIfInBounds_toArray, List.set_cons_zero, List.set_cons_succ, i64_w, i32_w]
           rfl
          refine pure_ (i := 12) (N := some 81) (v := ?_) (a' := ?_) #[true, true, true, true, true, true, true, true, true, true, true, true, true, false, false, false, false, false, false, false, false, false, false, false] rfl rfl (any_of HT_.out (by kernel_rfl)) (fun _ _ _ h => h) (Or.inl ⟨by rfl, ?_⟩) ?_ ?_
          rotate_left
          ·intro w'
           go_simp
           with_reducible rfl
          rotate_left
          ·simp only [Act.put, List.setIfInBounds_toArray, List.set_cons_zero, List.set_cons_succ, i64_w, i32_w]
           rfl
          refine pure_ (i := 13) (N := some 82) (v := ?_) (a' := ?_) #[true, true, true, true, true, true, true, true, true, true, true, true, true, true, false, false, false, false, false, false, false, false, false, false] rfl rfl (any_of HT_.out (by kernel_rfl)) (fun _ _ _ h => h) (Or.inl ⟨by rfl, ?_⟩) ?_ ?_
          rotate_left
          ·intro w'
           go_simp
           with_reducible rfl
          rotate_left
          ·simp only [Act.put, List.setIfInBounds_toArray, List.set_cons_zero, List.set_cons_succ, i64_w, i32_w]
           rfl
          refine pure_ (i := 14) (N := some 83) (v := undef) (a' := ?_) #[true, true, true, true, true, true, true, true, true, true, true, true, true, true, true, false, false, false, false, false, false, false, false, false] rfl rfl (any_of HT_.out (by kernel_rfl)) (fun _ _ _ h => h) (Or.inr ⟨by rfl, rfl⟩) ?_ ?_
          rotate_left
          ·simp only [Act.put, List.setIfInBounds_toArray, List.set_cons_zero, List.set_cons_succ, i64_w, i32_w]
           rfl
          refine pure_ (i := 15) (N := some 84) (v := undef) (a' := ?_) #[true, true, true, true, true, true, true, true, true, true, true, true, true, true, true, true, false, false, false, false, false, false, false, false] rfl rfl (any_of HT_.out (by kernel_rfl)) (fun _ _ _ h => h) (Or.inr ⟨by rfl, rfl⟩) ?_ ?_
          rotate_left
          ·simp only [Act.put, List.setIfInBounds_toArray, List.set_cons_zero, List.set_cons_succ, i64_w, i32_w]
           rfl
          refine pure_ (i := 16) (N := some 85) (v := undef) (a' := ?_) #[true, true, true, true, true, true, true, true, true, true, true, true, true, true, true, true, true, false, false, false, false, false, false, false] rfl rfl (any_of HT_.out (by kernel_rfl)) (fun _ _ _ h => h) (Or.inr ⟨by rfl, rfl⟩) ?_ ?_
          rotate_left
          ·simp only [Act.put, List.setIfInBounds_toArray, List.set_cons_zero, List.set_cons_succ, i64_w, i32_w]
           rfl
          refine pure_ (i := 17) (N := some 86) (v := undef) (a' := ?_) #[true, true, true, true, true, true, true, true, true, true, true, true, true, true, true, true, true, true, false, false, false, false, false, false] rfl rfl (any_of HT_.out (by kernel_rfl)) (fun _ _ _ h => h) (Or.inr ⟨by rfl, rfl⟩) ?_ ?_
          rotate_left
          ·simp only [Act.put, List.setIfInBounds_toArray, List.set_cons_zero, List.set_cons_succ, i64_w, i32_w]
           rfl
          refine pure_ (i := 18) (N := some 87) (v := undef) (a' := ?_) #[true, true, true, true, true, true, true, true, true, true, true, true, true, true, true, true, true, true, true, false, false, false, false, false] rfl rfl (any_of HT_.out (by kernel_rfl)) (fun _ _ _ h => h) (Or.inr ⟨by rfl, rfl⟩) ?_ ?_
          rotate_left
          ·simp only [Act.put, List.setIfInBounds_toArray, List.set_cons_zero, List.set_cons_succ, i64_w, i32_w]
           rfl
          refine pure_ (i := 19) (N := some 88) (v := undef) (a' := ?_) #[true, true, true, true, true, true, true, true, true, true, true, true, true, true, true, true, true, true, true, true, false, false, false, false] rfl rfl (any_of HT_.out (by kernel_rfl)) (fun _ _ _ h => h) (Or.inr ⟨by rfl, rfl⟩) ?_ ?_
          rotate_left
          ·simp only [Act.put, List.setIfInBounds_toArray, List.set_cons_zero, List.set_cons_succ, i64_w, i32_w]
           rfl
          refine pure_ (i := 20) (N := some 89) (v := undef) (a' := ?_) #[true, true, true, true, true, true, true, true, true, true, true, true, true, true, true, true, true, true, true, true, true, false, false, false] rfl rfl (any_of HT_.out (by kernel_rfl)) (fun _ _ _ h => h) (Or.inr ⟨by rfl, rfl⟩) ?_ ?_
          rotate_left
          ·simp only [Act.put, List.setIfInBounds_toArray, List.set_cons_zero, List.set_cons_succ, i64_w, i32_w]
           rfl
          refine pure_ (i := 21) (N := some 90) (v := undef) (a' := ?_) #[true, true, true, true, true, true, true, true, true, true, true, true, true, true, true, true, true, true, true, true, true, true, false, false] rfl rfl (any_of HT_.out (by kernel_rfl)) (fun _ _ _ h => h) (Or.inr ⟨by rfl, rfl⟩) ?_ ?_
          rotate_left
          ·simp only [Act.put, List.setIfInBounds_toArray, List.set_cons_zero, List.set_cons_succ, i64_w, i32_w]
           rfl
          refine pure_ (i := 22) (N := some 91) (v := undef) (a' := ?_) #[true, true, true, true, true, true, true, true, true, true, true, true, true, true, true, true, true, true, true, true, true, true, true, false] rfl rfl (any_of HT_.out (by kernel_rfl)) (fun _ _ _ h => h) (Or.inr ⟨by rfl, rfl⟩) ?_ ?_
          rotate_left
          ·simp only [Act.put, List.setIfInBounds_toArray, List.set_cons_zero, List.set_cons_succ, i64_w, i32_w]
           rfl
          refine pure_ (i := 23) (N := some 92) (v := ?_) (a' := ?_) #[true, true, true, true, true, true, true, true, true, true, true, true, true, true, true, true, true, true, true, true, true, true, true, true] rfl rfl (any_of HT_.out (by kernel_rfl)) (fun _ _ _ h => h) (Or.inl ⟨by rfl, ?_⟩) ?_ ?_
          rotate_left
          ·intro w'
           go_simp
           with_reducible rfl
          rotate_left
          ·simp only [Act.put, List.setIfInBounds_toArray, List.set_cons_zero, List.set_cons_succ, i64_w, i32_w]
           rfl
          refine done_ (done_of HT_.out (by kernel_rfl)) ?_
          try go_wp2
          go_meet
          case rel => exact ⟨_, (true), (by first | rfl | (simp; done) | (simp [*]; done)), H', ⟨by have := HJ5.out; have := HJ13.out; first | omega | exact Nat.le_refl _⟩, ⟨S.v HO_244001.out⟩, ⟨S.v HO_251001.out⟩, ⟨S.v HO_258001.out⟩, ⟨S.v HO261.out⟩, ⟨S.v HO268.out⟩, ⟨S.b BK243.out⟩, ⟨S.b BK250.out⟩, ⟨S.b BK257.out⟩, ⟨S.b BK264.out⟩, ⟨S.b BK271.out⟩, ⟨by repeat (first | (with_reducible first | exact HB.out | apply below_alloc | apply pw_below_drewN | apply below_drew1 | refine below_set ?_ GE243.out | refine below_set ?_ GE250.out | refine below_set ?_ GE257.out | refine below_set ?_ GE264.out | refine below_set ?_ GE271.out) | exact HB.out)⟩⟩
        case rest =>
         clear HC35
         try clear p2
         try clear c5
         try clear c6
         try clear p6
         try clear c8
         try clear c59
         try clear c59b0
         try clear c59b1
         try clear c62
         try clear c62b0
         try clear c62b1
         try clear p64
         obtain ⟨kq, x92_34, rfl, HA, HJ34, HO_244001, HO_251001, HO_258001, HO_265001, HO_272001, BK243, BK250, BK257, BK264, BK271, HB⟩ := hcut
         cases kq with
         | zero => exact absurd HA.out (by simp [rubriclaw5_DecOrders.j2])
         | succ kj34 =>
          have H := HA.out
          clear HA
          simp only [rubriclaw5_DecOrders.j2] at H
          by_cases c83 : x92_34 = true
          ·subst c83
           have H1 : (some false) = some r := by rw [if_pos rfl] at H; exact H
           clear H
           have H := H1
           clear H1
           exact absurd ((Option.some.inj H).trans HRT.out) (by decide)
          ·replace c83 := Bool.eq_false_iff.mpr c83
           subst c83
           have H1 : ((dec_Cmp.f kj34 t237 t238 t241 t244 t245 t248).bind fun t286 => (if t286 > 0 then (some true) else ((dec_Cmp.f kj34 t244 t245 t248 t251 t252 t255).bind fun t287 => (if t287 > 0 then (some true) else ((dec_Cmp.f kj34 t237 t238 t241 t251 t252 t255).bind fun t288 => (some (decide (t288 ≤ 0)))))))) = some r := by rw [if_neg (show ¬ (false = true) by decide)] at H; exact H
           clear H
           have H := H1
           clear H1
           replace H := Option.bind_eq_some_iff.mp H
           obtain ⟨t286, A840, H⟩ := H
           replace H : (if t286 > 0 then (some true) else ((dec_Cmp.f kj34 t244 t245 t248 t251 t252 t255).bind fun t287 => (if t287 > 0 then (some true) else ((dec_Cmp.f kj34 t237 t238 t241 t251 t252 t255).bind fun t288 => (some (decide (t288 ≤ 0))))))) = some r := H
           have A84 := Aside0.mk A840
           clear A840
           by_cases c85 : t286 > 0
           ·rw [if_pos c85] at H
            have c85b0 : decide (0 < t286) = true := decide_eq_true c85
            clear c85
            obtain rfl := Option.some.inj H
            have hnb86 := NB243_250.out
            have hnc86 := NB250_243.out
            have hnb87 := NB243_257.out
            have hnc87 := NB257_243.out
            have hnb88 := NB243_264.out
            have hnc88 := NB264_243.out
            have hnb89 := NB243_271.out
            have hnc89 := NB271_243.out
            have hcz90_0 : wc.cell? ⟨gb243, 0, none⟩ = some (.bool t237) := (blk_cell BK243.out 0).trans rfl
            have hcz90_1 : wc.cell? ⟨gb243, 1, none⟩ = some (.slice Ao18 t238.length co18) := (blk_cell BK243.out 1).trans rfl
            have hcz90_2 : wc.cell? ⟨gb243, 2, none⟩ = some (.int .i64 t241) := (blk_cell BK243.out 2).trans rfl
            have hfz90_0 := blk_frozen BK243.out 0
            have hfz90_1 := blk_frozen BK243.out 1
            have hfz90_2 := blk_frozen BK243.out 2
            have hnb91 := NB250_257.out
            have hnc91 := NB257_250.out
            have hnb92 := NB250_264.out
            have hnc92 := NB264_250.out
            have hnb93 := NB250_271.out
            have hnc93 := NB271_250.out
            have hcz94_0 : wc.cell? ⟨gb250, 0, none⟩ = some (.bool t244) := (blk_cell BK250.out 0).trans rfl
            have hcz94_1 : wc.cell? ⟨gb250, 1, none⟩ = some (.slice Ao23 t245.length co23) := (blk_cell BK250.out 1).trans rfl
            have hcz94_2 : wc.cell? ⟨gb250, 2, none⟩ = some (.int .i64 t248) := (blk_cell BK250.out 2).trans rfl
            have hfz94_0 := blk_frozen BK250.out 0
            have hfz94_1 := blk_frozen BK250.out 1
            have hfz94_2 := blk_frozen BK250.out 2
            go_wp2_with (first | ((with_reducible refine gate_callee (f := 8) rfl ?_); refine goesL_ (some 95) rfl rfl Try.func8 (by kernel_rfl) rfl #[.agg #[.bool t237, .slice Ao18 t238.length co18, .int .i64 t241], .agg #[.bool t244, .slice Ao23 t245.length co23, .int .i64 t248]] rfl (by (try simp only [List.map_toArray, List.map_cons, List.map_nil]); first | done | rfl | (simp only [List.length_drop, List.length_take]; rfl)) ?_; (with_reducible refine (dec_Cmp.calls kj34 t237 _ _ t238 t241 t244 _ _ t245 t248 t286 _ ?side1 ?side2 ?side3 ?side4 A84.out).mono ?_); (case side1 => repeat (first | exact (Kd.V_reads' HO_244001.out).2.2 | (with_reducible refine Kd.C_alloc ?_ _) | (with_reducible refine Kd.C_drewN ?_ _) | (with_reducible refine Kd.C_drew ?_))); (case side2 => exact (Kd.V_reads' HO_244001.out).2.1); (case side3 => repeat (first | exact (Kd.V_reads' HO_251001.out).2.2 | (with_reducible refine Kd.C_alloc ?_ _) | (with_reducible refine Kd.C_drewN ?_ _) | (with_reducible refine Kd.C_drew ?_))); (case side4 => exact (Kd.V_reads' HO_251001.out).2.1); rintro e w95 ⟨rfl, hb⟩; refine ⟨_, rfl, ?_⟩; have n0_ := Aside0.mk (Kd.V_below (S.v HO_244001.out) hb); have n1_ := Aside0.mk (Kd.V_below (S.v HO_251001.out) hb); have n2_ := Aside0.mk (Kd.V_below (S.v HO_258001.out) hb); have n3_ := Aside0.mk (Kd.V_below (S.v HO_265001.out) hb); have n4_ := Aside0.mk (Kd.V_below (S.v HO_272001.out) hb); have n5_ := Aside0.mk (blk_below (g := gb243) (o := .cells #[.bool t237, .slice Ao18 t238.length co18, .int .i64 t241] 25 (0, 0)) (S.b BK243.out) hb); have n6_ := Aside0.mk (blk_below (g := gb250) (o := .cells #[.bool t244, .slice Ao23 t245.length co23, .int .i64 t248] 25 (0, 0)) (S.b BK250.out) hb); have n7_ := Aside0.mk (blk_below (g := gb257) (o := .cells #[.bool t251, .slice Ao29 t252.length co29, .int .i64 t255] 25 (0, 0)) (S.b BK257.out) hb); have n8_ := Aside0.mk (blk_below (g := gb264) (o := .cells #[.bool t258, .slice Ao47 t259.length co47, .int .i64 t262] 25 (0, 0)) (S.b BK264.out) hb); have n9_ := Aside0.mk (blk_below (g := gb271) (o := .cells #[.bool t265, .slice Ao58 t266.length co58, .int .i64 t269] 25 (0, 0)) (S.b BK271.out) hb); have n10_ := Aside0.mk (below_step (by repeat (first | (with_reducible first | exact HB.out | apply below_alloc | apply pw_below_drewN | apply below_drew1 | refine below_set ?_ GE243.out | refine below_set ?_ GE250.out | refine below_set ?_ GE257.out | refine below_set ?_ GE264.out | refine below_set ?_ GE271.out) | exact HB.out)) hb); clear HO_244001; clear HO_251001; clear HO_258001; clear HO_265001; clear HO_272001; clear BK243; clear BK250; clear BK257; clear BK264; clear BK271; clear HB; have HO_244001 := n0_; have HO_251001 := n1_; have HO_258001 := n2_; have HO_265001 := n3_; have HO_272001 := n4_; have BK243 := n5_; have BK250 := n6_; have BK257 := n7_; have BK264 := n8_; have BK271 := n9_; have HB := n10_; clear n0_ n1_ n2_ n3_ n4_ n5_ n6_ n7_ n8_ n9_ n10_; (try clear hb); (try clear hb2); (try clear hk); (try clear hi)))
            go_ret
            exact ⟨by first | rfl | (simp [errW_none, errW_some] <;> rfl) | (simp [*, errW_none, errW_some] <;> rfl), by repeat (first | (with_reducible first | exact HB.out | apply below_alloc | apply pw_below_drewN | apply below_drew1 | refine below_set ?_ GE243.out | refine below_set ?_ GE250.out | refine below_set ?_ GE257.out | refine below_set ?_ GE264.out | refine below_set ?_ GE271.out) | exact HB.out)⟩
           ·rw [if_neg c85] at H
            have c85b0 : decide (0 < t286) = false := decide_eq_false c85
            clear c85
            replace H := Option.bind_eq_some_iff.mp H
            obtain ⟨t287, A960, H⟩ := H
            replace H : (if t287 > 0 then (some true) else ((dec_Cmp.f kj34 t237 t238 t241 t251 t252 t255).bind fun t288 => (some (decide (t288 ≤ 0))))) = some r := H
            have A96 := Aside0.mk A960
            clear A960
            by_cases c97 : t287 > 0
            ·rw [if_pos c97] at H
             have c97b0 : decide (0 < t287) = true := decide_eq_true c97
             clear c97
             obtain rfl := Option.some.inj H
             have hnb98 := NB243_250.out
             have hnc98 := NB250_243.out
             have hnb99 := NB243_257.out
             have hnc99 := NB257_243.out
             have hnb100 := NB243_264.out
             have hnc100 := NB264_243.out
             have hnb101 := NB243_271.out
             have hnc101 := NB271_243.out
             have hcz102_0 : wc.cell? ⟨gb243, 0, none⟩ = some (.bool t237) := (blk_cell BK243.out 0).trans rfl
             have hcz102_1 : wc.cell? ⟨gb243, 1, none⟩ = some (.slice Ao18 t238.length co18) := (blk_cell BK243.out 1).trans rfl
             have hcz102_2 : wc.cell? ⟨gb243, 2, none⟩ = some (.int .i64 t241) := (blk_cell BK243.out 2).trans rfl
             have hfz102_0 := blk_frozen BK243.out 0
             have hfz102_1 := blk_frozen BK243.out 1
             have hfz102_2 := blk_frozen BK243.out 2
             have hnb103 := NB250_257.out
             have hnc103 := NB257_250.out
             have hnb104 := NB250_264.out
             have hnc104 := NB264_250.out
             have hnb105 := NB250_271.out
             have hnc105 := NB271_250.out
             have hcz106_0 : wc.cell? ⟨gb250, 0, none⟩ = some (.bool t244) := (blk_cell BK250.out 0).trans rfl
             have hcz106_1 : wc.cell? ⟨gb250, 1, none⟩ = some (.slice Ao23 t245.length co23) := (blk_cell BK250.out 1).trans rfl
             have hcz106_2 : wc.cell? ⟨gb250, 2, none⟩ = some (.int .i64 t248) := (blk_cell BK250.out 2).trans rfl
             have hfz106_0 := blk_frozen BK250.out 0
             have hfz106_1 := blk_frozen BK250.out 1
             have hfz106_2 := blk_frozen BK250.out 2
             go_wp2_with (first | ((with_reducible refine gate_callee (f := 8) rfl ?_); refine goesL_ (some 95) rfl rfl Try.func8 (by kernel_rfl) rfl #[.agg #[.bool t237, .slice Ao18 t238.length co18, .int .i64 t241], .agg #[.bool t244, .slice Ao23 t245.length co23, .int .i64 t248]] rfl (by (try simp only [List.map_toArray, List.map_cons, List.map_nil]); first | done | rfl | (simp only [List.length_drop, List.length_take]; rfl)) ?_; (with_reducible refine (dec_Cmp.calls kj34 t237 _ _ t238 t241 t244 _ _ t245 t248 t286 _ ?side1 ?side2 ?side3 ?side4 A84.out).mono ?_); (case side1 => repeat (first | exact (Kd.V_reads' HO_244001.out).2.2 | (with_reducible refine Kd.C_alloc ?_ _) | (with_reducible refine Kd.C_drewN ?_ _) | (with_reducible refine Kd.C_drew ?_))); (case side2 => exact (Kd.V_reads' HO_244001.out).2.1); (case side3 => repeat (first | exact (Kd.V_reads' HO_251001.out).2.2 | (with_reducible refine Kd.C_alloc ?_ _) | (with_reducible refine Kd.C_drewN ?_ _) | (with_reducible refine Kd.C_drew ?_))); (case side4 => exact (Kd.V_reads' HO_251001.out).2.1); rintro e w107 ⟨rfl, hb⟩; refine ⟨_, rfl, ?_⟩; have n0_ := Aside0.mk (Kd.V_below (S.v HO_244001.out) hb); have n1_ := Aside0.mk (Kd.V_below (S.v HO_251001.out) hb); have n2_ := Aside0.mk (Kd.V_below (S.v HO_258001.out) hb); have n3_ := Aside0.mk (Kd.V_below (S.v HO_265001.out) hb); have n4_ := Aside0.mk (Kd.V_below (S.v HO_272001.out) hb); have n5_ := Aside0.mk (blk_below (g := gb243) (o := .cells #[.bool t237, .slice Ao18 t238.length co18, .int .i64 t241] 25 (0, 0)) (S.b BK243.out) hb); have n6_ := Aside0.mk (blk_below (g := gb250) (o := .cells #[.bool t244, .slice Ao23 t245.length co23, .int .i64 t248] 25 (0, 0)) (S.b BK250.out) hb); have n7_ := Aside0.mk (blk_below (g := gb257) (o := .cells #[.bool t251, .slice Ao29 t252.length co29, .int .i64 t255] 25 (0, 0)) (S.b BK257.out) hb); have n8_ := Aside0.mk (blk_below (g := gb264) (o := .cells #[.bool t258, .slice Ao47 t259.length co47, .int .i64 t262] 25 (0, 0)) (S.b BK264.out) hb); have n9_ := Aside0.mk (blk_below (g := gb271) (o := .cells #[.bool t265, .slice Ao58 t266.length co58, .int .i64 t269] 25 (0, 0)) (S.b BK271.out) hb); have n10_ := Aside0.mk (below_step (by repeat (first | (with_reducible first | exact HB.out | apply below_alloc | apply pw_below_drewN | apply below_drew1 | refine below_set ?_ GE243.out | refine below_set ?_ GE250.out | refine below_set ?_ GE257.out | refine below_set ?_ GE264.out | refine below_set ?_ GE271.out) | exact HB.out)) hb); clear HO_244001; clear HO_251001; clear HO_258001; clear HO_265001; clear HO_272001; clear BK243; clear BK250; clear BK257; clear BK264; clear BK271; clear HB; have HO_244001 := n0_; have HO_251001 := n1_; have HO_258001 := n2_; have HO_265001 := n3_; have HO_272001 := n4_; have BK243 := n5_; have BK250 := n6_; have BK257 := n7_; have BK264 := n8_; have BK271 := n9_; have HB := n10_; clear n0_ n1_ n2_ n3_ n4_ n5_ n6_ n7_ n8_ n9_ n10_; (try clear hb); (try clear hb2); (try clear hk); (try clear hi); have hcz108_0 : w107.cell? ⟨gb250, 0, none⟩ = some (.bool t244) := (blk_cell BK250.out 0).trans rfl; have hcz108_1 : w107.cell? ⟨gb250, 1, none⟩ = some (.slice Ao23 t245.length co23) := (blk_cell BK250.out 1).trans rfl; have hcz108_2 : w107.cell? ⟨gb250, 2, none⟩ = some (.int .i64 t248) := (blk_cell BK250.out 2).trans rfl; have hfz108_0 := blk_frozen BK250.out 0; have hfz108_1 := blk_frozen BK250.out 1; have hfz108_2 := blk_frozen BK250.out 2; have hnb109 := NB257_264.out; have hnc109 := NB264_257.out; have hnb110 := NB257_271.out; have hnc110 := NB271_257.out; have hcz111_0 : w107.cell? ⟨gb257, 0, none⟩ = some (.bool t251) := (blk_cell BK257.out 0).trans rfl; have hcz111_1 : w107.cell? ⟨gb257, 1, none⟩ = some (.slice Ao29 t252.length co29) := (blk_cell BK257.out 1).trans rfl; have hcz111_2 : w107.cell? ⟨gb257, 2, none⟩ = some (.int .i64 t255) := (blk_cell BK257.out 2).trans rfl; have hfz111_0 := blk_frozen BK257.out 0; have hfz111_1 := blk_frozen BK257.out 1; have hfz111_2 := blk_frozen BK257.out 2) | (go_at_call 8; (with_reducible refine (dec_Cmp.calls kj34 t244 _ _ t245 t248 t251 _ _ t252 t255 t287 _ ?side1 ?side2 ?side3 ?side4 A96.out).mono ?_); (case side1 => repeat (first | exact (Kd.V_reads' HO_251001.out).2.2 | (with_reducible refine Kd.C_alloc ?_ _) | (with_reducible refine Kd.C_drewN ?_ _) | (with_reducible refine Kd.C_drew ?_))); (case side2 => exact (Kd.V_reads' HO_251001.out).2.1); (case side3 => repeat (first | exact (Kd.V_reads' HO_258001.out).2.2 | (with_reducible refine Kd.C_alloc ?_ _) | (with_reducible refine Kd.C_drewN ?_ _) | (with_reducible refine Kd.C_drew ?_))); (case side4 => exact (Kd.V_reads' HO_258001.out).2.1); rintro e w112 ⟨rfl, hb⟩; have n0_ := Aside0.mk (Kd.V_below (S.v HO_244001.out) hb); have n1_ := Aside0.mk (Kd.V_below (S.v HO_251001.out) hb); have n2_ := Aside0.mk (Kd.V_below (S.v HO_258001.out) hb); have n3_ := Aside0.mk (Kd.V_below (S.v HO_265001.out) hb); have n4_ := Aside0.mk (Kd.V_below (S.v HO_272001.out) hb); have n5_ := Aside0.mk (blk_below (g := gb243) (o := .cells #[.bool t237, .slice Ao18 t238.length co18, .int .i64 t241] 25 (0, 0)) (S.b BK243.out) hb); have n6_ := Aside0.mk (blk_below (g := gb250) (o := .cells #[.bool t244, .slice Ao23 t245.length co23, .int .i64 t248] 25 (0, 0)) (S.b BK250.out) hb); have n7_ := Aside0.mk (blk_below (g := gb257) (o := .cells #[.bool t251, .slice Ao29 t252.length co29, .int .i64 t255] 25 (0, 0)) (S.b BK257.out) hb); have n8_ := Aside0.mk (blk_below (g := gb264) (o := .cells #[.bool t258, .slice Ao47 t259.length co47, .int .i64 t262] 25 (0, 0)) (S.b BK264.out) hb); have n9_ := Aside0.mk (blk_below (g := gb271) (o := .cells #[.bool t265, .slice Ao58 t266.length co58, .int .i64 t269] 25 (0, 0)) (S.b BK271.out) hb); have n10_ := Aside0.mk (below_step (by repeat (first | (with_reducible first | exact HB.out | apply below_alloc | apply pw_below_drewN | apply below_drew1 | refine below_set ?_ GE243.out | refine below_set ?_ GE250.out | refine below_set ?_ GE257.out | refine below_set ?_ GE264.out | refine below_set ?_ GE271.out) | exact HB.out)) hb); clear HO_244001; clear HO_251001; clear HO_258001; clear HO_265001; clear HO_272001; clear BK243; clear BK250; clear BK257; clear BK264; clear BK271; clear HB; have HO_244001 := n0_; have HO_251001 := n1_; have HO_258001 := n2_; have HO_265001 := n3_; have HO_272001 := n4_; have BK243 := n5_; have BK250 := n6_; have BK257 := n7_; have BK264 := n8_; have BK271 := n9_; have HB := n10_; clear n0_ n1_ n2_ n3_ n4_ n5_ n6_ n7_ n8_ n9_ n10_; (try clear hb); (try clear hb2); (try clear hk); (try clear hi)))
             go_ret
             exact ⟨by first | rfl | (simp [errW_none, errW_some] <;> rfl) | (simp [*, errW_none, errW_some] <;> rfl), by repeat (first | (with_reducible first | exact HB.out | apply below_alloc | apply pw_below_drewN | apply below_drew1 | refine below_set ?_ GE243.out | refine below_set ?_ GE250.out | refine below_set ?_ GE257.out | refine below_set ?_ GE264.out | refine below_set ?_ GE271.out) | exact HB.out)⟩
            ·rw [if_neg c97] at H
             have c97b0 : decide (0 < t287) = false := decide_eq_false c97
             clear c97
             replace H := Option.bind_eq_some_iff.mp H
             obtain ⟨t288, A1130, H⟩ := H
             replace H : (some (decide (t288 ≤ 0))) = some r := H
             have A113 := Aside0.mk A1130
             clear A1130
             obtain rfl := Option.some.inj H
             have hnb114 := NB243_250.out
             have hnc114 := NB250_243.out
             have hnb115 := NB243_257.out
             have hnc115 := NB257_243.out
             have hnb116 := NB243_264.out
             have hnc116 := NB264_243.out
             have hnb117 := NB243_271.out
             have hnc117 := NB271_243.out
             have hcz118_0 : wc.cell? ⟨gb243, 0, none⟩ = some (.bool t237) := (blk_cell BK243.out 0).trans rfl
             have hcz118_1 : wc.cell? ⟨gb243, 1, none⟩ = some (.slice Ao18 t238.length co18) := (blk_cell BK243.out 1).trans rfl
             have hcz118_2 : wc.cell? ⟨gb243, 2, none⟩ = some (.int .i64 t241) := (blk_cell BK243.out 2).trans rfl
             have hfz118_0 := blk_frozen BK243.out 0
             have hfz118_1 := blk_frozen BK243.out 1
             have hfz118_2 := blk_frozen BK243.out 2
             have hnb119 := NB250_257.out
             have hnc119 := NB257_250.out
             have hnb120 := NB250_264.out
             have hnc120 := NB264_250.out
             have hnb121 := NB250_271.out
             have hnc121 := NB271_250.out
             have hcz122_0 : wc.cell? ⟨gb250, 0, none⟩ = some (.bool t244) := (blk_cell BK250.out 0).trans rfl
             have hcz122_1 : wc.cell? ⟨gb250, 1, none⟩ = some (.slice Ao23 t245.length co23) := (blk_cell BK250.out 1).trans rfl
             have hcz122_2 : wc.cell? ⟨gb250, 2, none⟩ = some (.int .i64 t248) := (blk_cell BK250.out 2).trans rfl
             have hfz122_0 := blk_frozen BK250.out 0
             have hfz122_1 := blk_frozen BK250.out 1
             have hfz122_2 := blk_frozen BK250.out 2
             go_wp2_with (first | ((with_reducible refine gate_callee (f := 8) rfl ?_); refine goesL_ (some 95) rfl rfl Try.func8 (by kernel_rfl) rfl #[.agg #[.bool t237, .slice Ao18 t238.length co18, .int .i64 t241], .agg #[.bool t244, .slice Ao23 t245.length co23, .int .i64 t248]] rfl (by (try simp only [List.map_toArray, List.map_cons, List.map_nil]); first | done | rfl | (simp only [List.length_drop, List.length_take]; rfl)) ?_; (with_reducible refine (dec_Cmp.calls kj34 t237 _ _ t238 t241 t244 _ _ t245 t248 t286 _ ?side1 ?side2 ?side3 ?side4 A84.out).mono ?_); (case side1 => repeat (first | exact (Kd.V_reads' HO_244001.out).2.2 | (with_reducible refine Kd.C_alloc ?_ _) | (with_reducible refine Kd.C_drewN ?_ _) | (with_reducible refine Kd.C_drew ?_))); (case side2 => exact (Kd.V_reads' HO_244001.out).2.1); (case side3 => repeat (first | exact (Kd.V_reads' HO_251001.out).2.2 | (with_reducible refine Kd.C_alloc ?_ _) | (with_reducible refine Kd.C_drewN ?_ _) | (with_reducible refine Kd.C_drew ?_))); (case side4 => exact (Kd.V_reads' HO_251001.out).2.1); rintro e w123 ⟨rfl, hb⟩; refine ⟨_, rfl, ?_⟩; have n0_ := Aside0.mk (Kd.V_below (S.v HO_244001.out) hb); have n1_ := Aside0.mk (Kd.V_below (S.v HO_251001.out) hb); have n2_ := Aside0.mk (Kd.V_below (S.v HO_258001.out) hb); have n3_ := Aside0.mk (Kd.V_below (S.v HO_265001.out) hb); have n4_ := Aside0.mk (Kd.V_below (S.v HO_272001.out) hb); have n5_ := Aside0.mk (blk_below (g := gb243) (o := .cells #[.bool t237, .slice Ao18 t238.length co18, .int .i64 t241] 25 (0, 0)) (S.b BK243.out) hb); have n6_ := Aside0.mk (blk_below (g := gb250) (o := .cells #[.bool t244, .slice Ao23 t245.length co23, .int .i64 t248] 25 (0, 0)) (S.b BK250.out) hb); have n7_ := Aside0.mk (blk_below (g := gb257) (o := .cells #[.bool t251, .slice Ao29 t252.length co29, .int .i64 t255] 25 (0, 0)) (S.b BK257.out) hb); have n8_ := Aside0.mk (blk_below (g := gb264) (o := .cells #[.bool t258, .slice Ao47 t259.length co47, .int .i64 t262] 25 (0, 0)) (S.b BK264.out) hb); have n9_ := Aside0.mk (blk_below (g := gb271) (o := .cells #[.bool t265, .slice Ao58 t266.length co58, .int .i64 t269] 25 (0, 0)) (S.b BK271.out) hb); have n10_ := Aside0.mk (below_step (by repeat (first | (with_reducible first | exact HB.out | apply below_alloc | apply pw_below_drewN | apply below_drew1 | refine below_set ?_ GE243.out | refine below_set ?_ GE250.out | refine below_set ?_ GE257.out | refine below_set ?_ GE264.out | refine below_set ?_ GE271.out) | exact HB.out)) hb); clear HO_244001; clear HO_251001; clear HO_258001; clear HO_265001; clear HO_272001; clear BK243; clear BK250; clear BK257; clear BK264; clear BK271; clear HB; have HO_244001 := n0_; have HO_251001 := n1_; have HO_258001 := n2_; have HO_265001 := n3_; have HO_272001 := n4_; have BK243 := n5_; have BK250 := n6_; have BK257 := n7_; have BK264 := n8_; have BK271 := n9_; have HB := n10_; clear n0_ n1_ n2_ n3_ n4_ n5_ n6_ n7_ n8_ n9_ n10_; (try clear hb); (try clear hb2); (try clear hk); (try clear hi); have hcz124_0 : w123.cell? ⟨gb250, 0, none⟩ = some (.bool t244) := (blk_cell BK250.out 0).trans rfl; have hcz124_1 : w123.cell? ⟨gb250, 1, none⟩ = some (.slice Ao23 t245.length co23) := (blk_cell BK250.out 1).trans rfl; have hcz124_2 : w123.cell? ⟨gb250, 2, none⟩ = some (.int .i64 t248) := (blk_cell BK250.out 2).trans rfl; have hfz124_0 := blk_frozen BK250.out 0; have hfz124_1 := blk_frozen BK250.out 1; have hfz124_2 := blk_frozen BK250.out 2; have hnb125 := NB257_264.out; have hnc125 := NB264_257.out; have hnb126 := NB257_271.out; have hnc126 := NB271_257.out; have hcz127_0 : w123.cell? ⟨gb257, 0, none⟩ = some (.bool t251) := (blk_cell BK257.out 0).trans rfl; have hcz127_1 : w123.cell? ⟨gb257, 1, none⟩ = some (.slice Ao29 t252.length co29) := (blk_cell BK257.out 1).trans rfl; have hcz127_2 : w123.cell? ⟨gb257, 2, none⟩ = some (.int .i64 t255) := (blk_cell BK257.out 2).trans rfl; have hfz127_0 := blk_frozen BK257.out 0; have hfz127_1 := blk_frozen BK257.out 1; have hfz127_2 := blk_frozen BK257.out 2) | (go_at_call 8; (with_reducible refine (dec_Cmp.calls kj34 t244 _ _ t245 t248 t251 _ _ t252 t255 t287 _ ?side1 ?side2 ?side3 ?side4 A96.out).mono ?_); (case side1 => repeat (first | exact (Kd.V_reads' HO_251001.out).2.2 | (with_reducible refine Kd.C_alloc ?_ _) | (with_reducible refine Kd.C_drewN ?_ _) | (with_reducible refine Kd.C_drew ?_))); (case side2 => exact (Kd.V_reads' HO_251001.out).2.1); (case side3 => repeat (first | exact (Kd.V_reads' HO_258001.out).2.2 | (with_reducible refine Kd.C_alloc ?_ _) | (with_reducible refine Kd.C_drewN ?_ _) | (with_reducible refine Kd.C_drew ?_))); (case side4 => exact (Kd.V_reads' HO_258001.out).2.1); rintro e w128 ⟨rfl, hb⟩; have n0_ := Aside0.mk (Kd.V_below (S.v HO_244001.out) hb); have n1_ := Aside0.mk (Kd.V_below (S.v HO_251001.out) hb); have n2_ := Aside0.mk (Kd.V_below (S.v HO_258001.out) hb); have n3_ := Aside0.mk (Kd.V_below (S.v HO_265001.out) hb); have n4_ := Aside0.mk (Kd.V_below (S.v HO_272001.out) hb); have n5_ := Aside0.mk (blk_below (g := gb243) (o := .cells #[.bool t237, .slice Ao18 t238.length co18, .int .i64 t241] 25 (0, 0)) (S.b BK243.out) hb); have n6_ := Aside0.mk (blk_below (g := gb250) (o := .cells #[.bool t244, .slice Ao23 t245.length co23, .int .i64 t248] 25 (0, 0)) (S.b BK250.out) hb); have n7_ := Aside0.mk (blk_below (g := gb257) (o := .cells #[.bool t251, .slice Ao29 t252.length co29, .int .i64 t255] 25 (0, 0)) (S.b BK257.out) hb); have n8_ := Aside0.mk (blk_below (g := gb264) (o := .cells #[.bool t258, .slice Ao47 t259.length co47, .int .i64 t262] 25 (0, 0)) (S.b BK264.out) hb); have n9_ := Aside0.mk (blk_below (g := gb271) (o := .cells #[.bool t265, .slice Ao58 t266.length co58, .int .i64 t269] 25 (0, 0)) (S.b BK271.out) hb); have n10_ := Aside0.mk (below_step (by repeat (first | (with_reducible first | exact HB.out | apply below_alloc | apply pw_below_drewN | apply below_drew1 | refine below_set ?_ GE243.out | refine below_set ?_ GE250.out | refine below_set ?_ GE257.out | refine below_set ?_ GE264.out | refine below_set ?_ GE271.out) | exact HB.out)) hb); clear HO_244001; clear HO_251001; clear HO_258001; clear HO_265001; clear HO_272001; clear BK243; clear BK250; clear BK257; clear BK264; clear BK271; clear HB; have HO_244001 := n0_; have HO_251001 := n1_; have HO_258001 := n2_; have HO_265001 := n3_; have HO_272001 := n4_; have BK243 := n5_; have BK250 := n6_; have BK257 := n7_; have BK264 := n8_; have BK271 := n9_; have HB := n10_; clear n0_ n1_ n2_ n3_ n4_ n5_ n6_ n7_ n8_ n9_ n10_; (try clear hb); (try clear hb2); (try clear hk); (try clear hi); have hcz129_0 : w128.cell? ⟨gb243, 0, none⟩ = some (.bool t237) := (blk_cell BK243.out 0).trans rfl; have hcz129_1 : w128.cell? ⟨gb243, 1, none⟩ = some (.slice Ao18 t238.length co18) := (blk_cell BK243.out 1).trans rfl; have hcz129_2 : w128.cell? ⟨gb243, 2, none⟩ = some (.int .i64 t241) := (blk_cell BK243.out 2).trans rfl; have hfz129_0 := blk_frozen BK243.out 0; have hfz129_1 := blk_frozen BK243.out 1; have hfz129_2 := blk_frozen BK243.out 2; have hcz130_0 : w128.cell? ⟨gb257, 0, none⟩ = some (.bool t251) := (blk_cell BK257.out 0).trans rfl; have hcz130_1 : w128.cell? ⟨gb257, 1, none⟩ = some (.slice Ao29 t252.length co29) := (blk_cell BK257.out 1).trans rfl; have hcz130_2 : w128.cell? ⟨gb257, 2, none⟩ = some (.int .i64 t255) := (blk_cell BK257.out 2).trans rfl; have hfz130_0 := blk_frozen BK257.out 0; have hfz130_1 := blk_frozen BK257.out 1; have hfz130_2 := blk_frozen BK257.out 2) | (go_at_call 8; (with_reducible refine (dec_Cmp.calls kj34 t237 _ _ t238 t241 t251 _ _ t252 t255 t288 _ ?side1 ?side2 ?side3 ?side4 A113.out).mono ?_); (case side1 => repeat (first | exact (Kd.V_reads' HO_244001.out).2.2 | (with_reducible refine Kd.C_alloc ?_ _) | (with_reducible refine Kd.C_drewN ?_ _) | (with_reducible refine Kd.C_drew ?_))); (case side2 => exact (Kd.V_reads' HO_244001.out).2.1); (case side3 => repeat (first | exact (Kd.V_reads' HO_258001.out).2.2 | (with_reducible refine Kd.C_alloc ?_ _) | (with_reducible refine Kd.C_drewN ?_ _) | (with_reducible refine Kd.C_drew ?_))); (case side4 => exact (Kd.V_reads' HO_258001.out).2.1); rintro e w131 ⟨rfl, hb⟩; have n0_ := Aside0.mk (Kd.V_below (S.v HO_244001.out) hb); have n1_ := Aside0.mk (Kd.V_below (S.v HO_251001.out) hb); have n2_ := Aside0.mk (Kd.V_below (S.v HO_258001.out) hb); have n3_ := Aside0.mk (Kd.V_below (S.v HO_265001.out) hb); have n4_ := Aside0.mk (Kd.V_below (S.v HO_272001.out) hb); have n5_ := Aside0.mk (blk_below (g := gb243) (o := .cells #[.bool t237, .slice Ao18 t238.length co18, .int .i64 t241] 25 (0, 0)) (S.b BK243.out) hb); have n6_ := Aside0.mk (blk_below (g := gb250) (o := .cells #[.bool t244, .slice Ao23 t245.length co23, .int .i64 t248] 25 (0, 0)) (S.b BK250.out) hb); have n7_ := Aside0.mk (blk_below (g := gb257) (o := .cells #[.bool t251, .slice Ao29 t252.length co29, .int .i64 t255] 25 (0, 0)) (S.b BK257.out) hb); have n8_ := Aside0.mk (blk_below (g := gb264) (o := .cells #[.bool t258, .slice Ao47 t259.length co47, .int .i64 t262] 25 (0, 0)) (S.b BK264.out) hb); have n9_ := Aside0.mk (blk_below (g := gb271) (o := .cells #[.bool t265, .slice Ao58 t266.length co58, .int .i64 t269] 25 (0, 0)) (S.b BK271.out) hb); have n10_ := Aside0.mk (below_step (by repeat (first | (with_reducible first | exact HB.out | apply below_alloc | apply pw_below_drewN | apply below_drew1 | refine below_set ?_ GE243.out | refine below_set ?_ GE250.out | refine below_set ?_ GE257.out | refine below_set ?_ GE264.out | refine below_set ?_ GE271.out) | exact HB.out)) hb); clear HO_244001; clear HO_251001; clear HO_258001; clear HO_265001; clear HO_272001; clear BK243; clear BK250; clear BK257; clear BK264; clear BK271; clear HB; have HO_244001 := n0_; have HO_251001 := n1_; have HO_258001 := n2_; have HO_265001 := n3_; have HO_272001 := n4_; have BK243 := n5_; have BK250 := n6_; have BK257 := n7_; have BK264 := n8_; have BK271 := n9_; have HB := n10_; clear n0_ n1_ n2_ n3_ n4_ n5_ n6_ n7_ n8_ n9_ n10_; (try clear hb); (try clear hb2); (try clear hk); (try clear hi)))
             go_ret
             exact ⟨by first | rfl | (simp [errW_none, errW_some] <;> rfl) | (simp [*, errW_none, errW_some] <;> rfl), by repeat (first | (with_reducible first | exact HB.out | apply below_alloc | apply pw_below_drewN | apply below_drew1 | refine below_set ?_ GE243.out | refine below_set ?_ GE250.out | refine below_set ?_ GE257.out | refine below_set ?_ GE264.out | refine below_set ?_ GE271.out) | exact HB.out)⟩
 ·replace c5 := Bool.eq_false_iff.mpr c5
  subst c5
  have H1 : (some false) = some r := by rw [if_neg (show ¬ (false = true) by decide)] at H; exact H
  clear H
  have H := H1
  clear H1
  exact absurd ((Option.some.inj H).trans HRT.out) (by decide)

/-- THE ONE PURE STATEMENT of rubriclaw5_DecOrders: yours. -/
def rubriclaw5_DecOrders.Pure : Prop := ∀ (a0 : ByteArray) (a1 : ByteArray) (a2 : ByteArray), a0.size ≤ 140737488351232 → a1.size ≤ 140737488351232 → a2.size ≤ 140737488351232 → ∃ k, rubriclaw5_DecOrders.f k a0 a1 a2 = some true
theorem rubriclaw5_DecOrders.walk (P : rubriclaw5_DecOrders.Pure) (a0 : ByteArray) (a1 : ByteArray) (a2 : ByteArray) (w : World) (w0 : a0.size ≤ 140737488351232) (w1 : a1.size ≤ 140737488351232) (w2 : a2.size ≤ 140737488351232) :
  Calls Try.prog 4 #[.string a0, .string a1, .string a2] w fun e w' => e = .returned (.bool true) ∧ Below w.heap.size w w' := by
 obtain ⟨k, h⟩ := P a0 a1 a2 w0 w1 w2
 refine (rubriclaw5_DecOrders.calls k a0 a1 a2 true w h rfl).mono ?_
 rintro e w' ⟨rfl, hd⟩
 exact ⟨rfl, hd⟩

end Go.Proofs.Ytnafjabpkbahdaa.Pr
